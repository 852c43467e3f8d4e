/- Texts of this claim that stand one behind the other (joined by wip/pack.py): printed contracts and own proofs. -/
import Derived.Test.YtlfcpobnkojcbaaPw3
set_option maxHeartbeats 8000000
set_option maxRecDepth 100000
namespace Go.Proofs.Ytlfcpobnkojcbaa.Pm
open Go.RowKit Go.Proofs.Ytlfcpobnkojcbaa.PMrpduBytes Go.Proofs.YtlfcpobnkojcbaaW.PrintWords Go.Proofs.YtlfcpobnkojcbaaW.PrintLast Go.Proofs.YtlfcpobnkojcbaaW.PrintMore
open Wr (putBytes)
theorem rdT_nat (l : List S43) (i : Nat) : rd_T43 l (i : Int) = l.getD i z43 := by simp [rd_T43]
theorem getD_in {α : Type} (l : List α) (i : Nat) (d : α) (h : i < l.length) : l.getD i d = l[i] := by rw [List.getD_eq_getElem?_getD, List.getElem?_eq_getElem h]; rfl
theorem wrap_pred (i : Nat) (h0 : 0 < i) (h : i ≤ 100000000) : wrap64 ((i : Int) - 1) = ((i - 1 : Nat) : Int) := by rw [wrap_id (by omega) (by omega)]; omega
theorem size_eq (k : Int) : mrpdu_size.f k = some ((sizeT k : Nat) : Int) := by
 unfold mrpdu_size.f sizeT
 split
 ·
  rfl
 ·
  split
  ·
   rfl
  ·
   split <;> rfl
theorem refsize_eq (k : Int) : kissgateref07_Size.f k = some ((sizeT k : Nat) : Int) := size_eq k
theorem bit_and (a : Int) (h0 : 0 ≤ a) (h1 : a ≤ 281474976710655) : Go.bits .and .i64 (a / 1099511627776) 1 = a / 1099511627776 % 2 :=
 bits_mask .i64 63 (by decide) wraps_i64 1 (by decide) (a / 1099511627776) (by omega) (by omega)
theorem attr_eq (t v : Int) : mrpdu_Attr.f t v = some (attrB t v) := by
 unfold mrpdu_Attr.f addr_Vid.f addr_Many.f addr_Good.f attrB
 by_cases h1 : t = 1
 ·
  subst h1
  rw [if_pos rfl]
  by_cases h : v ≥ 1
  ·
   rw [if_pos h, Option.bind_some]; simp; omega
  ·
   rw [if_neg h, Option.bind_some]; simp; omega
 rw [if_neg h1]
 by_cases h2 : t = 2
 ·
  subst h2
  rw [if_pos rfl]
  by_cases h : v ≥ 0
  ·
   rw [if_pos h, Option.bind_some]
   by_cases h' : v ≤ 281474976710655
   ·
    rw [decide_eq_true h', if_pos rfl, Option.bind_some, bit_and v h h', decide_eq_true (show 0 ≤ v from h)]; simp
   ·
    rw [decide_eq_false h']; simp
  ·
   rw [if_neg h, Option.bind_some]; simp; omega
 rw [if_neg h2]
 by_cases h3 : t = 3
 ·
  subst h3
  rw [if_pos rfl]
  by_cases h : v = 0
  ·
   rw [if_pos h, h]; rfl
  ·
   rw [if_neg h]; simp [h]
 ·
  rw [if_neg h3]; simp [h1, h2, h3]
theorem word_eq (x : S43) : mrpdu_word.f x.f0.f0 x.f0.f1 x.f1 x.f2 = some (wordB x) := by
 unfold mrpdu_word.f wordB
 rw [attr_eq, Option.bind_some]
 cases attrB x.f0.f0 x.f0.f1
 ·
  simp
 ·
  rw [if_pos rfl]
  by_cases h1 : x.f1 ≥ 0
  ·
   rw [if_pos h1]
   by_cases h2 : x.f1 ≤ 5
   ·
    rw [if_pos h2]
    by_cases h3 : x.f2 ≥ 0
    ·
     rw [if_pos h3]; simp [h1, h2, h3]
    ·
     rw [if_neg h3]; simp; omega
   ·
    rw [if_neg h2]; simp; omega
  ·
   rw [if_neg h1]; simp; omega
theorem refmany_eq (v : Int) : kissgateref02_Many.f v = some (decide (0 ≤ v) && (decide (v ≤ 281474976710655) && (v / 1099511627776 % 2 == 1))) := by
 unfold kissgateref02_Many.f kissgateref02_Good.f
 by_cases h : v ≥ 0
 ·
  rw [if_pos h, Option.bind_some]
  by_cases h' : v < 281474976710656
  ·
   rw [decide_eq_true h', if_pos rfl, Int.tdiv_eq_ediv_of_nonneg h, wrap_id (by omega) (by omega), Int.tmod_eq_emod_of_nonneg (by omega), decide_eq_true (show 0 ≤ v from h), decide_eq_true (show v ≤ 281474976710655 by omega)]; simp
  ·
   rw [decide_eq_false h', if_neg (by decide), decide_eq_false (show ¬ v ≤ 281474976710655 by omega)]; simp
 ·
  rw [if_neg h, Option.bind_some, if_neg (by decide), decide_eq_false (show ¬ 0 ≤ v from h)]; simp
theorem refattr_eq (t v : Int) : kissgateref07_Attr.f t v = some (attrB t v) := by
 unfold kissgateref07_Attr.f attrB
 rw [refmany_eq, Option.bind_some]
 by_cases h1 : t = 1
 ·
  subst h1
  by_cases a : v ≥ 1
  ·
   by_cases b : v ≤ 4094
   ·
    simp [a, b]
   ·
    simp [a, b]
  ·
   simp [a]
 ·
  by_cases h2 : t = 2
  ·
   subst h2
   simp only [if_neg h1]
   by_cases c : (decide (0 ≤ v) && (decide (v ≤ 281474976710655) && (v / 1099511627776 % 2 == 1))) = true
   ·
    rw [if_pos trivial, if_pos c, c]; rfl
   ·
    rw [if_pos trivial, if_neg c, if_neg (by decide)]
    have : (decide (0 ≤ v) && (decide (v ≤ 281474976710655) && (v / 1099511627776 % 2 == 1))) = false := by simpa using c
    rw [this]; rfl
  ·
   rw [if_neg h1, if_neg h2]
   by_cases h3 : t = 3
   ·
    subst h3
    by_cases h : v = 0
    ·
     rw [if_pos rfl, if_pos h, h]; rfl
    ·
     rw [if_pos rfl, if_neg h]; simp [h]
   ·
    rw [if_neg h3]; simp [h1, h2, h3]
def cmpI (a b : Int) : Int := if a < b then -1 else if a > b then 1 else 0
theorem cmp_eq (a b : Int) : cmp_Compare_int.f a b = some (cmpI a b) := by
 unfold cmp_Compare_int.f cmp_isNaN_int.f cmpI
 simp
 split
 ·
  rfl
 ·
  split <;> rfl
def cmpA (t1 v1 t2 v2 : Int) : Int := if cmpI t1 t2 = 0 then cmpI v1 v2 else cmpI t1 t2
theorem or_ev (a b : Int) : Ev (fun k => cmp_Or_int.f k [a, b]) (if a = 0 then b else a) := by
 unfold cmp_Or_int.f
 by_cases h : a = 0
 ·
  rw [if_pos h]
  refine Ev.step (f := fun k => cmp_Or_int.l0 k 0 [a, b] 2 1) (fun k => ?_) ?_
  ·
   show cmp_Or_int.l0 (k + 1) 0 [a, b] 2 0 = _
   rw [cmp_Or_int.l0, if_pos (by decide), if_pos (by decide), if_pos (by simp), show rd [a, b] 0 = a from rfl, if_pos h, show wrap64 ((0 : Int) + 1) = 1 by decide +kernel]
  ·
   by_cases h2 : b = 0
   ·
    refine Ev.step (f := fun k => cmp_Or_int.l0 k 0 [a, b] 2 2) (fun k => ?_) ?_
    ·
     show cmp_Or_int.l0 (k + 1) 0 [a, b] 2 1 = _
     rw [cmp_Or_int.l0, if_pos (by decide), if_pos (by decide), if_pos (by simp), show rd [a, b] 1 = b from rfl, if_pos h2, show wrap64 ((1 : Int) + 1) = 2 by decide +kernel]
    ·
     refine Ev.step (f := fun _ => some b) (fun k => ?_) (Ev.now _)
     rw [cmp_Or_int.l0, if_neg (by decide), h2]
   ·
    refine Ev.step (f := fun _ => some b) (fun k => ?_) (Ev.now _)
    show cmp_Or_int.l0 (k + 1) 0 [a, b] 2 1 = _
    rw [cmp_Or_int.l0, if_pos (by decide), if_pos (by decide), if_pos (by simp), show rd [a, b] 1 = b from rfl, if_neg h2]
 ·
  rw [if_neg h]
  refine Ev.step (f := fun _ => some a) (fun k => ?_) (Ev.now _)
  show cmp_Or_int.l0 (k + 1) 0 [a, b] 2 0 = _
  rw [cmp_Or_int.l0, if_pos (by decide), if_pos (by decide), if_pos (by simp), show rd [a, b] 0 = a from rfl, if_neg h]
theorem compare_ev (t1 v1 t2 v2 : Int) : Ev (fun k => mrpdu_Compare.f k t1 v1 t2 v2) (cmpA t1 v1 t2 v2) := by
 unfold mrpdu_Compare.f
 rw [cmp_eq, cmp_eq]
 simp only [Option.bind_some]
 exact Ev.bind (or_ev _ _) (Ev.now _)
theorem cmp_neg (x y : S43) : cmpA x.f0.f0 x.f0.f1 y.f0.f0 y.f0.f1 < 0 ↔ lessA x y := by
 unfold cmpA cmpI lessA
 split <;> split <;> (try split) <;> omega
instance decLess (x y : S43) : Decidable (lessA x y) := by unfold lessA; infer_instance
theorem less_eq (x y : S43) : kissgateref07_Less.f x.f0.f0 x.f0.f1 y.f0.f0 y.f0.f1 = some (decide (lessA x y)) := by
 unfold kissgateref07_Less.f
 by_cases h : lessA x y
 ·
  rw [decide_eq_true h]
  unfold lessA at h
  by_cases h1 : x.f0.f0 < y.f0.f0
  ·
   rw [if_pos h1]
  ·
   rw [if_neg h1, if_pos (by omega), decide_eq_true (by omega)]
 ·
  rw [decide_eq_false h]
  unfold lessA at h
  rw [if_neg (by omega)]
  by_cases h1 : x.f0.f0 = y.f0.f0
  ·
   rw [if_pos h1, decide_eq_false (by omega)]
  ·
   rw [if_neg h1]
def GA (l : List Int) : Prop := (∀ k ∈ l, k = 1 ∨ k = 2 ∨ k = 3) ∧ l.Pairwise (· < ·)
def GW (l : List S43) : Prop := (∀ x ∈ l, wordB x = true) ∧ l.Pairwise lessA
theorem good_iff {all : List Int} {words : List S43} : GoodP all words ↔ GA all ∧ GW words := ⟨fun h => ⟨⟨h.kinds, h.rise⟩, h.word, h.less⟩, fun h => ⟨h.1.1, h.1.2, h.2.1, h.2.2⟩⟩
theorem size_kind (k : Int) : sizeT k ≠ 0 ↔ k = 1 ∨ k = 2 ∨ k = 3 := by
 unfold sizeT
 split
 ·
  simp [*]
 ·
  split
  ·
   simp [*]
  ·
   split
   ·
    simp [*]
   ·
    simp [*]
theorem lessA_trans {x y z : S43} (h : lessA x y) (k : lessA y z) : lessA x z := by unfold lessA at *; omega
theorem pair_snoc {α : Type} {R : α → α → Prop} (tr : ∀ {x y z}, R x y → R y z → R x z) (l : List α) (x d : α) (h : l.Pairwise R) : (l ++ [x]).Pairwise R ↔ (0 < l.length → R (l.getD (l.length - 1) d) x) := by
 rw [List.pairwise_append]
 constructor
 ·
  rintro ⟨_, _, h3⟩ hp
  exact h3 _ (by rw [getD_in _ _ _ (by omega)]; exact List.getElem_mem _) x (by simp)
 ·
  intro hl
  refine ⟨h, by simp, fun a ha b hb => ?_⟩
  rw [List.mem_singleton] at hb
  subst hb
  obtain ⟨i, hi, rfl⟩ := List.mem_iff_getElem.1 ha
  have hlast := hl (by omega)
  by_cases e : i = l.length - 1
  ·
   subst e; rwa [getD_in _ _ _ (by omega)] at hlast
  ·
   refine tr (List.pairwise_iff_getElem.1 h i (l.length - 1) hi (by omega) (by omega)) ?_
   rwa [getD_in _ _ _ (by omega)] at hlast
theorem GA_succ (l : List Int) (i : Nat) (hi : i < l.length) (h : GA (l.take i)) : GA (l.take (i + 1)) ↔ sizeT (l.getD i 0) ≠ 0 ∧ (0 < i → l.getD (i - 1) 0 < l.getD i 0) := by
 rw [List.take_succ_eq_append_getElem hi, size_kind, getD_in l i 0 hi]
 unfold GA
 have hl : (l.take i).length = i := by rw [List.length_take]; omega
 rw [pair_snoc (R := (· < ·)) (fun {x y z} a b => by omega) (l.take i) (l[i]) 0 h.2, hl]
 have e : ∀ hp : 0 < i, (l.take i).getD (i - 1) 0 = l.getD (i - 1) 0 := fun hp => by rw [getD_in _ _ _ (by omega), getD_in _ _ _ (by omega), List.getElem_take]
 constructor
 ·
  rintro ⟨h1, h2⟩
  exact ⟨h1 _ (List.mem_append_right _ (List.mem_singleton.2 rfl)), fun hp => by rw [← e hp]; exact h2 hp⟩
 ·
  rintro ⟨h1, h2⟩
  refine ⟨fun k hk => ?_, fun hp => by rw [e hp]; exact h2 hp⟩
  rcases List.mem_append.1 hk with hk | hk
  ·
   exact h.1 k hk
  ·
   rw [List.mem_singleton] at hk; subst hk; exact h1
theorem GW_succ (l : List S43) (i : Nat) (hi : i < l.length) (h : GW (l.take i)) : GW (l.take (i + 1)) ↔ wordB (l.getD i z43) = true ∧ (0 < i → lessA (l.getD (i - 1) z43) (l.getD i z43)) := by
 rw [List.take_succ_eq_append_getElem hi, getD_in l i z43 hi]
 unfold GW
 have hl : (l.take i).length = i := by rw [List.length_take]; omega
 rw [pair_snoc (R := lessA) lessA_trans (l.take i) (l[i]) z43 h.2, hl]
 have e : ∀ hp : 0 < i, (l.take i).getD (i - 1) z43 = l.getD (i - 1) z43 := fun hp => by rw [getD_in _ _ _ (by omega), getD_in _ _ _ (by omega), List.getElem_take]
 constructor
 ·
  rintro ⟨h1, h2⟩
  exact ⟨h1 _ (List.mem_append_right _ (List.mem_singleton.2 rfl)), fun hp => by rw [← e hp]; exact h2 hp⟩
 ·
  rintro ⟨h1, h2⟩
  refine ⟨fun k hk => ?_, fun hp => by rw [e hp]; exact h2 hp⟩
  rcases List.mem_append.1 hk with hk | hk
  ·
   exact h.1 k hk
  ·
   rw [List.mem_singleton] at hk; subst hk; exact h1
theorem GA_take {l : List Int} (h : GA l) (i : Nat) : GA (l.take i) := ⟨fun k hk => h.1 k (List.mem_of_mem_take hk), h.2.sublist (List.take_sublist _ _)⟩
theorem GW_take {l : List S43} (h : GW l) (i : Nat) : GW (l.take i) := ⟨fun k hk => h.1 k (List.mem_of_mem_take hk), h.2.sublist (List.take_sublist _ _)⟩
theorem good_no_a {all : List Int} {words : List S43} (i : Nat) (h : ¬ GA (all.take i)) : goodB all words = false := by
 cases hg : goodB all words
 ·
  rfl
 ·
  exact absurd (GA_take (good_iff.1 (goodB_iff.1 hg)).1 i) h
theorem good_no_w {all : List Int} {words : List S43} (i : Nat) (h : ¬ GW (words.take i)) : goodB all words = false := by
 cases hg : goodB all words
 ·
  rfl
 ·
  exact absurd (GW_take (good_iff.1 (goodB_iff.1 hg)).2 i) h
theorem good_j3 {all : List Int} {words : List S43} {i : Nat} (hi : i ≤ 1000000) {b r : Bool} (h : if b = true then r = false else Ev (fun k => mrpdu_Good.l1 k words (words.length : Int) ((i + 1 : Nat) : Int) all words) r) :
  Ev (fun k => mrpdu_Good.j3 k words (words.length : Int) (i : Int) b all words) r := by
 cases b
 ·
  rw [if_neg (by decide)] at h
  refine Ev.step (fun k => ?_) h
  rw [mrpdu_Good.j3, if_neg (by decide), wrap_one i (by omega)]
 ·
  rw [if_pos rfl] at h
  subst h
  refine Ev.step (f := fun _ => some false) (fun k => ?_) (Ev.now _)
  rw [mrpdu_Good.j3, if_pos rfl]
theorem good_l1 (all : List Int) (words : List S43) (hw : words.length ≤ 1000000) (hA : GA all) : ∀ d i : Nat, words.length - i = d → i ≤ words.length → GW (words.take i) →
  Ev (fun k => mrpdu_Good.l1 k words (words.length : Int) (i : Int) all words) (goodB all words) := by
 intro d
 induction d with
 | zero =>
  intro i hd hi h
  rw [List.take_of_length_le (by omega)] at h
  rw [goodB_iff.2 (good_iff.2 ⟨hA, h⟩)]
  refine Ev.step (f := fun _ => some true) (fun k => ?_) (Ev.now _)
  rw [mrpdu_Good.l1, if_neg (by omega)]
 | succ d ih =>
  intro i hd hi h
  have hlt : i < words.length := by omega
  have hs := GW_succ words i hlt h
  by_cases c1 : wordB (words.getD i z43) = true
  ·
   by_cases c2 : 0 < i
   ·
    have hwp := wrap_pred i c2 (by omega)
    have hcmp := compare_ev (words.getD (i - 1) z43).f0.f0 (words.getD (i - 1) z43).f0.f1 (words.getD i z43).f0.f0 (words.getD i z43).f0.f1
    have hneg := cmp_neg (words.getD (i - 1) z43) (words.getD i z43)
    refine Ev.step (f := fun k => (mrpdu_Compare.f k (words.getD (i - 1) z43).f0.f0 (words.getD (i - 1) z43).f0.f1 (words.getD i z43).f0.f0 (words.getD i z43).f0.f1).bind fun t => mrpdu_Good.j3 k words (words.length : Int) (i : Int) (decide (t ≥ 0)) all words) (fun k => ?_) ?_
    ·
     rw [mrpdu_Good.l1, if_pos (by omega), if_pos (by omega), if_pos (by omega), rdT_nat, word_eq, Option.bind_some, if_pos c1, if_pos (by omega), hwp, if_pos (by omega), if_pos (by omega), rdT_nat]
    ·
     refine Ev.bind hcmp (good_j3 (by omega) ?_)
     by_cases c3 : lessA (words.getD (i - 1) z43) (words.getD i z43)
     ·
      rw [if_neg (fun hc => by have := hneg.2 c3; have := of_decide_eq_true hc; omega)]
      exact ih (i + 1) (by omega) (by omega) (hs.2 ⟨c1, fun _ => c3⟩)
     ·
      have hnn : ¬ cmpA (words.getD (i - 1) z43).f0.f0 (words.getD (i - 1) z43).f0.f1 (words.getD i z43).f0.f0 (words.getD i z43).f0.f1 < 0 := fun hc => c3 (hneg.1 hc)
      rw [if_pos (decide_eq_true (by omega))]
      exact good_no_w (i + 1) (fun hc => c3 ((hs.1 hc).2 c2))
   ·
    refine Ev.step (f := fun k => mrpdu_Good.j3 k words (words.length : Int) (i : Int) false all words) (fun k => ?_) (good_j3 (by omega) ?_)
    ·
     rw [mrpdu_Good.l1, if_pos (by omega), if_pos (by omega), if_pos (by omega), rdT_nat, word_eq, Option.bind_some, if_pos c1, if_neg (by omega)]
    ·
     rw [if_neg (by decide)]
     exact ih (i + 1) (by omega) (by omega) (hs.2 ⟨c1, fun hp => absurd hp c2⟩)
  ·
   refine Ev.step (f := fun k => mrpdu_Good.j3 k words (words.length : Int) (i : Int) true all words) (fun k => ?_) (good_j3 (by omega) ?_)
   ·
    rw [mrpdu_Good.l1, if_pos (by omega), if_pos (by omega), if_pos (by omega), rdT_nat, word_eq, Option.bind_some, if_neg c1]
   ·
    rw [if_pos rfl]
    exact good_no_w (i + 1) (fun hc => c1 (hs.1 hc).1)
theorem good_j1 {all : List Int} {words : List S43} {i : Nat} (hi : i ≤ 1000000) {b r : Bool} (h : if b = true then r = false else Ev (fun k => mrpdu_Good.l0 k all (all.length : Int) ((i + 1 : Nat) : Int) all words) r) :
  Ev (fun k => mrpdu_Good.j1 k all (all.length : Int) (i : Int) b all words) r := by
 cases b
 ·
  rw [if_neg (by decide)] at h
  refine Ev.step (fun k => ?_) h
  rw [mrpdu_Good.j1, if_neg (by decide), wrap_one i (by omega)]
 ·
  rw [if_pos rfl] at h
  subst h
  refine Ev.step (f := fun _ => some false) (fun k => ?_) (Ev.now _)
  rw [mrpdu_Good.j1, if_pos rfl]
theorem good_l0 (all : List Int) (words : List S43) (ha : all.length ≤ 1000000) (hw : words.length ≤ 1000000) : ∀ d i : Nat, all.length - i = d → i ≤ all.length → GA (all.take i) →
  Ev (fun k => mrpdu_Good.l0 k all (all.length : Int) (i : Int) all words) (goodB all words) := by
 intro d
 induction d with
 | zero =>
  intro i hd hi h
  rw [List.take_of_length_le (by omega)] at h
  refine Ev.step (fun k => ?_) (good_l1 all words hw h _ 0 rfl (by omega) ⟨by simp, by simp⟩)
  rw [mrpdu_Good.l0, if_neg (by omega)]; rfl
 | succ d ih =>
  intro i hd hi h
  have hlt : i < all.length := by omega
  have hs := GA_succ all i hlt h
  by_cases c1 : sizeT (all.getD i 0) ≠ 0
  ·
   by_cases c2 : 0 < i
   ·
    have hwp := wrap_pred i c2 (by omega)
    refine Ev.step (f := fun k => mrpdu_Good.j1 k all (all.length : Int) (i : Int) (decide (all.getD (i - 1) 0 ≥ all.getD i 0)) all words) (fun k => ?_) (good_j1 (by omega) ?_)
    ·
     rw [mrpdu_Good.l0, if_pos (by omega), if_pos (by omega), if_pos (by omega), rd_nat, size_eq, Option.bind_some, if_neg (by omega), if_pos (by omega), hwp, if_pos (by omega), if_pos (by omega), rd_nat]
    ·
     by_cases c3 : all.getD (i - 1) 0 < all.getD i 0
     ·
      rw [if_neg (by simpa using c3)]
      exact ih (i + 1) (by omega) (by omega) (hs.2 ⟨c1, fun _ => c3⟩)
     ·
      rw [if_pos (decide_eq_true (by omega))]
      exact good_no_a (i + 1) (fun hc => c3 ((hs.1 hc).2 c2))
   ·
    refine Ev.step (f := fun k => mrpdu_Good.j1 k all (all.length : Int) (i : Int) false all words) (fun k => ?_) (good_j1 (by omega) ?_)
    ·
     rw [mrpdu_Good.l0, if_pos (by omega), if_pos (by omega), if_pos (by omega), rd_nat, size_eq, Option.bind_some, if_neg (by omega), if_neg (by omega)]
    ·
     rw [if_neg (by decide)]
     exact ih (i + 1) (by omega) (by omega) (hs.2 ⟨c1, fun hp => absurd hp c2⟩)
  ·
   refine Ev.step (f := fun k => mrpdu_Good.j1 k all (all.length : Int) (i : Int) true all words) (fun k => ?_) (good_j1 (by omega) ?_)
   ·
    rw [mrpdu_Good.l0, if_pos (by omega), if_pos (by omega), if_pos (by omega), rd_nat, size_eq, Option.bind_some, if_pos (by omega)]
   ·
    rw [if_pos rfl]
    exact good_no_a (i + 1) (fun hc => c1 (hs.1 hc).1)
theorem good_ev (all : List Int) (words : List S43) (ha : all.length ≤ 1000000) (hw : words.length ≤ 1000000) : Ev (fun k => mrpdu_Good.f k all words) (goodB all words) := by
 have := good_l0 all words ha hw _ 0 rfl (by omega) ⟨by simp, by simp⟩
 simpa [mrpdu_Good.f] using this
theorem rgood_j3 {words : List S43} {i : Nat} {x : S43} (hi : i ≤ 1000000) (hl : i < words.length) {b r : Bool} (h : if b = true then r = false else if 0 < i ∧ ¬ lessA (words.getD (i - 1) z43) x then r = false else Ev (fun k => kissgateref07_Good.l1 k words words (words.length : Int) ((i + 1 : Nat) : Int)) r) :
  Ev (fun k => kissgateref07_Good.j3 k words (i : Int) words (words.length : Int) (i : Int) b x.f0.f0 x.f0.f1 x.f1 x.f2) r := by
 cases b
 ·
  rw [if_neg (by decide)] at h
  by_cases c2 : 0 < i
  ·
   have hwp := wrap_pred i c2 (by omega)
   by_cases c3 : lessA (words.getD (i - 1) z43) x
   ·
    rw [if_neg (fun hc => hc.2 c3)] at h
    refine Ev.step (fun k => ?_) h
    rw [kissgateref07_Good.j3, if_neg (by decide), if_pos (by omega), hwp, if_pos (by omega), if_pos (by omega), rdT_nat, less_eq, Option.bind_some, decide_eq_true c3, if_pos rfl, wrap_one i (by omega)]
   ·
    rw [if_pos ⟨c2, c3⟩] at h
    subst h
    refine Ev.step (f := fun _ => some false) (fun k => ?_) (Ev.now _)
    rw [kissgateref07_Good.j3, if_neg (by decide), if_pos (by omega), hwp, if_pos (by omega), if_pos (by omega), rdT_nat, less_eq, Option.bind_some, decide_eq_false c3, if_neg (by decide)]
  ·
   rw [if_neg (fun hc => c2 hc.1)] at h
   refine Ev.step (fun k => ?_) h
   rw [kissgateref07_Good.j3, if_neg (by decide), if_neg (by omega), wrap_one i (by omega)]
 ·
  rw [if_pos rfl] at h
  subst h
  refine Ev.step (f := fun _ => some false) (fun k => ?_) (Ev.now _)
  rw [kissgateref07_Good.j3, if_pos rfl]
theorem rgood_l1 (all : List Int) (words : List S43) (hw : words.length ≤ 1000000) (hA : GA all) : ∀ d i : Nat, words.length - i = d → i ≤ words.length → GW (words.take i) →
  Ev (fun k => kissgateref07_Good.l1 k words words (words.length : Int) (i : Int)) (goodB all words) := by
 intro d
 induction d with
 | zero =>
  intro i hd hi h
  rw [List.take_of_length_le (by omega)] at h
  rw [goodB_iff.2 (good_iff.2 ⟨hA, h⟩)]
  refine Ev.step (f := fun _ => some true) (fun k => ?_) (Ev.now _)
  rw [kissgateref07_Good.l1, if_neg (by omega)]
 | succ d ih =>
  intro i hd hi h
  have hlt : i < words.length := by omega
  have hs := GW_succ words i hlt h
  obtain ⟨x, hx⟩ : ∃ x, x = words.getD i z43 := ⟨_, rfl⟩
  rw [← hx] at hs
  refine Ev.step (f := fun k => kissgateref07_Good.j3 k words (i : Int) words (words.length : Int) (i : Int) (!wordB x) x.f0.f0 x.f0.f1 x.f1 x.f2) (fun k => ?_) (rgood_j3 (by omega) hlt ?_)
  ·
   rw [kissgateref07_Good.l1, if_pos (by omega), if_pos (by omega), if_pos (by omega), rdT_nat, ← hx, refattr_eq, Option.bind_some]
   unfold wordB
   cases attrB x.f0.f0 x.f0.f1
   ·
    rw [if_neg (by decide)]; rfl
   ·
    rw [if_pos rfl]
    by_cases h1 : x.f1 < 0
    ·
     rw [if_pos h1, decide_eq_false (by omega)]; rfl
    ·
     rw [if_neg h1]
     by_cases h2 : x.f1 > 5
     ·
      rw [if_pos h2, decide_eq_false (by omega)]; rfl
     ·
      rw [if_neg h2]
      by_cases h3 : x.f2 < 0
      ·
       rw [if_pos h3, decide_eq_false (by omega)]; rfl
      ·
       rw [if_neg h3]
       by_cases h4 : x.f2 > 1048576
       ·
        rw [decide_eq_true h4, decide_eq_false (by omega)]; rfl
       ·
        rw [decide_eq_false h4, decide_eq_true (by omega)]; rfl
  ·
   by_cases c1 : wordB x = true
   ·
    rw [c1, if_neg (by decide)]
    by_cases c3 : 0 < i ∧ ¬ lessA (words.getD (i - 1) z43) x
    ·
     rw [if_pos c3]
     exact good_no_w (i + 1) (fun hc => c3.2 ((hs.1 hc).2 c3.1))
    ·
     rw [if_neg c3]
     refine ih (i + 1) (by omega) (by omega) (hs.2 ⟨c1, fun hp => ?_⟩)
     by_cases c4 : lessA (words.getD (i - 1) z43) x
     ·
      exact c4
     ·
      exact absurd ⟨hp, c4⟩ c3
   ·
    have c1' : wordB x = false := by simpa using c1
    rw [c1', if_pos (by decide)]
    exact good_no_w (i + 1) (fun hc => c1 (hs.1 hc).1)
theorem rgood_j1 {all : List Int} {words : List S43} {i : Nat} (hi : i ≤ 1000000) {b r : Bool} (h : if b = true then r = false else Ev (fun k => kissgateref07_Good.l0 k all words all (all.length : Int) ((i + 1 : Nat) : Int)) r) :
  Ev (fun k => kissgateref07_Good.j1 k all words all (all.length : Int) (i : Int) b) r := by
 cases b
 ·
  rw [if_neg (by decide)] at h
  refine Ev.step (fun k => ?_) h
  rw [kissgateref07_Good.j1, if_neg (by decide), wrap_one i (by omega)]
 ·
  rw [if_pos rfl] at h
  subst h
  refine Ev.step (f := fun _ => some false) (fun k => ?_) (Ev.now _)
  rw [kissgateref07_Good.j1, if_pos rfl]
theorem rgood_l0 (all : List Int) (words : List S43) (ha : all.length ≤ 1000000) (hw : words.length ≤ 1000000) : ∀ d i : Nat, all.length - i = d → i ≤ all.length → GA (all.take i) →
  Ev (fun k => kissgateref07_Good.l0 k all words all (all.length : Int) (i : Int)) (goodB all words) := by
 intro d
 induction d with
 | zero =>
  intro i hd hi h
  rw [List.take_of_length_le (by omega)] at h
  refine Ev.step (fun k => ?_) (rgood_l1 all words hw h _ 0 rfl (by omega) ⟨by simp, by simp⟩)
  rw [kissgateref07_Good.l0, if_neg (by omega)]; rfl
 | succ d ih =>
  intro i hd hi h
  have hlt : i < all.length := by omega
  have hs := GA_succ all i hlt h
  by_cases c1 : sizeT (all.getD i 0) ≠ 0
  ·
   by_cases c2 : 0 < i
   ·
    have hwp := wrap_pred i c2 (by omega)
    refine Ev.step (f := fun k => kissgateref07_Good.j1 k all words all (all.length : Int) (i : Int) (decide (all.getD (i - 1) 0 ≥ all.getD i 0))) (fun k => ?_) (rgood_j1 (by omega) ?_)
    ·
     rw [kissgateref07_Good.l0, if_pos (by omega), if_pos (by omega), if_pos (by omega), rd_nat, refsize_eq, Option.bind_some, if_neg (by omega), if_pos (by omega), hwp, if_pos (by omega), if_pos (by omega), rd_nat]
    ·
     by_cases c3 : all.getD (i - 1) 0 < all.getD i 0
     ·
      rw [if_neg (by simpa using c3)]
      exact ih (i + 1) (by omega) (by omega) (hs.2 ⟨c1, fun _ => c3⟩)
     ·
      rw [if_pos (decide_eq_true (by omega))]
      exact good_no_a (i + 1) (fun hc => c3 ((hs.1 hc).2 c2))
   ·
    refine Ev.step (f := fun k => kissgateref07_Good.j1 k all words all (all.length : Int) (i : Int) false) (fun k => ?_) (rgood_j1 (by omega) ?_)
    ·
     rw [kissgateref07_Good.l0, if_pos (by omega), if_pos (by omega), if_pos (by omega), rd_nat, refsize_eq, Option.bind_some, if_neg (by omega), if_neg (by omega)]
    ·
     rw [if_neg (by decide)]
     exact ih (i + 1) (by omega) (by omega) (hs.2 ⟨c1, fun hp => absurd hp c2⟩)
  ·
   refine Ev.step (f := fun k => kissgateref07_Good.j1 k all words all (all.length : Int) (i : Int) true) (fun k => ?_) (rgood_j1 (by omega) ?_)
   ·
    rw [kissgateref07_Good.l0, if_pos (by omega), if_pos (by omega), if_pos (by omega), rd_nat, refsize_eq, Option.bind_some, if_pos (by omega)]
   ·
    rw [if_pos rfl]
    exact good_no_a (i + 1) (fun hc => c1 (hs.1 hc).1)
theorem rgood_ev (all : List Int) (words : List S43) (ha : all.length ≤ 1000000) (hw : words.length ≤ 1000000) : Ev (fun k => kissgateref07_Good.f k all words) (goodB all words) := by
 have := rgood_l0 all words ha hw _ 0 rfl (by omega) ⟨by simp, by simp⟩
 simpa [kissgateref07_Good.f] using this
theorem unp_total (s : ByteArray) (hs : s.size ≤ 1000000) (n : Nat) (hn : n ≤ 100000) : ∀ d i : Nat, s.size - i = d → i ≤ s.size → ∀ out : List Int, out.length ≤ n →
  ∃ r : List Int × Bool, Ev (fun k => pack_unpack.l0 k s (n : Int) 3 6 out (s.size : Int) (i : Int)) r ∧ r.1.length ≤ n := by
 intro d
 induction d with
 | zero =>
  intro i hd hi out ho
  refine ⟨(out, true), Ev.step (f := fun _ => some (out, true)) (fun k => ?_) (Ev.now _), ho⟩
  simp only [pack_unpack.l0]; rw [if_neg (by omega)]
 | succ d ih =>
  intro i hd hi out ho
  have hlt : i < s.size := by omega
  have hr := bt_range s (i : Int)
  have key : ∀ r : List Int × Bool, Ev (fun k => pack_unpack.l1 k s (n : Int) 3 6 out (List.replicate 3 0) (bt s (i : Int)) 2 (s.size : Int) (i : Int)) r → Ev (fun k => pack_unpack.l0 k s (n : Int) 3 6 out (s.size : Int) (i : Int)) r := fun r h => by
   refine Ev.step (fun k => ?_) h
   simp only [pack_unpack.l0]
   rw [if_pos (by omega), if_pos (by decide), if_pos (by decide), if_pos (by omega), if_pos (by omega), wrap_id (n := bt s (i : Int)) (by omega) (by omega), show wrap64 ((3 : Int) - 1) = 2 by decide +kernel]
   rfl
  by_cases hv : 216 ≤ bt s (i : Int)
  ·
   exact ⟨([], false), key _ (l1_three hr.1 (by omega) (by rw [if_pos hv])), by simp⟩
  ·
   have hd3 : (d3 (bt s (i : Int))).length = 3 := rfl
   by_cases h3 : out.length + 3 ≤ n
   ·
    obtain ⟨r, hr1, hr2⟩ := ih (i + 1) (by omega) (by omega) (out ++ d3 (bt s (i : Int))) (by rw [List.length_append, hd3]; exact h3)
    refine ⟨r, key _ (l1_three hr.1 (by omega) ?_), hr2⟩
    rw [if_neg hv]
    refine l2_all (by rw [hd3]; decide) _ 0 rfl (by omega) out (by rw [hd3]; omega) (by omega) ?_
    rw [List.drop_zero, wrap_one i (by omega)]
    exact hr1
   ·
    have := l2_some (s := s) (n := n) (many := 3) (b := 6) (i := (i : Int)) (sz := (s.size : Int)) (R := d3 (bt s (i : Int))) (by rw [hd3]; decide) (n - out.length) 0 (by rw [hd3]; omega) out (by omega) (by omega)
    refine ⟨_, key _ (l1_three hr.1 (by omega) (by rw [if_neg hv]; exact this)), ?_⟩
    split
    ·
     simp only [List.length_append, List.length_take, hd3, List.drop_zero]; omega
    ·
     simp
theorem from_total (s : ByteArray) (hs : s.size ≤ 1000000) (n : Nat) (hn : n ≤ 100000) : Ev (fun k => pack_FromThrees.f k s (n : Int)) (fromR s n) ∧ (fromR s n).1.length ≤ n := by
 obtain ⟨r, h1, h2⟩ : ∃ r : List Int × Int, Ev (fun k => pack_FromThrees.f k s (n : Int)) r ∧ r.1.length ≤ n := by
  have hu : ∃ r : List Int × Bool, Ev (fun k => pack_unpack.f k s (n : Int) 3 6) r ∧ r.1.length ≤ n := by
   obtain ⟨r, h1, h2⟩ := unp_total s hs n hn _ 0 rfl (by omega) [] (by simp)
   unfold pack_unpack.f
   by_cases hb : ((s.size : Int) != (wrap64 (Int.tdiv (wrap64 ((wrap64 ((n : Int) + 3)) - 1)) 3))) = true
   ·
    refine ⟨([], false), ?_, by simp⟩
    refine Ev.congr (f := fun k => pack_unpack.j0 k s (n : Int) 3 6 true) (fun k => by rw [if_neg (by omega), if_neg (by decide), hb]) ?_
    refine Ev.step (f := fun _ => some ([], false)) (fun k => ?_) (Ev.now _)
    simp only [pack_unpack.j0]; rw [if_pos trivial]
   ·
    refine ⟨r, ?_, h2⟩
    have hb' : ((s.size : Int) != (wrap64 (Int.tdiv (wrap64 ((wrap64 ((n : Int) + 3)) - 1)) 3))) = false := by simpa using hb
    refine Ev.congr (f := fun k => pack_unpack.j0 k s (n : Int) 3 6 false) (fun k => by rw [if_neg (by omega), if_neg (by decide), hb']) ?_
    refine Ev.step (fun k => ?_) h1
    simp only [pack_unpack.j0]; rw [if_neg (by decide)]; rfl
  obtain ⟨r, h1, h2⟩ := hu
  unfold pack_FromThrees.f
  by_cases hb : r.2 = true
  ·
   exact ⟨(r.1, 0), Ev.bind h1 (Ev.congr (f := fun _ => some (r.1, 0)) (fun k => by rw [if_pos hb]) (Ev.now _)), h2⟩
  ·
   exact ⟨([], 4), Ev.bind h1 (Ev.congr (f := fun _ => some ([], 4)) (fun k => by rw [if_neg hb]) (Ev.now _)), by simp⟩
 rw [fromR_ev h1]
 exact ⟨h1, h2⟩
theorem raw_ev (s : ByteArray) (hs : s.size ≤ 1000000) (i : Nat) (b : Int) (n : Nat) (H : Rs s i b) :
  ∃ (t : ByteArray) (i' : Nat) (b' : Int), octet_Reader_Raw.f s i b n = some (t, s, (i' : Int), b') ∧ Rs s i' b' ∧ i ≤ i' ∧ (b' = -1 ↔ b = -1 ∧ i + n ≤ s.size) ∧ (b' = -1 → i' = i + n ∧ t = s.extract i (i + n)) ∧ t.size ≤ s.size := by
 obtain ⟨hi, hb | hb⟩ := H
 ·
  subst hb
  by_cases h : i + n ≤ s.size
  ·
   refine ⟨_, _, _, ?_, ⟨h, .inl rfl⟩, by omega, ⟨fun _ => ⟨rfl, h⟩, fun _ => rfl⟩, fun _ => ⟨rfl, rfl⟩, ?_⟩
   ·
    unfold octet_Reader_Raw.f
    rw [take_good s i n (by omega) h]; rfl
   ·
    rw [← bytesOf_length, bytesOf_cut, seg_length s i n h]; omega
  ·
   refine ⟨⟨#[]⟩, _, _, ?_, ⟨hi, .inr (Int.natCast_nonneg i)⟩, Nat.le_refl _, ⟨fun e => by omega, fun e => absurd e.2 h⟩, fun e => by omega, Nat.zero_le _⟩
   ·
    unfold octet_Reader_Raw.f
    rw [take_short s i n (by omega) hi h]; rfl
 ·
  refine ⟨⟨#[]⟩, _, _, ?_, ⟨hi, .inr hb⟩, Nat.le_refl _, ⟨fun e => by omega, fun e => by omega⟩, fun e => by omega, Nat.zero_le _⟩
  unfold octet_Reader_Raw.f
  rw [take_bad s i b n hb]; rfl
theorem mkW_snoc (kind born v : Int) (ev : List Int) (j : Nat) (h : j < ev.length) : mkW kind born v (ev.take (j + 1)) = mkW kind born v (ev.take j) ++ [⟨⟨kind, v + j⟩, ev.getD j 0, born⟩] := by
 rw [List.take_succ_eq_append_getElem h, mkW_app, getD_in _ _ _ h, List.length_take, Nat.min_eq_left (by omega)]
 rfl
/-- Whether a row's head fits what it says. -/
def headOk (head : Nat) (first born : Int) : Bool := decide (0 < head % 8192 ∨ (first = 0 ∧ born = 0 ∧ head ≠ 0))
theorem row_l0 (kind : Int) (head : Nat) (first born : Int) (hf : 0 ≤ first ∧ first < 256 ^ 7) (ev : List Int) (he : ev.length ≤ 100000) (s : ByteArray) (i b : Int) : ∀ d j : Nat, ev.length - j = d → j ≤ ev.length →
  Ev (fun k => mrpdu_row.l0 k kind (head : Int) (mkW kind born first (ev.take j)) ((head % 8192 : Nat) : Int) first born ev (ev.length : Int) (j : Int) s i b) (mkW kind born first ev, headOk head first born, s, i, b) := by
 intro d
 induction d with
 | zero =>
  intro j hd hj
  rw [List.take_of_length_le (by omega)]
  refine Ev.step (f := fun _ => some (mkW kind born first ev, headOk head first born, s, i, b)) (fun k => ?_) (Ev.now _)
  simp only [mrpdu_row.l0]
  rw [if_neg (by omega)]
  unfold headOk
  by_cases h1 : 0 < head % 8192
  ·
   rw [if_pos (by omega), decide_eq_true (.inl h1)]
  ·
   rw [if_neg (by omega)]
   by_cases h2 : first = 0
   ·
    rw [if_pos h2]
    by_cases h3 : born = 0
    ·
     rw [if_pos h3]
     by_cases h4 : head = 0
     ·
      subst h4; simp
     ·
      rw [decide_eq_true (.inr ⟨h2, h3, h4⟩), show ((head : Int) != 0) = true from bne_iff_ne.2 (by omega)]
    ·
     rw [if_neg h3, decide_eq_false (by omega)]
   ·
    rw [if_neg h2, decide_eq_false (by omega)]
 | succ d ih =>
  intro j hd hj
  have hlt : j < ev.length := by omega
  have hx := ih (j + 1) (by omega) (by omega)
  rw [mkW_snoc kind born first ev j hlt] at hx
  refine Ev.step (fun k => ?_) hx
  simp only [mrpdu_row.l0]
  have h7 : (256 : Int) ^ 7 = 72057594037927936 := by decide +kernel
  have hwf : wrap64 (first + (j : Int)) = first + (j : Int) := wrap_id (by omega) (by omega)
  rw [if_pos (by omega), if_pos (by omega), if_pos (by omega), if_pos (by rw [mkW_len, List.length_take]; omega), rd_nat, hwf, wrap_one j (by omega)]
theorem and_13 (head : Nat) (h : head < 65536) : Go.bits .and .i64 (head : Int) 8191 = ((head % 8192 : Nat) : Int) := by
 have := bits_mask .i64 63 (by decide) wraps_i64 13 (by decide) (head : Int) (by omega) (by omega)
 rw [show ((head % 8192 : Nat) : Int) = (head : Int) % 8192 by omega]
 exact this
theorem row_j0 (kind : Int) (head : Nat) (first born : Int) (hf : 0 ≤ first ∧ first < 256 ^ 7) (ev : List Int) (he : ev.length ≤ 100000) (s : ByteArray) (i b : Int) (x : Bool) :
  Ev (fun k => mrpdu_row.j0 k kind (head : Int) [] ((head % 8192 : Nat) : Int) first born ev x s i b) (if x = true then ([], false, s, i, b) else (mkW kind born first ev, headOk head first born, s, i, b)) := by
 cases x
 ·
  rw [if_neg (by decide)]
  refine Ev.step (fun k => ?_) (row_l0 kind head first born hf ev he s i b _ 0 rfl (by omega))
  simp only [mrpdu_row.j0]; rw [if_neg (by decide)]; rfl
 ·
  rw [if_pos rfl]
  refine Ev.step (f := fun _ => some ([], false, s, i, b)) (fun k => ?_) (Ev.now _)
  simp only [mrpdu_row.j0]; rw [if_pos trivial]
theorem size_mid (kind : Int) (h : sizeT kind ≠ 0) : 1 ≤ sizeT kind ∧ sizeT kind ≤ 7 := by
 have := (size_kind kind).1 h
 rcases this with rfl | rfl | rfl <;> decide
theorem val_seg (s : ByteArray) (i n : Nat) : 0 ≤ val (seg s i n) ∧ val (seg s i n) < 256 ^ n := by
 have h := val_range (seg_small s i n)
 refine ⟨h.1, Int.lt_of_lt_of_le h.2 ?_⟩
 have hl : (seg s i n).length ≤ n := by unfold seg; exact List.length_take_le _ _
 obtain ⟨m, hm⟩ : ∃ m, n = (seg s i n).length + m := ⟨n - (seg s i n).length, by omega⟩
 conv => rhs; rw [hm, Int.pow_add]
 have h1 : (1 : Int) ≤ 256 ^ m := by have : (0 : Int) < 256 ^ m := Int.pow_pos (by decide); omega
 have h2 : (0 : Int) ≤ 256 ^ (seg s i n).length := Int.le_of_lt (Int.pow_pos (by decide))
 calc (256 : Int) ^ (seg s i n).length = 256 ^ (seg s i n).length * 1 := by omega
  _ ≤ _ := Int.mul_le_mul_of_nonneg_left h1 h2
/-- What is left at a place. -/
def left_ (s : ByteArray) (i : Nat) : List Int := (bytesOf s).drop i
theorem left_len (s : ByteArray) (i : Nat) : (left_ s i).length = s.size - i := by unfold left_; rw [List.length_drop, bytesOf_length]
theorem get_left (s : ByteArray) (i n : Nat) (h : i + n ≤ s.size) : getL n (left_ s i) = some (val (seg s i n), left_ s (i + n)) := by
 unfold getL
 rw [left_len, if_pos (by omega)]
 unfold left_ seg
 rw [List.drop_drop]
theorem get_left_no (s : ByteArray) (i n : Nat) (hi : i ≤ s.size) (h : ¬ i + n ≤ s.size) : getL n (left_ s i) = none := by
 unfold getL
 rw [left_len, if_neg (by omega)]
/-- What row answers: the words and what is left, or that there is none. -/
def RowQ (s : ByteArray) (o : Option (List S43 × List Int)) (r : List S43 × Bool × ByteArray × Int × Int) : Prop :=
 match o with
 | some x => ∃ i' : Nat, r = (x.1, true, s, (i' : Int), -1) ∧ i' ≤ s.size ∧ x.2 = left_ s i'
 | none => ∃ (l : List S43) (i' : Nat) (b' : Int), r = (l, false, s, (i' : Int), b') ∧ Rs s i' b'
theorem row_ev (s : ByteArray) (hs : s.size ≤ 1000000) (i : Nat) (hi : i ≤ s.size) (kind : Int) (hk : sizeT kind ≠ 0) (head : Nat) (hh : head < 65536) :
  ∃ r, Ev (fun k => mrpdu_row.f k s i (-1) kind (head : Int)) r ∧ RowQ s (rowL (left_ s i) kind head) r := by
 obtain ⟨z1, z2⟩ := size_mid kind hk
 obtain ⟨v1, i1, b1, g1, R1, q1, e1⟩ := get_ev s (by omega) i (-1) (sizeT kind) z1 z2 ⟨hi, .inl rfl⟩
 obtain ⟨v2, i2, b2, g2, R2, q2, e2⟩ := get_ev s (by omega) i1 b1 4 (by decide) (by decide) R1
 obtain ⟨t, i3, b3, g3, R3, h3, q3, e3, t3⟩ := raw_ev s hs i2 b2 (nb 3 (head % 8192)) R2
 obtain ⟨f1, f2⟩ := from_total t (by omega) (head % 8192) (by omega)
 have hn8 : head % 8192 ≤ 8191 := by omega
 have base : ∀ r, Ev (fun k => if b3 ≥ 0 then mrpdu_row.j0 k kind (head : Int) [] ((head % 8192 : Nat) : Int) v1 v2 (fromR t (head % 8192)).1 true s i3 b3 else (if (fromR t (head % 8192)).2 = 0 then mrpdu_row.j0 k kind (head : Int) [] ((head % 8192 : Nat) : Int) v1 v2 (fromR t (head % 8192)).1 (((head : Int) / 16384) != 0) s i3 b3 else mrpdu_row.j0 k kind (head : Int) [] ((head % 8192 : Nat) : Int) v1 v2 (fromR t (head % 8192)).1 true s i3 b3)) r →
   Ev (fun k => mrpdu_row.f k s i (-1) kind (head : Int)) r := fun r hr => by
  unfold mrpdu_row.f
  rw [size_eq]
  simp only [Option.bind_some]
  refine Ev.bind g1 (Ev.bind g2 ?_)
  rw [and_13 head hh, size3_is _ (by omega)]
  simp only [Option.bind_some]
  rw [g3]
  simp only [Option.bind_some]
  refine Ev.bind f1 ?_
  unfold octet_Reader_Fault.f
  simp only [Option.bind_some]
  exact hr
 by_cases hb3 : b3 = -1
 ·
  obtain ⟨hb2, hl3⟩ := q3.1 hb3
  obtain ⟨hb1, hl2⟩ := q2.1 hb2
  obtain ⟨_, hl1⟩ := q1.1 hb1
  obtain ⟨rfl, rfl⟩ := e1 hb1
  obtain ⟨rfl, rfl⟩ := e2 hb2
  obtain ⟨rfl, rfl⟩ := e3 hb3
  subst hb3 hb2 hb1
  have hv := val_seg s i (sizeT kind)
  have hf : 0 ≤ val (seg s i (sizeT kind)) ∧ val (seg s i (sizeT kind)) < 256 ^ 7 := by
   refine ⟨hv.1, Int.lt_of_lt_of_le hv.2 ?_⟩
   obtain rfl | rfl | rfl := (size_kind kind).1 hk <;> decide +kernel
  have hstr : strOfNums (seg s (i + sizeT kind + 4) (nb 3 (head % 8192))) = s.extract (i + sizeT kind + 4) (i + sizeT kind + 4 + nb 3 (head % 8192)) := by
   rw [← bytesOf_cut, Wr.str_bytesOf]
  have hrow : rowL (left_ s i) kind head = (unpR (seg s (i + sizeT kind + 4) (nb 3 (head % 8192))) (head % 8192)).bind fun ev => if head / 16384 = 0 ∧ (0 < head % 8192 ∨ (val (seg s i (sizeT kind)) = 0 ∧ val (seg s (i + sizeT kind) 4) = 0 ∧ head ≠ 0)) then some (mkW kind (val (seg s (i + sizeT kind) 4)) (val (seg s i (sizeT kind))) ev, left_ s (i + sizeT kind + 4 + nb 3 (head % 8192))) else none := by
   unfold rowL
   rw [get_left s i _ hl1, Option.bind_some]
   simp only
   rw [get_left s _ _ hl2, Option.bind_some]
   simp only
   rw [left_len, if_pos (by omega)]
   unfold left_ seg
   rw [List.drop_drop]
  have hu : unpR (seg s (i + sizeT kind + 4) (nb 3 (head % 8192))) (head % 8192) = if (fromR (s.extract (i + sizeT kind + 4) (i + sizeT kind + 4 + nb 3 (head % 8192))) (head % 8192)).2 = 0 then some (fromR (s.extract (i + sizeT kind + 4) (i + sizeT kind + 4 + nb 3 (head % 8192))) (head % 8192)).1 else none := by
   unfold unpR; rw [hstr]
  rw [hrow, hu]
  generalize fromR (s.extract (i + sizeT kind + 4) (i + sizeT kind + 4 + nb 3 (head % 8192))) (head % 8192) = F at base f2 ⊢
  generalize val (seg s i (sizeT kind)) = a at base hf ⊢
  generalize val (seg s (i + sizeT kind) 4) = c at base ⊢
  by_cases hF : F.2 = 0
  ·
   have hj := row_j0 kind head a c hf F.1 (by omega) s ((i + sizeT kind + 4 + nb 3 (head % 8192) : Nat) : Int) (-1) (((head : Int) / 16384) != 0)
   refine ⟨_, base _ (Ev.congr (fun k => by rw [if_neg (by decide), if_pos hF]) hj), ?_⟩
   rw [if_pos hF, Option.bind_some]
   by_cases h16 : head / 16384 = 0
   ·
    have : (((head : Int) / 16384) != 0) = false := by rw [bne_eq_false_iff_eq]; omega
    rw [this]
    unfold headOk
    by_cases hc : 0 < head % 8192 ∨ (a = 0 ∧ c = 0 ∧ head ≠ 0)
    ·
     rw [if_pos ⟨h16, hc⟩, decide_eq_true hc]
     exact ⟨_, rfl, R3.1, rfl⟩
    ·
     rw [if_neg (show ¬ (head / 16384 = 0 ∧ (0 < head % 8192 ∨ (a = 0 ∧ c = 0 ∧ head ≠ 0))) from fun h => hc h.2), decide_eq_false hc]
     exact ⟨_, _, _, rfl, R3⟩
   ·
    have : (((head : Int) / 16384) != 0) = true := by rw [bne_iff_ne]; omega
    rw [this, if_neg (show ¬ (head / 16384 = 0 ∧ (0 < head % 8192 ∨ (a = 0 ∧ c = 0 ∧ head ≠ 0))) from fun h => h16 h.1)]
    exact ⟨_, _, _, rfl, R3⟩
  ·
   have hj := row_j0 kind head a c hf F.1 (by omega) s ((i + sizeT kind + 4 + nb 3 (head % 8192) : Nat) : Int) (-1) true
   refine ⟨_, base _ (Ev.congr (fun k => by rw [if_neg (by decide), if_neg hF]) hj), ?_⟩
   rw [if_neg hF, Option.bind_none, if_pos rfl]
   exact ⟨_, _, _, rfl, R3⟩
 ·
  have hb0 : b3 ≥ 0 := by rcases R3.2 with h | h; exact absurd h hb3; exact h
  refine ⟨([], false, s, (i3 : Int), b3), base _ (Ev.congr (f := fun k => mrpdu_row.j0 k kind (head : Int) [] ((head % 8192 : Nat) : Int) v1 v2 (fromR t (head % 8192)).1 true s i3 b3) (fun k => by rw [if_pos hb0]) ?_), ?_⟩
  ·
   refine Ev.step (f := fun _ => some ([], false, s, (i3 : Int), b3)) (fun k => ?_) (Ev.now _)
   simp only [mrpdu_row.j0]; rw [if_pos trivial]
  ·
   have hn : rowL (left_ s i) kind head = none := by
    unfold rowL
    by_cases c1 : i + sizeT kind ≤ s.size
    ·
     have hb1 := q1.2 ⟨rfl, c1⟩
     obtain ⟨hi1, _⟩ := e1 hb1
     rw [get_left s i _ c1, Option.bind_some]
     simp only
     by_cases c2 : i + sizeT kind + 4 ≤ s.size
     ·
      have hb2 := q2.2 ⟨hb1, by omega⟩
      obtain ⟨hi2, _⟩ := e2 hb2
      rw [get_left s _ _ c2, Option.bind_some]
      simp only
      rw [left_len, if_neg]
      intro hc
      exact hb3 (q3.2 ⟨hb2, by omega⟩)
     ·
      rw [get_left_no s _ _ (by omega) c2]; rfl
    ·
     rw [get_left_no s _ _ hi c1]; rfl
   rw [hn]
   exact ⟨_, _, _, rfl, R3⟩
end Go.Proofs.Ytlfcpobnkojcbaa.Pm
namespace Go.Proofs.Ytlfcpobnkojcbaa.Pm
open Go.RowKit Go.Proofs.Ytlfcpobnkojcbaa.PMrpduBytes Go.Proofs.YtlfcpobnkojcbaaW.PrintWords Go.Proofs.YtlfcpobnkojcbaaW.PrintLast Go.Proofs.YtlfcpobnkojcbaaW.PrintMore
open Wr (putBytes numOf)
theorem num_sz (kind a : Int) (hk : sizeT kind ≠ 0) : numOf ((sizeT kind : Nat) : Int) a = strOfNums (putBytes a (sizeT kind)) := by
 obtain ⟨h1, h7⟩ := size_mid kind hk
 rw [numOf_eq]
 have := szOf_mid (size := ((sizeT kind : Nat) : Int)) (by omega) (by omega)
 rw [show szOf ((sizeT kind : Nat) : Int) = sizeT kind by omega]
theorem num_1 (a : Int) : numOf 1 a = strOfNums (putBytes a 1) := by rw [numOf_eq, show szOf 1 = 1 by decide]
theorem num_2 (a : Int) : numOf 2 a = strOfNums (putBytes a 2) := by rw [numOf_eq, show szOf 2 = 2 by decide]
theorem num_4 (a : Int) : numOf 4 a = strOfNums (putBytes a 4) := by rw [numOf_eq, show szOf 4 = 4 by decide]
theorem evs_take (l : List S43) (i : Nat) (h : i < l.length) : evs (l.take (i + 1)) = evs (l.take i) ++ [(l.getD i z43).f1] := by
 rw [List.take_succ_eq_append_getElem h, evs_app, getD_in _ _ _ h]
theorem nb_le (n : Nat) : nb 3 n ≤ n + 1 := by unfold nb; omega
theorem vec_len (kind : Int) (more : Bool) (l : List S43) : (vecL kind more l).length ≤ l.length + 14 := by
 have h1 : sizeT kind ≤ 6 := by unfold sizeT; split <;> (try split) <;> (try split) <;> omega
 have h2 := nb_le (evs l).length
 have h3 : (evs l).length = l.length := by simp [evs]
 unfold vecL
 rw [List.length_append, List.length_append, List.length_append, putBytes_length, putBytes_length, putBytes_length, pk_length]
 omega
theorem rvec_fin (kind : Int) (hk : sizeT kind ≠ 0) (l : List S43) (hl : l.length ≤ 100000) (hF : Fit 6 (evs l)) (hne : l ≠ []) (h : Int) :
  Ev (fun k => (kissgateref06_Pack.f k (evs l) 3 6).bind fun bt249 => ((kissgateref07_Size.f kind).bind fun t251 => (if 0 < (l.length : Int) then ((kissgateref01_Number.f k t251 ((rd_T43 l 0).f0.f1)).bind fun t253 => (if (numOf 2 h).size + t253.size ≤ 9223372036854775807 then ((kissgateref01_Number.f k 4 ((rd_T43 l 0).f2)).bind fun t255 => (if (numOf 2 h).size + t253.size + t255.size ≤ 9223372036854775807 then (if (numOf 2 h).size + t253.size + t255.size + bt249.1.size ≤ 9223372036854775807 then (some ((((numOf 2 h) ++ t253) ++ t255) ++ bt249.1)) else (none)) else (none))) else (none))) else (none))))
   (strOfNums (putBytes h 2 ++ putBytes (hv l) (sizeT kind) ++ putBytes (hb l) 4 ++ pk 6 3 (evs l))) := by
 have hlen : (evs l).length = l.length := by simp [evs]
 have hp := ref_ev (b := 6) (l := evs l) (by decide) (by decide) (by omega) 3 (by decide) (by decide) (by decide)
 rw [if_pos (fits_iff.2 hF)] at hp
 refine Ev.bind hp ?_
 rw [refsize_eq]
 simp only [Option.bind_some]
 have hpos : 0 < l.length := List.length_pos_iff.2 hne
 have e1 : (rd_T43 l 0).f0.f1 = hv l ∧ (rd_T43 l 0).f2 = hb l := by
  cases l with
  | nil => exact absurd rfl hne
  | cons x l => exact ⟨rfl, rfl⟩
 rw [e1.1, e1.2]
 refine Ev.congr (fun k => by rw [if_pos (show 0 < (l.length : Int) by omega)]) (Ev.bind (number_ev _ _) ?_)
 rw [num_sz kind _ hk, num_2]
 have hn := nb_le l.length
 have h6 := (size_mid kind hk).2
 have s1 : (strOfNums (putBytes h 2)).size = 2 := by rw [str_size, putBytes_length]
 have s2 : (strOfNums (putBytes (hv l) (sizeT kind))).size = sizeT kind := by rw [str_size, putBytes_length]
 have s4 : (strOfNums (pk 6 3 (evs l))).size = nb 3 l.length := by rw [str_size, pk_length, hlen]
 refine Ev.congr (fun k => by rw [if_pos (by omega)]) (Ev.bind (number_ev _ _) ?_)
 rw [num_4]
 have s3 : (strOfNums (putBytes (hb l) 4)).size = 4 := by rw [str_size, putBytes_length]
 refine Ev.congr (f := fun _ => some (strOfNums (putBytes h 2 ++ putBytes (hv l) (sizeT kind) ++ putBytes (hb l) 4 ++ pk 6 3 (evs l)))) (fun k => ?_) (Ev.now _)
 rw [if_pos (by omega), if_pos (by omega), str_append, str_append, str_append]
theorem rvec_l0 (kind : Int) (hk : sizeT kind ≠ 0) (l : List S43) (hl : l.length ≤ 100000) (hF : Fit 6 (evs l)) (hne : l ≠ []) (h : Int) : ∀ d i : Nat, l.length - i = d → i ≤ l.length →
  Ev (fun k => kissgateref07_vector.l0 k kind l (numOf 2 h) (evs (l.take i)) l (l.length : Int) (i : Int)) (strOfNums (putBytes h 2 ++ putBytes (hv l) (sizeT kind) ++ putBytes (hb l) 4 ++ pk 6 3 (evs l))) := by
 intro d
 induction d with
 | zero =>
  intro i hd hi
  rw [List.take_of_length_le (by omega)]
  refine Ev.step (fun k => ?_) (rvec_fin kind hk l hl hF hne h)
  simp only [kissgateref07_vector.l0]
  rw [if_neg (by omega)]
 | succ d ih =>
  intro i hd hi
  have hlt : i < l.length := by omega
  have hx := ih (i + 1) (by omega) (by omega)
  rw [evs_take l i hlt] at hx
  refine Ev.step (fun k => ?_) hx
  simp only [kissgateref07_vector.l0]
  rw [if_pos (by omega), if_pos (by omega), if_pos (by omega), if_pos (by simp [evs]; omega), rdT_nat, wrap_one i (by omega)]
theorem rvec_j0 (kind : Int) (hk : sizeT kind ≠ 0) (l : List S43) (hl : l.length ≤ 100000) (hF : Fit 6 (evs l)) (h : Int) :
  Ev (fun k => kissgateref07_vector.j0 k kind l h) (strOfNums (putBytes h 2 ++ putBytes (hv l) (sizeT kind) ++ putBytes (hb l) 4 ++ pk 6 3 (evs l))) := by
 refine Ev.step (f := fun k => (kissgateref01_Number.f k 2 h).bind fun t240 => (if (l.length : Int) = 0 then ((kissgateref07_Size.f kind).bind fun t241 => ((kissgateref01_Number.f k t241 0).bind fun t242 => (if t240.size + t242.size ≤ 9223372036854775807 then ((kissgateref01_Number.f k 4 0).bind fun t243 => (if t240.size + t242.size + t243.size ≤ 9223372036854775807 then (some ((t240 ++ t242) ++ t243)) else (none))) else (none)))) else (kissgateref07_vector.l0 k kind l t240 ([] : List Int) l (l.length : Int) 0))) (fun k => by simp only [kissgateref07_vector.j0]) ?_
 refine Ev.bind (number_ev _ _) ?_
 by_cases hne : l = []
 ·
  subst hne
  refine Ev.congr (fun k => by rw [if_pos (show ((([] : List S43).length : Nat) : Int) = 0 from rfl), refsize_eq, Option.bind_some]) (Ev.bind (number_ev _ _) ?_)
  rw [num_sz kind _ hk, num_2]
  have h6 := (size_mid kind hk).2
  have s1 : (strOfNums (putBytes h 2)).size = 2 := by rw [str_size, putBytes_length]
  have s2 : (strOfNums (putBytes 0 (sizeT kind))).size = sizeT kind := by rw [str_size, putBytes_length]
  refine Ev.congr (fun k => by rw [if_pos (by omega)]) (Ev.bind (number_ev _ _) ?_)
  rw [num_4]
  have s3 : (strOfNums (putBytes 0 4)).size = 4 := by rw [str_size, putBytes_length]
  refine Ev.congr (f := fun _ => some (strOfNums (putBytes h 2 ++ putBytes 0 (sizeT kind) ++ putBytes 0 4 ++ []))) (fun k => ?_) (Ev.now _)
  rw [if_pos (by omega), str_append, str_append, List.append_nil]
 ·
  have hpos : 0 < l.length := List.length_pos_iff.2 hne
  exact Ev.congr (fun k => by rw [if_neg (show ¬ (l.length : Int) = 0 by omega)]; rfl) (rvec_l0 kind hk l hl hF hne h _ 0 rfl (by omega))
theorem rvec_ev (kind : Int) (hk : sizeT kind ≠ 0) (more : Bool) (l : List S43) (hl : l.length ≤ 100000) (hF : Fit 6 (evs l)) : Ev (fun k => kissgateref07_vector.f k kind more l) (strOfNums (vecL kind more l)) := by
 unfold kissgateref07_vector.f vecL
 cases more
 ·
  refine Ev.congr (fun k => by rw [if_neg (by decide)]) ?_
  have := rvec_j0 kind hk l hl hF (l.length : Int)
  simpa using this
 ·
  refine Ev.congr (fun k => by rw [if_pos rfl]) ?_
  rw [wrap_id (by omega) (by omega)]
  exact rvec_j0 kind hk l hl hF _
theorem has_l0 (l : List Int) (x : Int) (hl : l.length ≤ 1000000) : ∀ d i : Nat, l.length - i = d → i ≤ l.length → Ev (fun k => kissgateref07_has.l0 k x l (l.length : Int) (i : Int)) (decide (x ∈ l.drop i)) := by
 intro d
 induction d with
 | zero =>
  intro i hd hi
  rw [List.drop_eq_nil_of_le (by omega)]
  refine Ev.step (f := fun _ => some false) (fun k => ?_) (by simpa using Ev.now false)
  simp only [kissgateref07_has.l0]; rw [if_neg (by omega)]
 | succ d ih =>
  intro i hd hi
  have hlt : i < l.length := by omega
  have hx : l.drop i = l.getD i 0 :: l.drop (i + 1) := by rw [List.drop_eq_getElem_cons hlt, getD_in _ _ _ hlt]
  rw [hx]
  by_cases h : l.getD i 0 = x
  ·
   rw [decide_eq_true (by rw [h]; simp)]
   refine Ev.step (f := fun _ => some true) (fun k => ?_) (Ev.now _)
   simp only [kissgateref07_has.l0]
   rw [if_pos (by omega), if_pos (by omega), if_pos (by omega), rd_nat, if_pos h]
  ·
   have e : decide (x ∈ l.getD i 0 :: l.drop (i + 1)) = decide (x ∈ l.drop (i + 1)) := by
    rw [Bool.eq_iff_iff, decide_eq_true_iff, decide_eq_true_iff, List.mem_cons]
    exact ⟨fun hc => hc.resolve_left (fun e => h e.symm), .inr⟩
   rw [e]
   refine Ev.step (fun k => ?_) (ih (i + 1) (by omega) (by omega))
   simp only [kissgateref07_has.l0]
   rw [if_pos (by omega), if_pos (by omega), if_pos (by omega), rd_nat, if_neg h, wrap_one i (by omega)]
theorem has_ev (l : List Int) (x : Int) (hl : l.length ≤ 1000000) : Ev (fun k => kissgateref07_has.f k l x) (moreOf l x) := by
 have := has_l0 l x hl _ 0 rfl (by omega)
 simpa [kissgateref07_has.f, moreOf] using this
theorem index_l0 (l : List Int) (x : Int) (hl : l.length ≤ 1000000) : ∀ d i : Nat, l.length - i = d → i ≤ l.length → ∃ r : Int, Ev (fun k => slices_Index_int_int.l0 k l x (l.length : Int) (i : Int)) r ∧ (0 ≤ r ↔ x ∈ l.drop i) := by
 intro d
 induction d with
 | zero =>
  intro i hd hi
  rw [List.drop_eq_nil_of_le (by omega)]
  refine ⟨-1, Ev.step (f := fun _ => some (-1)) (fun k => ?_) (Ev.now _), by simp⟩
  simp only [slices_Index_int_int.l0]; rw [if_neg (by omega)]
 | succ d ih =>
  intro i hd hi
  have hlt : i < l.length := by omega
  have hx : l.drop i = l.getD i 0 :: l.drop (i + 1) := by rw [List.drop_eq_getElem_cons hlt, getD_in _ _ _ hlt]
  rw [hx]
  by_cases h : x = l.getD i 0
  ·
   refine ⟨(i : Int), Ev.step (f := fun _ => some (i : Int)) (fun k => ?_) (Ev.now _), by rw [← h]; simp⟩
   simp only [slices_Index_int_int.l0]
   rw [if_pos (by omega), if_pos (by omega), if_pos (by omega), rd_nat, if_pos h]
  ·
   obtain ⟨r, h1, h2⟩ := ih (i + 1) (by omega) (by omega)
   refine ⟨r, Ev.step (fun k => ?_) h1, ?_⟩
   ·
    simp only [slices_Index_int_int.l0]
    rw [if_pos (by omega), if_pos (by omega), if_pos (by omega), rd_nat, if_neg h, wrap_one i (by omega)]
   ·
    rw [h2, List.mem_cons]
    exact ⟨.inr, fun hc => hc.resolve_left h⟩
theorem contains_ev (l : List Int) (x : Int) (hl : l.length ≤ 1000000) : Ev (fun k => slices_Contains_int_int.f k l x) (moreOf l x) := by
 obtain ⟨r, h1, h2⟩ := index_l0 l x hl _ 0 rfl (by omega)
 rw [List.drop_zero] at h2
 unfold slices_Contains_int_int.f moreOf
 refine Ev.bind (show Ev (fun k => slices_Index_int_int.f k l x) r from h1) ?_
 rw [show decide (r ≥ 0) = decide (x ∈ l) from by rw [Bool.eq_iff_iff, decide_eq_true_iff, decide_eq_true_iff]; exact h2]
 exact Ev.now _
noncomputable def sameP (a : List Int) (x : List S43) (b : List Int) (y : List S43) : Bool := open Classical in decide (a = b ∧ x = y)
theorem same_iff {a b : List Int} {x y : List S43} : sameP a x b y = true ↔ a = b ∧ x = y := by unfold sameP; simp
theorem w_eq (x y : S43) : ((!(x.f0.f0 == y.f0.f0) || (!(x.f0.f1 == y.f0.f1))) || (!(x.f1 == y.f1) || (!(x.f2 == y.f2)))) = true ↔ x ≠ y := by
 obtain ⟨⟨a, b⟩, c, d⟩ := x
 obtain ⟨⟨a', b'⟩, c', d'⟩ := y
 simp only [Bool.or_eq_true, Bool.not_eq_true', beq_eq_false_iff_ne, ne_eq, S43.mk.injEq, S37.mk.injEq]
 omega
theorem wsame_l0 (x y : List S43) (hl : x.length = y.length) (hx : x.length ≤ 1000000) : ∀ d i : Nat, x.length - i = d → i ≤ x.length → ∃ r : Bool, Ev (fun k => kissgateref07_Same.l0 k x y (x.length : Int) (i : Int)) r ∧ (r = true ↔ x.drop i = y.drop i) := by
 intro d
 induction d with
 | zero =>
  intro i hd hi
  rw [List.drop_eq_nil_of_le (by omega), List.drop_eq_nil_of_le (by omega)]
  refine ⟨true, Ev.step (f := fun _ => some true) (fun k => ?_) (Ev.now _), by simp⟩
  simp only [kissgateref07_Same.l0]; rw [if_neg (by omega)]
 | succ d ih =>
  intro i hd hi
  have h1 : i < x.length := by omega
  have h2 : i < y.length := by omega
  have e1 : x.drop i = x.getD i z43 :: x.drop (i + 1) := by rw [List.drop_eq_getElem_cons h1, getD_in _ _ _ h1]
  have e2 : y.drop i = y.getD i z43 :: y.drop (i + 1) := by rw [List.drop_eq_getElem_cons h2, getD_in _ _ _ h2]
  rw [e1, e2]
  have hw := w_eq (x.getD i z43) (y.getD i z43)
  by_cases h : x.getD i z43 = y.getD i z43
  ·
   obtain ⟨r, k1, k2⟩ := ih (i + 1) (by omega) (by omega)
   refine ⟨r, Ev.step (fun k => ?_) k1, by rw [k2, List.cons.injEq]; exact ⟨fun hc => ⟨h, hc⟩, fun hc => hc.2⟩⟩
   simp only [kissgateref07_Same.l0]
   rw [if_pos (by omega), if_pos (by omega), if_pos (by omega), if_pos (by omega), rdT_nat, rdT_nat, if_neg (fun hc => hw.1 hc h), wrap_one i (by omega)]
  ·
   refine ⟨false, Ev.step (f := fun _ => some false) (fun k => ?_) (Ev.now _), by simp only [List.cons.injEq]; exact ⟨fun hc => (by cases hc), fun hc => absurd hc.1 h⟩⟩
   simp only [kissgateref07_Same.l0]
   rw [if_pos (by omega), if_pos (by omega), if_pos (by omega), if_pos (by omega), rdT_nat, rdT_nat, if_pos (hw.2 h)]
theorem wsame_ev (a : List Int) (x : List S43) (b : List Int) (y : List S43) (ha : a.length ≤ 1000000) (hx : x.length ≤ 1000000) : Ev (fun k => kissgateref07_Same.f k a x b y) (sameP a x b y) := by
 unfold kissgateref07_Same.f
 by_cases hl : x.length = y.length
 ·
  refine Ev.congr (fun k => by rw [if_pos (show (x.length : Int) = (y.length : Int) by omega)]) (Ev.bind (same_ev a b ha) ?_)
  by_cases hab : a = b
  ·
   obtain ⟨r, h1, h2⟩ := wsame_l0 x y hl hx _ 0 rfl (by omega)
   rw [List.drop_zero, List.drop_zero] at h2
   have e : sameP a x b y = r := by rw [Bool.eq_iff_iff, same_iff, h2]; exact ⟨fun h => h.2, fun h => ⟨hab, h⟩⟩
   rw [e, decide_eq_true hab]
   refine Ev.step (fun k => ?_) h1
   simp only [kissgateref07_Same.j0]; rw [if_neg (by decide)]; rfl
  ·
   have e : sameP a x b y = false := by cases h : sameP a x b y; rfl; exact absurd (same_iff.1 h).1 hab
   rw [e, decide_eq_false hab]
   refine Ev.step (f := fun _ => some false) (fun k => ?_) (Ev.now _)
   simp only [kissgateref07_Same.j0]; rw [if_pos (by decide)]
 ·
  have e : sameP a x b y = false := by cases h : sameP a x b y; rfl; exact absurd (by rw [(same_iff.1 h).2]) hl
  rw [e]
  refine Ev.congr (fun k => by rw [if_neg (show ¬ (x.length : Int) = (y.length : Int) by omega)]) (Ev.step (f := fun _ => some false) (fun k => ?_) (Ev.now _))
  simp only [kissgateref07_Same.j0]; rw [if_pos trivial]
end Go.Proofs.Ytlfcpobnkojcbaa.Pm
namespace Go.Proofs.Ytlfcpobnkojcbaa.Pm
open Go.RowKit Go.Proofs.Ytlfcpobnkojcbaa.PMrpduBytes Go.Proofs.YtlfcpobnkojcbaaW.PrintWords Go.Proofs.YtlfcpobnkojcbaaW.PrintLast Go.Proofs.YtlfcpobnkojcbaaW.PrintMore
open Wr (putBytes numOf WS IsW KeepW)
set_option linter.unusedVariables false
set_option linter.unusedSimpArgs false
def wc (x : S43) : List Value := [.int .i64 x.f0.f0, .int .i64 x.f0.f1, .int .i64 x.f1, .int .i64 x.f2]
def wcs (l : List S43) : List Value := l.flatMap wc
theorem wc_len (x : S43) : (wc x).length = 4 := rfl
theorem wc_one (x : S43) : ∀ u ∈ wc x, u.oneCell' = true := by
 intro u hu
 simp only [wc, List.mem_cons, List.not_mem_nil, or_false] at hu
 rcases hu with rfl | rfl | rfl | rfl <;> rfl
theorem wcs_snoc (l : List S43) (x : S43) : wcs (l ++ [x]) = wcs l ++ wc x := by unfold wcs; rw [List.flatMap_append]; simp
theorem wcs_get : ∀ (l : List S43) (k j : Nat) (hk : k < l.length), j < 4 → (wcs l)[k * 4 + j]? = (wc (l[k]'hk))[j]?
 | [], k, j, hk, _ => absurd hk (by simp)
 | x :: l, 0, j, _, hj => by
  unfold wcs; rw [List.flatMap_cons, List.getElem?_append_left (by rw [wc_len]; omega)]; simp
 | x :: l, k + 1, j, hk, hj => by
  have ih := wcs_get l k j (by simpa using hk) hj
  unfold wcs at ih ⊢
  rw [List.flatMap_cons, List.getElem?_append_right (by rw [wc_len]; omega), wc_len, show (k + 1) * 4 + j - 4 = k * 4 + j by omega, ih]; simp
theorem k43_free {W W' : World} {x : S43} {cs : List Value} (h : k43.K W x cs) : k43.K W' x cs := by rw [k43_open h]; exact k43_mk W' x
theorem add_block (a : Addr) (j : Nat) : (a.add j).block = a.block := by unfold Addr.add; split <;> rfl
theorem add_z (a : Addr) : a.add 0 = a := by unfold Addr.add; simp
theorem c43_move {W W' : World} {A : Option Addr} {n : Nat} {l : List S43} (h : k43.C W A n l) (hm : ∀ ad, A = some ad → 0 < n → W'.heap[ad.block]? = W.heap[ad.block]?) : k43.C W' A n l := by
 refine ⟨h.1, h.2.1, fun hn => ?_⟩
 obtain ⟨ad, e, hc⟩ := h.2.2 hn
 refine ⟨ad, e, fun j p hp => ?_⟩
 obtain ⟨c, h1, h2, h3⟩ := hc j p hp
 exact ⟨c, h1, k43_free h2, fun i u hu => (World.cell?_of_block (by rw [add_block]; exact hm ad e hn)).trans (h3 i u hu)⟩
theorem cint_move {W W' : World} {A : Option Addr} {n : Nat} {l : List Int} (h : (Kd.int .i64).C W A n l) (hm : ∀ ad, A = some ad → 0 < n → W'.heap[ad.block]? = W.heap[ad.block]?) : (Kd.int .i64).C W' A n l := by
 refine ⟨h.1, h.2.1, fun hn => ?_⟩
 obtain ⟨ad, e, hc⟩ := h.2.2 hn
 refine ⟨ad, e, fun j p hp => ?_⟩
 obtain ⟨c, h1, h2, h3⟩ := hc j p hp
 exact ⟨c, h1, h2, fun i u hu => (World.cell?_of_block (by rw [add_block]; exact hm ad e hn)).trans (h3 i u hu)⟩
theorem own_form {w : World} {B : Nat} {e : TypeId} {s : Nat} {v : Value} {n : Nat} {xs : List Value} (h : w.ownsRow B e s v n xs) : ∃ a cap, v = .slice a n cap ∧ n ≤ cap := by
 rcases h.2 with ⟨rfl, rfl⟩ | ⟨g, cap, cur, rfl, _, _, hc, _⟩
 ·
  exact ⟨none, 0, rfl, Nat.le_refl _⟩
 ·
  exact ⟨_, cap, rfl, hc⟩
/-- A row of one's own reads as a list. -/
theorem c43_own {w : World} {B : Nat} {A : Option Addr} {c : Nat} {l : List S43} (h : w.ownsRow B 43 4 (.slice A l.length c) l.length (wcs l)) : k43.C w A l.length l := by
 have hm : l.length ≤ 9223372036854775807 := by
  rcases h.2 with ⟨_, h0⟩ | ⟨g, cap, cur, _, _, _, h1, h2, _⟩
  ·
   omega
  ·
   unfold maxLen at h2; omega
 refine ⟨rfl, hm, fun hn => ?_⟩
 obtain ⟨g, cap, e, hb, hlt⟩ := h.form hn
 injection e with e1 e2 e3
 subst e1
 refine ⟨_, rfl, fun j p hp => ?_⟩
 obtain ⟨hj, rfl⟩ := List.getElem?_eq_some_iff.1 hp
 refine ⟨wc (l[j]'hj), rfl, k43_mk w _, fun i u hu => ?_⟩
 have hi : i < 4 := by have := (List.getElem?_eq_some_iff.1 hu).1; rw [wc_len] at this; exact this
 exact h.cells (g := g) rfl (j * 4 + i) u (by rw [wcs_get l j i hj hi]; exact hu)
def icells (l : List Int) : List Value := l.map (Value.int .i64)
theorem cint_own {w : World} {B : Nat} {A : Option Addr} {c : Nat} {l : List Int} (h : w.ownsRow B 3 1 (.slice A l.length c) l.length (icells l)) : (Kd.int .i64).C w A l.length l := by
 have hm : l.length ≤ 9223372036854775807 := by
  rcases h.2 with ⟨_, h0⟩ | ⟨g, cap, cur, _, _, _, h1, h2, _⟩
  ·
   omega
  ·
   unfold maxLen at h2; omega
 refine ⟨rfl, hm, fun hn => ?_⟩
 obtain ⟨g, cap, e, hb, hlt⟩ := h.form hn
 injection e with e1 e2 e3
 subst e1
 refine ⟨_, rfl, fun j p hp => ?_⟩
 obtain ⟨hj, rfl⟩ := List.getElem?_eq_some_iff.1 hp
 refine ⟨[.int .i64 (l[j]'hj)], rfl, rfl, fun i u hu => ?_⟩
 have hi : i < 1 := (List.getElem?_eq_some_iff.1 hu).1
 obtain rfl : i = 0 := by omega
 have hu' : u = .int .i64 (l[j]'hj) := by simpa using hu.symm
 exact h.cells (g := g) rfl (j * 1 + 0) u (by simp [icells, hu'])
theorem WS.rebase {B : Nat} {w0 w W : World} {g : Nat} {c : ByteArray} {n : Nat} (h : Aside0 (WS B w0 w W g c n)) : Aside0 (WS B w0 W W g c n) := ⟨⟨h.out.isW, h.out.below, KeepW.refl _ _ _ _, h.out.size⟩⟩
theorem WS.join {B : Nat} {w0 w W W' : World} {g : Nat} {c c' : ByteArray} {n n' : Nat} (h : Aside0 (WS B w0 w W g c n)) (k : Aside0 (WS B w0 W W' g c' n')) : Aside0 (WS B w0 w W' g c' n') := ⟨⟨k.out.isW, k.out.below, h.out.keep.trans k.out.keep (.inl rfl), k.out.size⟩⟩
theorem WS.more {B : Nat} {w0 w W : World} {g : Nat} {c : ByteArray} {n m : Nat} (h : Aside0 (WS B w0 w W g c n)) (hm : n ≤ m) : Aside0 (WS B w0 w W g c m) := ⟨⟨h.out.isW, h.out.below, h.out.keep, Nat.le_trans h.out.size hm⟩⟩
theorem KeepW.of_below {B : Nat} {w W : World} {g : Nat} (h : Below w.heap.size w W) : KeepW B w W g none := ⟨h.size, fun i hi _ _ _ => h.block i hi⟩
theorem WS.base {B : Nat} {w0 w W : World} {g : Nat} {c : ByteArray} {n : Nat} (h : Aside0 (WS B w0 w W g c n)) : B ≤ g ∧ g < W.heap.size := by
 obtain ⟨v, h1, _, h3⟩ := h.out.isW
 exact ⟨h3, blk_lt h1⟩
theorem grown_bel {w w1 : World} (hb : Below w.heap.size w w1) : w.grownBy w1 none := ⟨hb.os, hb.tape, hb.output, hb.size, fun k hk _ => hb.block k hk⟩
theorem own_bel {w w1 : World} {B : Nat} {e : TypeId} {size n : Nat} {v : Value} {xs : List Value} (h : w.ownsRow B e size v n xs) (hb : Below w.heap.size w w1) : w1.ownsRow B e size v n xs :=
 h.kept (grown_bel hb) (by cases hv : v.ownBlock with
  | none => exact .inl rfl
  | some k => exact .inr (by simp))
theorem WS.belowW {B : Nat} {w0 w W W' : World} {g : Nat} {c : ByteArray} {n : Nat} (h : Aside0 (WS B w0 w W g c n)) (hb : Below W.heap.size W W') : Aside0 (WS B w0 w W' g c n) := by
 obtain ⟨b1, b2⟩ := WS.base h
 obtain ⟨v, h1, h2, h3⟩ := h.out.isW
 exact ⟨⟨⟨v, (hb.block g b2).trans h1, own_bel h2 hb, h3⟩, h.out.below.trans (hb.mono (by omega)), h.out.keep.trans (KeepW.of_below hb) (.inl rfl), h.out.size⟩⟩
/-- Memory that the writer doesn't turn. -/
def Away (B g : Nat) (W : World) (b : Nat) : Prop := b < W.heap.size ∧ b ≠ g ∧ (B ≤ b → ∀ cs fr, W.heap[b]? ≠ some (.cells cs 5 fr))
theorem Away.at_ {B g b : Nat} {W W' : World} (h : Away B g W b) (k : KeepW B W W' g none) : W'.heap[b]? = W.heap[b]? := k.2 b h.1 h.2.1 (by simp) h.2.2
theorem Away.step {B g b : Nat} {W W' : World} (h : Away B g W b) (k : KeepW B W W' g none) : Away B g W' b := ⟨Nat.lt_of_lt_of_le h.1 k.1, h.2.1, fun hB cs fr => by rw [h.at_ k]; exact h.2.2 hB cs fr⟩
def AwayA (B g : Nat) (W : World) (A : Option Addr) (n : Nat) : Prop := ∀ ad, A = some ad → 0 < n → Away B g W ad.block
theorem AwayA.c43 {B g : Nat} {W W' : World} {A : Option Addr} {n : Nat} {l : List S43} (h : AwayA B g W A n) (k : KeepW B W W' g none) (hc : k43.C W A n l) : k43.C W' A n l := c43_move hc fun ad e hn => (h ad e hn).at_ k
theorem AwayA.cint {B g : Nat} {W W' : World} {A : Option Addr} {n : Nat} {l : List Int} (h : AwayA B g W A n) (k : KeepW B W W' g none) (hc : (Kd.int .i64).C W A n l) : (Kd.int .i64).C W' A n l := cint_move hc fun ad e hn => (h ad e hn).at_ k
theorem AwayA.step {B g : Nat} {W W' : World} {A : Option Addr} {n : Nat} (h : AwayA B g W A n) (k : KeepW B W W' g none) : AwayA B g W' A n := fun ad e hn => (h ad e hn).step k
theorem or_13 (n : Nat) (h : n < 256) : Go.bits .or .i64 (n : Int) 8192 = (n : Int) + 8192 := by
 have key : ∀ m : Fin 256, Go.bits .or .i64 (m.val : Int) 8192 = (m.val : Int) + 8192 := by decide +kernel
 exact key ⟨n, h⟩
theorem cat_ (a b c d : List Int) (s : ByteArray) : s ++ strOfNums a ++ strOfNums b ++ strOfNums c ++ strOfNums d = s ++ strOfNums (a ++ b ++ c ++ d) := by
 rw [ByteArray.append_assoc, str_append, ByteArray.append_assoc, str_append, ByteArray.append_assoc, str_append]; simp
theorem vec_cat (c : ByteArray) (kind : Int) (hk : sizeT kind ≠ 0) (more : Bool) (l : List S43) (hne : 0 < l.length) (head : Int) (hh : head = (l.length : Int) + (if more = true then 8192 else 0)) :
  c ++ numOf 2 head ++ numOf ((sizeT kind : Nat) : Int) (rd_T43 l 0).f0.f1 ++ numOf 4 (rd_T43 l 0).f2 ++ strOfNums (pk 6 3 (evs l)) = c ++ strOfNums (vecL kind more l) := by
 cases l with
 | nil => exact absurd hne (by decide)
 | cons x l =>
  rw [num_sz kind _ hk, num_2, num_4, cat_, hh]; rfl
theorem vector_some (B g : Nat) (w0 W : World) (c : ByteArray) (n : Nat) (h : Aside0 (WS B w0 W W g c n)) (kind : Int) (hk : sizeT kind ≠ 0) (more : Bool) (A : Option Addr) (cap : Nat) (l : List S43) (hC : k43.C W A l.length l) (hA : AwayA B g W A l.length)
  (hne : 0 < l.length) (hl : l.length ≤ 200) (hcap : l.length ≤ cap) (hF : Fit 6 (evs l)) (hn : n ≤ 10000000) :
  Calls Try.prog 44 #[.pointer (some ⟨g, 0, none⟩), .int .i64 kind, .bool more, .slice A l.length cap] W fun e w' => e = .returned (.tuple #[]) ∧ Aside0 (WS B w0 W w' g (c ++ strOfNums (vecL kind more l)) (n + 1000)) := by
 have HC := Aside0.mk hC
 have HA := Aside0.mk hA
 have HF := Aside0.mk hF
 have HL := Aside0.mk hl
 have HCap := Aside0.mk hcap
 have d1 : decide ((0 : Int) < (l.length : Int)) = true := decide_eq_true (by omega)
 have d2 : decide (0 < l.length) = true := decide_eq_true hne
 have hor := or_13 l.length (by omega)
 have HOr := Aside0.mk hor
 clear hC hA hF hl hcap hor
 have HH : Aside0 (∃ head : Int, head = (l.length : Int) + (if more = true then 8192 else 0)) := ⟨_, rfl⟩
 cases more
 all_goals
  go_enter Try.func44, Try.ntmps44
  go_wp2_with fail
  go_at_call 22
  refine (Wr.put_ws _ _ h (by omega)).mono ?_
  rintro e w1 ⟨rfl, h1⟩
  have HC1 := Aside0.mk (HA.out.c43 h1.out.keep HC.out)
  have HA1 := Aside0.mk (HA.out.step h1.out.keep)
  obtain ⟨ad, e, hx0, hx1, hx2, hx3⟩ := at_T43 HC1.out 0 (by omega) (by omega)
  cases e
  rw [show (0 : Int).toNat * 4 = 0 from rfl, add_z] at hx0 hx1 hx2 hx3
  have hlt := World.block_lt_of_cell? w1 _ hx0
  have ha0 : ∀ o, (w1.alloc o).cell? ad = some (.int .i64 (rd_T43 l 0).f0.f0) := fun o => (World.cell?_alloc_lt _ _ _ hlt).trans hx0
  have ha1 : ∀ o, (w1.alloc o).cell? ⟨ad.block, ad.off + 1, none⟩ = some (.int .i64 (rd_T43 l 0).f0.f1) := fun o => (World.cell?_alloc_lt w1 o ⟨ad.block, ad.off + 1, none⟩ hlt).trans hx1
  have ha2 : ∀ o, (w1.alloc o).cell? ⟨ad.block, ad.off + 2, none⟩ = some (.int .i64 (rd_T43 l 0).f1) := fun o => (World.cell?_alloc_lt w1 o ⟨ad.block, ad.off + 2, none⟩ hlt).trans hx2
  have ha3 : ∀ o, (w1.alloc o).cell? ⟨ad.block, ad.off + 3, none⟩ = some (.int .i64 (rd_T43 l 0).f2) := fun o => (World.cell?_alloc_lt w1 o ⟨ad.block, ad.off + 3, none⟩ hlt).trans hx3
  clear h hx0 hx1 hx2 hx3 hlt
  go_wp2_with fail
  clear ha0 ha1 ha2 ha3
  have hbox : (w1.alloc (.cells #[.int .i64 (rd_T43 l 0).f0.f0, .int .i64 (rd_T43 l 0).f0.f1, .int .i64 (rd_T43 l 0).f1, .int .i64 (rd_T43 l 0).f2] 43)).heap[w1.heap.size]? = some (.cells #[.int .i64 (rd_T43 l 0).f0.f0, .int .i64 (rd_T43 l 0).f0.f1, .int .i64 (rd_T43 l 0).f1, .int .i64 (rd_T43 l 0).f2] 43 (0, 0)) := by simpa using heap_alloc_new w1 (.cells #[.int .i64 (rd_T43 l 0).f0.f0, .int .i64 (rd_T43 l 0).f0.f1, .int .i64 (rd_T43 l 0).f1, .int .i64 (rd_T43 l 0).f2] 43)
  have hbw : Below w1.heap.size w1 (w1.alloc (.cells #[.int .i64 (rd_T43 l 0).f0.f0, .int .i64 (rd_T43 l 0).f0.f1, .int .i64 (rd_T43 l 0).f1, .int .i64 (rd_T43 l 0).f2] 43)) := below_alloc (Below.refl _ _) _
  generalize w1.alloc (.cells #[.int .i64 (rd_T43 l 0).f0.f0, .int .i64 (rd_T43 l 0).f0.f1, .int .i64 (rd_T43 l 0).f1, .int .i64 (rd_T43 l 0).f2] 43) = W2 at hbox hbw ⊢
  have h2 := WS.belowW h1 hbw
  have h2r := WS.rebase h2
  have HBx := Aside0.mk hbox
  have hne2 : w1.heap.size ≠ g := by have := (WS.base h1).2; omega
  have HNe := Aside0.mk hne2
  have HC2 := Aside0.mk (HA1.out.c43 (KeepW.of_below hbw) HC1.out)
  have HA2 := Aside0.mk (HA1.out.step (KeepW.of_below hbw))
  have y1 : W2.cell? ⟨w1.heap.size, 1, none⟩ = some (.int .i64 (rd_T43 l 0).f0.f1) := (blk_cell hbox 1).trans rfl
  clear hbox hbw hne2 HC1 HA1
  generalize w1.heap.size = b1 at HBx HNe y1 ⊢
  clear h1
  go_region_held3 (fun w' => w'.cell? ⟨b1, 1, none⟩ = some (.int .i64 (rd_T43 l 0).f0.f1)) (first | go_keep | exact y1 | exact (blk_cell (Wr.WS.blk h3 HBx.out HNe.out (by decide)) 1).trans rfl) (first | (go_at_call 26; refine (mrpdu_size.calls _ _ _ (size_eq kind)).mono ?_; rintro e w5 ⟨rfl, ⟨⟨nd, hnd⟩⟩⟩; subst hnd) | (go_at_call 22; refine (Wr.put_ws _ _ (WS.belowW h2r (by repeat (first | exact Below.refl _ _ | apply pw_below_drewN | apply below_drew1))) (by omega)).mono ?_; rintro e w5 ⟨rfl, h3⟩))
 all_goals
  have hb3 := Wr.WS.blk h3 HBx.out HNe.out (by decide)
  have y3 : w5.cell? ⟨b1, 3, none⟩ = some (.int .i64 (rd_T43 l 0).f2) := (blk_cell hb3 3).trans rfl
  have HC5 := Aside0.mk (HA2.out.c43 h3.out.keep HC2.out)
  have HA5 := Aside0.mk (HA2.out.step h3.out.keep)
  have h5 := WS.rebase h3
  have h5j := WS.join h2 h3
  clear h2 h2r h3 HBx HNe hb3 HC2 HA2 y1
  go_wp2_with fail
  go_at_call 22
  refine (Wr.put_ws _ _ h5 (by omega)).mono ?_
  rintro e w6 ⟨rfl, h6⟩
  have HC6 := Aside0.mk (HA5.out.c43 h6.out.keep HC5.out)
  have h6j := WS.join h5j h6
  clear h5 h5j h6 HC5 HA5 y3
  go_wp2_with fail
  go_loopw [10, 42] (fun v10 v42 wr => ∃ k : Nat, k ≤ l.length ∧ v42 = .int .i64 k ∧ Aside0 (wr.ownsRow w6.heap.size 3 1 v10 (evs (l.take k)).length (icells (evs (l.take k)))) ∧ Aside0 (Below w6.heap.size w6 wr)) (fun _ v42 _ => (match v42 with | .int _ n => (l.length - n).toNat | _ => 0))
  case atStart => exact ⟨0, Nat.zero_le _, rfl, ⟨World.ownsRow_nil _ _ _ _⟩, ⟨Below.refl _ _⟩⟩
  case round =>
   rename World => wr
   obtain ⟨k, hk0, rfl, HO, HB⟩ := hrel
   obtain ⟨A10, c10, rfl, hc10⟩ := own_form HO.out
   by_cases hkn : k = l.length
   ·
    subst hkn
    have d3 : decide ((l.length : Int) < (l.length : Int)) = false := decide_eq_false (by omega)
    rw [List.take_length] at HO hc10 ⊢
    have hth := threes_ev (evs l) (by simp [evs]; have := HL.out; omega)
    rw [if_pos (fits_iff.2 HF.out)] at hth
    obtain ⟨kk, hkk⟩ := hth.rounds
    have HK := Aside0.mk hkk
    clear hth hkk
    go_wp2_with fail
    go_at_call 53
    refine (pack_Threes.calls kk A10 c10 (evs l) _ _ wr (cint_own HO.out) hc10 HK.out).mono ?_
    rintro e w7 ⟨rfl, hb7⟩
    have h7 := WS.belowW (WS.belowW h6j HB.out) hb7
    clear hb7 h6j
    go_wp2_with fail
    go_at_call 54
    refine (Wr.raw_ws _ 300 h7 (by rw [str_size, pk_length]; have := HL.out; simp [evs]; unfold nb; omega) (by omega)).mono ?_
    rintro e w8 ⟨rfl, h8⟩
    clear h7
    go_wp2_with fail
    go_end0
    refine ⟨rfl, ?_⟩
    have h9 := WS.more h8 (show n + 8 + 8 + 8 + 300 ≤ n + 1000 by omega)
    first
     | (rw [← vec_cat c kind hk true l hne (Go.bits .or .i64 (l.length : Int) 8192) (by rw [HOr.out]; rfl)]; exact h9)
     | (rw [← vec_cat c kind hk false l hne (l.length : Int) (by simp)]; exact h9)
   ·
    have hlt : k < l.length := by omega
    obtain ⟨ad2, e, hx0, hx1, hx2, hx3⟩ := at_T43 HC6.out (k : Int) (by omega) (by omega)
    cases e
    rw [Int.toNat_natCast] at hx0 hx1 hx2 hx3
    have hlt2 := World.block_lt_of_cell? w6 _ hx0
    replace hx0 := (HB.out.cell hlt2).trans hx0
    replace hx1 := (HB.out.cell (p := ⟨(ad.add (k * 4)).block, (ad.add (k * 4)).off + 1, none⟩) hlt2).trans hx1
    replace hx2 := (HB.out.cell (p := ⟨(ad.add (k * 4)).block, (ad.add (k * 4)).off + 2, none⟩) hlt2).trans hx2
    replace hx3 := (HB.out.cell (p := ⟨(ad.add (k * 4)).block, (ad.add (k * 4)).off + 3, none⟩) hlt2).trans hx3
    have HT := Aside0.mk (evs_take l k hlt)
    have hel : (evs (l.take k)).length ≤ 200 := by simp [evs]; have := HL.out; omega
    have hrd : rd_T43 l (k : Int) = l.getD k z43 := rdT_nat l k
    rw [hrd] at hx0 hx1 hx2 hx3
    generalize l.getD k z43 = x at HT hx0 hx1 hx2 hx3
    have d3 : decide ((k : Int) < (l.length : Int)) = true := decide_eq_true (by omega)
    have z0 : (0 : Int) ≤ (k : Int) := by omega
    have z1 : (k : Int) < (l.length : Int) := by omega
    have hw := wrap_one k (by have := HL.out; omega)
    have hM : ((l.length : Int) - ((k + 1 : Nat) : Int)).toNat < ((l.length : Int) - (k : Int)).toNat := by omega
    clear hlt2 hrd
    go_wp2_with (at_builtin; go_loud (refine print_append_cells (w0 := w6) w6.heap.size rfl _ _ 22 3 (.int .i64 0) 1 8 rfl Try.underlying22 info3 rfl (by decide) (by decide) (.slice A10 (evs (l.take k)).length c10) (evs (l.take k)).length (icells (evs (l.take k))) [.int .i64 x.f1] rfl (by simp [Act.eval]) rfl (by intro u hu; simp at hu; subst hu; rfl) ?_ ?_ ?_ ?_ ?_))
    ·
     exact HO.out.alloc _
    ·
     exact below_alloc HB.out _
    ·
     have := HB.out.size; simp; omega
    ·
     omega
    ·
     intro v1 w9 hown hB2 hgr hat
     have HO5 := Aside0.mk hown
     have HB5 := Aside0.mk hB2
     clear hown hB2 hgr hat
     go_wp2_with fail
     rw [hw]
     exact ⟨⟨k + 1, hlt, rfl, ⟨by rw [HT.out]; simp only [icells, List.map_append, List.length_append, List.length_singleton]; exact HO5.out⟩, HB5⟩, hM⟩
theorem vec_cat0 (c : ByteArray) (kind : Int) (hk : sizeT kind ≠ 0) : c ++ numOf 2 8192 ++ numOf ((sizeT kind : Nat) : Int) 0 ++ numOf 4 0 ++ strOfNums (pk 6 3 []) = c ++ strOfNums (vecL kind true []) := by
 rw [num_sz kind _ hk, num_2, num_4, cat_]; rfl
theorem vector_none (B g : Nat) (w0 W : World) (c : ByteArray) (n : Nat) (h : Aside0 (WS B w0 W W g c n)) (kind : Int) (hk : sizeT kind ≠ 0) (A : Option Addr) (cap : Nat) (hn : n ≤ 10000000) :
  Calls Try.prog 44 #[.pointer (some ⟨g, 0, none⟩), .int .i64 kind, .bool true, .slice A 0 cap] W fun e w' => e = .returned (.tuple #[]) ∧ Aside0 (WS B w0 W w' g (c ++ strOfNums (vecL kind true [])) (n + 1000)) := by
 have hor : Go.bits .or .i64 0 8192 = 8192 := by decide +kernel
 go_enter Try.func44, Try.ntmps44
 go_wp2_with fail
 go_at_call 22
 refine (Wr.put_ws _ _ h (by omega)).mono ?_
 rintro e w1 ⟨rfl, h1⟩
 clear h
 go_wp2_with fail
 have hbox : (w1.alloc (.cells #[.int .i64 0, .int .i64 0, .int .i64 0, .int .i64 0] 43)).heap[w1.heap.size]? = some (.cells #[.int .i64 0, .int .i64 0, .int .i64 0, .int .i64 0] 43 (0, 0)) := by simpa using heap_alloc_new w1 (.cells #[.int .i64 0, .int .i64 0, .int .i64 0, .int .i64 0] 43)
 have hbw : Below w1.heap.size w1 (w1.alloc (.cells #[.int .i64 0, .int .i64 0, .int .i64 0, .int .i64 0] 43)) := below_alloc (Below.refl _ _) _
 generalize w1.alloc (.cells #[.int .i64 0, .int .i64 0, .int .i64 0, .int .i64 0] 43) = W2 at hbox hbw ⊢
 have h2 := WS.belowW h1 hbw
 have h2r := WS.rebase h2
 have HBx := Aside0.mk hbox
 have hne2 : w1.heap.size ≠ g := by have := (WS.base h1).2; omega
 have HNe := Aside0.mk hne2
 have y1 : W2.cell? ⟨w1.heap.size, 1, none⟩ = some (.int .i64 0) := (blk_cell hbox 1).trans rfl
 clear hbox hbw hne2
 generalize w1.heap.size = b1 at HBx HNe y1 ⊢
 clear h1
 go_region_held3 (fun w' => w'.cell? ⟨b1, 1, none⟩ = some (.int .i64 0)) (first | go_keep | exact y1 | exact (blk_cell (Wr.WS.blk h3 HBx.out HNe.out (by decide)) 1).trans rfl) (first | (go_at_call 26; refine (mrpdu_size.calls _ _ _ (size_eq kind)).mono ?_; rintro e w5 ⟨rfl, ⟨⟨nd, hnd⟩⟩⟩; subst hnd) | (go_at_call 22; refine (Wr.put_ws _ _ (WS.belowW h2r (by repeat (first | exact Below.refl _ _ | apply pw_below_drewN | apply below_drew1))) (by omega)).mono ?_; rintro e w5 ⟨rfl, h3⟩))
 have hb3 := Wr.WS.blk h3 HBx.out HNe.out (by decide)
 have y3 : w5.cell? ⟨b1, 3, none⟩ = some (.int .i64 0) := (blk_cell hb3 3).trans rfl
 have h5 := WS.rebase h3
 have h5j := WS.join h2 h3
 clear h2 h2r h3 HBx HNe hb3 y1
 go_wp2_with fail
 go_at_call 22
 refine (Wr.put_ws _ _ h5 (by omega)).mono ?_
 rintro e w6 ⟨rfl, h6⟩
 have h6j := WS.join h5j h6
 clear h5 h5j h6 y3
 go_wp2_with fail
 go_loopw [10, 42] (fun v10 v42 wr => v10 = .slice none 0 0 ∧ v42 = .int .i64 0 ∧ w6 = wr) (fun _ _ _ => 0)
 case atStart => exact ⟨rfl, rfl, rfl⟩
 case round =>
  obtain ⟨rfl, rfl, rfl⟩ := hrel
  have hth := threes_ev [] (by simp)
  rw [if_pos (by decide)] at hth
  obtain ⟨kk, hkk⟩ := hth.rounds
  have HK := Aside0.mk hkk
  clear hth hkk
  go_wp2_with fail
  go_at_call 53
  refine (pack_Threes.calls kk none 0 [] _ _ _ (Kd.C_nil _ _) (Nat.le_refl _) HK.out).mono ?_
  rintro e w7 ⟨rfl, hb7⟩
  have h7 := WS.belowW h6j hb7
  clear hb7 h6j
  go_wp2_with fail
  go_at_call 54
  refine (Wr.raw_ws _ 300 h7 (by decide) (by omega)).mono ?_
  rintro e w8 ⟨rfl, h8⟩
  clear h7
  go_wp2_with fail
  go_end0
  refine ⟨rfl, ?_⟩
  have h9 := WS.more h8 (show n + 8 + 8 + 8 + 300 ≤ n + 1000 by omega)
  rw [← vec_cat0 c kind hk]
  exact h9
def vecsD (kind : Int) (more : Bool) (rows : List (List S43)) : List Int := match rows with
 | [] => []
 | r :: rs => vecL kind more r ++ restL kind rs
theorem vecsD_snoc (kind : Int) (more : Bool) (d : List (List S43)) (r : List S43) : vecsD kind more (d ++ [r]) = vecsD kind more d ++ vecL kind (more && decide (d = [])) r := by
 cases d with
 | nil => simp [vecsD, restL]
 | cons x d => simp [vecsD, restL]
theorem vecsD_of {kind : Int} {more : Bool} {rows : List (List S43)} (h : rows ≠ []) : vecsOf kind more rows = vecsD kind more rows := by
 cases rows with
 | nil => exact absurd rfl h
 | cons r rs => rfl
/-- At f a new row begins. -/
def Edge (l : List S43) (f : Nat) (done : List (List S43)) : Prop := done = [] ∨ ∃ d c, done = d ++ [c] ∧ (f < l.length → joins c (l.getD f z43) = false)
theorem edge_new {l : List S43} {f : Nat} {done : List (List S43)} (hf : f < l.length) (hr : rowsOf (l.take f) = done) (he : Edge l f done) : rowsOf (l.take (f + 1)) = done ++ [(l.take (f + 1)).drop f] := by
 have e1 : (l.take (f + 1)).drop f = [l.getD f z43] := by
  rw [List.take_succ_eq_append_getElem hf, getD_in _ _ _ hf, List.drop_append_of_le_length (by rw [List.length_take]; omega), List.drop_eq_nil_of_le (by rw [List.length_take]; omega)]; rfl
 rw [e1, List.take_succ_eq_append_getElem hf, rowsOf_snoc, hr, ← getD_in l f z43 hf]
 rcases he with rfl | ⟨d, c, rfl, hj⟩
 ·
  rfl
 ·
  rw [addRow_snoc, if_neg (by rw [hj hf]; decide)]
theorem cut_snoc {l : List S43} {f t : Nat} (hft : f ≤ t) (ht : t < l.length) : (l.take (t + 1)).drop f = (l.take t).drop f ++ [l.getD t z43] := by
 rw [List.take_succ_eq_append_getElem ht, getD_in _ _ _ ht, List.drop_append_of_le_length (by rw [List.length_take]; omega)]
theorem edge_join {l : List S43} {f t : Nat} {done : List (List S43)} (hft : f ≤ t) (ht : t < l.length) (hr : rowsOf (l.take t) = done ++ [(l.take t).drop f]) (hj : joins ((l.take t).drop f) (l.getD t z43) = true) : rowsOf (l.take (t + 1)) = done ++ [(l.take (t + 1)).drop f] := by
 rw [cut_snoc hft ht, List.take_succ_eq_append_getElem ht, rowsOf_snoc, hr, addRow_snoc, ← getD_in l t z43 ht, if_pos hj]
theorem cut_last {l : List S43} {f t : Nat} (hft : f < t) (ht : t ≤ l.length) : lastOf ((l.take t).drop f) = l.getD (t - 1) z43 ∧ (l.take t).drop f ≠ [] := by
 obtain ⟨u, rfl⟩ : ∃ u, t = u + 1 := ⟨t - 1, by omega⟩
 rw [cut_snoc (by omega) (by omega)]
 refine ⟨?_, by simp⟩
 unfold lastOf
 simp [List.getLastD_eq_getLast?]
theorem row_last {kind : Int} {c : List S43} (h : RowP kind c) (hc : c ≠ []) : (lastOf c).f0.f0 = kind ∧ (lastOf c).f2 = hb c := by
 rcases List.eq_nil_or_concat c with rfl | ⟨d, y, hd⟩
 ·
  exact absurd rfl hc
 ·
  rw [List.concat_eq_append] at hd
  have he : evs c = evs d ++ [y.f1] := by rw [hd, evs_app]
  have hl : lastOf c = ⟨⟨kind, hv c + (evs d).length⟩, y.f1, hb c⟩ := by
   conv => lhs; rw [← h.eq]
   rw [he, mkW_last]
  rw [hl]; exact ⟨rfl, rfl⟩
theorem follow_eq {kind : Int} {c : List S43} {x y : S43} (h : RowP kind c) (hc : c ≠ []) (hy : y = lastOf c) (hl : c.length < 200) (hwy : WordP y) (hx : x.f0.f0 = kind) : mrpdu_follows.f y.f0.f0 y.f0.f1 y.f1 y.f2 x.f0.f0 x.f0.f1 x.f1 x.f2 = some (joins c x) := by
 subst hy
 obtain ⟨h1, h2⟩ := row_last h hc
 have hv1 := hwy.v1
 have hv0 := hwy.v0
 have hb256 : (256 : Int) ^ sizeT (lastOf c).f0.f0 ≤ 256 ^ 7 := by
  obtain e | e | e := hwy.kind <;> rw [e] <;> decide +kernel
 have h7 : (256 : Int) ^ 7 = 72057594037927936 := by decide +kernel
 have hw : wrap64 ((lastOf c).f0.f1 + 1) = (lastOf c).f0.f1 + 1 := wrap_id (by omega) (by omega)
 unfold mrpdu_follows.f joins
 rw [h1, hx, if_pos rfl, hw, decide_eq_true hl, Bool.true_and, h2]
 by_cases e : (lastOf c).f0.f1 + 1 = x.f0.f1
 ·
  rw [if_pos e, beq_iff_eq.2 e, Bool.true_and]
 ·
  rw [if_neg e, beq_eq_false_iff_ne.2 e, Bool.false_and]
theorem joins_full {c : List S43} (h : 200 ≤ c.length) (x : S43) : joins c x = false := by unfold joins; rw [decide_eq_false (by omega), Bool.false_and]
theorem AwayA.map {B g : Nat} {W : World} {A : Option Addr} {n m : Nat} (h : AwayA B g W A n) (hn : 0 < n) (k : Nat) : AwayA B g W (A.map (·.add k)) m := by
 intro ad e _
 cases A with
 | none => cases e
 | some a =>
  injection e with e
  subst e
  rw [add_block]
  exact h a rfl hn
theorem loop_lt (n k : Nat) (h : k < n) : ((n : Int) - ((k + 1 : Nat) : Int)).toNat < ((n : Int) - (k : Int)).toNat := by omega
theorem part_some (B g : Nat) (w0 W : World) (c : ByteArray) (n : Nat) (h : Aside0 (WS B w0 W W g c n)) (kind : Int) (hk : kind = 1 ∨ kind = 2 ∨ kind = 3) (more : Bool) (A : Option Addr) (cap : Nat) (l : List S43) (hC : k43.C W A l.length l) (hA : AwayA B g W A l.length)
  (hne : 0 < l.length) (hl : l.length ≤ 2000) (hcap : l.length ≤ cap) (hw : ∀ x ∈ l, x.f0.f0 = kind ∧ WordP x) (hn : n ≤ 7000000) :
  Calls Try.prog 24 #[.pointer (some ⟨g, 0, none⟩), .int .i64 kind, .bool more, .slice A l.length cap] W fun e w' => e = .returned (.tuple #[]) ∧ Aside0 (WS B w0 W w' g (c ++ strOfNums (putBytes kind 1 ++ putBytes (sizeT kind) 1 ++ vecsOf kind more (rowsOf l) ++ [0, 0])) (n + 24 + 1000 * (l.length + 1))) := by
 have HC := Aside0.mk hC
 have HA := Aside0.mk hA
 have HL := Aside0.mk hl
 have HCap := Aside0.mk hcap
 have HW := Aside0.mk hw
 have hks := (size_kind kind).2 hk
 clear hC hA hl hcap hw
 go_enter Try.func24, Try.ntmps24
 go_wp2_with fail
 go_at_call 22
 refine (Wr.put_ws _ _ h (by omega)).mono ?_
 rintro e w1 ⟨rfl, h1⟩
 clear h
 go_wp2_with fail
 go_at_call 26
 refine (mrpdu_size.calls _ _ _ (size_eq kind)).mono ?_
 rintro e w5 ⟨rfl, ⟨⟨nd, hnd⟩⟩⟩
 subst hnd
 have h1 := WS.belowW h1 (show Below w1.heap.size w1 (w1.drewN nd) from pw_below_drewN (Below.refl _ _) _)
 generalize w1.drewN nd = w1 at h1 ⊢
 go_wp2_with fail
 go_at_call 22
 refine (Wr.put_ws _ _ h1 (by omega)).mono ?_
 rintro e w2 ⟨rfl, h2⟩
 have HC2 := Aside0.mk (HA.out.c43 h2.out.keep HC.out)
 have HA2 := Aside0.mk (HA.out.step h2.out.keep)
 have e2 : c ++ numOf 1 kind ++ numOf 1 ((sizeT kind : Nat) : Int) = c ++ strOfNums (putBytes kind 1 ++ putBytes (sizeT kind) 1) := by
  rw [num_1, num_1, ByteArray.append_assoc, str_append]
 rw [e2] at h2
 obtain ⟨c2, hc2⟩ : ∃ c2, c ++ strOfNums (putBytes kind 1 ++ putBytes (sizeT kind) 1) = c2 := ⟨_, rfl⟩
 rw [hc2] at h2
 have HC2e := Aside0.mk hc2
 clear hc2
 clear h1 e2
 go_wp2_with fail
 go_loopw [2, 8] (fun v2 v8 wr => ∃ (f : Nat) (done : List (List S43)), f ≤ l.length ∧ v8 = .int .i64 f ∧ v2 = .bool (more && decide (done = [])) ∧ Aside0 (rowsOf (l.take f) = done) ∧ Aside0 (Edge l f done) ∧ Aside0 (WS B w0 W wr g (c2 ++ strOfNums (vecsD kind more done)) (n + 16 + 1000 * f))) (fun _ v8 _ => (match v8 with | .int _ n => (l.length - n).toNat | _ => 0))
 case atStart => exact ⟨0, [], Nat.zero_le _, rfl, by simp, ⟨rfl⟩, ⟨.inl rfl⟩, by rw [show c2 ++ strOfNums (vecsD kind more []) = c2 from by apply ByteArray.ext; simp [vecsD, strOfNums]]; exact WS.more h2 (by omega)⟩
 case round =>
  rename World => wo
  obtain ⟨f, done, hf, rfl, rfl, HR, HE, HS⟩ := hrel
  have HK3 := Aside0.mk HS.out.keep
  have HC3 := Aside0.mk (HA.out.c43 HS.out.keep HC.out)
  have HA3 := Aside0.mk (HA.out.step HS.out.keep)
  by_cases hfl : f = l.length
  ·
   subst hfl
   have hdn : done ≠ [] := fun e => by
    have := (rows_ok HW.out).2
    rw [List.take_length] at HR
    rw [HR.out, e] at this
    rw [← this] at hne
    exact absurd hne (by simp)
   have hd0 : decide (done = []) = false := decide_eq_false hdn
   have d1 : decide ((l.length : Int) < (l.length : Int)) = false := decide_eq_false (by omega)
   have hfin : c2 ++ strOfNums (vecsD kind more done) ++ numOf 2 0 = c ++ strOfNums (putBytes kind 1 ++ putBytes (sizeT kind) 1 ++ vecsOf kind more (rowsOf l) ++ [0, 0]) := by
    have hz : numOf 2 0 = strOfNums [0, 0] := by rw [num_2]; congr 1
    rw [List.take_length] at HR
    rw [HR.out, vecsD_of hdn, hz, ← HC2e.out, ByteArray.append_assoc, ByteArray.append_assoc, str_append, str_append]
    simp
   have HFin := Aside0.mk hfin
   have HD0 := Aside0.mk hdn
   clear hfin hdn
   go_wp2_with fail
   go_at_call 22
   refine (Wr.put_ws _ _ HS (by have := HL.out; omega)).mono ?_
   rintro e w7 ⟨rfl, h7⟩
   go_wp2_with fail
   go_end0
   rw [HFin.out] at h7
   exact ⟨rfl, WS.more h7 (by omega)⟩
  ·
   have hflt : f < l.length := by omega
   have d1 : decide ((f : Int) < (l.length : Int)) = true := decide_eq_true (by omega)
   go_wp2_with fail
   go_loopw [9] (fun v9 wr => ∃ t : Nat, f ≤ t ∧ t ≤ l.length ∧ t - f ≤ 200 ∧ v9 = .int .i64 t ∧ Aside0 (t = f ∨ (f < t ∧ rowsOf (l.take t) = done ++ [(l.take t).drop f])) ∧ Aside0 (Below wo.heap.size wo wr)) (fun v9 _ => (match v9 with | .int _ n => (l.length - n).toNat | _ => 0))
   case atStart => exact ⟨f, Nat.le_refl _, hf, by omega, rfl, ⟨.inl rfl⟩, ⟨Below.refl _ _⟩⟩
   case round =>
    rename World => wr
    obtain ⟨t, hft, ht, h200, rfl, HT, HB⟩ := hrel
    by_cases c1 : t = f
    ·
     subst c1
     have d2 : decide ((t : Int) < (l.length : Int)) = true := decide_eq_true (by omega)
     have d3 : wrap64 ((t : Int) - (t : Int)) = 0 := by rw [Int.sub_self]; decide +kernel
     have d3' : IntKind.i64.wrap ((t : Int) - (t : Int)) = 0 := by rw [Int.sub_self]; decide +kernel
     have hw1 := wrap_one t (by have := HL.out; omega)
     have hM : ((l.length : Int) - ((t + 1 : Nat) : Int)).toNat < ((l.length : Int) - (t : Int)).toNat := by omega
     go_wp2_with fail
     go_quiet (fail)
     go_wp2_with fail
     rw [hw1]
     exact ⟨⟨t + 1, by omega, by omega, by omega, rfl, ⟨.inr ⟨by omega, edge_new hflt HR.out HE.out⟩⟩, ⟨pw_below_drewN HB.out _⟩⟩, hM⟩
    ·
     have hlt : f < t := by omega
     have HT2 := Aside0.mk (HT.out.resolve_left c1).2
     have hz1 : 0 ≤ (f : Int) := by omega
     have hz2 : (f : Int) ≤ (t : Int) := by omega
     have hz3 : (t : Int) ≤ (cap : Int) := by have := HCap.out; omega
     by_cases hte : t = l.length
     ·
      have d2 : decide ((t : Int) < (l.length : Int)) = false := decide_eq_false (by omega)
      have d2n : decide (t < l.length) = false := decide_eq_false (by omega)
      have HTe := Aside0.mk hte
      clear hte c1 hfl
      go_wp2_with fail
      go_quiet (fail)
      have HB2 := Aside0.mk (pw_below_drewN HB.out nq)
      generalize wr.drewN nq = wr2 at HB2 ⊢
      go_wp2_with fail
      go_at_call 44
      have hcut := cut_last (l := l) (f := f) (t := t) (by omega) ht
      have hEdge : Edge l t (done ++ [(l.take t).drop f]) := .inr ⟨done, _, rfl, fun hc => by have := HTe.out; omega⟩
      have hlen : ((l.take t).drop f).length = t - f := by rw [List.length_drop, List.length_take]; omega
      have hcm := Kd.C_mid (lo := f) (hi := t) (c := cap) (HA3.out.c43 (KeepW.of_below HB2.out) HC3.out) (by omega) ht HCap.out
      rw [if_neg (by have := HCap.out; omega)] at hcm
      have hF : Fit 6 (evs ((l.take t).drop f)) := fun e he => by
       obtain ⟨x, hx, rfl⟩ := List.mem_map.1 he
       have hwx := (HW.out x (List.mem_of_mem_take (List.mem_of_mem_drop hx))).2
       have := hwx.e0; have := hwx.e1; omega
      have hv := vector_some B g w0 _ _ _ (WS.rebase (WS.belowW HS HB2.out)) kind hks (more && decide (done = [])) (A.map (·.add (f * 4))) (cap - f) ((l.take t).drop f) hcm (AwayA.map (HA3.out.step (KeepW.of_below HB2.out)) hne _) (by omega) (by omega) (by have := HCap.out; omega) hF (by have := HL.out; omega)
      rw [hlen] at hv
      refine hv.mono ?_
      rintro e w7 ⟨rfl, h7⟩
      have hS7 := WS.join (WS.belowW HS HB2.out) h7
      clear hv h7 hcm
      go_wp2_with fail
      refine ⟨⟨t, done ++ [(l.take t).drop f], ht, rfl, by simp, HT2, ⟨hEdge⟩, ?_⟩, by simp only; omega⟩
      rw [vecsD_snoc, ← str_append, ← ByteArray.append_assoc]
      exact WS.more hS7 (by omega)
     ·
      have hlt2 : t < l.length := by omega
      have d2 : decide ((t : Int) < (l.length : Int)) = true := decide_eq_true (by omega)
      have d2n : decide (t < l.length) = true := decide_eq_true (by omega)
      have hs1 : wrap64 ((t : Int) - (f : Int)) = (t : Int) - (f : Int) := wrap_id (by omega) (by have := HL.out; omega)
      have hs2 : IntKind.i64.wrap ((t : Int) - (f : Int)) = (t : Int) - (f : Int) := by have := HL.out; rw [IntKind.wrap_i64]; omega
      have e1 : ((t : Int) == (f : Int)) = false := beq_eq_false_iff_ne.2 (by omega)
      have e2 : (t == f) = false := beq_eq_false_iff_ne.2 (by omega)
      by_cases h2h : t - f = 200
      ·
       have d4 : decide ((t : Int) - (f : Int) < 200) = false := decide_eq_false (by omega)
       have HTe := Aside0.mk h2h
       clear hte c1 hfl h2h
       go_wp2_with fail
       go_quiet (fail)
       have HB2 := Aside0.mk (pw_below_drewN HB.out nq)
       generalize wr.drewN nq = wr2 at HB2 ⊢
       go_wp2_with fail
       go_at_call 44
       have hcut := cut_last (l := l) (f := f) (t := t) (by omega) ht
       have hEdge : Edge l t (done ++ [(l.take t).drop f]) := .inr ⟨done, _, rfl, fun hc => joins_full (by rw [List.length_drop, List.length_take]; have := HTe.out; omega) _⟩
       have hlen : ((l.take t).drop f).length = t - f := by rw [List.length_drop, List.length_take]; omega
       have hcm := Kd.C_mid (lo := f) (hi := t) (c := cap) (HA3.out.c43 (KeepW.of_below HB2.out) HC3.out) (by omega) ht HCap.out
       rw [if_neg (by have := HCap.out; omega)] at hcm
       have hF : Fit 6 (evs ((l.take t).drop f)) := fun e he => by
        obtain ⟨x, hx, rfl⟩ := List.mem_map.1 he
        have hwx := (HW.out x (List.mem_of_mem_take (List.mem_of_mem_drop hx))).2
        have := hwx.e0; have := hwx.e1; omega
       have hv := vector_some B g w0 _ _ _ (WS.rebase (WS.belowW HS HB2.out)) kind hks (more && decide (done = [])) (A.map (·.add (f * 4))) (cap - f) ((l.take t).drop f) hcm (AwayA.map (HA3.out.step (KeepW.of_below HB2.out)) hne _) (by omega) (by omega) (by have := HCap.out; omega) hF (by have := HL.out; omega)
       rw [hlen] at hv
       refine hv.mono ?_
       rintro e w7 ⟨rfl, h7⟩
       have hS7 := WS.join (WS.belowW HS HB2.out) h7
       clear hv h7 hcm
       go_wp2_with fail
       refine ⟨⟨t, done ++ [(l.take t).drop f], ht, rfl, by simp, HT2, ⟨hEdge⟩, ?_⟩, by simp only; omega⟩
       rw [vecsD_snoc, ← str_append, ← ByteArray.append_assoc]
       exact WS.more hS7 (by omega)
      ·
       have d4 : decide ((t : Int) - (f : Int) < 200) = true := decide_eq_true (by omega)
       have hlt3 : t - f < 200 := by omega
       obtain ⟨u, hu⟩ : ∃ u, u + 1 = t := ⟨t - 1, by omega⟩
       have HU := Aside0.mk hu
       have hp1 : wrap64 ((t : Int) - 1) = (t : Int) - 1 := wrap_id (by omega) (by have := HL.out; omega)
       have hp2 : IntKind.i64.wrap ((t : Int) - 1) = (t : Int) - 1 := by have := HL.out; rw [IntKind.wrap_i64]; omega
       have hp3 : ((t : Int) - 1).toNat = u := by omega
       have hp4 : (0 : Int) ≤ (t : Int) - 1 := by omega
       have hp5 : (t : Int) - 1 < (l.length : Int) := by omega
       have hp6 : (1 : Int) ≤ (t : Int) := by omega
       have hp7 : 1 ≤ t := by omega
       have hp8 : 0 < t := by omega
       have hp9 : (t : Int) ≤ (l.length : Int) := by omega
       have hp10 : (0 : Int) < (t : Int) := by omega
       have hC4 := HA3.out.c43 (KeepW.of_below HB.out) HC3.out
       obtain ⟨ad, e, hx0, hx1, hx2, hx3⟩ := at_T43 hC4 (u : Int) (by omega) (by omega)
       cases e
       obtain ⟨ad', e, hy0, hy1, hy2, hy3⟩ := at_T43 hC4 (t : Int) (by omega) (by omega)
       injection e with e
       subst e
       rw [Int.toNat_natCast, rdT_nat] at hx0 hx1 hx2 hx3 hy0 hy1 hy2 hy3
       have z0 : (0 : Int) ≤ (t : Int) := by omega
       have z1 : (t : Int) < (l.length : Int) := by omega
       have z2 : (0 : Int) ≤ (u : Int) := by omega
       have z3 : (u : Int) < (l.length : Int) := by omega
       have hcutl := cut_last (l := l) (f := f) (t := t) hlt ht
       have hrow : RowP kind ((l.take t).drop f) := ((rows_all l HW.out t ht).1 _ (by rw [HT2.out]; simp)).2
       have hlen : ((l.take t).drop f).length = t - f := by rw [List.length_drop, List.length_take]; omega
       have hfo := follow_eq (x := l.getD t z43) (y := l.getD u z43) hrow hcutl.2 (by rw [hcutl.1, ← hu]; rfl) (by omega) (by rw [getD_in _ _ _ (by omega)]; exact (HW.out _ (List.getElem_mem _)).2) (by rw [getD_in _ _ _ (by omega)]; exact (HW.out _ (List.getElem_mem _)).1)
       have HFo := Aside0.mk hfo
       have hw1 := wrap_one t (by have := HL.out; omega)
       have hM := loop_lt l.length t hlt2
       clear hfo hrow hcutl hlen hu hC4
       obtain ⟨jb, hjb⟩ : ∃ jb, joins ((l.take t).drop f) (l.getD t z43) = jb := ⟨_, rfl⟩
       have HJ := Aside0.mk hjb
       rw [hjb] at HFo
       clear hjb
       have HNew := Aside0.mk (fun h : jb = true => edge_join hft hlt2 HT2.out (HJ.out.trans h))
       have HEd := Aside0.mk (fun h : jb = false => (HJ.out.trans h))
       clear HJ
       generalize l.getD u z43 = xu at HFo hx0 hx1 hx2 hx3
       generalize hxt : l.getD t z43 = xt at HFo hy0 hy1 hy2 hy3 HEd
       have HXt := Aside0.mk hxt
       clear hte c1 hfl h2h hxt
       go_wp2_with fail
       go_region_held3 (fun w' => w'.cell? (ad.add (u * 4)) = some (.int .i64 xu.f0.f0) ∧ w'.cell? ⟨(ad.add (u * 4)).block, (ad.add (u * 4)).off + 1, none⟩ = some (.int .i64 xu.f0.f1) ∧ w'.cell? ⟨(ad.add (u * 4)).block, (ad.add (u * 4)).off + 2, none⟩ = some (.int .i64 xu.f1) ∧ w'.cell? ⟨(ad.add (u * 4)).block, (ad.add (u * 4)).off + 3, none⟩ = some (.int .i64 xu.f2) ∧ w'.cell? (ad.add (t * 4)) = some (.int .i64 xt.f0.f0) ∧ w'.cell? ⟨(ad.add (t * 4)).block, (ad.add (t * 4)).off + 1, none⟩ = some (.int .i64 xt.f0.f1) ∧ w'.cell? ⟨(ad.add (t * 4)).block, (ad.add (t * 4)).off + 2, none⟩ = some (.int .i64 xt.f1) ∧ w'.cell? ⟨(ad.add (t * 4)).block, (ad.add (t * 4)).off + 3, none⟩ = some (.int .i64 xt.f2))
        (first | go_keep | exact ⟨hx0, hx1, hx2, hx3, hy0, hy1, hy2, hy3⟩ | exact ⟨(hb5.cell (World.block_lt_of_cell? wr _ hx0)).trans hx0, (hb5.cell (World.block_lt_of_cell? wr _ hx1)).trans hx1, (hb5.cell (World.block_lt_of_cell? wr _ hx2)).trans hx2, (hb5.cell (World.block_lt_of_cell? wr _ hx3)).trans hx3, (hb5.cell (World.block_lt_of_cell? wr _ hy0)).trans hy0, (hb5.cell (World.block_lt_of_cell? wr _ hy1)).trans hy1, (hb5.cell (World.block_lt_of_cell? wr _ hy2)).trans hy2, (hb5.cell (World.block_lt_of_cell? wr _ hy3)).trans hy3⟩) (first | (go_at_call 43; refine (mrpdu_follows.calls _ _ _ _ _ _ _ _ _ _ HFo.out).mono ?_; rintro e w5 ⟨rfl, hb5⟩))
       have HB5 := Aside0.mk ((pw_below_drewN HB.out _).trans (hb5.mono HB.out.size))
       clear hb5 hx0 hx1 hx2 hx3 hy0 hy1 hy2 hy3 hp1 hp2 hp3 hp4 hp5 hp6 hp7 hp8 hp9 hp10
       cases jb
       ·
        go_wp2_with fail
        go_at_call 44
        have hcut := cut_last (l := l) (f := f) (t := t) (by omega) ht
        have hEdge : Edge l t (done ++ [(l.take t).drop f]) := .inr ⟨done, _, rfl, fun hc => by rw [HXt.out]; first | exact HEd.out rfl | exact HEd.out trivial⟩
        have hlen : ((l.take t).drop f).length = t - f := by rw [List.length_drop, List.length_take]; omega
        have hcm := Kd.C_mid (lo := f) (hi := t) (c := cap) (HA3.out.c43 (KeepW.of_below HB5.out) HC3.out) (by omega) ht HCap.out
        rw [if_neg (by have := HCap.out; omega)] at hcm
        replace hcm : k43.C _ (some (ad.add (f * 4))) _ _ := hcm
        have hF : Fit 6 (evs ((l.take t).drop f)) := fun e he => by
         obtain ⟨x, hx, rfl⟩ := List.mem_map.1 he
         have hwx := (HW.out x (List.mem_of_mem_take (List.mem_of_mem_drop hx))).2
         have := hwx.e0; have := hwx.e1; omega
        have hv := vector_some B g w0 _ _ _ (WS.rebase (WS.belowW HS HB5.out)) kind hks (more && decide (done = [])) (some (ad.add (f * 4))) (cap - f) ((l.take t).drop f) hcm (AwayA.map (A := some ad) (HA3.out.step (KeepW.of_below HB5.out)) hne _) (by omega) (by omega) (by have := HCap.out; omega) hF (by have := HL.out; omega)
        rw [hlen] at hv
        refine hv.mono ?_
        rintro e w7 ⟨rfl, h7⟩
        have hS7 := WS.join (WS.belowW HS HB5.out) h7
        clear hv h7 hcm
        go_wp2_with fail
        refine ⟨⟨t, done ++ [(l.take t).drop f], ht, rfl, by simp, HT2, ⟨hEdge⟩, ?_⟩, by simp only; omega⟩
        rw [vecsD_snoc, ← str_append, ← ByteArray.append_assoc]
        exact WS.more hS7 (by omega)
       ·
        go_wp2_with fail
        rw [hw1]
        exact ⟨⟨t + 1, by omega, by omega, by omega, rfl, ⟨.inr ⟨by omega, by first | exact HNew.out rfl | exact HNew.out trivial⟩⟩, HB5⟩, hM⟩
theorem part_none (B g : Nat) (w0 W : World) (c : ByteArray) (n : Nat) (h : Aside0 (WS B w0 W W g c n)) (kind : Int) (hk : kind = 1 ∨ kind = 2 ∨ kind = 3) (hn : n ≤ 7000000) :
  Calls Try.prog 24 #[.pointer (some ⟨g, 0, none⟩), .int .i64 kind, .bool true, .slice none 0 0] W fun e w' => e = .returned (.tuple #[]) ∧ Aside0 (WS B w0 W w' g (c ++ strOfNums (putBytes kind 1 ++ putBytes (sizeT kind) 1 ++ vecsOf kind true (rowsOf []) ++ [0, 0])) (n + 24 + 1000 * (0 + 1))) := by
 have hks := (size_kind kind).2 hk
 go_enter Try.func24, Try.ntmps24
 go_wp2_with fail
 go_at_call 22
 refine (Wr.put_ws _ _ h (by omega)).mono ?_
 rintro e w1 ⟨rfl, h1⟩
 clear h
 go_wp2_with fail
 go_at_call 26
 refine (mrpdu_size.calls _ _ _ (size_eq kind)).mono ?_
 rintro e w5 ⟨rfl, ⟨⟨nd, hnd⟩⟩⟩
 subst hnd
 have h1 := WS.belowW h1 (show Below w1.heap.size w1 (w1.drewN nd) from pw_below_drewN (Below.refl _ _) _)
 generalize w1.drewN nd = w1 at h1 ⊢
 go_wp2_with fail
 go_at_call 22
 refine (Wr.put_ws _ _ h1 (by omega)).mono ?_
 rintro e w2 ⟨rfl, h2⟩
 have e2 : c ++ numOf 1 kind ++ numOf 1 ((sizeT kind : Nat) : Int) = c ++ strOfNums (putBytes kind 1 ++ putBytes (sizeT kind) 1) := by
  rw [num_1, num_1, ByteArray.append_assoc, str_append]
 rw [e2] at h2
 obtain ⟨c2, hc2⟩ : ∃ c2, c ++ strOfNums (putBytes kind 1 ++ putBytes (sizeT kind) 1) = c2 := ⟨_, rfl⟩
 rw [hc2] at h2
 have HC2e := Aside0.mk hc2
 clear hc2
 clear h1 e2
 go_wp2_with fail
 go_loopw [2, 8] (fun v2 v8 wr => ∃ a : Bool, v8 = .int .i64 0 ∧ v2 = .bool a ∧ Aside0 (WS B w0 W wr g (if a = true then c2 else c2 ++ strOfNums (vecL kind true [])) (n + 16 + (if a = true then 0 else 1000)))) (fun v2 _ _ => (match v2 with | .bool true => 1 | _ => 0))
 case atStart => exact ⟨true, rfl, rfl, by rw [if_pos rfl, if_pos rfl]; exact WS.more h2 (by omega)⟩
 case round =>
  rename World => wo
  obtain ⟨a, rfl, rfl, HS⟩ := hrel
  cases a
  ·
   rw [if_neg (by decide), if_neg (by decide)] at HS
   have hfin : c2 ++ strOfNums (vecL kind true []) ++ numOf 2 0 = c ++ strOfNums (putBytes kind 1 ++ putBytes (sizeT kind) 1 ++ vecsOf kind true (rowsOf []) ++ [0, 0]) := by
    have hz : numOf 2 0 = strOfNums [0, 0] := by rw [num_2]; congr 1
    rw [hz, ← HC2e.out, ByteArray.append_assoc, ByteArray.append_assoc, str_append, str_append]
    simp [vecsOf, rowsOf]
   have HFin := Aside0.mk hfin
   clear hfin
   go_wp2_with fail
   go_at_call 22
   refine (Wr.put_ws _ _ HS (by omega)).mono ?_
   rintro e w7 ⟨rfl, h7⟩
   go_wp2_with fail
   go_end0
   rw [HFin.out] at h7
   exact ⟨rfl, WS.more h7 (by omega)⟩
  ·
   rw [if_pos rfl, if_pos rfl] at HS
   go_wp2_with fail
   go_loopw [9] (fun v9 wr => v9 = .int .i64 0 ∧ Aside0 (Below wo.heap.size wo wr)) (fun _ _ => 0)
   case atStart => exact ⟨rfl, ⟨Below.refl _ _⟩⟩
   case round =>
    rename World => wr
    obtain ⟨rfl, HB⟩ := hrel
    go_wp2_with fail
    go_quiet (fail)
    have HB2 := Aside0.mk (pw_below_drewN HB.out nq)
    generalize wr.drewN nq = wr2 at HB2 ⊢
    go_wp2_with fail
    go_at_call 44
    refine (vector_none B g w0 _ _ _ (WS.rebase (WS.belowW HS HB2.out)) kind hks _ _ (by omega)).mono ?_
    rintro e w7 ⟨rfl, h7⟩
    have hS7 := WS.join (WS.belowW HS HB2.out) h7
    clear h7
    go_wp2_with fail
    exact ⟨⟨false, rfl, rfl, by rw [if_neg (by decide), if_neg (by decide)]; exact hS7⟩, by decide⟩
/-- What Bytes answers. -/
noncomputable def bytesR (all : List Int) (words : List S43) : ByteArray × Int :=
 if goodB all words = true then (if (bytesL all words).length ≤ 400 then (strOfNums (bytesL all words), 0) else ((⟨#[]⟩ : ByteArray), 3)) else ((⟨#[]⟩ : ByteArray), 1)
def bodyTo (all : List Int) (words : List S43) : Nat → List Int
 | 0 => []
 | i + 1 => bodyTo all words i ++ partOf all ((i : Int) + 1) words
theorem bodyTo_3 (all : List Int) (words : List S43) : bodyTo all words 3 = bodyOf all words := by
 simp [bodyTo, bodyOf]
theorem ofKind_take (kind : Int) (l : List S43) (k : Nat) (hk : k < l.length) : ofKind kind (l.take (k + 1)) = if (l.getD k z43).f0.f0 = kind then ofKind kind (l.take k) ++ [l.getD k z43] else ofKind kind (l.take k) := by
 unfold ofKind
 rw [List.take_succ_eq_append_getElem hk, List.filter_append, List.filter_cons, List.filter_nil, getD_in _ _ _ hk]
 by_cases h : (l[k]'hk).f0.f0 = kind
 ·
  rw [if_pos h, if_pos (by simpa using h)]
 ·
  rw [if_neg h, if_neg (by simpa using h), List.append_nil]
theorem ofKind_le (kind : Int) (l : List S43) : (ofKind kind l).length ≤ l.length := List.length_filter_le _ _
theorem away_own {W : World} {B' g n c : Nat} {A : Option Addr} {xs : List Value} (h : W.ownsRow B' 43 4 (.slice A n c) n xs) (hg : g < B') (B : Nat) : AwayA B g W A n := by
 intro ad e hn
 subst e
 rcases h.2 with ⟨h1, _⟩ | ⟨g2, cap, cur, h1, hb, hh, _⟩
 ·
  cases h1
 ·
  injection h1 with h1
  injection h1 with h1
  subst h1
  refine ⟨blk_lt hh, by show g2 ≠ g; omega, fun _ cs fr e => ?_⟩
  rw [hh] at e
  injection e with e
  injection e with _ e _
  exact absurd e (by decide)
theorem bytes_bad (w : World) (A0 : Option Addr) (c0 : Nat) (all : List Int) (A1 : Option Addr) (c1 : Nat) (words : List S43) (hr0 : (Kd.int .i64).C w A0 all.length all) (hc0 : all.length ≤ c0) (hr1 : k43.C w A1 words.length words) (hc1 : words.length ≤ c1) (ha : all.length ≤ 1000) (hw : words.length ≤ 2000) (hg : goodB all words = false) :
  Calls Try.prog 12 #[.agg #[.slice A0 all.length c0, .slice A1 words.length c1]] w fun e w' => e = .returned (.tuple #[.string (bytesR all words).1, .int .i64 (bytesR all words).2]) ∧ Below w.heap.size w w' := by
 obtain ⟨k, hk⟩ := (good_ev all words (by omega) (by omega)).rounds
 have hres : bytesR all words = ((⟨#[]⟩ : ByteArray), 1) := by unfold bytesR; rw [hg, if_neg (by decide)]
 rw [hg] at hk
 rw [hres]
 have HK := Aside0.mk hk
 have H0 := Aside0.mk hr0
 have H1 := Aside0.mk hr1
 have hu := Try.underlying25
 clear hk hr0 hr1 hres hg
 go_enter Try.func12, Try.ntmps12
 go_wp2_with fail
 go_at_call 13
 refine (mrpdu_Good.calls k A0 c0 all A1 c1 words false _ (Kd.C_alloc H0.out _) hc0 (Kd.C_alloc H1.out _) hc1 HK.out).mono ?_
 rintro e w1 ⟨rfl, hb⟩
 go_wp2
 go_ret2
 exact ⟨rfl, below_then (below_alloc (Below.refl _ _) _) (by simp) hb⟩
theorem bytes_good (w : World) (A0 : Option Addr) (c0 : Nat) (all : List Int) (A1 : Option Addr) (c1 : Nat) (words : List S43) (hr0 : (Kd.int .i64).C w A0 all.length all) (hc0 : all.length ≤ c0) (hr1 : k43.C w A1 words.length words) (hc1 : words.length ≤ c1) (ha : all.length ≤ 1000) (hw : words.length ≤ 2000) (hg : goodB all words = true) :
  Calls Try.prog 12 #[.agg #[.slice A0 all.length c0, .slice A1 words.length c1]] w fun e w' => e = .returned (.tuple #[.string (bytesR all words).1, .int .i64 (bytesR all words).2]) ∧ Below w.heap.size w w' := by
 obtain ⟨k, hk⟩ := (good_ev all words (by omega) (by omega)).rounds
 rw [hg] at hk
 have HK := Aside0.mk hk
 have HGd := Aside0.mk (goodB_iff.1 hg)
 have HR : Aside0 (bytesR all words = if (bytesL all words).length ≤ 400 then (strOfNums (bytesL all words), 0) else ((⟨#[]⟩ : ByteArray), 3)) := ⟨by unfold bytesR; rw [if_pos hg]⟩
 have H0 := Aside0.mk hr0
 have H1 := Aside0.mk hr1
 have HA := Aside0.mk ha
 have HWl := Aside0.mk hw
 have HC0 := Aside0.mk hc0
 have HC1 := Aside0.mk hc1
 have hu := Try.underlying25
 clear hk hr0 hr1 hg ha hw hc0 hc1
 go_enter Try.func12, Try.ntmps12
 go_wp2_with fail
 go_at_call 13
 refine (mrpdu_Good.calls k A0 c0 all A1 c1 words true _ (Kd.C_alloc H0.out _) HC0.out (Kd.C_alloc H1.out _) HC1.out HK.out).mono ?_
 rintro e w1 ⟨rfl, hb⟩
 have hX : w1.heap[w.heap.size]? = some (.cells #[.slice A0 all.length c0, .slice A1 words.length c1] 25 (0, 0)) := blk_below (heap_alloc_new w _) hb
 have hB : Below w.heap.size w w1 := below_then (below_alloc (Below.refl _ _) _) (by simp) hb
 have hlt := blk_lt hX
 have HX := Aside0.mk hX
 have HB := Aside0.mk hB
 clear hX hB hb
 go_wp2_with fail
 have HW0 := Aside0.mk (Wr.WS.new HB.out (Nat.le_of_lt hlt))
 have hbx := blk_alloc HX.out (.cells #[.slice none 0 0] 52)
 have hne : w.heap.size ≠ w1.heap.size := Nat.ne_of_lt hlt
 have hbl : Below w.heap.size w (w1.alloc (.cells #[.slice none 0 0] 52)) := HB.out.alloc (Nat.le_of_lt hlt) _
 obtain ⟨w2, hw2⟩ : ∃ w2, w2 = w1.alloc (.cells #[.slice none 0 0] 52) := ⟨_, rfl⟩
 rw [← hw2] at HW0 hbx hbl ⊢
 have HX2 := Aside0.mk hbx
 have HNe := Aside0.mk hne
 have HB2 := Aside0.mk hbl
 have hg1 : w.heap.size < w1.heap.size := hlt
 generalize w1.heap.size = g at HW0 HNe hg1 ⊢
 have HGl := Aside0.mk hg1
 clear hw2 HB HX hlt hbx hne hbl hg1
 have A0w : AwayA w.heap.size g w2 A0 all.length := fun ad e hn => by
  subst e
  have hl := Kd.C_lt H0.out hn (by decide)
  have := HGl.out; have := HB2.out.size
  exact ⟨by omega, by omega, fun h => by omega⟩
 have A1w : AwayA w.heap.size g w2 A1 words.length := fun ad e hn => by
  subst e
  have hl := Kd.C_lt H1.out hn (by decide)
  have := HGl.out; have := HB2.out.size
  exact ⟨by omega, by omega, fun h => by omega⟩
 have HA0 := Aside0.mk A0w
 have HA1 := Aside0.mk A1w
 have HI0 := Aside0.mk (cint_move H0.out (fun ad e hn => by subst e; exact HB2.out.block _ (Kd.C_lt H0.out hn (by decide))))
 have HI1 := Aside0.mk (c43_move H1.out (fun ad e hn => by subst e; exact HB2.out.block _ (Kd.C_lt H1.out hn (by decide))))
 clear A0w A1w H0 H1
 go_at_call 22
 refine (Wr.put_ws _ _ HW0 (by omega)).mono ?_
 rintro e w3 ⟨rfl, h3⟩
 have e3 : (⟨#[]⟩ : ByteArray) ++ numOf 1 0 = strOfNums (0 :: bodyTo all words 0) := by
  rw [num_1]; apply ByteArray.ext; simp [bodyTo, strOfNums, putBytes]
 rw [e3] at h3
 clear HW0 e3
 go_wp2_with fail
 go_loopw [20] (fun v20 wr => ∃ i : Nat, i ≤ 3 ∧ v20 = .int .i64 i ∧ Aside0 (WS w.heap.size w w2 wr g (strOfNums (0 :: bodyTo all words i)) (8 + i * 2002000))) (fun v20 _ => (match v20 with | .int _ n => (3 - n).toNat | _ => 0))
 case atStart => exact ⟨0, by decide, rfl, WS.more h3 (by omega)⟩
 case round =>
  rename World => wo
  obtain ⟨i, hi, rfl, HS⟩ := hrel
  by_cases hi3 : i = 3
  ·
   subst hi3
   have hfin : strOfNums (0 :: bodyTo all words 3) ++ numOf 2 0 = strOfNums (bytesL all words) := by
    have hz : numOf 2 0 = strOfNums [0, 0] := by rw [num_2]; congr 1
    rw [hz, str_append, bodyTo_3]; rfl
   have HFin := Aside0.mk hfin
   have HLen := Aside0.mk (str_size (bytesL all words))
   clear hfin
   go_wp2_with fail
   go_at_call 22
   refine (Wr.put_ws _ _ HS (by omega)).mono ?_
   rintro e w7 ⟨rfl, h7⟩
   rw [HFin.out] at h7
   go_wp2_with fail
   go_at_call 25
   refine (Wr.text_ws h7).mono ?_
   rintro e wy ⟨rfl, rfl⟩
   by_cases hle : (bytesL all words).length ≤ 400
   ·
    have d4 : decide (((strOfNums (bytesL all words)).size : Int) ≤ 400) = true := decide_eq_true (by rw [HLen.out]; omega)
    have d5 : decide ((strOfNums (bytesL all words)).size ≤ 400) = true := decide_eq_true (by rw [HLen.out]; omega)
    have HRr := Aside0.mk (HR.out.trans (if_pos hle))
    clear hle
    generalize strOfNums (bytesL all words) = sb at d4 d5 HRr h7
    go_wp2
    go_ret2
    rw [HRr.out]
    exact ⟨rfl, h7.out.below⟩
   ·
    have d4 : decide (((strOfNums (bytesL all words)).size : Int) ≤ 400) = false := decide_eq_false (by rw [HLen.out]; omega)
    have d5 : decide ((strOfNums (bytesL all words)).size ≤ 400) = false := decide_eq_false (by rw [HLen.out]; omega)
    have HRr := Aside0.mk (HR.out.trans (if_neg hle))
    clear hle
    generalize strOfNums (bytesL all words) = sb at d4 d5 h7
    go_wp2
    go_ret2
    rw [HRr.out]
    exact ⟨rfl, h7.out.below⟩
  ·
   have hlt3 : i < 3 := by omega
   have d1 : decide ((i : Int) < 3) = true := decide_eq_true (by omega)
   obtain ⟨kind, hkind⟩ : ∃ kind : Int, kind = (i : Int) + 1 := ⟨_, rfl⟩
   have hk : kind = 1 ∨ kind = 2 ∨ kind = 3 := by omega
   have hidx : ∀ u, (Instr.index 54 (.agg #[.int .i64 1, .int .i64 2, .int .i64 3]) (.int .i64 (i : Int))).run Try.prog u = .ok (.int .i64 kind) u := by
    have : i = 0 ∨ i = 1 ∨ i = 2 := by omega
    rcases this with rfl | rfl | rfl <;> subst hkind <;> exact fun _ => by kernel_rfl
   have HKi := Aside0.mk hkind
   have HBo := Wr.WS.blk HS HX2.out HNe.out (by decide)
   have q1 : wo.cell? ⟨w.heap.size, 1, none⟩ = some (.slice A1 words.length c1) := (blk_cell HBo 1).trans rfl
   have HBo' := Aside0.mk HBo
   have HC1o := Aside0.mk (HA1.out.c43 HS.out.keep HI1.out)
   have HC0o := Aside0.mk (HA0.out.cint HS.out.keep HI0.out)
   clear hkind HBo
   go_wp2_with fail
   go_loopw [7, 26] (fun v7 v26 wr => ∃ k : Nat, k ≤ words.length ∧ v26 = .int .i64 k ∧ Aside0 (wr.ownsRow wo.heap.size 43 4 v7 (ofKind kind (words.take k)).length (wcs (ofKind kind (words.take k)))) ∧ Aside0 (ofKind kind (words.take k) = [] → v7 = .slice none 0 0) ∧ Aside0 (Below wo.heap.size wo wr)) (fun _ v26 _ => (match v26 with | .int _ n => (words.length - n).toNat | _ => 0))
   case atStart => exact ⟨0, Nat.zero_le _, rfl, ⟨World.ownsRow_nil _ _ _ _⟩, ⟨fun _ => rfl⟩, ⟨Below.refl _ _⟩⟩
   case round =>
    rename World => wr
    obtain ⟨k2, hk2, rfl, HO, HZ, HL⟩ := hrel
    obtain ⟨A7, c7, rfl, hc7⟩ := own_form HO.out
    by_cases hkn : k2 = words.length
    ·
     subst hkn
     have d2 : decide ((words.length : Int) < (words.length : Int)) = false := decide_eq_false (by omega)
     rw [List.take_length] at HO HZ hc7 ⊢
     obtain ⟨kc, hkc⟩ := (contains_ev all kind (by have := HA.out; omega)).rounds
     have HKc := Aside0.mk hkc
     have hbr := HL.out.block _ (blk_lt HBo'.out)
     have HBr := Aside0.mk (hbr.trans HBo'.out)
     have q0 : wr.cell? ⟨w.heap.size, 0, none⟩ = some (.slice A0 all.length c0) := (blk_cell HBr.out 0).trans rfl
     have HC0r := Aside0.mk (Kd.C_below HC0o.out HL.out)
     clear hkc hbr q1 hidx
     go_wp2_with fail
     go_at_call 23
     refine (slices_Contains_int_int.calls kc A0 c0 all kind (moreOf all kind) wr HC0r.out HC0.out HKc.out).mono ?_
     rintro e w5 ⟨rfl, ⟨⟨nd, hnd⟩⟩⟩
     subst hnd
     have HL5 := Aside0.mk (pw_below_drewN HL.out nd)
     have HO5 := Aside0.mk (own_bel HO.out (pw_below_drewN (Below.refl _ wr) nd))
     clear HO q0
     generalize wr.drewN nd = w5 at HL5 HO5 ⊢
     have HS5 := WS.belowW HS HL5.out
     have hw1 := wrap_one i (by omega)
     have hgo := (WS.base HS).2
     have HAw := Aside0.mk (away_own HO5.out hgo w.heap.size)
     have HGk := Aside0.mk (good_kind HGd.out kind)
     have hLl := ofKind_le kind words
     have hM : (3 - ((i + 1 : Nat) : Int)).toNat < (3 - (i : Int)).toNat := by omega
     have hPart : partOf all ((i : Int) + 1) words = if moreOf all kind = false ∧ ofKind kind words = [] then [] else putBytes kind 1 ++ putBytes (sizeT kind) 1 ++ vecsOf kind (moreOf all kind) (rowsOf (ofKind kind words)) ++ [0, 0] := by rw [← HKi.out]; rfl
     have HPart := Aside0.mk hPart
     clear hPart
     by_cases hL : ofKind kind words = []
     ·
      have hv := HZ.out hL
      injection hv with v1 v2 v3
      subst v1 v3
      have d4 : decide ((0 : Int) < ((ofKind kind words).length : Int)) = false := decide_eq_false (by rw [hL]; decide)
      have hlen0 : (ofKind kind words).length = 0 := v2
      rw [hL] at HPart HAw HGk hLl
      rw [hL]
      cases hm : moreOf all kind
      ·
       rw [hm] at HPart
       have HMm := Aside0.mk hm
       rw [if_pos ⟨rfl, rfl⟩] at HPart
       clear hm v2 hL hlen0 d4
       go_wp2_with fail
       rw [show (i : Int) + 1 = ((i + 1 : Nat) : Int) from by omega]
       refine ⟨⟨i + 1, by omega, rfl, ?_⟩, hM⟩
       rw [show bodyTo all words (i + 1) = bodyTo all words i ++ partOf all ((i : Int) + 1) words from rfl, HPart.out, List.append_nil]
       exact WS.more HS5 (by omega)
      ·
       rw [hm] at HPart
       rw [if_neg (by intro hc; exact absurd hc.1 (by decide))] at HPart
       clear hm v2 hL hlen0 d4
       go_wp2_with fail
       go_at_call 24
       refine (part_none w.heap.size g w _ _ _ (WS.rebase HS5) kind hk (by omega)).mono ?_
       rintro e w7 ⟨rfl, h7⟩
       have h8 := WS.join HS5 h7
       rw [str_append] at h8
       go_wp2_with fail
       rw [show (i : Int) + 1 = ((i + 1 : Nat) : Int) from by omega]
       refine ⟨⟨i + 1, by omega, rfl, ?_⟩, hM⟩
       rw [show bodyTo all words (i + 1) = bodyTo all words i ++ partOf all ((i : Int) + 1) words from rfl, HPart.out]
       exact WS.more h8 (by omega)
     ·
      have hpos : 0 < (ofKind kind words).length := List.length_pos_iff.2 hL
      rw [if_neg (fun hc => hL hc.2)] at HPart
      have d4 : decide ((0 : Int) < ((ofKind kind words).length : Int)) = true := decide_eq_true (by omega)
      have d5 : decide (0 < (ofKind kind words).length) = true := decide_eq_true (by omega)
      have hcc := c43_own HO5.out
      have hpt := part_some w.heap.size g w w5 _ _ (WS.rebase HS5) kind hk (moreOf all kind) A7 c7 (ofKind kind words) hcc HAw.out hpos (by have := HWl.out; omega) hc7 HGk.out (by omega)
      have HPt := Aside0.mk hpt
      clear hL hcc hpt
      cases hm : moreOf all kind
      all_goals
       rw [hm] at HPart HPt
       clear hm
       go_wp2_with fail
       go_at_call 24
       refine HPt.out.mono ?_
       rintro e w7 ⟨rfl, h7⟩
       have h8 := WS.join HS5 h7
       rw [str_append] at h8
       clear HPt h7
       go_wp2_with fail
       rw [show (i : Int) + 1 = ((i + 1 : Nat) : Int) from by omega]
       refine ⟨⟨i + 1, by omega, rfl, ?_⟩, hM⟩
       rw [show bodyTo all words (i + 1) = bodyTo all words i ++ partOf all ((i : Int) + 1) words from rfl, HPart.out]
       exact WS.more h8 (by have := HWl.out; omega)
    ·
     have hlt : k2 < words.length := by omega
     obtain ⟨ad, e, hx0, hx1, hx2, hx3⟩ := at_T43 HC1o.out (k2 : Int) (by omega) (by omega)
     cases e
     rw [Int.toNat_natCast, rdT_nat] at hx0 hx1 hx2 hx3
     have hlt2 := World.block_lt_of_cell? wo _ hx0
     replace hx0 := (HL.out.cell hlt2).trans hx0
     replace hx1 := (HL.out.cell (p := ⟨(ad.add (k2 * 4)).block, (ad.add (k2 * 4)).off + 1, none⟩) hlt2).trans hx1
     replace hx2 := (HL.out.cell (p := ⟨(ad.add (k2 * 4)).block, (ad.add (k2 * 4)).off + 2, none⟩) hlt2).trans hx2
     replace hx3 := (HL.out.cell (p := ⟨(ad.add (k2 * 4)).block, (ad.add (k2 * 4)).off + 3, none⟩) hlt2).trans hx3
     have HT := Aside0.mk (ofKind_take kind words k2 hlt)
     have hel := ofKind_le kind (words.take k2)
     rw [List.length_take] at hel
     generalize words.getD k2 z43 = x at HT hx0 hx1 hx2 hx3
     have d3 : decide ((k2 : Int) < (words.length : Int)) = true := decide_eq_true (by omega)
     have z0 : (0 : Int) ≤ (k2 : Int) := by omega
     have z1 : (k2 : Int) < (words.length : Int) := by omega
     have hw := wrap_one k2 (by have := HWl.out; omega)
     have hM := loop_lt words.length k2 hlt
     clear hlt2 q1 hidx
     by_cases hE : x.f0.f0 = kind
     ·
      have hEb : (x.f0.f0 == kind) = true := beq_iff_eq.2 hE
      rw [if_pos hE] at HT
      clear hE
      go_wp2_with (at_builtin; go_loud (refine print_append_cells (w0 := wo) wo.heap.size rfl _ _ 23 43 (.agg #[(.int .i64 0), (.int .i64 0), (.int .i64 0), (.int .i64 0)]) 4 32 rfl Try.underlying23 info43 rfl (by decide) (by decide) (.slice A7 (ofKind kind (words.take k2)).length c7) (ofKind kind (words.take k2)).length (wcs (ofKind kind (words.take k2))) (wc x) rfl (by simp [Act.eval]) rfl (wc_one _) ?_ ?_ ?_ ?_ ?_))
      ·
       exact HO.out.alloc _
      ·
       exact below_alloc HL.out _
      ·
       have := HL.out.size; simp; omega
      ·
       have := HWl.out; omega
      ·
       intro v1 w9 hown hB2 hgr hat
       have HO5 := Aside0.mk hown
       have HB5 := Aside0.mk hB2
       clear hown hB2 hgr hat
       go_wp2_with fail
       rw [hw]
       exact ⟨⟨k2 + 1, hlt, rfl, ⟨by rw [HT.out, List.length_append, wcs_snoc]; exact HO5.out⟩, ⟨fun e => by rw [HT.out] at e; simp at e⟩, HB5⟩, hM⟩
     ·
      have hEb : (x.f0.f0 == kind) = false := beq_eq_false_iff_ne.2 hE
      rw [if_neg hE] at HT
      clear hE
      go_wp2_with fail
      rw [hw]
      exact ⟨⟨k2 + 1, hlt, rfl, ⟨by rw [HT.out]; exact HO.out.alloc _⟩, ⟨by rw [HT.out]; exact HZ.out⟩, ⟨below_alloc HL.out _⟩⟩, hM⟩
theorem bytes_calls (w : World) (A0 : Option Addr) (c0 : Nat) (all : List Int) (A1 : Option Addr) (c1 : Nat) (words : List S43) (hr0 : (Kd.int .i64).C w A0 all.length all) (hc0 : all.length ≤ c0) (hr1 : k43.C w A1 words.length words) (hc1 : words.length ≤ c1) (ha : all.length ≤ 1000) (hw : words.length ≤ 2000) :
  Calls Try.prog 12 #[.agg #[.slice A0 all.length c0, .slice A1 words.length c1]] w fun e w' => e = .returned (.tuple #[.string (bytesR all words).1, .int .i64 (bytesR all words).2]) ∧ Below w.heap.size w w' := by
 cases hg : goodB all words
 ·
  exact bytes_bad w A0 c0 all A1 c1 words hr0 hc0 hr1 hc1 ha hw hg
 ·
  exact bytes_good w A0 c0 all A1 c1 words hr0 hc0 hr1 hc1 ha hw hg
/-- Rows of one's own: numbers, words. -/
def RowI (B : Nat) (w : World) (v : Value) (l : List Int) : Prop := Kd.R (Kd.int .i64) 3 w B (fun _ => True) v l
def RowW (B : Nat) (w : World) (v : Value) (l : List S43) : Prop := Kd.R k43 43 w B (fun _ => True) v l
theorem RowI.below {B : Nat} {w w' : World} {v : Value} {l : List Int} (h : RowI B w v l) (hb : Below w.heap.size w w') : RowI B w' v l := Kd.R_below h hb
theorem RowW.below {B : Nat} {w w' : World} {v : Value} {l : List S43} (h : RowW B w v l) (hb : Below w.heap.size w w') : RowW B w' v l := Kd.R_below h hb
theorem RowI.lower {B B' : Nat} {w : World} {v : Value} {l : List Int} (h : RowI B w v l) (hb : B' ≤ B) : RowI B' w v l := Kd.R_lower h hb
theorem RowW.lower {B B' : Nat} {w : World} {v : Value} {l : List S43} (h : RowW B w v l) (hb : B' ≤ B) : RowW B' w v l := Kd.R_lower h hb
theorem RowI.own {B : Nat} {w : World} {v : Value} {l : List Int} (h : RowI B w v l) : ∃ xs, w.ownsRow B 3 1 v l.length xs := Kd.R_own h
theorem RowW.own {B : Nat} {w : World} {v : Value} {l : List S43} (h : RowW B w v l) : ∃ xs, w.ownsRow B 43 4 v l.length xs := Kd.R_own h
theorem RowI.nil (B : Nat) (w : World) : RowI B w (.slice none 0 0) [] := Kd.R_nil _ _ _ _ _
theorem RowW.nil (B : Nat) (w : World) : RowW B w (.slice none 0 0) [] := Kd.R_nil _ _ _ _ _
theorem RowI.reads {B : Nat} {w : World} {v : Value} {l : List Int} (h : RowI B w v l) : ∃ A c, v = .slice A l.length c ∧ l.length ≤ c ∧ (Kd.int .i64).C w A l.length l := Kd.R_reads h
theorem RowW.reads {B : Nat} {w : World} {v : Value} {l : List S43} (h : RowW B w v l) : ∃ A c, v = .slice A l.length c ∧ l.length ≤ c ∧ k43.C w A l.length l := Kd.R_reads h
theorem RowI.kept {B : Nat} {w w' : World} {v : Value} {l : List Int} (h : RowI B w v l) {g : Nat} (hk : KeepBut w w' g none) {cs : Array Value} {t : TypeId} (hr : w.heap[g]? = some (.cells cs t (0, 0))) (ht : 3 ≠ t) : RowI B w' v l :=
 Kd.R_mono (Kd.R_keep (Kd.R_types h hr (fun q hq => by
  have : q = 3 := by simpa [Kd.int, Kd.scalar] using hq
  rw [this]; exact ht)) hk (fun k hk2 => hk2.2)) (fun _ _ => trivial)
theorem RowW.kept {B : Nat} {w w' : World} {v : Value} {l : List S43} (h : RowW B w v l) {g : Nat} (hk : KeepBut w w' g none) {cs : Array Value} {t : TypeId} (hr : w.heap[g]? = some (.cells cs t (0, 0))) (ht : 43 ≠ t) : RowW B w' v l :=
 Kd.R_mono (Kd.R_keep (Kd.R_types h hr (fun q hq => by
  have : q = 43 := by simpa [k43, k37, Kd.iso, Kd.pair, Kd.int, Kd.scalar] using hq
  rw [this]; exact ht)) hk (fun k hk2 => hk2.2)) (fun _ _ => trivial)
def CloneI (w : World) (l : List Int) (e : Ending) (w' : World) : Prop := ∃ v', e = .returned v' ∧ RowI w.heap.size w' v' l ∧ Below w.heap.size w w'
def CloneW (w : World) (l : List S43) (e : Ending) (w' : World) : Prop := ∃ v', e = .returned v' ∧ RowW w.heap.size w' v' l ∧ Below w.heap.size w w'
theorem none_row {w : World} {B e s n c : Nat} {xs : List Value} (h : w.ownsRow B e s (.slice none n c) n xs) : n = 0 ∧ c = 0 := by
 rcases h.2 with ⟨h1, h2⟩ | ⟨g, cap, cur, h1, _⟩
 ·
  injection h1 with _ _ h3; exact ⟨h2, h3⟩
 ·
  injection h1 with h1; cases h1
theorem cloneI_calls (B : Nat) (w : World) (v : Value) (l : List Int) (h : RowI B w v l) (hn : l.length ≤ 1000000) : Calls Try.prog 48 #[v] w (CloneI w l) := by
 obtain ⟨A, c, rfl, hc, hC⟩ := h.reads
 obtain ⟨xs, hown⟩ := h.own
 cases A with
 | none =>
  obtain ⟨h0, h1⟩ := none_row hown
  obtain rfl := List.eq_nil_of_length_eq_zero h0
  subst h1
  have he : ∀ w : World, (binOp .eql 22 (.slice none 0 0) (.slice none 0 0)).run Try.prog w = .ok (.bool true) w := fun _ => rfl
  clear hown h hC
  go_enter Try.func48, Try.ntmps48
  go_wp2_with fail
  go_ret
  exact ⟨_, rfl, RowI.nil _ _, Below.refl _ _⟩
 | some ad =>
  have HC := Aside0.mk hC
  have HN := Aside0.mk hn
  clear hown h hC hn
  have he : ∀ w : World, (binOp .eql 22 (.slice (some ad) l.length c) (.slice none 0 0)).run Try.prog w = .ok (.bool false) w := fun _ => rfl
  go_enter Try.func48, Try.ntmps48
  go_wp2_with (at_builtin; go_loud (refine Kd.R_append_rows (Kd.int .i64) (Rr := Kd.K (Kd.int .i64) w) (w0 := w) w.heap.size rfl _ _ 22 3 (.int .i64 0) 8 rfl Try.underlying22 info3 rfl (by decide) (by decide) (.slice (some ⟨w.heap.size, 0, none⟩) 0 0) [] l (some ad) l.length c (fun _ => True) (fun _ => False) rfl rfl ?_ ?_ ?_ (fun k hk => hk.elim) (fun _ _ => trivial) ?_ ?_ ?_ ?_))
  ·
   exact ⟨fun _ _ => trivial, [], World.ownsRow_made w #[] 0 (Nat.le_refl _) (by decide) rfl, Reps.none _ _⟩
  ·
   exact (Kd.C_alloc HC.out _).imp_ (Below.refl _ _) (fun x cs hx => hx)
  ·
   intro x cs hx
   exact hx
  ·
   exact (Below.refl w.heap.size w).alloc (Nat.le_refl _) _
  ·
   simp
  ·
   have := HN.out; simp; omega
  ·
   intro v1 w2 hR hB hg hat
   have HF := Aside0.mk hB
   have HR := Aside0.mk (show RowI w.heap.size w2 v1 l from hR)
   obtain ⟨A1, c1, hv, _⟩ := HR.out.reads
   subst hv
   clear hR hB hg hat
   go_wp2_with fail
   go_ret
   exact ⟨_, rfl, HR.out, HF.out⟩
theorem cloneW_calls (B : Nat) (w : World) (v : Value) (l : List S43) (h : RowW B w v l) (hn : l.length ≤ 1000000) : Calls Try.prog 49 #[v] w (CloneW w l) := by
 obtain ⟨A, c, rfl, hc, hC⟩ := h.reads
 obtain ⟨xs, hown⟩ := h.own
 cases A with
 | none =>
  obtain ⟨h0, h1⟩ := none_row hown
  obtain rfl := List.eq_nil_of_length_eq_zero h0
  subst h1
  have he : ∀ w : World, (binOp .eql 23 (.slice none 0 0) (.slice none 0 0)).run Try.prog w = .ok (.bool true) w := fun _ => rfl
  clear hown h hC
  go_enter Try.func49, Try.ntmps49
  go_wp2_with fail
  go_ret
  exact ⟨_, rfl, RowW.nil _ _, Below.refl _ _⟩
 | some ad =>
  have HC := Aside0.mk hC
  have HN := Aside0.mk hn
  clear hown h hC hn
  have he : ∀ w : World, (binOp .eql 23 (.slice (some ad) l.length c) (.slice none 0 0)).run Try.prog w = .ok (.bool false) w := fun _ => rfl
  go_enter Try.func49, Try.ntmps49
  go_wp2_with (at_builtin; go_loud (refine Kd.R_append_rows k43 (Rr := Kd.K k43 w) (w0 := w) w.heap.size rfl _ _ 23 43 (.agg #[(.int .i64 0), (.int .i64 0), (.int .i64 0), (.int .i64 0)]) 32 rfl Try.underlying23 info43 rfl (by decide) (by decide) (.slice (some ⟨w.heap.size, 0, none⟩) 0 0) [] l (some ad) l.length c (fun _ => True) (fun _ => False) rfl rfl ?_ ?_ ?_ (fun k hk => hk.elim) (fun _ _ => trivial) ?_ ?_ ?_ ?_))
  ·
   exact ⟨fun _ _ => trivial, [], World.ownsRow_made w #[] 0 (Nat.le_refl _) (by decide) rfl, Reps.none _ _⟩
  ·
   exact (Kd.C_alloc HC.out _).imp_ (Below.refl _ _) (fun x cs hx => k43_free hx)
  ·
   intro x cs hx
   rw [k43_open hx]; exact k43_mkM _ _ _ x
  ·
   exact (Below.refl w.heap.size w).alloc (Nat.le_refl _) _
  ·
   simp
  ·
   have := HN.out; simp; omega
  ·
   intro v1 w2 hR hB hg hat
   have HF := Aside0.mk hB
   have HR := Aside0.mk (show RowW w.heap.size w2 v1 l from hR)
   obtain ⟨A1, c1, hv, _⟩ := HR.out.reads
   subst hv
   clear hR hB hg hat
   go_wp2_with fail
   go_ret
   exact ⟨_, rfl, HR.out, HF.out⟩
theorem seg_one (s : ByteArray) (i : Nat) (h : i + 1 ≤ s.size) : left_ s i = val (seg s i 1) :: left_ s (i + 1) := by
 have hl : i < (bytesOf s).length := by rw [bytesOf_length]; omega
 have e : seg s i 1 = [(bytesOf s)[i]'hl] := by unfold seg; rw [List.drop_eq_getElem_cons hl]; rfl
 rw [e]
 unfold left_
 rw [List.drop_eq_getElem_cons hl]
 congr 1
 simp [val]
theorem left_two (s : ByteArray) (i : Nat) (h : i + 2 ≤ s.size) : left_ s i = val (seg s i 1) :: val (seg s (i + 1) 1) :: left_ s (i + 2) := by
 rw [seg_one s i (by omega), seg_one s (i + 1) (by omega)]
theorem one_short {L : List Int} (h : L.length < 2) (p : List Int × List S43) : oneL L p = none := by
 unfold oneL
 match L, h with
 | [], _ => rfl
 | [_], _ => rfl
theorem one_two (s : ByteArray) (i : Nat) (h : i + 2 ≤ s.size) (p : List Int × List S43) : oneL (left_ s i) p = if sizeT (val (seg s i 1)) ≠ 0 ∧ val (seg s (i + 1) 1) = (sizeT (val (seg s i 1)) : Int) then (vecsL (left_ s (i + 2)) (val (seg s i 1)) false []).bind (nextL (val (seg s i 1)) p) else none := by
 rw [left_two s i h]; rfl
theorem one_nokind (s : ByteArray) (i : Nat) (h : sizeT (val (seg s i 1)) = 0) (p : List Int × List S43) : oneL (left_ s i) p = none := by
 by_cases h2 : i + 2 ≤ s.size
 ·
  rw [one_two s i h2, if_neg (fun hc => hc.1 h)]
 ·
  exact one_short (by rw [left_len]; omega) p
theorem get_val (s : ByteArray) (hs : s.size ≤ 1000000) (i : Nat) (hi : i ≤ s.size) : ∃ (i' : Nat) (b' : Int), Ev (fun k => octet_Reader_Get.f k s i (-1) 1) (val (seg s i 1), s, (i' : Int), b') ∧ Rs s i' b' ∧ (b' = -1 ↔ i + 1 ≤ s.size) ∧ (b' = -1 → i' = i + 1) := by
 obtain ⟨v1, i1, b1, g1, R1, q1, e1⟩ := get_ev s (by omega) i (-1) 1 (by decide) (by decide) ⟨hi, .inl rfl⟩
 by_cases h : i + 1 ≤ s.size
 ·
  have hb := q1.2 ⟨rfl, h⟩
  obtain ⟨h1, h2⟩ := e1 hb
  rw [h2] at g1
  exact ⟨i1, b1, g1, R1, ⟨fun _ => h, fun _ => hb⟩, fun _ => h1⟩
 ·
  have hg := get_short s i 1 (by omega) hi h (by decide) (by decide)
  have hz : val (seg s i 1) = 0 := by
   unfold seg; rw [List.drop_eq_nil_of_le (by rw [bytesOf_length]; omega)]; rfl
  rw [hz]
  exact ⟨i, (i : Int), hg, ⟨hi, .inr (by omega)⟩, ⟨fun e => by omega, fun e => absurd e h⟩, fun e => by omega⟩
theorem nb_three (n : Nat) : n ≤ 3 * nb 3 n := by unfold nb; omega
theorem rowL_words {L : List Int} {kind : Int} {head : Nat} {r : List S43 × List Int} (hL : L.length ≤ 1000000) (h : rowL L kind head = some r) : r.1.length + 3 * r.2.length ≤ 3 * L.length := by
 unfold rowL at h
 obtain ⟨a, ha, h⟩ := Option.bind_eq_some_iff.1 h
 obtain ⟨b, hb, h⟩ := Option.bind_eq_some_iff.1 h
 obtain ⟨a1, a2, _⟩ := getL_len ha
 obtain ⟨b1, b2, _⟩ := getL_len hb
 split at h
 ·
  rename_i hn
  obtain ⟨ev, he, h⟩ := Option.bind_eq_some_iff.1 h
  split at h
  ·
   injection h with h
   subst h
   have h3 := nb_three (head % 8192)
   have hev : ev.length ≤ head % 8192 := by
    unfold unpR at he
    split at he
    ·
     injection he with he
     subst he
     exact (from_total _ (by rw [str_size, List.length_take]; omega) _ (by omega)).2
    ·
     cases he
   show (mkW kind b.1 a.1 ev).length + 3 * (b.2.drop _).length ≤ _
   rw [mkW_len, List.length_drop]
   omega
  ·
   cases h
 ·
  cases h
theorem vecsL_words : ∀ (n : Nat) (L : List Int) (kind : Int) (all : Bool) (words : List S43) (r : Bool × List S43 × List Int), L.length ≤ n → n ≤ 1000000 → vecsL L kind all words = some r → r.2.1.length + 3 * r.2.2.length ≤ words.length + 3 * L.length := by
 intro n
 induction n with
 | zero =>
  intro L kind all words r hn _ h
  rw [vecsL_none (by unfold getL; rw [if_neg (by omega)])] at h; cases h
 | succ n ih =>
  intro L kind all words r hn hn2 h
  cases hg : getL 2 L with
  | none => rw [vecsL_none hg] at h; cases h
  | some a =>
   obtain ⟨head, L1⟩ := a
   have g1 := (getL_len hg).1
   simp only at g1
   by_cases h0 : head = 0
   ·
    subst h0
    rw [vecsL_end hg] at h
    injection h with h; subst h
    simp only; omega
   ·
    cases hr : rowL L1 kind head.toNat with
    | none => rw [vecsL_bad hg h0 hr] at h; cases h
    | some q =>
     by_cases ha : all = true ∧ head.toNat / 8192 = 1
     ·
      rw [vecsL_two hg h0 hr ha] at h; cases h
     ·
      rw [vecsL_row hg h0 hr ha] at h
      have q1 := rowL_words (by omega) hr
      have q2 := (rowL_len hr).1
      have i1 := ih _ _ _ _ _ (by omega) (by omega) h
      rw [List.length_append] at i1
      omega
/-- A message in memory. -/
structure PduAt (B : Nat) (w : World) (g : Nat) (va vw : Value) (all : List Int) (words : List S43) : Prop where
 obj : w.heap[g]? = some (.cells #[va, vw] 25 (0, 0))
 ri : RowI B w va all
 rw_ : RowW B w vw words
 ge : B ≤ g
theorem PduAt.keep {B : Nat} {w w' : World} {g gr : Nat} {va vw : Value} {all : List Int} {words : List S43} (h : PduAt B w g va vw all words) (hk : KeepBut w w' gr none) {cs : Array Value} (hr : w.heap[gr]? = some (.cells cs 77 (0, 0))) : PduAt B w' g va vw all words :=
 ⟨hk.blk h.obj (blk_ne h.obj hr (by decide)) (by simp), h.ri.kept hk hr (by decide), h.rw_.kept hk hr (by decide), h.ge⟩
theorem PduAt.below {B : Nat} {w w' : World} {g : Nat} {va vw : Value} {all : List Int} {words : List S43} (h : PduAt B w g va vw all words) (hb : Below w.heap.size w w') : PduAt B w' g va vw all words :=
 ⟨(hb.block g (blk_lt h.obj)).trans h.obj, h.ri.below hb, h.rw_.below hb, h.ge⟩
theorem RowI.move {B : Nat} {w w' : World} {v : Value} {l : List Int} (h : RowI B w v l) (hm : ∀ k, v.ownBlock = some k → w'.heap[k]? = w.heap[k]?) : RowI B w' v l :=
 Kd.R_mono (Kd.R_move (Kd.R_tight rfl h) (fun k hk => hm k hk.symm)) (fun _ _ => trivial)
theorem RowW.move {B : Nat} {w w' : World} {v : Value} {l : List S43} (h : RowW B w v l) (hm : ∀ k, v.ownBlock = some k → w'.heap[k]? = w.heap[k]?) : RowW B w' v l :=
 Kd.R_mono (Kd.R_move (Kd.R_tight rfl h) (fun k hk => hm k hk.symm)) (fun _ _ => trivial)
theorem PduAt.move {B N : Nat} {w w' : World} {g : Nat} {va vw : Value} {all : List Int} {words : List S43} (h : PduAt B w g va vw all words) (hb : ∀ k, k < N → w'.heap[k]? = w.heap[k]?) (hg : g < N) (ha : ∀ k, va.ownBlock = some k → k < N) (hw : ∀ k, vw.ownBlock = some k → k < N) : PduAt B w' g va vw all words :=
 ⟨(hb g hg).trans h.obj, h.ri.move (fun k hk => hb k (ha k hk)), h.rw_.move (fun k hk => hb k (hw k hk)), h.ge⟩
theorem cut_set {N b : Nat} {w9 w14 : World} {vi v14 : Value} {all : List Int} {ws : List S43} (hbk : w14.heap[b]? = some (.cells #[.slice none 0 0, .slice none 0 0] 25 (0, 0))) (h1 : RowI N w14 vi all) (h2 : RowW N w14 v14 ws) (hb : N ≤ b) (hB : Below N w9 w14) :
  PduAt N ((w14.setCell ⟨b, 0, none⟩ vi).setCell ⟨b, 1, none⟩ v14) b vi v14 all ws ∧ Below N w9 ((w14.setCell ⟨b, 0, none⟩ vi).setCell ⟨b, 1, none⟩ v14) := by
 have s1 := blk_set hbk 0 vi
 have s2 := blk_set s1 1 v14
 have e1 : ∀ q, q ∈ 3 :: (Kd.int .i64).E → q ≠ 25 := fun q hq => by
  have : q = 3 := by simpa [Kd.int, Kd.scalar] using hq
  rw [this]; decide
 have e2 : ∀ q, q ∈ 43 :: k43.E → q ≠ 25 := fun q hq => by
  have : q = 43 := by simpa [k43, k37, Kd.iso, Kd.pair, Kd.int, Kd.scalar] using hq
  rw [this]; decide
 exact ⟨⟨by simpa using s2, Kd.R_set (Kd.R_set h1 hbk e1 0 vi) s1 e1 1 v14, Kd.R_set (Kd.R_set h2 hbk e2 0 vi) s1 e2 1 v14, hb⟩, (hB.setCell hb _).setCell hb _⟩
theorem cut_new {N : Nat} {w9 w14 : World} {vi v14 : Value} {all : List Int} {ws : List S43} (h1 : RowI N w14 vi all) (h2 : RowW N w14 v14 ws) (hB : Below N w9 w14) (hN : N ≤ w14.heap.size) :
  PduAt N (w14.alloc (.cells #[vi, v14] 25)) w14.heap.size vi v14 all ws ∧ Below N w9 (w14.alloc (.cells #[vi, v14] 25)) :=
 ⟨⟨by simpa using heap_alloc_new w14 _, h1.below (below_alloc (Below.refl _ _) _), h2.below (below_alloc (Below.refl _ _) _), hN⟩, hB.alloc hN _⟩
theorem put_set {N M b : Nat} {w9 w14 : World} {va vw vi v14 : Value} {all : List Int} {ws : List S43} (hbk : w14.heap[b]? = some (.cells #[va, vw] 25 (0, 0))) (h1 : RowI M w14 vi all) (h2 : RowW M w14 v14 ws) (hM : N ≤ M) (hb : N ≤ b) (hB : Below N w9 w14) :
  PduAt N ((w14.setCell ⟨b, 0, none⟩ vi).setCell ⟨b, 1, none⟩ v14) b vi v14 all ws ∧ Below N w9 ((w14.setCell ⟨b, 0, none⟩ vi).setCell ⟨b, 1, none⟩ v14) := by
 have s1 := blk_set hbk 0 vi
 have s2 := blk_set s1 1 v14
 have e1 : ∀ q, q ∈ 3 :: (Kd.int .i64).E → q ≠ 25 := fun q hq => by
  have : q = 3 := by simpa [Kd.int, Kd.scalar] using hq
  rw [this]; decide
 have e2 : ∀ q, q ∈ 43 :: k43.E → q ≠ 25 := fun q hq => by
  have : q = 43 := by simpa [k43, k37, Kd.iso, Kd.pair, Kd.int, Kd.scalar] using hq
  rw [this]; decide
 exact ⟨⟨by simpa using s2, RowI.lower (Kd.R_set (Kd.R_set h1 hbk e1 0 vi) s1 e1 1 v14) hM, RowW.lower (Kd.R_set (Kd.R_set h2 hbk e2 0 vi) s1 e2 1 v14) hM, hb⟩, (hB.setCell hb _).setCell hb _⟩
theorem put_one {N b : Nat} {w9 w14 : World} {va vi v14 : Value} {all : List Int} {ws : List S43} (hbk : w14.heap[b]? = some (.cells #[va, v14] 25 (0, 0))) (h1 : RowI N w14 vi all) (h2 : RowW N w14 v14 ws) (hb : N ≤ b) (hB : Below N w9 w14) :
  PduAt N (w14.setCell ⟨b, 0, none⟩ vi) b vi v14 all ws ∧ Below N w9 (w14.setCell ⟨b, 0, none⟩ vi) := by
 have s1 := blk_set hbk 0 vi
 have e1 : ∀ q, q ∈ 3 :: (Kd.int .i64).E → q ≠ 25 := fun q hq => by
  have : q = 3 := by simpa [Kd.int, Kd.scalar] using hq
  rw [this]; decide
 have e2 : ∀ q, q ∈ 43 :: k43.E → q ≠ 25 := fun q hq => by
  have : q = 43 := by simpa [k43, k37, Kd.iso, Kd.pair, Kd.int, Kd.scalar] using hq
  rw [this]; decide
 exact ⟨⟨by simpa using s1, Kd.R_set h1 hbk e1 0 vi, Kd.R_set h2 hbk e2 0 vi, hb⟩, hB.setCell hb _⟩
/-- What one answers. -/
def OneQ (w0 : World) (gr gp : Nat) (s : ByteArray) (va vw : Value) (all : List Int) (words : List S43) (o : Option ((List Int × List S43) × List Int)) (e : Ending) (w' : World) : Prop :=
 match o with
 | some x => ∃ (i' : Nat) (va' vw' : Value), e = .returned (.bool true) ∧ IsS77 w0 w' gr s (i' : Int) (-1) ∧ i' ≤ s.size ∧ x.2 = left_ s i' ∧ PduAt w0.heap.size w' gp va' vw' x.1.1 x.1.2 ∧ Below w0.heap.size w0 w'
 | none => e = .returned (.bool false) ∧ PduAt w0.heap.size w' gp va vw all words ∧ Below w0.heap.size w0 w'
theorem one_calls (w0 w : World) (gr gp : Nat) (s : ByteArray) (i : Nat) (va vw : Value) (all : List Int) (words : List S43) (hI : IsS77 w0 w gr s (i : Int) (-1)) (hB : Below w0.heap.size w0 w) (hP : PduAt w0.heap.size w gp va vw all words) (hs : s.size ≤ 20000) (hi : i ≤ s.size) (hla : all.length ≤ 10000) (hlw : words.length ≤ 3 * i) :
  Calls Try.prog 35 #[.pointer (some ⟨gr, 0, none⟩), .pointer (some ⟨gp, 0, none⟩)] w (OneQ w0 gr gp s va vw all words (oneL (left_ s i) (all, words))) := by
 obtain ⟨i1, b1, g1, R1, q1, p1⟩ := get_val s (by omega) i hi
 obtain ⟨k1, hk1⟩ := g1.rounds
 have HK1 := Aside0.mk hk1
 have HI := Aside0.mk hI
 have HB := Aside0.mk hB
 have HP := Aside0.mk hP
 have HR1 := Aside0.mk R1
 have HQ1 := Aside0.mk q1
 have HP1 := Aside0.mk p1
 clear g1 hk1 hI hB hP R1 q1 p1
 by_cases c1 : sizeT (val (seg s i 1)) = 0
 ·
  have HN := Aside0.mk (one_nokind s i c1 (all, words))
  have HC1 := Aside0.mk c1
  clear c1
  rw [HN.out]
  go_enter Try.func35, Try.ntmps35
  go_wp2_with fail
  go_at_call 32
  refine (octet_Reader_Get.calls k1 gr s i (-1) 1 _ _ _ _ w0 w HI.out HB.out HK1.out).mono ?_
  rintro e w1 ⟨rfl, hI1, hB1, hK1⟩
  have HB1 := Aside0.mk hB1
  have HPn := Aside0.mk (HP.out.keep hK1 HI.out.1)
  clear hI1 hB1 hK1
  go_wp2_with fail
  go_at_call 26
  refine (mrpdu_size.calls _ _ _ (size_eq _)).mono ?_
  rintro e w5 ⟨rfl, ⟨⟨nd, hnd⟩⟩⟩
  subst hnd
  rw [HC1.out]
  go_wp2_with fail
  go_ret
  exact ⟨rfl, HPn.out.below (pw_below_drewN (Below.refl _ _) _), pw_below_drewN HB1.out _⟩
 ·
  have hl1 : i + 1 ≤ s.size := by
   by_cases h : i + 1 ≤ s.size
   ·
    exact h
   ·
    exact absurd (by rw [show val (seg s i 1) = 0 from by unfold seg; rw [List.drop_eq_nil_of_le (by rw [bytesOf_length]; omega)]; rfl]; decide) c1
  have hb1 := HQ1.out.2 hl1
  obtain rfl := HP1.out hb1
  subst hb1
  obtain ⟨i2, b2, g2, R2, q2, p2⟩ := get_val s (by omega) (i + 1) hl1
  obtain ⟨k2, hk2⟩ := g2.rounds
  have HK2 := Aside0.mk hk2
  have HQ2 := Aside0.mk q2
  have HP2 := Aside0.mk p2
  clear g2 hk2 q2 p2 R2
  by_cases c2 : val (seg s (i + 1) 1) = (sizeT (val (seg s i 1)) : Int)
  ·
   have hl2 : i + 2 ≤ s.size := by
    by_cases h : i + 2 ≤ s.size
    ·
     exact h
    ·
     have : val (seg s (i + 1) 1) = 0 := by unfold seg; rw [List.drop_eq_nil_of_le (by rw [bytesOf_length]; omega)]; rfl
     rw [this] at c2
     omega
   have hb2 := HQ2.out.2 hl2
   obtain rfl := HP2.out hb2
   subst hb2
   have HOne := Aside0.mk (one_two s i hl2 (all, words))
   rw [if_pos ⟨c1, c2⟩] at HOne
   rw [HOne.out]
   rw [c2] at HK2
   clear HQ1 HQ2 HP1 HP2 HR1 HOne c2
   have hkv := val_seg s i 1
   generalize val (seg s i 1) = kind at c1 HK1 HK2 hkv ⊢
   have e1 : (((sizeT kind : Nat) : Int) == 0) = false := beq_eq_false_iff_ne.2 (by omega)
   have e2 : (((sizeT kind : Nat) : Int) != ((sizeT kind : Nat) : Int)) = false := by simp
   have hkk := Aside0.mk hkv
   clear hkv
   go_enter Try.func35, Try.ntmps35
   go_wp2_with fail
   go_at_call 32
   refine (octet_Reader_Get.calls k1 gr s i (-1) 1 _ _ _ _ w0 w HI.out HB.out HK1.out).mono ?_
   rintro e w1 ⟨rfl, hI1, hB1, hK1⟩
   have HB1 := Aside0.mk hB1
   have HI1 := Aside0.mk hI1
   have HPn := Aside0.mk (HP.out.keep hK1 HI.out.1)
   clear hI1 hB1 hK1 HI HB HP
   go_wp2_with fail
   go_at_call 26
   refine (mrpdu_size.calls _ _ _ (size_eq _)).mono ?_
   rintro e w5 ⟨rfl, ⟨⟨nd, hnd⟩⟩⟩
   subst hnd
   have HI5 := Aside0.mk (IsS77.drewN HI1.out nd)
   have HB5 := Aside0.mk (pw_below_drewN HB1.out nd)
   have HP5 := Aside0.mk (HPn.out.below (pw_below_drewN (Below.refl _ _) nd))
   clear HI1 HB1 HPn
   generalize w1.drewN nd = w5 at HI5 HB5 HP5 ⊢
   go_wp2_with fail
   go_at_call 32
   refine (octet_Reader_Get.calls k2 gr s ((i + 1 : Nat) : Int) (-1) 1 _ _ _ _ w0 w5 HI5.out HB5.out HK2.out).mono ?_
   rintro e w6 ⟨rfl, hI6, hB6, hK6⟩
   have HB6 := Aside0.mk hB6
   have HI6 := Aside0.mk hI6
   have HP6 := Aside0.mk (HP5.out.keep hK6 HI5.out.1)
   clear hI6 hB6 hK6 HI5 HB5 HP5
   go_wp2_with fail
   go_at_call 26
   refine (mrpdu_size.calls _ _ _ (size_eq _)).mono ?_
   rintro e w7 ⟨rfl, ⟨⟨nd2, hnd⟩⟩⟩
   subst hnd
   have HI7 := Aside0.mk (IsS77.drewN HI6.out nd2)
   have HB7 := Aside0.mk (pw_below_drewN HB6.out nd2)
   have HP7 := Aside0.mk (HP6.out.below (pw_below_drewN (Below.refl _ _) nd2))
   clear HI6 HB6 HP6
   generalize w6.drewN nd2 = w7 at HI7 HB7 HP7 ⊢
   have hwt0 : Aside0 (∀ r, vecsL (left_ s (i + 2)) kind false [] = some r → r.2.1.length + 3 * r.2.2.length ≤ 3 * (s.size - (i + 2))) := ⟨fun r hr => by
    have := vecsL_words _ _ _ _ _ _ (Nat.le_refl _) (by rw [left_len]; omega) hr
    rw [left_len] at this
    simpa using this⟩
   obtain ⟨T, hT⟩ : ∃ T, vecsL (left_ s (i + 2)) kind false [] = T := ⟨_, rfl⟩
   rw [hT] at hwt0 ⊢
   have HT0 := Aside0.mk hT
   have HLt := Aside0.mk (show gr < w7.heap.size ∧ gp < w7.heap.size ∧ (∀ k, va.ownBlock = some k → k < w7.heap.size) ∧ (∀ k, vw.ownBlock = some k → k < w7.heap.size) ∧ w0.heap.size ≤ w7.heap.size from ⟨blk_lt HI7.out.1, blk_lt HP7.out.obj, Kd.R_lt HP7.out.ri, Kd.R_lt HP7.out.rw_, HB7.out.size⟩)
   clear hT
   go_wp2_with fail
   go_loopg [6, 7] (s.size + 1) (fun kq v6 v7 wr => ∃ (al : Bool) (ws : List S43) (j : Nat), v6 = .bool al ∧ j ≤ s.size ∧ s.size - j < kq ∧ ws.length ≤ 60000 - 3 * (s.size - j) ∧ Aside0 (RowW w7.heap.size wr v7 ws) ∧ Aside0 (vecsL (left_ s j) kind al ws = T) ∧ Aside0 (IsS77 w0 wr gr s (j : Int) (-1)) ∧ Aside0 (PduAt w0.heap.size wr gp va vw all words) ∧ Aside0 (Below w0.heap.size w0 wr) ∧ Aside0 (w7.heap.size ≤ wr.heap.size))
   case atStart => exact ⟨false, [], i + 2, rfl, hl2, by omega, Nat.zero_le _, ⟨RowW.nil _ _⟩, HT0, HI7, HP7, HB7, ⟨Nat.le_refl _⟩⟩
   case round =>
    rename World => wr
    clear HI7 HB7 HP7 HK1 HK2
    obtain ⟨al, ws, j, rfl, hj, hfu, hwl, HRw, HT, HI, HP, HB, HSz⟩ := hrel
    cases gk with
    | zero => omega
    | succ q1 =>
     obtain ⟨A7, c7, rfl, hc7, hC7⟩ := HRw.out.reads
     have HC7 := Aside0.mk hC7
     clear hC7
     by_cases hsh : j + 2 ≤ s.size
     ·
      obtain ⟨kg, hkg⟩ := (get_good s j 2 (by omega) hsh (by decide) (by decide)).rounds
      have hgl := get_left s j 2 hsh
      have hv := val_seg s j 2
      obtain ⟨hn, hhn⟩ : ∃ hn : Nat, val (seg s j 2) = (hn : Int) := ⟨_, (Int.toNat_of_nonneg hv.1).symm⟩
      rw [hhn] at hgl hkg hv
      have hn16 : hn < 65536 := by have := hv.2; omega
      have HKg := Aside0.mk hkg
      have HGl := Aside0.mk hgl
      clear hkg hgl hv hhn
      go_wp2_with fail
      go_at_call 32
      refine (octet_Reader_Get.calls kg gr s (j : Int) (-1) 2 _ _ _ _ w0 wr HI.out HB.out HKg.out).mono ?_
      rintro e w8 ⟨rfl, hI8, hB8, hK8⟩
      have HP8 := Aside0.mk (HP.out.keep hK8 HI.out.1)
      have HR8 := Aside0.mk (HRw.out.kept hK8 HI.out.1 (by decide))
      have HS8 := Aside0.mk (Nat.le_trans HSz.out hK8.1)
      have HI8 := Aside0.mk hI8
      have HB8 := Aside0.mk hB8
      clear hI8 hB8 hK8 HI HB HP HRw HSz HKg
      go_wp2_with fail
      go_at_call 33
      refine (octet_Reader_Fault.calls gr s _ (-1) _ _ _ _ w0 w8 HI8.out HB8.out rfl).mono ?_
      rintro e w9 ⟨rfl, hI9, hB9, hK9⟩
      have HP9 := Aside0.mk (HP8.out.keep hK9 HI8.out.1)
      have HR9 := Aside0.mk (HR8.out.kept hK9 HI8.out.1 (by decide))
      have HS9 := Aside0.mk (Nat.le_trans HS8.out hK9.1)
      have HI9 := Aside0.mk hI9
      have HB9 := Aside0.mk hB9
      clear hI9 hB9 hK9 HI8 HB8 HP8 HR8 HS8
      by_cases h0 : hn = 0
      ·
       subst h0
       have HTe := Aside0.mk ((vecsL_end HGl.out kind al ws).symm.trans HT.out)
       obtain ⟨Aa, ca, rfl, hca, hCa⟩ := HP9.out.ri.reads
       obtain ⟨Aw, cw, rfl, hcw, hCw⟩ := HP9.out.rw_.reads
       have pa : w9.cell? ⟨gp, 0, none⟩ = some (.slice Aa all.length ca) := (blk_cell HP9.out.obj 0).trans rfl
       have pw : w9.cell? ⟨gp, 1, none⟩ = some (.slice Aw words.length cw) := (blk_cell HP9.out.obj 1).trans rfl
       have hpl := World.block_lt_of_cell? w9 _ pa
       obtain ⟨A7, c7, hv7, hc7, hC7⟩ := HR9.out.reads
       injection hv7 with u1 u2 u3
       subst u1 u3
       clear hC7 u2 hCa hCw
       have hwl2 : ws.length ≤ 60000 := by omega
       go_upto_region 15 with fail
       go_cut [11] (fun s11 wx => ∃ (g : Nat) (v1 v2 : Value), s11 = .pointer (some ⟨g, 0, none⟩) ∧ Aside0 (PduAt w9.heap.size wx g v1 v2 all (words ++ ws)) ∧ Aside0 (Below w9.heap.size w9 wx))
       case first =>
        go_region_held3 (fun w' => w'.cell? ⟨gp, 0, none⟩ = some (.slice Aa all.length ca) ∧ w'.cell? ⟨gp, 1, none⟩ = some (.slice Aw words.length cw))
         (first | go_keep | exact ⟨pa, pw⟩ | exact ⟨pa14, pw14⟩ | exact ⟨pa13, pw13⟩ | exact ⟨pa12, pw12⟩ | exact ⟨((((Below.refl w9.heap.size w14).setCell (by have := hb12.size; have := hb13.size; first | (simp; done) | (simp; omega)) _).setCell (by have := hb12.size; have := hb13.size; first | (simp; done) | (simp; omega)) _).cell hpl).trans pa14, ((((Below.refl w9.heap.size w14).setCell (by have := hb12.size; have := hb13.size; first | (simp; done) | (simp; omega)) _).setCell (by have := hb12.size; have := hb13.size; first | (simp; done) | (simp; omega)) _).cell (p := ⟨gp, 1, none⟩) hpl).trans pw14⟩)
         (first
          | (go_at_call 48; refine (cloneI_calls w0.heap.size _ _ all (HP9.out.ri.below (by repeat (first | exact Below.refl _ _ | apply pw_below_drewN | apply below_drew1 | apply below_drew | apply below_alloc))) (by omega)).mono ?_; rintro e w12 ⟨vi, rfl, hvi, hb12'⟩; obtain ⟨Ai, ci, hvie, hci, _⟩ := hvi.reads; subst hvie; have hb12 : Below w9.heap.size w9 w12 := Below.trans (by repeat (first | exact Below.refl _ _ | apply pw_below_drewN | apply below_drew1 | apply below_drew | apply below_alloc)) (hb12'.mono (by simp)); have pa12 := (hb12.cell hpl).trans pa; have pw12 := (hb12.cell (p := ⟨gp, 1, none⟩) hpl).trans pw; have hvi12 := RowI.lower (B' := w9.heap.size) hvi (by simp); have hbk12 := hb12'.block w9.heap.size; clear hvi hb12')
          | (go_at_call 49; refine (cloneW_calls w0.heap.size _ _ words (RowW.below (RowW.below HP9.out.rw_ hb12) (by repeat (first | exact Below.refl _ _ | apply pw_below_drewN | apply below_drew1 | apply below_drew | apply below_alloc))) (by omega)).mono ?_; rintro e w13 ⟨vw2, rfl, hvw2, hb13'⟩; have hb13 : Below w12.heap.size w12 w13 := Below.trans (by repeat (first | exact Below.refl _ _ | apply pw_below_drewN | apply below_drew1 | apply below_drew | apply below_alloc)) (hb13'.mono (by simp)); have pa13 := (hb13.cell (Nat.lt_of_lt_of_le hpl hb12.size)).trans pa12; have pw13 := (hb13.cell (p := ⟨gp, 1, none⟩) (Nat.lt_of_lt_of_le hpl hb12.size)).trans pw12; have hvw13 := RowW.lower (B' := w12.heap.size) hvw2 (by simp); have hvi13 := hvi12.below hb13; have hvlt := Kd.R_lt hvi12; have hcs := (HR9.out.below (hb12.trans (hb13.mono hb12.size))).reads; have hbk13 := hb13'.block w12.heap.size; clear hvw2 hb13')
          | (refine Kd.R_append_rows_step k43 (Rr := Kd.K k43 w13) (w0 := w13) w12.heap.size (by first | rfl | simp [Region.wanted]) _ _ 23 43 (.agg #[(.int .i64 0), (.int .i64 0), (.int .i64 0), (.int .i64 0)]) 32 rfl Try.underlying23 info43 rfl (by decide) (by decide) vw2 words ws A7 ws.length c7 (fun _ => True) (fun _ => False) rfl rfl (RowW.below hvw13 (by first | exact Below.refl _ _ | exact below_alloc (Below.refl _ _) _)) (by obtain ⟨q1_, q2_, q3_, _, q5_⟩ := hcs; injection q3_ with r1_ _ r3_; subst r1_; exact (Kd.C_below q5_ (by first | exact Below.refl _ _ | exact below_alloc (Below.refl _ _) _)).imp_ (Below.refl _ _) (fun x cs hx => k43_free hx)) (fun y cs hy => by rw [k43_open hy]; exact k43_mkM _ _ _ y) (fun k hk => hk.elim) (fun _ _ => trivial) (by first | exact Below.refl _ _ | exact (Below.refl _ _).alloc hb13.size _) (by have := hb13.size; first | exact this | (simp; omega)) (by omega) ?_; intro v14 w14 hR14 hb14 hg14 hat14; obtain ⟨A14, c14, hve14, hc14, _⟩ := Kd.R_reads hR14; subst hve14; have pa14 := (hb14.cell (Nat.lt_of_lt_of_le hpl hb12.size)).trans pa13; have pw14 := (hb14.cell (p := ⟨gp, 1, none⟩) (Nat.lt_of_lt_of_le hpl hb12.size)).trans pw13; have hvi14 := hvi13.move (fun k hk => hb14.block k (hvlt k hk)); have hvw14 : RowW w9.heap.size w14 (.slice A14 (words ++ ws).length c14) (words ++ ws) := RowW.lower (B := w12.heap.size) hR14 hb12.size; have hB914 : Below w9.heap.size w9 w14 := hb12.trans ((hb13.mono hb12.size).trans (hb14.mono hb12.size));
              first
               | (have hbk := blk_grown (heap_alloc_new w13 (.cells #[.slice none 0 0, .slice none 0 0] 25)) hg14 (fun e => by have := Kd.R_lt hvw13 _ e.symm; omega); have bz0 := (blk_cell hbk 0).trans rfl; have bz1 := (blk_cell hbk 1).trans rfl; have bf0 := blk_frozen hbk 0; have bf1 := blk_frozen hbk 1)
               | (have hbk := blk_grown ((hbk13 (by simp)).trans (heap_alloc_new w12 (.cells #[.slice none 0 0, .slice none 0 0] 25))) hg14 (fun e => by obtain ⟨_, hq⟩ := Kd.R_typed hvw13 _ e.symm; rw [(hbk13 (by simp)).trans (heap_alloc_new w12 (.cells #[.slice none 0 0, .slice none 0 0] 25))] at hq; injection hq with hq; injection hq with _ hq _; exact absurd hq (by decide)); have bz0 := (blk_cell hbk 0).trans rfl; have bz1 := (blk_cell hbk 1).trans rfl; have bf0 := blk_frozen hbk 0; have bf1 := blk_frozen hbk 1)
               | (have hbkq : w13.heap[w9.heap.size]? = some (.cells #[.slice none 0 0, .slice none 0 0] 25 (0, 0)) := (hb13.block _ (blk_lt ((hbk12 (by simp)).trans (heap_alloc_new w9 (.cells #[.slice none 0 0, .slice none 0 0] 25))))).trans ((hbk12 (by simp)).trans (heap_alloc_new w9 (.cells #[.slice none 0 0, .slice none 0 0] 25))); have hbk := blk_grown hbkq hg14 (fun e => by obtain ⟨_, hq⟩ := Kd.R_typed hvw13 _ e.symm; rw [hbkq] at hq; injection hq with hq; injection hq with _ hq _; exact absurd hq (by decide)); have bz0 := (blk_cell hbk 0).trans rfl; have bz1 := (blk_cell hbk 1).trans rfl; have bf0 := blk_frozen hbk 0; have bf1 := blk_frozen hbk 1)
               | skip))
        all_goals
         have hs12 := hb12.size
         have hs13 := hb13.size
         first
          | (have HFin := Aside0.mk (cut_set hbk hvi14 hvw14 (by omega) hB914); simp only [List.length_append] at HFin; clear hvi14 hvw14 hB914 hbk; (try clear hg14); go_wp2_with fail; go_meet; exact ⟨_, _, _, rfl, ⟨HFin.out.1⟩, ⟨HFin.out.2⟩⟩)
          | (have HFin := Aside0.mk (cut_new hvi14 hvw14 hB914 (by have := hb14.size; omega)); simp only [List.length_append] at HFin; clear hvi14 hvw14 hB914; (try clear hg14); go_wp2_with fail; go_meet; exact ⟨_, _, _, rfl, ⟨HFin.out.1⟩, ⟨HFin.out.2⟩⟩)
       case rest =>
        obtain ⟨g11, v1, v2, rfl, HPn, HBn⟩ := hcut
        have HTs : Aside0 ((vecsL (left_ s (i + 2)) kind false []).bind (nextL kind (all, words)) = nextL kind (all, words) (al, ws, left_ s (j + 2))) := ⟨by rw [HT0.out, ← HTe.out, Option.bind_some]⟩
        have HI15 := Aside0.mk (show IsS77 w0 wc gr s ((j + 2 : Nat) : Int) (-1) from IsS77.below HI9.out HBn.out)
        have HP15 := Aside0.mk (HP9.out.below HBn.out)
        have HB15 := Aside0.mk (HB9.out.trans (HBn.out.mono HB9.out.size))
        clear pa pw hpl hwl2
        cases al
        ·
         obtain ⟨Av, cv, rfl, hcv, hCv⟩ := HPn.out.ri.reads
         obtain ⟨Ax, cx, rfl, hcx, hCx⟩ := HPn.out.rw_.reads
         have y0 : wc.cell? ⟨g11, 0, none⟩ = some (.slice Av all.length cv) := (blk_cell HPn.out.obj 0).trans rfl
         have y1 : wc.cell? ⟨g11, 1, none⟩ = some (.slice Ax (words ++ ws).length cx) := (blk_cell HPn.out.obj 1).trans rfl
         obtain ⟨kG, hkG⟩ := (good_ev all (words ++ ws) (by omega) (by rw [List.length_append]; omega)).rounds
         have HKG := Aside0.mk hkG
         have HCv := Aside0.mk hCv
         have HCx := Aside0.mk hCx
         have hlt11 := blk_lt HPn.out.obj
         clear hkG hCv hCx
         go_wp2_with fail
         go_at_call 13
         have hgc := mrpdu_Good.calls kG Av cv all Ax cx (words ++ ws) (goodB all (words ++ ws)) wc HCv.out hcv HCx.out hcx HKG.out
         rw [List.length_append] at hgc
         refine hgc.mono ?_
         clear hgc
         rintro e w16 ⟨rfl, hb16⟩
         have HP16 := Aside0.mk (HP15.out.below hb16)
         have HB16 := Aside0.mk (HB15.out.trans (hb16.mono HB15.out.size))
         have HI16 := Aside0.mk (IsS77.below HI15.out hb16)
         replace y0 := (hb16.cell (p := ⟨g11, 0, none⟩) hlt11).trans y0
         replace y1 := (hb16.cell (p := ⟨g11, 1, none⟩) hlt11).trans y1
         have HV1 := Aside0.mk (HPn.out.ri.below hb16)
         have HV2 := Aside0.mk (HPn.out.rw_.below hb16)
         rw [List.length_append] at y1
         clear HP15 HB15 HI15 hb16
         cases hgd : goodB all (words ++ ws)
         ·
          have HNx : Aside0 (nextL kind (all, words) (false, ws, left_ s (j + 2)) = none) := ⟨by
           unfold nextL
           rw [if_neg]
           simp [hgd]⟩
          clear hgd
          go_wp2_with fail
          go_ret
          rw [HTs.out, HNx.out]
          exact ⟨rfl, HP16.out, HB16.out⟩
         ·
          by_cases hwe : ws = []
          ·
           have HNx : Aside0 (nextL kind (all, words) (false, ws, left_ s (j + 2)) = none) := ⟨by
            unfold nextL
            rw [if_neg]
            simp [hwe]⟩
           have l0 : (((ws.length : Nat) : Int) == 0) = true := by rw [hwe]; rfl
           have l1 : (ws.length == 0) = true := by rw [hwe]; rfl
           clear hgd hwe
           go_wp2_with fail
           go_ret
           rw [HTs.out, HNx.out]
           exact ⟨rfl, HP16.out, HB16.out⟩
          ·
           have HNx : Aside0 (nextL kind (all, words) (false, ws, left_ s (j + 2)) = some ((all, words ++ ws), left_ s (j + 2))) := ⟨by
            unfold nextL
            rw [if_pos (by simpa [hgd] using hwe)]
            simp⟩
           have hpos : 0 < ws.length := List.length_pos_iff.2 hwe
           have l0 : (((ws.length : Nat) : Int) == 0) = false := beq_eq_false_iff_ne.2 (by omega)
           have l1 : (ws.length == 0) = false := beq_eq_false_iff_ne.2 (by omega)
           have x0 := (blk_cell HP16.out.obj 0).trans rfl
           have x1 := (blk_cell HP16.out.obj 1).trans rfl
           have f0 := blk_frozen HP16.out.obj 0
           have f1 := blk_frozen HP16.out.obj 1
           clear hgd hwe hpos
           go_wp2_with fail
           have HFx := Aside0.mk (put_set HP16.out.obj HV1.out HV2.out HB9.out.size HP16.out.ge HB16.out)
           rw [List.length_append] at HFx
           have hgg := blk_ne HP16.out.obj HI16.out.1 (by decide)
           have HIx := Aside0.mk (IsS77.far (IsS77.far HI16.out (p := ⟨gp, 0, none⟩) (fun e => hgg e.symm) (.slice Av all.length cv)) (p := ⟨gp, 1, none⟩) (fun e => hgg e.symm) (.slice Ax (words.length + ws.length) cx))
           go_ret
           rw [HTs.out, HNx.out]
           exact ⟨j + 2, _, _, rfl, HIx.out, hsh, rfl, HFx.out.1, HFx.out.2⟩
        ·
         obtain ⟨Av0, cv0, rfl, hcv0, _⟩ := HPn.out.ri.reads
         obtain ⟨Ax, cx, rfl, hcx, _⟩ := HPn.out.rw_.reads
         have y0 : wc.cell? ⟨g11, 0, none⟩ = some (.slice Av0 all.length cv0) := (blk_cell HPn.out.obj 0).trans rfl
         clear HI15 HP15 HB15
         go_wp2_with (at_builtin; go_loud (refine Kd.R_append (Kd.int .i64) (w0 := w9) w9.heap.size rfl _ _ 22 3 (.int .i64 0) 8 rfl Try.underlying22 info3 rfl (by decide) (by decide) (.slice Av0 all.length cv0) all kind [.int .i64 kind] (fun _ => True) (fun _ => False) rfl (by simp [Act.eval]) rfl (fun k hk => hk.elim) (fun _ _ => trivial) ?_ ?_ ?_ ?_ ?_))
         ·
          exact HPn.out.ri
         ·
          exact HBn.out
         ·
          exact HBn.out.size
         ·
          omega
         ·
          intro v17 w17 hR17 hb17 hg17 hat17
          obtain ⟨Av, cv, rfl, hcv, _⟩ := Kd.R_reads hR17
          have hob := blk_grown HPn.out.obj hg17 (Kd.R_ne HPn.out.ri HPn.out.obj (by decide))
          have hx17 : RowW w9.heap.size w17 (.slice Ax (words ++ ws).length cx) (words ++ ws) := Kd.R_over HPn.out.rw_ HPn.out.ri (fun q hq => by
           have : q = 43 := by simpa [k43, k37, Kd.iso, Kd.pair, Kd.int, Kd.scalar] using hq
           rw [this]; decide) hg17
          have z0 := (blk_cell hob 0).trans rfl
          have zf := blk_frozen hob 0
          have z1 := (blk_cell hob 1).trans rfl
          have HZ1 := Aside0.mk (blk_lt hob)
          have HN2 := Aside0.mk (put_one hob (show RowI w9.heap.size w17 (.slice Av (all ++ [kind]).length cv) (all ++ [kind]) from hR17) hx17 HPn.out.ge hb17)
          rw [List.length_append, List.length_singleton] at HN2
          clear hR17 hb17 hg17 hat17 hob hx17 y0 HPn HBn
          obtain ⟨kG, hkG⟩ := (good_ev (all ++ [kind]) (words ++ ws) (by simp; omega) (by rw [List.length_append]; omega)).rounds
          have HKG := Aside0.mk hkG
          clear hkG
          go_wp2_with fail
          go_at_call 13
          obtain ⟨wd, hwd⟩ : ∃ wd, w17.setCell ⟨g11, 0, none⟩ (.slice Av (all.length + 1) cv) = wd := ⟨_, rfl⟩
          rw [hwd] at HN2 ⊢
          clear hwd z0 z1 zf HZ1
          have HI15 := Aside0.mk (show IsS77 w0 wd gr s ((j + 2 : Nat) : Int) (-1) from IsS77.below HI9.out HN2.out.2)
          have HP15 := Aside0.mk (HP9.out.below HN2.out.2)
          have HB15 := Aside0.mk (HB9.out.trans (HN2.out.2.mono HB9.out.size))
          have hri := HN2.out.1.ri
          have hrw := HN2.out.1.rw_
          obtain ⟨Av', cv', hve, hcv', hCv⟩ := hri.reads
          obtain ⟨Ax', cx', hxe, hcx', hCx⟩ := hrw.reads
          injection hve with v1 v2 v3
          injection hxe with x1 x2 x3
          subst v1 v3 x1 x3
          have y0 := (blk_cell HN2.out.1.obj 0).trans rfl
          have y1 := (blk_cell HN2.out.1.obj 1).trans rfl
          have hlt11 := blk_lt HN2.out.1.obj
          have hgc := mrpdu_Good.calls kG Av cv (all ++ [kind]) Ax cx (words ++ ws) (goodB (all ++ [kind]) (words ++ ws)) wd hCv hcv' hCx hcx' HKG.out
          rw [List.length_append, List.length_append, List.length_singleton] at hgc
          refine hgc.mono ?_
          clear hgc hCv hCx v2 x2
          rintro e w16 ⟨rfl, hb16⟩
          have HP16 := Aside0.mk (HP15.out.below hb16)
          have HB16 := Aside0.mk (HB15.out.trans (hb16.mono HB15.out.size))
          have HI16 := Aside0.mk (IsS77.below HI15.out hb16)
          replace y0 := (hb16.cell (p := ⟨g11, 0, none⟩) hlt11).trans y0
          replace y1 := (hb16.cell (p := ⟨g11, 1, none⟩) hlt11).trans y1
          have HV1 := Aside0.mk (hri.below hb16)
          have HV2 := Aside0.mk (hrw.below hb16)
          rw [List.length_append] at y1
          clear HP15 HB15 HI15 hb16 hri hrw
          cases hgd : goodB (all ++ [kind]) (words ++ ws)
          ·
           have HNx : Aside0 (nextL kind (all, words) (true, ws, left_ s (j + 2)) = none) := ⟨by
            unfold nextL
            rw [if_neg]
            simp [hgd]⟩
           clear hgd
           go_wp2_with fail
           go_ret
           rw [HTs.out, HNx.out]
           exact ⟨rfl, HP16.out, HB16.out⟩
          ·
           have HNx : Aside0 (nextL kind (all, words) (true, ws, left_ s (j + 2)) = some ((all ++ [kind], words ++ ws), left_ s (j + 2))) := ⟨by
            unfold nextL
            rw [if_pos (by simp [hgd])]
            simp⟩
           have x0 := (blk_cell HP16.out.obj 0).trans rfl
           have x1 := (blk_cell HP16.out.obj 1).trans rfl
           have f0 := blk_frozen HP16.out.obj 0
           have f1 := blk_frozen HP16.out.obj 1
           clear hgd
           go_wp2_with fail
           have HFx := Aside0.mk (put_set HP16.out.obj HV1.out HV2.out HB9.out.size HP16.out.ge HB16.out)
           rw [List.length_append] at HFx
           have hgg := blk_ne HP16.out.obj HI16.out.1 (by decide)
           have HIx := Aside0.mk (IsS77.far (IsS77.far HI16.out (p := ⟨gp, 0, none⟩) (fun e => hgg e.symm) (.slice Av (all.length + 1) cv)) (p := ⟨gp, 1, none⟩) (fun e => hgg e.symm) (.slice Ax (words.length + ws.length) cx))
           go_ret
           rw [HTs.out, HNx.out]
           exact ⟨j + 2, _, _, rfl, HIx.out, hsh, rfl, HFx.out.1, HFx.out.2⟩
      ·
       have e0 : ((hn : Int) == 0) = false := beq_eq_false_iff_ne.2 (by omega)
       have e0n : (hn == 0) = false := beq_eq_false_iff_ne.2 h0
       obtain ⟨r, hr, hrq⟩ := row_ev s (by omega) (j + 2) hsh kind c1 hn hn16
       obtain ⟨kr, hkr⟩ := hr.rounds
       have HKr := Aside0.mk hkr
       clear hr hkr
       cases hro : rowL (left_ s (j + 2)) kind hn with
       | none =>
        rw [hro] at hrq
        obtain ⟨l, i', b', rfl, hRs⟩ := hrq
        have HTn := Aside0.mk ((vecsL_bad HGl.out (by omega) (by rw [Int.toNat_natCast]; exact hro) al ws).symm.trans HT.out)
        clear hro h0
        go_wp2_with fail
        go_at_call 47
        refine (mrpdu_row.calls kr gr s _ (-1) kind (hn : Int) _ _ _ _ _ w0 w9 HI9.out HB9.out HKr.out).mono ?_
        rintro e w10 ⟨vl, rfl, hl, hI10, hB10, hK10⟩
        have HP10 := Aside0.mk (HP9.out.keep hK10 HI9.out.1)
        have HB10 := Aside0.mk hB10
        obtain ⟨Al, cl, rfl, _⟩ := Kd.R_reads hl
        clear hl hI10 hB10 hK10
        go_wp2_with fail
        go_ret
        rw [HT0.out, ← HTn.out]
        exact ⟨rfl, HP10.out, HB10.out⟩
       | some x =>
        rw [hro] at hrq
        obtain ⟨i', rfl, hi', hx2⟩ := hrq
        have hwx := rowL_words (by rw [left_len]; omega) hro
        have hlx := (rowL_len hro).1
        rw [left_len] at hwx hlx
        rw [hx2, left_len] at hwx hlx
        have hro2 : rowL (left_ s (j + 2)) kind ((hn : Int)).toNat = some x := by rw [Int.toNat_natCast]; exact hro
        by_cases h2 : al = true ∧ hn / 8192 = 1
        ·
         have HTn := Aside0.mk ((vecsL_two HGl.out (by omega) hro2 (by rw [Int.toNat_natCast]; exact h2) ws).symm.trans HT.out)
         obtain ⟨rfl, h2b⟩ := h2
         have e8 : (((hn : Int) / 8192) == 1) = true := beq_iff_eq.2 (by omega)
         have e8n : ((hn / 8192) == 1) = true := beq_iff_eq.2 h2b
         have e8x : ((((hn / 8192 : Nat) : Int)) == 1) = true := beq_iff_eq.2 (by omega)
         clear hro h0 hro2 h2b
         go_wp2_with fail
         go_at_call 47
         refine (mrpdu_row.calls kr gr s _ (-1) kind (hn : Int) _ _ _ _ _ w0 w9 HI9.out HB9.out HKr.out).mono ?_
         rintro e w10 ⟨vl, rfl, hl, hI10, hB10, hK10⟩
         have HP10 := Aside0.mk (HP9.out.keep hK10 HI9.out.1)
         have HB10 := Aside0.mk hB10
         obtain ⟨Al, cl, rfl, _⟩ := Kd.R_reads hl
         clear hl hI10 hB10 hK10
         go_wp2_with fail
         go_ret
         rw [HT0.out, ← HTn.out]
         exact ⟨rfl, HP10.out, HB10.out⟩
        ·
         have HTn := Aside0.mk ((vecsL_row HGl.out (by omega) hro2 (by rw [Int.toNat_natCast]; exact h2) ws).symm.trans HT.out)
         rw [Int.toNat_natCast] at HTn
         have HX2 := Aside0.mk hx2
         clear hx2 hro2 hro
         obtain ⟨hb8, hhb8⟩ : ∃ hb8, decide (hn / 8192 = 1) = hb8 := ⟨_, rfl⟩
         rw [hhb8] at HTn
         have hal : (al && hb8) = false := by
          rw [← hhb8]
          by_cases h : al = true
          ·
           rw [h, Bool.true_and, decide_eq_false (fun h' => h2 ⟨h, h'⟩)]
          ·
           have : al = false := by simpa using h
           rw [this]; rfl
         have e8 : (((hn : Int) / 8192) == 1) = hb8 := by rw [← hhb8, Bool.eq_iff_iff, beq_iff_eq, decide_eq_true_iff]; omega
         clear hhb8 h2 h0
         cases al
         ·
          go_wp2_with fail
          go_at_call 47
          refine (mrpdu_row.calls kr gr s _ (-1) kind (hn : Int) _ _ _ _ _ w0 w9 HI9.out HB9.out HKr.out).mono ?_
          rintro e w10 ⟨vl, rfl, hl, hI10, hB10, hK10⟩
          have HP10 := Aside0.mk (HP9.out.keep hK10 HI9.out.1)
          have HR10 := Aside0.mk (HR9.out.kept hK10 HI9.out.1 (by decide))
          have HS10 := Aside0.mk (Nat.le_trans HS9.out hK10.1)
          have HB10 := Aside0.mk hB10
          have HI10 := Aside0.mk hI10
          obtain ⟨Al, cl, rfl, hcl, hCl⟩ := Kd.R_reads hl
          have HCl := Aside0.mk hCl
          clear hl hI10 hB10 hK10 hCl HI9 HB9 HP9 HR9 HS9
          go_wp2_with (at_builtin; go_loud (refine Kd.R_append_rows k43 (Rr := Kd.K k43 w10) (w0 := w10) w7.heap.size rfl _ _ 23 43 (.agg #[(.int .i64 0), (.int .i64 0), (.int .i64 0), (.int .i64 0)]) 32 rfl Try.underlying23 info43 rfl (by decide) (by decide) (.slice A7 ws.length c7) ws x.1 Al x.1.length cl (fun _ => True) (fun _ => False) rfl rfl ?_ ?_ ?_ (fun k hk => hk.elim) (fun _ _ => trivial) ?_ ?_ ?_ ?_))
          ·
           exact HR10.out
          ·
           exact HCl.out
          ·
           intro y cs hy
           rw [k43_open hy]; exact k43_mkM _ _ _ y
          ·
           exact Below.refl _ _
          ·
           exact HS10.out
          ·
           omega
          ·
           intro v1 w11 hR hBb hgr hat
           obtain ⟨l1, l2, l3, l4, l5⟩ := HLt.out
           have HI11 := Aside0.mk (show IsS77 w0 w11 gr s (i' : Int) (-1) from ⟨(hBb.block _ l1).trans HI10.out.1, HI10.out.2⟩)
           have HP11 := Aside0.mk (HP10.out.move hBb.block l2 l3 l4)
           have HB11 := Aside0.mk (HB10.out.trans (hBb.mono l5))
           have HS11 := Aside0.mk (Nat.le_trans HS10.out hBb.size)
           have HR11 := Aside0.mk (show RowW w7.heap.size w11 v1 (ws ++ x.1) from hR)
           clear hR hBb hgr hat l1 l2 l3 l4 l5
           go_wp2_with fail
           go_roundg q1
           case measure => omega
           case rel => exact ⟨hb8, ws ++ x.1, i', rfl, hi', by omega, by rw [List.length_append]; omega, HR11, ⟨by rw [← HX2.out]; exact HTn.out⟩, HI11, HP11, HB11, HS11⟩
         ·
          go_wp2_with fail
          go_at_call 47
          refine (mrpdu_row.calls kr gr s _ (-1) kind (hn : Int) _ _ _ _ _ w0 w9 HI9.out HB9.out HKr.out).mono ?_
          rintro e w10 ⟨vl, rfl, hl, hI10, hB10, hK10⟩
          have HP10 := Aside0.mk (HP9.out.keep hK10 HI9.out.1)
          have HR10 := Aside0.mk (HR9.out.kept hK10 HI9.out.1 (by decide))
          have HS10 := Aside0.mk (Nat.le_trans HS9.out hK10.1)
          have HB10 := Aside0.mk hB10
          have HI10 := Aside0.mk hI10
          obtain ⟨Al, cl, rfl, hcl, hCl⟩ := Kd.R_reads hl
          have HCl := Aside0.mk hCl
          clear hl hI10 hB10 hK10 hCl HI9 HB9 HP9 HR9 HS9
          go_wp2_with (at_builtin; go_loud (refine Kd.R_append_rows k43 (Rr := Kd.K k43 w10) (w0 := w10) w7.heap.size rfl _ _ 23 43 (.agg #[(.int .i64 0), (.int .i64 0), (.int .i64 0), (.int .i64 0)]) 32 rfl Try.underlying23 info43 rfl (by decide) (by decide) (.slice A7 ws.length c7) ws x.1 Al x.1.length cl (fun _ => True) (fun _ => False) rfl rfl ?_ ?_ ?_ (fun k hk => hk.elim) (fun _ _ => trivial) ?_ ?_ ?_ ?_))
          ·
           exact HR10.out
          ·
           exact HCl.out
          ·
           intro y cs hy
           rw [k43_open hy]; exact k43_mkM _ _ _ y
          ·
           exact Below.refl _ _
          ·
           exact HS10.out
          ·
           omega
          ·
           intro v1 w11 hR hBb hgr hat
           obtain ⟨l1, l2, l3, l4, l5⟩ := HLt.out
           have HI11 := Aside0.mk (show IsS77 w0 w11 gr s (i' : Int) (-1) from ⟨(hBb.block _ l1).trans HI10.out.1, HI10.out.2⟩)
           have HP11 := Aside0.mk (HP10.out.move hBb.block l2 l3 l4)
           have HB11 := Aside0.mk (HB10.out.trans (hBb.mono l5))
           have HS11 := Aside0.mk (Nat.le_trans HS10.out hBb.size)
           have HR11 := Aside0.mk (show RowW w7.heap.size w11 v1 (ws ++ x.1) from hR)
           clear hR hBb hgr hat l1 l2 l3 l4 l5
           go_wp2_with fail
           go_roundg q1
           case measure => omega
           case rel => exact ⟨true, ws ++ x.1, i', rfl, hi', by omega, by rw [List.length_append]; omega, HR11, ⟨by rw [← HX2.out]; exact HTn.out⟩, HI11, HP11, HB11, HS11⟩
     ·
      obtain ⟨kg, hkg⟩ := (get_short s j 2 (by omega) hj hsh (by decide) (by decide)).rounds
      have HKg := Aside0.mk hkg
      have HTn := Aside0.mk ((vecsL_none (get_left_no s j 2 hj hsh) kind al ws).symm.trans HT.out)
      clear hkg
      have d1 : decide ((0 : Int) ≤ (j : Int)) = true := decide_eq_true (by omega)
      go_wp2_with fail
      go_at_call 32
      refine (octet_Reader_Get.calls kg gr s (j : Int) (-1) 2 _ _ _ _ w0 wr HI.out HB.out HKg.out).mono ?_
      rintro e w8 ⟨rfl, hI8, hB8, hK8⟩
      have HP8 := Aside0.mk (HP.out.keep hK8 HI.out.1)
      have HI8 := Aside0.mk hI8
      have HB8 := Aside0.mk hB8
      clear hI8 hB8 hK8
      go_wp2_with fail
      go_at_call 33
      refine (octet_Reader_Fault.calls gr s _ _ _ _ _ _ w0 w8 HI8.out HB8.out rfl).mono ?_
      rintro e w9 ⟨rfl, hI9, hB9, hK9⟩
      have HP9 := Aside0.mk (HP8.out.keep hK9 HI8.out.1)
      have HB9 := Aside0.mk hB9
      clear hI9 hB9 hK9
      go_wp2_with fail
      go_ret
      rw [HT0.out, ← HTn.out]
      exact ⟨rfl, HP9.out, HB9.out⟩
  ·
   have HN : Aside0 (oneL (left_ s i) (all, words) = none) := ⟨by
    by_cases h : i + 2 ≤ s.size
    ·
     rw [one_two s i h, if_neg (fun hc => c2 hc.2)]
    ·
     exact one_short (by rw [left_len]; omega) _⟩
   rw [HN.out]
   clear HQ1 HQ2 HP1 HP2 HR1 HN
   generalize val (seg s i 1) = kind at c1 c2 HK1 ⊢
   generalize val (seg s (i + 1) 1) = v2 at c2 HK2
   have e1 : (((sizeT kind : Nat) : Int) == 0) = false := beq_eq_false_iff_ne.2 (by omega)
   have e2 : (v2 != ((sizeT kind : Nat) : Int)) = true := bne_iff_ne.2 c2
   have e3 : (v2 == ((sizeT kind : Nat) : Int)) = false := beq_eq_false_iff_ne.2 c2
   clear c2
   go_enter Try.func35, Try.ntmps35
   go_wp2_with fail
   go_at_call 32
   refine (octet_Reader_Get.calls k1 gr s i (-1) 1 _ _ _ _ w0 w HI.out HB.out HK1.out).mono ?_
   rintro e w1 ⟨rfl, hI1, hB1, hK1⟩
   have HB1 := Aside0.mk hB1
   have HI1 := Aside0.mk hI1
   have HPn := Aside0.mk (HP.out.keep hK1 HI.out.1)
   clear hI1 hB1 hK1 HI HB HP
   go_wp2_with fail
   go_at_call 26
   refine (mrpdu_size.calls _ _ _ (size_eq _)).mono ?_
   rintro e w5 ⟨rfl, ⟨⟨nd, hnd⟩⟩⟩
   subst hnd
   have HI5 := Aside0.mk (IsS77.drewN HI1.out nd)
   have HB5 := Aside0.mk (pw_below_drewN HB1.out nd)
   have HP5 := Aside0.mk (HPn.out.below (pw_below_drewN (Below.refl _ _) nd))
   clear HI1 HB1 HPn
   generalize w1.drewN nd = w5 at HI5 HB5 HP5 ⊢
   go_wp2_with fail
   go_at_call 32
   refine (octet_Reader_Get.calls k2 gr s ((i + 1 : Nat) : Int) (-1) 1 _ _ _ _ w0 w5 HI5.out HB5.out HK2.out).mono ?_
   rintro e w6 ⟨rfl, hI6, hB6, hK6⟩
   have HB6 := Aside0.mk hB6
   have HP6 := Aside0.mk (HP5.out.keep hK6 HI5.out.1)
   clear hI6 hB6 hK6 HI5 HB5 HP5
   go_wp2_with fail
   go_at_call 26
   refine (mrpdu_size.calls _ _ _ (size_eq _)).mono ?_
   rintro e w7 ⟨rfl, ⟨⟨nd2, hnd⟩⟩⟩
   subst hnd
   go_wp2_with fail
   go_ret
   exact ⟨rfl, HP6.out.below (pw_below_drewN (Below.refl _ _) _), pw_below_drewN HB6.out _⟩
/-- What Read answers: the message, whether something is wrong, the error. -/
noncomputable def readR (s : ByteArray) : (List Int × List S43) × Bool × Int :=
 if s.size = 0 ∨ val (seg s 0 1) ≠ 0 then (([], []), false, 4) else ((readL (left_ s 1) ([], [])).1, (readL (left_ s 1) ([], [])).2, 0)
theorem one_bounds {s : ByteArray} (hs : s.size ≤ 20000) {i : Nat} {p : List Int × List S43} {r : (List Int × List S43) × List Int} (h : oneL (left_ s i) p = some r) : r.1.1.length ≤ p.1.length + 1 ∧ r.1.2.length + 3 * r.2.length ≤ p.2.length + 3 * (s.size - i) ∧ r.2.length + 4 ≤ s.size - i := by
 have h4 := (oneL_len h).1
 rw [left_len] at h4
 have h2 : i + 2 ≤ s.size := by omega
 rw [one_two s i h2] at h
 split at h
 ·
  obtain ⟨q, hq, h⟩ := Option.bind_eq_some_iff.1 h
  have hw := vecsL_words _ _ _ _ _ _ (Nat.le_refl _) (by rw [left_len]; omega) hq
  rw [left_len] at hw
  obtain ⟨al, ws, L⟩ := q
  unfold nextL at h
  by_cases hc : goodB (p.1 ++ if al = true then [val (seg s i 1)] else []) (p.2 ++ ws) = true ∧ ¬ (al = false ∧ ws = [])
  ·
   rw [if_pos hc] at h
   injection h with h
   subst h
   simp only [List.length_append, List.length_nil] at hw ⊢
   refine ⟨?_, by omega, h4⟩
   cases al <;> simp
  ·
   rw [if_neg hc] at h; cases h
 ·
  cases h
theorem tail_two (s : ByteArray) (j : Nat) (h : s.size - j = 2) (hj : j ≤ s.size) : ((s.extract (s.size - 2) s.size).toList == [0, 0]) = true ↔ left_ s j = [0, 0] := by
 have e : s.size - 2 = j := by omega
 have e2 : s.size = j + 2 := by omega
 have h1 : bytesOf (s.extract (s.size - 2) s.size) = left_ s j := by
  rw [e]
  conv => lhs; rw [e2]
  rw [bytesOf_cut]
  unfold seg left_
  rw [List.take_of_length_le (by rw [List.length_drop, bytesOf_length]; omega)]
 rw [← h1, beq_iff_eq]
 generalize s.extract (s.size - 2) s.size = t
 constructor
 ·
  intro h
  have : t = (⟨#[0, 0]⟩ : ByteArray) := by
   obtain ⟨⟨l⟩⟩ := t
   rw [ByteArray.toList_eq] at h
   simp only at h
   rw [h]
  rw [this]; rfl
 ·
  intro h
  have : t = strOfNums [0, 0] := by rw [← h, Wr.str_bytesOf]
  rw [this, ByteArray.toList_eq]; rfl
/-- What Read leaves. -/
def ReadQ (w0 : World) (r : (List Int × List S43) × Bool × Int) (e : Ending) (w' : World) : Prop :=
 ∃ (A : Option Addr) (ca : Nat) (Aw : Option Addr) (cw : Nat), e = .returned (.tuple #[.agg #[.slice A r.1.1.length ca, .slice Aw r.1.2.length cw], .bool r.2.1, .int .i64 r.2.2]) ∧ RowI w0.heap.size w' (.slice A r.1.1.length ca) r.1.1 ∧ RowW w0.heap.size w' (.slice Aw r.1.2.length cw) r.1.2 ∧ Below w0.heap.size w0 w'
theorem read_calls (w : World) (s : ByteArray) (hs : s.size ≤ 20000) :
  Calls Try.prog 15 #[.string s] w (ReadQ w (readR s)) := by
 obtain ⟨i1, b1, g1, R1, q1, p1⟩ := get_val s (by omega) 0 (Nat.zero_le _)
 obtain ⟨k1, hk1⟩ := g1.rounds
 have HK1 := Aside0.mk hk1
 have HQ1 := Aside0.mk q1
 have HP1 := Aside0.mk p1
 have HR1 := Aside0.mk R1
 clear g1 hk1 R1 q1 p1
 go_enter Try.func15, Try.ntmps15
 go_wp2_with fail
 go_step3
 go_wp2_with fail
 go_at_call 31
 have hob : (w.alloc (.cells #[.slice none 0 0, .slice none 0 0] 25)).heap[w.heap.size]? = some (.cells #[.slice none 0 0, .slice none 0 0] 25 (0, 0)) := heap_alloc_new w _
 have hbw : Below w.heap.size w (w.alloc (.cells #[.slice none 0 0, .slice none 0 0] 25)) := below_alloc (Below.refl _ _) _
 generalize w.alloc (.cells #[.slice none 0 0, .slice none 0 0] 25) = w1 at hob hbw ⊢
 refine (octet_Open.calls s _ _ _ w1 w1 (Below.refl _ _) rfl).mono ?_
 rintro e w2 ⟨gr, rfl, hI2, hB2, hb2⟩
 have HO := Aside0.mk hob
 have HBw := Aside0.mk hbw
 have HI2 := Aside0.mk hI2
 have HB2 := Aside0.mk hB2
 clear hob hbw hI2 hB2 hb2
 go_wp2_with fail
 have hP3 : PduAt w1.heap.size (w2.alloc (.cells #[.slice none 0 0, .slice none 0 0] 25)) w2.heap.size (.slice none 0 0) (.slice none 0 0) [] [] := ⟨heap_alloc_new w2 _, RowI.nil _ _, RowW.nil _ _, HB2.out.size⟩
 have HP3 := Aside0.mk hP3
 have HI3 := Aside0.mk (IsS77.alloc HI2.out (.cells #[.slice none 0 0, .slice none 0 0] 25))
 have HB3 := Aside0.mk (HB2.out.alloc HB2.out.size (.cells #[.slice none 0 0, .slice none 0 0] 25))
 clear hP3 HI2 HB2
 generalize w2.alloc (.cells #[.slice none 0 0, .slice none 0 0] 25) = w3 at HP3 HI3 HB3 ⊢
 generalize w2.heap.size = gp at HP3 ⊢
 go_at_call 32
 refine (octet_Reader_Get.calls k1 gr s 0 (-1) 1 _ _ _ _ w1 w3 HI3.out HB3.out HK1.out).mono ?_
 rintro e w4 ⟨rfl, hI4, hB4, hK4⟩
 have HP4 := Aside0.mk (HP3.out.keep hK4 HI3.out.1)
 have HI4 := Aside0.mk hI4
 have HB4 := Aside0.mk hB4
 clear hI4 hB4 hK4 HI3 HB3 HP3
 by_cases c1 : val (seg s 0 1) = 0
 ·
  rw [c1]
  go_wp2_with fail
  go_at_call 33
  refine (octet_Reader_Fault.calls gr s _ b1 _ _ _ _ w1 w4 HI4.out HB4.out rfl).mono ?_
  rintro e w5 ⟨rfl, hI5, hB5, hK5⟩
  have HP5 := Aside0.mk (HP4.out.keep hK5 HI4.out.1)
  have HI5 := Aside0.mk hI5
  have HB5 := Aside0.mk hB5
  clear hI5 hB5 hK5 HI4 HB4 HP4
  by_cases hsz : 1 ≤ s.size
  ·
   have hb1 := HQ1.out.2 (by omega)
   obtain rfl := HP1.out hb1
   subst hb1
   obtain ⟨T, hT⟩ : ∃ T, readL (left_ s 1) ([], []) = T := ⟨_, rfl⟩
   have HR : Aside0 (readR s = (T.1, T.2, 0)) := ⟨by
    unfold readR
    rw [if_neg (not_or.2 ⟨by omega, fun h => h c1⟩), hT]⟩
   have HT := Aside0.mk hT
   clear hT
   rw [HR.out]
   go_wp2_with fail
   go_step3
   go_wp2_with fail
   go_loopg [] (s.size + 1) (fun kq wr => ∃ (va vw : Value) (all : List Int) (words : List S43) (j : Nat), j ≤ s.size ∧ s.size - j < kq ∧ words.length ≤ 3 * j ∧ 4 * all.length ≤ j ∧ Aside0 (readL (left_ s j) (all, words) = T) ∧ Aside0 (IsS77 w1 wr gr s (j : Int) (-1)) ∧ Aside0 (PduAt w1.heap.size wr gp va vw all words) ∧ Aside0 (Below w1.heap.size w1 wr))
   case atStart => exact ⟨_, _, [], [], 1, hsz, by omega, by simp, by simp, HT, HI5, HP5, HB5⟩
   case round =>
    rename World => wr
    clear HI5 HP5 HB5 HK1 HR1 HQ1 HP1
    obtain ⟨va, vw, all, words, j, hj, hfu, hwl, hal, HT', HI, HP, HB⟩ := hrel
    cases gk with
    | zero => omega
    | succ q1 =>
     have HL : Aside0 (octet_Reader_Left.f s (j : Int) (-1) = some (((s.size - j : Nat) : Int), s, (j : Int), -1)) := ⟨by
      unfold octet_Reader_Left.f
      rw [if_neg (by decide), wrap_id (by omega) (by omega)]
      rw [show (s.size : Int) - (j : Int) = ((s.size - j : Nat) : Int) from by omega]⟩
     go_wp2_with fail
     go_at_call 34
     refine (octet_Reader_Left.calls gr s _ (-1) _ _ _ _ w1 wr HI.out HB.out HL.out).mono ?_
     rintro e w6 ⟨rfl, hI6, hB6, hK6⟩
     have HP6 := Aside0.mk (HP.out.keep hK6 HI.out.1)
     have HI6 := Aside0.mk hI6
     have HB6 := Aside0.mk hB6
     clear hI6 hB6 hK6 HI HB HP HL
     by_cases c2 : s.size - j = 2
     ·
      by_cases cz : left_ s j = [0, 0]
      ·
       have e1 : (((s.size - j : Nat) : Int) == 2) = true := beq_iff_eq.2 (by omega)
       have e2 : ((s.extract (s.size - 2) s.size).toList == [0, 0]) = true := (tail_two s j c2 hj).2 cz
       have HTe : Aside0 (((all, words), false) = T) := ⟨by rw [← HT'.out, cz, readL_end]⟩
       obtain ⟨Aa, ca, rfl, hca, hCa⟩ := HP6.out.ri.reads
       obtain ⟨Aw, cw, rfl, hcw, hCw⟩ := HP6.out.rw_.reads
       have pa := (blk_cell HP6.out.obj 0).trans rfl
       have pw := (blk_cell HP6.out.obj 1).trans rfl
       have hob4 := (HB6.out.block _ (blk_lt HO.out)).trans HO.out
       have HF := Aside0.mk (put_set hob4 HP6.out.ri HP6.out.rw_ HBw.out.size (Nat.le_refl _) (HBw.out.trans (HB6.out.mono HBw.out.size)))
       have x0 := (blk_cell hob4 0).trans rfl
       have x1 := (blk_cell hob4 1).trans rfl
       have f0 := blk_frozen hob4 0
       have f1 := blk_frozen hob4 1
       clear hob4 hCa hCw
       go_wp2_with fail
       rw [HR.out]
       rw [Exit.noGoto_ret]
       generalize (w6.setCell ⟨w.heap.size, 0, none⟩ (.slice Aa all.length ca)).setCell ⟨w.heap.size, 1, none⟩ (.slice Aw words.length cw) = W at HF ⊢
       have z0 := (blk_cell HF.out.1.obj 0).trans rfl
       have z1 := (blk_cell HF.out.1.obj 1).trans rfl
       refine bodyPost_ret (v := .tuple #[.agg #[.slice Aa all.length ca, .slice Aw words.length cw], .bool false, .int .i64 0]) (by simp [results, Try.results15, go_sem, z0, z1]) rfl ?_
       rw [← HTe.out]
       exact ⟨_, _, _, _, rfl, HF.out.1.ri, HF.out.1.rw_, HF.out.2⟩
      ·
       have e1 : (((s.size - j : Nat) : Int) == 2) = true := beq_iff_eq.2 (by omega)
       have e2 : ((s.extract (s.size - 2) s.size).toList == [0, 0]) = false := by
        rw [Bool.eq_false_iff]
        exact fun h => cz ((tail_two s j c2 hj).1 h)
       have e3 : decide (((s.size - j : Nat) : Int) < 2) = false := decide_eq_false (by omega)
       have e4 : decide (s.size - j < 2) = false := decide_eq_false (by omega)
       go_wp2_with fail
       go_at_call 35
       refine (one_calls w1 w6 gr gp s j va vw all words HI6.out HB6.out HP6.out hs hj (by omega) hwl).mono ?_
       rintro e w7 hq
       cases hone : oneL (left_ s j) (all, words) with
       | none =>
        rw [hone] at hq
        obtain ⟨rfl, hP7, hB7⟩ := hq
        have HTe : Aside0 (((all, words), true) = T) := ⟨by rw [← HT'.out, readL_none cz hone]⟩
        have HP7 := Aside0.mk hP7
        have HB7 := Aside0.mk hB7
        clear hP7 hB7 hone HP6 HB6 HI6
        obtain ⟨Aa, ca, rfl, hca, hCa⟩ := HP7.out.ri.reads
        obtain ⟨Aw, cw, rfl, hcw, hCw⟩ := HP7.out.rw_.reads
        have pa := (blk_cell HP7.out.obj 0).trans rfl
        have pw := (blk_cell HP7.out.obj 1).trans rfl
        have hob4 := (HB7.out.block _ (blk_lt HO.out)).trans HO.out
        have HF := Aside0.mk (put_set hob4 HP7.out.ri HP7.out.rw_ HBw.out.size (Nat.le_refl _) (HBw.out.trans (HB7.out.mono HBw.out.size)))
        have x0 := (blk_cell hob4 0).trans rfl
        have x1 := (blk_cell hob4 1).trans rfl
        have f0 := blk_frozen hob4 0
        have f1 := blk_frozen hob4 1
        clear hob4 hCa hCw
        go_wp2_with fail
        rw [HR.out]
        rw [Exit.noGoto_ret]
        generalize (w7.setCell ⟨w.heap.size, 0, none⟩ (.slice Aa all.length ca)).setCell ⟨w.heap.size, 1, none⟩ (.slice Aw words.length cw) = W at HF ⊢
        have z0 := (blk_cell HF.out.1.obj 0).trans rfl
        have z1 := (blk_cell HF.out.1.obj 1).trans rfl
        refine bodyPost_ret (v := .tuple #[.agg #[.slice Aa all.length ca, .slice Aw words.length cw], .bool true, .int .i64 0]) (by simp [results, Try.results15, go_sem, z0, z1]) rfl ?_
        rw [← HTe.out]
        exact ⟨_, _, _, _, rfl, HF.out.1.ri, HF.out.1.rw_, HF.out.2⟩
       | some x =>
        rw [hone] at hq
        obtain ⟨i', va', vw', rfl, hI7, hi', hx2, hP7, hB7⟩ := hq
        obtain ⟨o1, o2, o3⟩ := one_bounds hs hone
        have hlx : x.2.length = s.size - i' := by rw [hx2, left_len]
        have HTn : Aside0 (readL (left_ s i') (x.1.1, x.1.2) = T) := ⟨by rw [← HT'.out, readL_some cz (by rw [left_len]; omega) hone (by rw [left_len]; omega), hx2]⟩
        have HP7 := Aside0.mk hP7
        have HB7 := Aside0.mk hB7
        have HI7 := Aside0.mk hI7
        clear hP7 hB7 hI7 hone HP6 HB6 HI6
        simp only at o1 o2
        go_wp2_with fail
        go_roundg q1
        case measure => omega
        case rel => exact ⟨va', vw', x.1.1, x.1.2, i', hi', by omega, by omega, by omega, HTn, HI7, HP7, HB7⟩
     ·
      have e1 : (((s.size - j : Nat) : Int) == 2) = false := beq_eq_false_iff_ne.2 (by omega)
      by_cases c3 : s.size - j < 2
      ·
       have e3 : decide (((s.size - j : Nat) : Int) < 2) = true := decide_eq_true (by omega)
       have e4 : decide (s.size - j < 2) = true := decide_eq_true (by omega)
       have HTe : Aside0 (((all, words), true) = T) := ⟨by rw [← HT'.out, readL_short (by rw [left_len]; exact c3)]⟩
       obtain ⟨Aa, ca, rfl, hca, hCa⟩ := HP6.out.ri.reads
       obtain ⟨Aw, cw, rfl, hcw, hCw⟩ := HP6.out.rw_.reads
       have pa := (blk_cell HP6.out.obj 0).trans rfl
       have pw := (blk_cell HP6.out.obj 1).trans rfl
       have hob4 := (HB6.out.block _ (blk_lt HO.out)).trans HO.out
       have HF := Aside0.mk (put_set hob4 HP6.out.ri HP6.out.rw_ HBw.out.size (Nat.le_refl _) (HBw.out.trans (HB6.out.mono HBw.out.size)))
       have x0 := (blk_cell hob4 0).trans rfl
       have x1 := (blk_cell hob4 1).trans rfl
       have f0 := blk_frozen hob4 0
       have f1 := blk_frozen hob4 1
       clear hob4 hCa hCw
       go_wp2_with fail
       rw [HR.out]
       rw [Exit.noGoto_ret]
       generalize (w6.setCell ⟨w.heap.size, 0, none⟩ (.slice Aa all.length ca)).setCell ⟨w.heap.size, 1, none⟩ (.slice Aw words.length cw) = W at HF ⊢
       have z0 := (blk_cell HF.out.1.obj 0).trans rfl
       have z1 := (blk_cell HF.out.1.obj 1).trans rfl
       refine bodyPost_ret (v := .tuple #[.agg #[.slice Aa all.length ca, .slice Aw words.length cw], .bool true, .int .i64 0]) (by simp [results, Try.results15, go_sem, z0, z1]) rfl ?_
       rw [← HTe.out]
       exact ⟨_, _, _, _, rfl, HF.out.1.ri, HF.out.1.rw_, HF.out.2⟩
      ·
       have e3 : decide (((s.size - j : Nat) : Int) < 2) = false := decide_eq_false (by omega)
       have e4 : decide (s.size - j < 2) = false := decide_eq_false (by omega)
       go_wp2_with fail
       go_at_call 35
       refine (one_calls w1 w6 gr gp s j va vw all words HI6.out HB6.out HP6.out hs hj (by omega) hwl).mono ?_
       rintro e w7 hq
       cases hone : oneL (left_ s j) (all, words) with
       | none =>
        rw [hone] at hq
        obtain ⟨rfl, hP7, hB7⟩ := hq
        have HTe : Aside0 (((all, words), true) = T) := ⟨by rw [← HT'.out, readL_none (fun h => absurd (congrArg List.length h) (by rw [left_len]; simp; omega)) hone]⟩
        have HP7 := Aside0.mk hP7
        have HB7 := Aside0.mk hB7
        clear hP7 hB7 hone HP6 HB6 HI6
        obtain ⟨Aa, ca, rfl, hca, hCa⟩ := HP7.out.ri.reads
        obtain ⟨Aw, cw, rfl, hcw, hCw⟩ := HP7.out.rw_.reads
        have pa := (blk_cell HP7.out.obj 0).trans rfl
        have pw := (blk_cell HP7.out.obj 1).trans rfl
        have hob4 := (HB7.out.block _ (blk_lt HO.out)).trans HO.out
        have HF := Aside0.mk (put_set hob4 HP7.out.ri HP7.out.rw_ HBw.out.size (Nat.le_refl _) (HBw.out.trans (HB7.out.mono HBw.out.size)))
        have x0 := (blk_cell hob4 0).trans rfl
        have x1 := (blk_cell hob4 1).trans rfl
        have f0 := blk_frozen hob4 0
        have f1 := blk_frozen hob4 1
        clear hob4 hCa hCw
        go_wp2_with fail
        rw [HR.out]
        rw [Exit.noGoto_ret]
        generalize (w7.setCell ⟨w.heap.size, 0, none⟩ (.slice Aa all.length ca)).setCell ⟨w.heap.size, 1, none⟩ (.slice Aw words.length cw) = W at HF ⊢
        have z0 := (blk_cell HF.out.1.obj 0).trans rfl
        have z1 := (blk_cell HF.out.1.obj 1).trans rfl
        refine bodyPost_ret (v := .tuple #[.agg #[.slice Aa all.length ca, .slice Aw words.length cw], .bool true, .int .i64 0]) (by simp [results, Try.results15, go_sem, z0, z1]) rfl ?_
        rw [← HTe.out]
        exact ⟨_, _, _, _, rfl, HF.out.1.ri, HF.out.1.rw_, HF.out.2⟩
       | some x =>
        rw [hone] at hq
        obtain ⟨i', va', vw', rfl, hI7, hi', hx2, hP7, hB7⟩ := hq
        obtain ⟨o1, o2, o3⟩ := one_bounds hs hone
        have hlx : x.2.length = s.size - i' := by rw [hx2, left_len]
        have HTn : Aside0 (readL (left_ s i') (x.1.1, x.1.2) = T) := ⟨by rw [← HT'.out, readL_some (fun h => absurd (congrArg List.length h) (by rw [left_len]; simp; omega)) (by rw [left_len]; omega) hone (by rw [left_len]; omega), hx2]⟩
        have HP7 := Aside0.mk hP7
        have HB7 := Aside0.mk hB7
        have HI7 := Aside0.mk hI7
        clear hP7 hB7 hI7 hone HP6 HB6 HI6
        simp only at o1 o2
        go_wp2_with fail
        go_roundg q1
        case measure => omega
        case rel => exact ⟨va', vw', x.1.1, x.1.2, i', hi', by omega, by omega, by omega, HTn, HI7, HP7, HB7⟩
  ·
   have hb1 : 0 ≤ b1 := by
    rcases HR1.out.2 with h | h
    ·
     exact absurd (HQ1.out.1 h) (by omega)
    ·
     omega
   have d1 : decide (0 ≤ b1) = true := decide_eq_true hb1
   have hob4 := (HB5.out.block _ (blk_lt HO.out)).trans HO.out
   have x0 := (blk_cell hob4 0).trans rfl
   have x1 := (blk_cell hob4 1).trans rfl
   have f0 := blk_frozen hob4 0
   have f1 := blk_frozen hob4 1
   clear hob4
   have HR : Aside0 (readR s = (([], []), false, 4)) := ⟨by unfold readR; rw [if_pos (.inl (by omega))]⟩
   go_wp2_with fail
   rw [HR.out]
   rw [Exit.noGoto_ret]
   have s1 := blk_set ((HB5.out.block _ (blk_lt HO.out)).trans HO.out) 0 (.slice none 0 0)
   have s2 := blk_set s1 1 (.slice none 0 0)
   have hend : Below w.heap.size w ((w5.setCell ⟨w.heap.size, 0, none⟩ (.slice none 0 0)).setCell ⟨w.heap.size, 1, none⟩ (.slice none 0 0)) := (((HBw.out.trans (HB5.out.mono HBw.out.size)).setCell (Nat.le_refl _) _).setCell (Nat.le_refl _) _)
   generalize (w5.setCell ⟨w.heap.size, 0, none⟩ (.slice none 0 0)).setCell ⟨w.heap.size, 1, none⟩ (.slice none 0 0) = W at s2 hend ⊢
   have z0 := (blk_cell s2 0).trans rfl
   have z1 := (blk_cell s2 1).trans rfl
   refine bodyPost_ret (v := .tuple #[.agg #[.slice none 0 0, .slice none 0 0], .bool false, .int .i64 4]) (by simp [results, Try.results15, go_sem, z0, z1]) rfl ⟨none, 0, none, 0, rfl, RowI.nil _ _, RowW.nil _ _, hend⟩
 ·
  have e1 : (val (seg s 0 1) != 0) = true := bne_iff_ne.2 c1
  have e2 : (val (seg s 0 1) == 0) = false := beq_eq_false_iff_ne.2 c1
  have hob4 := (HB4.out.block _ (blk_lt HO.out)).trans HO.out
  have x0 := (blk_cell hob4 0).trans rfl
  have x1 := (blk_cell hob4 1).trans rfl
  have f0 := blk_frozen hob4 0
  have f1 := blk_frozen hob4 1
  clear hob4
  have HR : Aside0 (readR s = (([], []), false, 4)) := ⟨by unfold readR; rw [if_pos (.inr c1)]⟩
  go_wp2_with fail
  rw [HR.out]
  rw [Exit.noGoto_ret]
  have s1 := blk_set ((HB4.out.block _ (blk_lt HO.out)).trans HO.out) 0 (.slice none 0 0)
  have s2 := blk_set s1 1 (.slice none 0 0)
  have hend : Below w.heap.size w ((w4.setCell ⟨w.heap.size, 0, none⟩ (.slice none 0 0)).setCell ⟨w.heap.size, 1, none⟩ (.slice none 0 0)) := (((HBw.out.trans (HB4.out.mono HBw.out.size)).setCell (Nat.le_refl _) _).setCell (Nat.le_refl _) _)
  generalize (w4.setCell ⟨w.heap.size, 0, none⟩ (.slice none 0 0)).setCell ⟨w.heap.size, 1, none⟩ (.slice none 0 0) = W at s2 hend ⊢
  have z0 := (blk_cell s2 0).trans rfl
  have z1 := (blk_cell s2 1).trans rfl
  refine bodyPost_ret (v := .tuple #[.agg #[.slice none 0 0, .slice none 0 0], .bool false, .int .i64 4]) (by simp [results, Try.results15, go_sem, z0, z1]) rfl ⟨none, 0, none, 0, rfl, RowI.nil _ _, RowW.nil _ _, hend⟩
/-- A message in memory: its block, and the two lists. -/
structure At (w : World) (g : Nat) (A : Option Addr) (c : Nat) (all : List Int) (A' : Option Addr) (c' : Nat) (words : List S43) : Prop where
 obj : w.heap[g]? = some (.cells #[.slice A all.length c, .slice A' words.length c'] 25 (0, 0))
 ri : (Kd.int .i64).C w A all.length all
 ci : all.length ≤ c
 rw_ : k43.C w A' words.length words
 cw : words.length ≤ c'
theorem cint_below {w w' : World} {A : Option Addr} {l : List Int} (h : (Kd.int .i64).C w A l.length l) (hb : Below w.heap.size w w') : (Kd.int .i64).C w' A l.length l :=
 cint_move h (fun ad e hn => by subst e; exact hb.block _ (Kd.C_lt h hn (by decide)))
theorem c43_below {w w' : World} {A : Option Addr} {l : List S43} (h : k43.C w A l.length l) (hb : Below w.heap.size w w') : k43.C w' A l.length l :=
 c43_move h (fun ad e hn => by subst e; exact hb.block _ (Kd.C_lt h hn (by decide)))
theorem At.below {w w' : World} {g : Nat} {A : Option Addr} {c : Nat} {all : List Int} {A' : Option Addr} {c' : Nat} {words : List S43} (h : At w g A c all A' c' words) (hb : Below w.heap.size w w') : At w' g A c all A' c' words :=
 ⟨(hb.block g (blk_lt h.obj)).trans h.obj, cint_below h.ri hb, h.ci, c43_below h.rw_ hb, h.cw⟩
theorem At.cells {w : World} {g : Nat} {A : Option Addr} {c : Nat} {all : List Int} {A' : Option Addr} {c' : Nat} {words : List S43} (h : At w g A c all A' c' words) : w.cell? ⟨g, 0, none⟩ = some (.slice A all.length c) ∧ w.cell? ⟨g, 1, none⟩ = some (.slice A' words.length c') :=
 ⟨(blk_cell h.obj 0).trans rfl, (blk_cell h.obj 1).trans rfl⟩
theorem bytes_nil : bytesR [] [] = ((⟨#[0, 0, 0]⟩ : ByteArray), 0) := by
 have hg : goodB [] [] = true := goodB_iff.2 ⟨by simp, .nil, by simp, .nil⟩
 have hb : bytesL [] [] = [0, 0, 0] := by decide
 unfold bytesR
 rw [if_pos hg, hb, if_pos (by decide)]
 rfl
theorem read_nil : readR (⟨#[0, 0, 0]⟩ : ByteArray) = (([], []), false, 0) := by
 unfold readR
 rw [if_neg (by decide), show left_ (⟨#[0, 0, 0]⟩ : ByteArray) 1 = [0, 0] by decide, readL_end]
theorem alive_calls (w : World) : Calls Try.prog 9 #[] w fun e w' => e = .returned (.bool true) ∧ Below w.heap.size w w' := by
 have hu := Try.underlying25
 go_enter Try.func9, Try.ntmps9
 go_wp2_with fail
 go_at_call 12
 have hB := bytes_calls w none 0 [] none 0 [] (by exact ⟨rfl, by decide, fun h => absurd h (by decide)⟩) (Nat.le_refl _) (by exact ⟨rfl, by decide, fun h => absurd h (by decide)⟩) (Nat.le_refl _) (by decide) (by decide)
 rw [bytes_nil] at hB
 refine hB.mono ?_
 clear hB
 rintro e w1 ⟨rfl, hb1⟩
 have HB1 := Aside0.mk hb1
 clear hb1
 go_wp2_with fail
 go_at_call 15
 have hR := read_calls w1 ⟨#[0, 0, 0]⟩ (by decide)
 rw [read_nil] at hR
 refine hR.mono ?_
 clear hR
 rintro e w2 ⟨A, ca, Aw, cw, rfl, hri, hrw, hb2⟩
 have HB2 := Aside0.mk (HB1.out.trans (hb2.mono HB1.out.size))
 clear hri hrw hb2
 go_wp2_with fail
 go_at_call 18
 refine (mrpdu_Attr.calls 1 1 true _ rfl).mono ?_
 rintro e w4 ⟨rfl, hb4⟩
 go_wp2_with fail
 go_ret
 exact ⟨rfl, HB2.out.alloc HB2.out.size _ |>.trans (hb4.mono (by simpa using Nat.le_succ_of_le HB2.out.size))⟩
end Go.Proofs.Ytlfcpobnkojcbaa.Pm
namespace Go.Proofs.Ytlfcpobnkojcbaa.Pm
open Go.RowKit Go.Proofs.Ytlfcpobnkojcbaa.PMrpduBytes Go.Proofs.YtlfcpobnkojcbaaW.PrintWords Go.Proofs.YtlfcpobnkojcbaaW.PrintLast Go.Proofs.YtlfcpobnkojcbaaW.PrintMore
open Wr (putBytes numOf)
set_option linter.unusedVariables false
set_option linter.unusedSimpArgs false
def Sm (L : List Int) : Prop := ∀ x ∈ L, 0 ≤ x ∧ x < 256
theorem Sm.app {L M : List Int} (h : Sm L) (k : Sm M) : Sm (L ++ M) := fun x hx => (List.mem_append.1 hx).elim (h x) (k x)
theorem Sm.put (a : Int) (k : Nat) : Sm (putBytes a k) := putBytes_small a k
theorem Sm.zero : Sm [0, 0] := fun x hx => by simp at hx; subst hx; decide
theorem Sm.vec {kind : Int} {more : Bool} {l : List S43} (h : RowP kind l) : Sm (vecL kind more l) :=
 (((Sm.put _ _).app (Sm.put _ _)).app (Sm.put _ _)).app (pk_small (by decide) h.fit 3 (by decide))
theorem Sm.rest {kind : Int} : ∀ {rows : List (List S43)}, (∀ r ∈ rows, RowP kind r) → Sm (restL kind rows)
 | [], _ => fun x hx => by simp [restL] at hx
 | r :: rs, h => by
  have e : restL kind (r :: rs) = vecL kind false r ++ restL kind rs := by simp [restL]
  rw [e]
  exact (Sm.vec (h r (by simp))).app (Sm.rest fun q hq => h q (by simp [hq]))
theorem Sm.vecs {kind : Int} {more : Bool} {rows : List (List S43)} (h : ∀ r ∈ rows, RowP kind r) : Sm (vecsOf kind more rows) := by
 cases rows with
 | nil =>
  unfold vecsOf
  cases more
  ·
   intro x hx; simp at hx
  ·
   exact Sm.vec (row_nil kind)
 | cons r rs => exact (Sm.vec (h r (by simp))).app (Sm.rest fun q hq => h q (by simp [hq]))
theorem Sm.part {all : List Int} {words : List S43} (h : GoodP all words) (kind : Int) : Sm (partOf all kind words) := by
 unfold partOf
 split
 ·
  intro x hx; simp at hx
 ·
  exact (((Sm.put _ _).app (Sm.put _ _)).app (Sm.vecs fun r hr => ((rows_ok (good_kind h kind)).1 r hr).2)).app Sm.zero
theorem Sm.bytes {all : List Int} {words : List S43} (h : GoodP all words) : Sm (bytesL all words) := by
 unfold bytesL bodyOf
 have h1 : Sm (partOf all 1 words ++ partOf all 2 words ++ partOf all 3 words ++ [0, 0]) := (((Sm.part h 1).app (Sm.part h 2)).app (Sm.part h 3)).app Sm.zero
 exact fun x hx => (List.mem_cons.1 hx).elim (fun e => by subst e; decide) (h1 x)
theorem good_bytes {all : List Int} {words : List S43} (h : GoodP all words) : bytesOf (strOfNums (bytesL all words)) = bytesL all words := Wr.bytesOf_str _ (Sm.bytes h)
/-- What Read tells of a text whose first byte is 0. -/
theorem readR_of {s : ByteArray} {L : List Int} (h : bytesOf s = 0 :: L) : readR s = ((readL L ([], [])).1, (readL L ([], [])).2, 0) := by
 have h1 : s.size = L.length + 1 := by rw [← bytesOf_length, h]; rfl
 have h2 : seg s 0 1 = [0] := by unfold seg; rw [h]; rfl
 have h3 : left_ s 1 = L := by unfold left_; rw [h]; rfl
 unfold readR
 rw [if_neg (not_or.2 ⟨by omega, fun e => e (by rw [h2]; decide)⟩), h3]
end Go.Proofs.Ytlfcpobnkojcbaa.Pm
namespace Go.Proofs.Ytlfcpobnkojcbaa.Pm
open Go.RowKit Go.Proofs.Ytlfcpobnkojcbaa.PMrpduBytes Go.Proofs.YtlfcpobnkojcbaaW.PrintWords Go.Proofs.YtlfcpobnkojcbaaW.PrintLast Go.Proofs.YtlfcpobnkojcbaaW.PrintMore
set_option linter.unusedVariables false
set_option linter.unusedSimpArgs false
/-- What was read, in memory. -/
theorem At.row {B : Nat} {w : World} {A : Option Addr} {c : Nat} {all : List Int} {A' : Option Addr} {c' : Nat} {words : List S43} (h1 : RowI B w (.slice A all.length c) all) (h2 : RowW B w (.slice A' words.length c') words) :
  At (w.alloc (.cells #[.slice A all.length c, .slice A' words.length c'] 25)) w.heap.size A c all A' c' words := by
 obtain ⟨a, b, e, hc, hC⟩ := h1.reads
 obtain ⟨a', b', e', hc', hC'⟩ := h2.reads
 injection e with e1 _ e2
 injection e' with e1' _ e2'
 subst e1 e2 e1' e2'
 exact ⟨heap_alloc_new w _, cint_below hC (below_alloc (Below.refl _ _) _), hc, c43_below hC' (below_alloc (Below.refl _ _) _), hc'⟩
end Go.Proofs.Ytlfcpobnkojcbaa.Pm
namespace Go.Proofs.Ytlfcpobnkojcbaa.Pm
open Go.RowKit Go.Proofs.Ytlfcpobnkojcbaa.PMrpduBytes Go.Proofs.YtlfcpobnkojcbaaW.PrintWords Go.Proofs.YtlfcpobnkojcbaaW.PrintLast Go.Proofs.YtlfcpobnkojcbaaW.PrintMore
open Wr (putBytes numOf WS IsW KeepW)
set_option linter.unusedVariables false
set_option linter.unusedSimpArgs false
/-- Two messages in memory that a law was given, at its beginning. -/
theorem At.boxed {w : World} {A : Option Addr} {c : Nat} {all : List Int} {A' : Option Addr} {c' : Nat} {words : List S43} (hr0 : (Kd.int .i64).C w A all.length all) (hc0 : all.length ≤ c) (hr1 : k43.C w A' words.length words) (hc1 : words.length ≤ c') :
  At (w.alloc (.cells #[.slice A all.length c, .slice A' words.length c'] 25)) w.heap.size A c all A' c' words :=
 ⟨heap_alloc_new w _, cint_below hr0 (below_alloc (Below.refl _ _) _), hc0, c43_below hr1 (below_alloc (Below.refl _ _) _), hc1⟩
def greatB (all : List Int) (words : List S43) : Bool := decide (20 < all.length) || decide (500 < words.length)
theorem great_eq (all : List Int) (words : List S43) : kissgatelaw07_great.f all words = some (greatB all words) := by
 unfold kissgatelaw07_great.f greatB
 by_cases h : 20 < all.length
 ·
  rw [if_pos (by omega), decide_eq_true h]; rfl
 ·
  rw [if_neg (by omega), decide_eq_false h, Bool.false_or]
  congr 1
  apply decide_eq_decide.2; omega
end Go.Proofs.Ytlfcpobnkojcbaa.Pm
