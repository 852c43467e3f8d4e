/- Lists of events as bytes: unlike lists of one length have unlike bytes, and the bytes of two lists one behind the other are those of both. For lists of at most 300 events each. -/
import Derived.Test.YtaopimcecjgbeaaPPackOnex2
import Derived.Laws.BitsLemmas
import Derived.OpenShut
import Derived.Laws.Strings
namespace Go.Proofs.Ytaopimcecjgbeaa.Pure
open Go.RowKit Go.Proofs.Ytaopimcecjgbeaa.PPackOne Go.Proofs.YtaopimcecjgbeaaW.PrintWords Go.Proofs.YtaopimcecjgbeaaW.PrintLast Go.Proofs.YtaopimcecjgbeaaW.PrintMore

theorem wrap_id {n : Int} (h0 : -9223372036854775808 ≤ n) (h1 : n ≤ 9223372036854775807) : wrap64 n = n := by unfold wrap64; omega

theorem wrap_add (i t : Nat) (h : i + t ≤ 100000000) : wrap64 ((i : Int) + (t : Int)) = ((i + t : Nat) : Int) := by rw [wrap_id (by omega) (by omega)]; omega
theorem wrap_one (t : Nat) (h : t ≤ 100000000) : wrap64 ((t : Int) + 1) = ((t + 1 : Nat) : Int) := by rw [wrap_id (by omega) (by omega)]; omega
theorem wrap_digit {p b d : Int} (hp : 0 ≤ p ∧ p < 256) (hb : 0 < b ∧ b ≤ 6) (hd : 0 ≤ d ∧ d < b) : wrap64 (p * b) = p * b ∧ wrap64 (p * b + d) = p * b + d := by
  have h1 : 0 ≤ p * b := Int.mul_nonneg hp.1 (by omega)
  have h2 : p * b ≤ 255 * 6 := Int.mul_le_mul (by omega) hb.2 (by omega) (by omega)
  generalize p * b = x at *
  exact ⟨wrap_id (by omega) (by omega), wrap_id (by omega) (by omega)⟩

/-- The value of the digits from place i on. -/
def pv (b : Int) (l : List Int) (i : Nat) : Nat → Int
  | 0 => 0
  | t + 1 => pv b l i t * b + l.getD (i + t) 0

theorem pv_succ (b : Int) (l : List Int) (i t : Nat) : pv b l i (t + 1) = pv b l i t * b + l.getD (i + t) 0 := rfl

def Fit (b : Int) (l : List Int) : Prop := ∀ x ∈ l, 0 ≤ x ∧ x < b

theorem fit_getD {b : Int} {l : List Int} (hb : 0 < b) (h : Fit b l) (j : Nat) : 0 ≤ l.getD j 0 ∧ l.getD j 0 < b := by
  rw [List.getD_eq_getElem?_getD]
  cases e : l[j]? with
  | none => simp; exact hb
  | some x => simp; exact h x (List.mem_of_getElem? e)

theorem pow_mono {b : Int} (hb : 0 < b) (s t : Nat) : b ^ s ≤ b ^ (s + t) := by
  induction t with
  | zero => exact Int.le_refl _
  | succ t ih =>
    have h0 : 0 < b ^ (s + t) := Int.pow_pos hb
    have h1 : b ^ (s + t) * 1 ≤ b ^ (s + t) * b := Int.mul_le_mul_of_nonneg_left (by omega) (by omega)
    rw [← Nat.add_assoc, Int.pow_succ]
    omega

theorem pv_range {b : Int} {l : List Int} (hb : 0 < b) (h : Fit b l) (i t : Nat) : 0 ≤ pv b l i t ∧ pv b l i t < b ^ t := by
  induction t with
  | zero => simp [pv]
  | succ t ih =>
    have hd := fit_getD hb h (i + t)
    have h1 : (pv b l i t + 1) * b ≤ b ^ t * b := Int.mul_le_mul_of_nonneg_right (by omega) (by omega)
    have h2 : 0 ≤ pv b l i t * b := Int.mul_nonneg ih.1 (by omega)
    rw [Int.add_mul] at h1
    simp only [pv, Int.pow_succ]
    omega

theorem digit_eq {b p q d e : Int} (hd : 0 ≤ d ∧ d < b) (he : 0 ≤ e ∧ e < b) (h : p * b + d = q * b + e) : p = q ∧ d = e := by
  have hb : 0 < b := by omega
  have h1 : (p * b + d) / b = (q * b + e) / b := by rw [h]
  rw [Int.add_comm (p * b) d, Int.add_comm (q * b) e, Int.add_mul_ediv_right _ _ (by omega), Int.add_mul_ediv_right _ _ (by omega), Int.ediv_eq_zero_of_lt hd.1 hd.2, Int.ediv_eq_zero_of_lt he.1 he.2] at h1
  have hpq : p = q := by omega
  subst hpq
  exact ⟨rfl, by omega⟩

theorem pv_inj {b : Int} {l m : List Int} (hb : 0 < b) (hl : Fit b l) (hm : Fit b m) (i : Nat) : ∀ t, pv b l i t = pv b m i t → ∀ s, s < t → l.getD (i + s) 0 = m.getD (i + s) 0 := by
  intro t
  induction t with
  | zero => intro _ s hs; omega
  | succ t ih =>
    intro h s hs
    simp only [pv] at h
    obtain ⟨h1, h2⟩ := digit_eq (fit_getD hb hl _) (fit_getD hb hm _) h
    by_cases e : s = t
    · rw [e]; exact h2
    · exact ih h1 s (by omega)

theorem pv_congr {b : Int} {l m : List Int} {i j : Nat} (t : Nat) (h : ∀ s, s < t → l.getD (i + s) 0 = m.getD (j + s) 0) : pv b l i t = pv b m j t := by
  induction t with
  | zero => rfl
  | succ t ih => simp only [pv]; rw [ih (fun s hs => h s (by omega)), h t (by omega)]

def nb (many n : Nat) : Nat := (n + many - 1) / many

/-- What is packed: so many digits to a number. -/
def pk (b : Int) (many : Nat) (l : List Int) : List Int := (List.range (nb many l.length)).map fun q => pv b l (q * many) many

theorem pk_length (b : Int) (many : Nat) (l : List Int) : (pk b many l).length = nb many l.length := by simp [pk]

theorem pk_inj {b : Int} {many : Nat} {l m : List Int} (hm0 : 0 < many) (hb : 0 < b) (hl : Fit b l) (hm : Fit b m) (hlen : l.length = m.length) (h : pk b many l = pk b many m) : l = m := by
  apply List.ext_getElem hlen
  intro j hj hj'
  have hq : j / many < nb many l.length := by
    unfold nb
    rw [Nat.div_lt_iff_lt_mul hm0]
    have h1 := Nat.div_add_mod (l.length + many - 1) many
    have h2 := Nat.mod_lt (l.length + many - 1) hm0
    rw [Nat.mul_comm] at h1
    omega
  have h1 : (pk b many l)[j / many]? = (pk b many m)[j / many]? := by rw [h]
  unfold pk at h1
  rw [List.getElem?_map, List.getElem?_map, List.getElem?_range hq, List.getElem?_range (by rw [← hlen]; exact hq)] at h1
  simp only [Option.map_some, Option.some.injEq] at h1
  have h2 := pv_inj hb hl hm _ _ h1 (j % many) (Nat.mod_lt _ hm0)
  rw [show j / many * many + j % many = j from by rw [Nat.mul_comm]; exact Nat.div_add_mod j many] at h2
  simpa [List.getD_eq_getElem?_getD, hj, hj'] using h2

theorem getD_append_left (a b : List Int) (j : Nat) (h : j < a.length) : (a ++ b).getD j 0 = a.getD j 0 := by
  rw [List.getD_eq_getElem?_getD, List.getD_eq_getElem?_getD, List.getElem?_append_left h]
theorem getD_append_right (a b : List Int) (j : Nat) : (a ++ b).getD (a.length + j) 0 = b.getD j 0 := by
  rw [List.getD_eq_getElem?_getD, List.getD_eq_getElem?_getD, List.getElem?_append_right (by omega)]
  congr 2; omega

theorem pk_append {b : Int} {many : Nat} (hm0 : 0 < many) (l m : List Int) (h : l.length % many = 0) : pk b many (l ++ m) = pk b many l ++ pk b many m := by
  obtain ⟨c, hc⟩ : ∃ c, l.length = c * many := ⟨l.length / many, by have := Nat.div_add_mod l.length many; rw [Nat.mul_comm] at this; omega⟩
  have e1 : nb many l.length = c := by
    unfold nb; rw [hc, show c * many + many - 1 = (many - 1) + c * many by omega, Nat.add_mul_div_right _ _ hm0, Nat.div_eq_of_lt (by omega)]; omega
  have e2 : nb many (l ++ m).length = c + nb many m.length := by
    unfold nb; rw [List.length_append, hc, show c * many + m.length + many - 1 = (m.length + many - 1) + c * many by omega, Nat.add_mul_div_right _ _ hm0]; omega
  unfold pk
  rw [e1, e2, List.range_add, List.map_append, List.map_map]
  congr 1
  · apply List.map_congr_left
    intro q hq
    rw [List.mem_range] at hq
    apply pv_congr
    intro s hs
    apply getD_append_left
    have : (q + 1) * many ≤ c * many := Nat.mul_le_mul_right _ hq
    rw [Nat.add_mul] at this
    omega
  · apply List.map_congr_left
    intro q hq
    apply pv_congr
    intro s hs
    show (l ++ m).getD ((c + q) * many + s) 0 = _
    rw [show (c + q) * many + s = l.length + (q * many + s) by rw [hc, Nat.add_mul]; omega, getD_append_right]

def fits (b : Int) (l : List Int) : Bool := l.all fun x => decide (0 ≤ x ∧ x < b)
theorem fits_iff {b : Int} {l : List Int} : fits b l = true ↔ Fit b l := by simp [fits, Fit]

/-! ### What the printed functions answer -/
theorem rd_nat (l : List Int) (i : Nat) : rd l (i : Int) = l.getD i 0 := by simp [rd]

theorem all_loop (b : Int) (l : List Int) (hl : l.length ≤ 1000000) : ∀ d i : Nat, l.length - i = d → i ≤ l.length → Ev (fun k => pack_all.l0 k b l (l.length : Int) (i : Int)) (fits b (l.drop i)) := by
  intro d
  induction d with
  | zero =>
    intro i hd hi
    have : i = l.length := by omega
    subst this
    refine Ev.step (f := fun _ => some true) (fun k => ?_) (by simpa [fits] using Ev.now true)
    simp only [pack_all.l0]; rw [if_neg (by omega)]
  | succ d ih =>
    intro i hd hi
    have hlt : i < l.length := by omega
    have hx : l.drop i = l.getD i 0 :: l.drop (i + 1) := by
      rw [List.drop_eq_getElem_cons hlt]; simp [List.getD_eq_getElem?_getD, hlt]
    have hw : wrap64 ((i : Int) + 1) = ((i + 1 : Nat) : Int) := by rw [wrap_id (by omega) (by omega)]; omega
    by_cases h : 0 ≤ l.getD i 0 ∧ l.getD i 0 < b
    · have e : fits b (l.drop i) = fits b (l.drop (i + 1)) := by rw [hx]; unfold fits; rw [List.all_cons, decide_eq_true h, Bool.true_and]
      rw [e]
      refine Ev.step (fun k => ?_) (ih (i + 1) (by omega) (by omega))
      simp only [pack_all.l0]
      rw [if_pos (by omega), if_pos (by omega), if_pos (by omega), rd_nat, if_neg (by omega), if_neg (by omega), hw]
    · have e : fits b (l.drop i) = false := by rw [hx]; unfold fits; rw [List.all_cons, decide_eq_false h, Bool.false_and]
      rw [e]
      refine Ev.step (f := fun _ => some false) (fun k => ?_) (Ev.now _)
      simp only [pack_all.l0]
      rw [if_pos (by omega), if_pos (by omega), if_pos (by omega), rd_nat]
      by_cases h1 : l.getD i 0 < 0
      · rw [if_pos h1]
      · rw [if_neg h1, if_pos (by omega)]

theorem all_ev (b : Int) (l : List Int) (hl : l.length ≤ 1000000) : Ev (fun k => pack_all.f k l b) (fits b l) := by
  have := all_loop b l hl l.length 0 (by omega) (by omega)
  simpa [pack_all.f] using this

theorem inner_loop {b : Int} {l : List Int} (hb : 0 < b) (hb6 : b ≤ 6) (h : Fit b l) (many : Nat) (hm4 : b ^ many ≤ 256) (i : Nat) (hi : i ≤ 2000000) (hmm : many ≤ 4) (out : List Int) (hout : out.length ≤ 2000000) (r : ByteArray)
    (hk : Ev (fun k => pack_pack.l0 k l (many : Int) b (out ++ [pv b l i many]) ((i + many : Nat) : Int)) r) :
    ∀ d t : Nat, many - t = d → t ≤ many → Ev (fun k => pack_pack.l1 k l (many : Int) b out (i : Int) (pv b l i t) (many : Int) (t : Int)) r := by
  have hsmall : ∀ t, t ≤ many → pv b l i t < 256 := fun t ht => by
    have h1 := (pv_range hb h i t).2
    have h2 : b ^ t ≤ b ^ many := by have := pow_mono hb t (many - t); rwa [show t + (many - t) = many by omega] at this
    omega
  intro d
  induction d with
  | zero =>
    intro t hd ht
    have : t = many := by omega
    subst this
    refine Ev.step (fun k => ?_) hk
    simp only [pack_pack.l1]
    rw [if_neg (by omega), if_pos (by omega), Int.emod_eq_of_lt (pv_range hb h i t).1 (hsmall t (by omega)), wrap_id (by omega) (by omega)]
    congr 1
  | succ d ih =>
    intro t hd ht
    have ht1 : t < many := by omega
    have hnx := ih (t + 1) (by omega) (by omega)
    have W := wrap_digit ⟨(pv_range hb h i t).1, hsmall t ht⟩ ⟨hb, hb6⟩ (fit_getD hb h (i + t))
    have e1 := wrap_add i t (by omega)
    have e2 := wrap_one t (by omega)
    refine Ev.step (fun k => ?_) hnx
    simp only [pack_pack.l1]
    rw [if_pos (Int.ofNat_lt.2 ht1), e1, e2, W.1]
    by_cases hlt : i + t < l.length
    · rw [if_pos (Int.ofNat_lt.2 hlt), if_pos (Int.natCast_nonneg _), rd_nat, W.2, pv_succ]
    · rw [if_neg (fun h => hlt (Int.ofNat_lt.1 h))]
      have : l.getD (i + t) 0 = 0 := by rw [List.getD_eq_getElem?_getD, List.getElem?_eq_none (Nat.le_of_not_lt hlt)]; rfl
      rw [pv_succ, this, Int.add_zero]

theorem outer_loop {b : Int} {l : List Int} (hb : 0 < b) (hb6 : b ≤ 6) (h : Fit b l) (hl : l.length ≤ 1000000) (many : Nat) (hm0 : 0 < many) (hm4 : b ^ many ≤ 256) (hmm : many ≤ 4) :
    ∀ d q : Nat, nb many l.length - q = d → q ≤ nb many l.length → Ev (fun k => pack_pack.l0 k l (many : Int) b ((List.range q).map fun q => pv b l (q * many) many) ((q * many : Nat) : Int)) (strOfNums (pk b many l)) := by
  have hnb : nb many l.length * many < l.length + many := by
    unfold nb
    have := Nat.div_mul_le_self (l.length + many - 1) many
    omega
  have hnb2 : l.length ≤ nb many l.length * many := by
    unfold nb
    have h1 := Nat.div_add_mod (l.length + many - 1) many
    have h2 := Nat.mod_lt (l.length + many - 1) hm0
    rw [Nat.mul_comm] at h1
    omega
  have hnb3 : nb many l.length ≤ 1000004 := by
    have : nb many l.length * 1 ≤ nb many l.length * many := Nat.mul_le_mul_left _ hm0
    omega
  intro d
  induction d with
  | zero =>
    intro q hd hq
    have : q = nb many l.length := by omega
    subst this
    refine Ev.step (f := fun _ => some (strOfNums (pk b many l))) (fun k => ?_) (Ev.now _)
    simp only [pack_pack.l0]
    rw [if_neg (by omega)]
    rfl
  | succ d ih =>
    intro q hd hq
    have hql : (q + 1) * many ≤ nb many l.length * many := Nat.mul_le_mul_right _ (by omega)
    have hqm : q * many < l.length := by
      rw [Nat.add_mul] at hql; omega
    refine Ev.step (f := fun k => pack_pack.l1 k l (many : Int) b ((List.range q).map fun q => pv b l (q * many) many) ((q * many : Nat) : Int) (pv b l (q * many) 0) (many : Int) ((0 : Nat) : Int)) (fun k => ?_) ?_
    · simp only [pack_pack.l0]
      rw [if_pos (by omega)]
      rfl
    · refine inner_loop hb hb6 h many hm4 (q * many) (by omega) hmm _ (by simp; omega) _ ?_ many 0 (by omega) (by omega)
      have := ih (q + 1) (by omega) (by omega)
      rw [List.range_succ, List.map_append] at this
      rw [show q * many + many = (q + 1) * many by rw [Nat.add_mul]; omega]
      exact this

theorem pack_ev {b : Int} {l : List Int} (hb : 0 < b) (hb6 : b ≤ 6) (h : Fit b l) (hl : l.length ≤ 1000000) (many : Nat) (hm0 : 0 < many) (hm4 : b ^ many ≤ 256) (hmm : many ≤ 4) :
    Ev (fun k => pack_pack.f k l (many : Int) b) (strOfNums (pk b many l)) := by
  have := outer_loop hb hb6 h hl many hm0 hm4 hmm _ 0 rfl (by omega)
  simpa [pack_pack.f] using this

theorem pk_small {b : Int} {l : List Int} (hb : 0 < b) (h : Fit b l) (many : Nat) (hm4 : b ^ many ≤ 256) : ∀ x ∈ pk b many l, 0 ≤ x ∧ x < 256 := by
  intro x hx
  unfold pk at hx
  rw [List.mem_map] at hx
  obtain ⟨q, _, rfl⟩ := hx
  have := pv_range hb h (q * many) many
  omega

def tb (xs : List Int) : List UInt8 := xs.map fun n => UInt8.ofNat n.toNat
theorem str_toList (xs : List Int) : (strOfNums xs).toList = tb xs := by unfold strOfNums tb; rw [ByteArray.toList_mk]
theorem tb_inj {xs ys : List Int} (hx : ∀ x ∈ xs, 0 ≤ x ∧ x < 256) (hy : ∀ x ∈ ys, 0 ≤ x ∧ x < 256) (h : tb xs = tb ys) : xs = ys := by
  unfold tb at h
  induction xs generalizing ys with
  | nil => cases ys with
    | nil => rfl
    | cons y ys => simp at h
  | cons x xs ih => cases ys with
    | nil => simp at h
    | cons y ys =>
      simp only [List.map_cons, List.cons.injEq] at h
      have h1 := hx x (by simp)
      have h2 := hy y (by simp)
      have h3 : x = y := by
        have := congrArg UInt8.toNat h.1
        simp [UInt8.toNat_ofNat'] at this
        omega
      rw [h3, ih (fun z hz => hx z (by simp [hz])) (fun z hz => hy z (by simp [hz])) h.2]

theorem threes_ev (l : List Int) (hl : l.length ≤ 1000000) : Ev (fun k => pack_Threes.f k l) (if fits 6 l = true then (strOfNums (pk 6 3 l), 0) else ((⟨#[]⟩ : ByteArray), 1)) := by
  unfold pack_Threes.f
  refine Ev.bind (all_ev 6 l hl) ?_
  by_cases h : fits 6 l = true
  · rw [if_pos h]
    refine Ev.congr (f := fun k => (pack_pack.f k l 3 6).bind fun t => some (t, 0)) (fun k => by rw [if_pos h]) ?_
    exact Ev.bind (pack_ev (b := 6) (by decide) (by decide) (fits_iff.1 h) hl 3 (by decide) (by decide) (by decide)) (Ev.now _)
  · rw [if_neg h]
    exact Ev.congr (f := fun _ => some ((⟨#[]⟩ : ByteArray), 1)) (fun k => by rw [if_neg h]) (Ev.now _)

theorem alive_ev : Ev (fun k => kissgatelaw06_alive.f k) true := by
  unfold kissgatelaw06_alive.f
  refine Ev.bind (threes_ev [1, 2, 3] (by decide)) ?_
  refine Ev.congr (f := fun _ => some true) (fun k => ?_) (Ev.now _)
  have e : (strOfNums (pk 6 3 [1, 2, 3])).toList = ([51] : List UInt8) := by rw [str_toList]; decide
  have e2 : fits 6 [1, 2, 3] = true := by decide
  rw [if_pos e2]
  simp only [e, if_true]
  decide +kernel

theorem same_loop (a b : List Int) (hab : a.length = b.length) (ha : a.length ≤ 1000000) : ∀ d i : Nat, a.length - i = d → i ≤ a.length → Ev (fun k => kissgateref06_Same.l0 k a b (a.length : Int) (i : Int)) (decide (a.drop i = b.drop i)) := by
  intro d
  induction d with
  | zero =>
    intro i hd hi
    refine Ev.step (f := fun _ => some true) (fun k => ?_) ?_
    · simp only [kissgateref06_Same.l0]; rw [if_neg (by omega)]
    · rw [List.drop_eq_nil_of_le (by omega), List.drop_eq_nil_of_le (by omega)]; simpa using Ev.now true
  | succ d ih =>
    intro i hd hi
    have hlt : i < a.length := by omega
    have hx : a.drop i = a.getD i 0 :: a.drop (i + 1) := by rw [List.drop_eq_getElem_cons hlt]; simp [List.getD_eq_getElem?_getD, hlt]
    have hy : b.drop i = b.getD i 0 :: b.drop (i + 1) := by rw [List.drop_eq_getElem_cons (by omega)]; simp [List.getD_eq_getElem?_getD, hab ▸ hlt]
    have hw : wrap64 ((i : Int) + 1) = ((i + 1 : Nat) : Int) := by rw [wrap_id (by omega) (by omega)]; omega
    rw [hx, hy]
    by_cases h : a.getD i 0 = b.getD i 0
    · rw [show decide (a.getD i 0 :: a.drop (i + 1) = b.getD i 0 :: b.drop (i + 1)) = decide (a.drop (i + 1) = b.drop (i + 1)) by rw [decide_eq_decide, h]; simp]
      refine Ev.step (fun k => ?_) (ih (i + 1) (by omega) (by omega))
      simp only [kissgateref06_Same.l0]
      rw [if_pos (by omega), if_pos (by omega), if_pos (by omega), if_pos (by omega), rd_nat, rd_nat, if_pos h, hw]
    · rw [show decide (a.getD i 0 :: a.drop (i + 1) = b.getD i 0 :: b.drop (i + 1)) = false by rw [decide_eq_false_iff_not]; intro e; exact h (List.cons.inj e).1]
      refine Ev.step (f := fun _ => some false) (fun k => ?_) (Ev.now _)
      simp only [kissgateref06_Same.l0]
      rw [if_pos (by omega), if_pos (by omega), if_pos (by omega), if_pos (by omega), rd_nat, rd_nat, if_neg h]

theorem same_ev (a b : List Int) (ha : a.length ≤ 1000000) : Ev (fun k => kissgateref06_Same.f k a b) (decide (a = b)) := by
  unfold kissgateref06_Same.f
  by_cases h : a.length = b.length
  · refine Ev.congr (f := fun k => kissgateref06_Same.l0 k a b (a.length : Int) ((0 : Nat) : Int)) (fun k => by rw [if_pos (by omega)]; rfl) ?_
    exact same_loop a b h ha _ 0 rfl (by omega)
  · rw [show decide (a = b) = false by rw [decide_eq_false_iff_not]; intro e; exact h (by rw [e])]
    exact Ev.congr (f := fun _ => some false) (fun k => by rw [if_neg (by omega)]) (Ev.now _)

theorem str_size (xs : List Int) : (strOfNums xs).size = xs.length := by simp [strOfNums, ByteArray.size]
theorem toList_append (a b : ByteArray) : (a ++ b).toList = a.toList ++ b.toList := by
  rw [ByteArray.toList_eq, ByteArray.toList_eq, ByteArray.toList_eq]; simp
theorem pk_len_le (b : Int) (many : Nat) (hm0 : 0 < many) (l : List Int) : (pk b many l).length ≤ l.length + many := by
  rw [pk_length]; unfold nb; exact Nat.le_trans (Nat.div_le_self _ _) (by omega)
theorem pk_eq_iff {b : Int} {many : Nat} {l m : List Int} (hm0 : 0 < many) (hb : 0 < b) (hm4 : b ^ many ≤ 256) (hl : Fit b l) (hm : Fit b m) (hlen : l.length = m.length) :
    ((strOfNums (pk b many l)).toList == (strOfNums (pk b many m)).toList) = decide (l = m) := by
  rw [str_toList, str_toList, Bool.eq_iff_iff, beq_iff_eq, decide_eq_true_iff]
  constructor
  · intro e; exact pk_inj hm0 hb hl hm hlen (tb_inj (pk_small hb hl many hm4) (pk_small hb hm many hm4) e)
  · intro e; rw [e]


theorem fit_append {b : Int} {l m : List Int} (hl : Fit b l) (hm : Fit b m) : Fit b (l ++ m) := by
  intro x hx
  rcases List.mem_append.1 hx with h | h
  · exact hl x h
  · exact hm x h

def both (k : Nat) (a b : List Int) (x5 x7 : ByteArray) : Option Bool := ((some (([] : List Int) : List Int)).bind fun y133 => (if y133.length + a.length < 17592186044416 then ((some (y133 ++ a : List Int)).bind fun y136 => (if y136.length + b.length < 17592186044416 then ((pack_Threes.f k (y136 ++ b)).bind fun bt142 => (if ((a.length : Int) % 3) = 0 then (if bt142.2 = 0 then (if x5.size + x7.size ≤ 9223372036854775807 then (some (bt142.1.toList == (x5 ++ x7).toList)) else (none)) else (some false)) else (some true))) else (none))) else (none)))

theorem both_ev {a b : List Int} (ha : Fit 6 a) (hb : Fit 6 b) (la : a.length ≤ 300) (lb : b.length ≤ 300) :
    Ev (fun k => both k a b (strOfNums (pk 6 3 a)) (strOfNums (pk 6 3 b))) true := by
  have T := threes_ev (a ++ b) (by rw [List.length_append]; omega)
  rw [if_pos (fits_iff.2 (fit_append ha hb))] at T
  have s1 := str_size (pk 6 3 a)
  have s2 := str_size (pk 6 3 b)
  have s3 := pk_len_le 6 3 (by decide) a
  have s4 := pk_len_le 6 3 (by decide) b
  refine Ev.congr (f := fun k => (pack_Threes.f k (a ++ b)).bind fun bt => (if ((a.length : Int) % 3) = 0 then (if bt.2 = 0 then (some (bt.1.toList == (strOfNums (pk 6 3 a) ++ strOfNums (pk 6 3 b)).toList)) else (some false)) else (some true))) (fun k => ?_) ?_
  · unfold both
    simp only [Option.bind_some, List.nil_append]
    rw [if_pos (by simp; omega)]
    rw [if_pos (by omega)]
    have s5 : (strOfNums (pk 6 3 a)).size + (strOfNums (pk 6 3 b)).size ≤ 9223372036854775807 := by omega
    simp only [if_pos s5]
  · refine Ev.bind T ?_
    refine Ev.congr (f := fun _ => some true) (fun k => ?_) (Ev.now _)
    by_cases h : ((a.length : Int) % 3) = 0
    · rw [if_pos h, if_pos rfl, toList_append, str_toList, str_toList, str_toList, pk_append (by decide) a b (by omega)]
      simp [tb]
    · rw [if_neg h]

theorem j1_ev {a b : List Int} (ha : Fit 6 a) (hb : Fit 6 b) (la : a.length ≤ 300) (lb : b.length ≤ 300) :
    Ev (fun k => kissgatelaw06_PackOne.j1 k a b (strOfNums (pk 6 3 a)) (strOfNums (pk 6 3 b)) false) true := by
  have B := both_ev ha hb la lb
  by_cases h : a.length = b.length
  · refine Ev.step (f := fun k => (kissgateref06_Same.f k a b).bind fun t => if (((strOfNums (pk 6 3 a)).toList == (strOfNums (pk 6 3 b)).toList) != t) = true then some false else both k a b (strOfNums (pk 6 3 a)) (strOfNums (pk 6 3 b))) (fun k => ?_) (Ev.bind (same_ev a b (by omega)) (Ev.congr (fun k => ?_) B))
    · simp only [kissgatelaw06_PackOne.j1]
      rw [if_neg (by decide), if_pos (by omega)]
      rfl
    · rw [pk_eq_iff (by decide) (by decide) (by decide) ha hb h, if_neg (by simp)]
  · refine Ev.step (fun k => ?_) B
    simp only [kissgatelaw06_PackOne.j1]
    rw [if_neg (by decide), if_neg (by omega)]
    rfl

theorem j0_ev (a b : List Int) (la : a.length ≤ 300) (lb : b.length ≤ 300) : Ev (fun k => kissgatelaw06_PackOne.j0 k a b false) true := by
  refine Ev.step (f := fun k => (pack_Threes.f k a).bind fun x => ((pack_Threes.f k b).bind fun y => (if x.2 = 0 then (kissgatelaw06_PackOne.j1 k a b x.1 y.1 (y.2 != 0)) else (kissgatelaw06_PackOne.j1 k a b x.1 y.1 true)))) (fun k => ?_) ?_
  · simp only [kissgatelaw06_PackOne.j0]; rw [if_neg (by decide)]
  refine Ev.bind (threes_ev a (by omega)) (Ev.bind (threes_ev b (by omega)) ?_)
  have J : ∀ x y, Ev (fun k => kissgatelaw06_PackOne.j1 k a b x y true) true := fun x y => Ev.step (f := fun _ => some true) (fun k => by simp only [kissgatelaw06_PackOne.j1]; rw [if_pos trivial]) (Ev.now _)
  by_cases ha : fits 6 a = true
  · rw [if_pos ha]
    by_cases hb : fits 6 b = true
    · rw [if_pos hb]
      exact Ev.congr (fun k => by rw [if_pos rfl]; rfl) (j1_ev (fits_iff.1 ha) (fits_iff.1 hb) la lb)
    · rw [if_neg hb]
      exact Ev.congr (fun k => by rw [if_pos rfl]; rfl) (J _ _)
  · rw [if_neg ha]
    exact Ev.congr (fun k => by rw [if_neg (by decide)]) (J _ _)

theorem PackOne : kissgatelaw06_PackOne.Pure := by
  intro a b _ _ _ _ _ _
  refine Ev.rounds (Ev.bind (f := fun k t => if t = true then (if (a.length : Int) > 300 then (kissgatelaw06_PackOne.j0 k a b true) else (kissgatelaw06_PackOne.j0 k a b (decide ((b.length : Int) > 300)))) else (some false)) alive_ev ?_)
  have J : Ev (fun k => kissgatelaw06_PackOne.j0 k a b true) true := Ev.step (f := fun _ => some true) (fun k => by simp only [kissgatelaw06_PackOne.j0]; rw [if_pos trivial]) (Ev.now _)
  by_cases ha : (a.length : Int) > 300
  · exact Ev.congr (fun k => by rw [if_pos rfl, if_pos ha]) J
  by_cases hb : (b.length : Int) > 300
  · exact Ev.congr (fun k => by rw [if_pos rfl, if_neg ha, decide_eq_true hb]) J
  · exact Ev.congr (fun k => by rw [if_pos rfl, if_neg ha, decide_eq_false hb]) (j0_ev a b (by omega) (by omega))

end Go.Proofs.Ytaopimcecjgbeaa.Pure
