/- Lists of numbers, four to a byte: Fours and Size4 answer what the document says, and what is packed is unpacked. For lists of at most 1000 numbers. -/
import Derived.Test.YtaopimcecjgbeaaPPackFoursx4
import Derived.Laws.BitsLemmas
import Derived.OpenShut
import Derived.Laws.Strings
namespace Go.Proofs.Ytaopimcecjgbeaa.Pure
open Go.RowKit Go.Proofs.Ytaopimcecjgbeaa.PPackFours Go.Proofs.YtaopimcecjgbeaaW.PrintWords Go.Proofs.YtaopimcecjgbeaaW.PrintLast Go.Proofs.YtaopimcecjgbeaaW.PrintMore

theorem wrap_id {n : Int} (h0 : -9223372036854775808 ≤ n) (h1 : n ≤ 9223372036854775807) : wrap64 n = n := by unfold wrap64; omega

theorem wrap_add (i t : Nat) (h : i + t ≤ 100000000) : wrap64 ((i : Int) + (t : Int)) = ((i + t : Nat) : Int) := by rw [wrap_id (by omega) (by omega)]; omega
theorem wrap_one (t : Nat) (h : t ≤ 100000000) : wrap64 ((t : Int) + 1) = ((t + 1 : Nat) : Int) := by rw [wrap_id (by omega) (by omega)]; omega
theorem wrap_digit {p b d : Int} (hp : 0 ≤ p ∧ p < 256) (hb : 0 < b ∧ b ≤ 6) (hd : 0 ≤ d ∧ d < b) : wrap64 (p * b) = p * b ∧ wrap64 (p * b + d) = p * b + d := by
  have h1 : 0 ≤ p * b := Int.mul_nonneg hp.1 (by omega)
  have h2 : p * b ≤ 255 * 6 := Int.mul_le_mul (by omega) hb.2 (by omega) (by omega)
  generalize p * b = x at *
  exact ⟨wrap_id (by omega) (by omega), wrap_id (by omega) (by omega)⟩

/-- The value of the digits from place i on. -/
def pv (b : Int) (l : List Int) (i : Nat) : Nat → Int
  | 0 => 0
  | t + 1 => pv b l i t * b + l.getD (i + t) 0

theorem pv_succ (b : Int) (l : List Int) (i t : Nat) : pv b l i (t + 1) = pv b l i t * b + l.getD (i + t) 0 := rfl

def Fit (b : Int) (l : List Int) : Prop := ∀ x ∈ l, 0 ≤ x ∧ x < b

theorem fit_getD {b : Int} {l : List Int} (hb : 0 < b) (h : Fit b l) (j : Nat) : 0 ≤ l.getD j 0 ∧ l.getD j 0 < b := by
  rw [List.getD_eq_getElem?_getD]
  cases e : l[j]? with
  | none => simp; exact hb
  | some x => simp; exact h x (List.mem_of_getElem? e)

theorem pow_mono {b : Int} (hb : 0 < b) (s t : Nat) : b ^ s ≤ b ^ (s + t) := by
  induction t with
  | zero => exact Int.le_refl _
  | succ t ih =>
    have h0 : 0 < b ^ (s + t) := Int.pow_pos hb
    have h1 : b ^ (s + t) * 1 ≤ b ^ (s + t) * b := Int.mul_le_mul_of_nonneg_left (by omega) (by omega)
    rw [← Nat.add_assoc, Int.pow_succ]
    omega

theorem pv_range {b : Int} {l : List Int} (hb : 0 < b) (h : Fit b l) (i t : Nat) : 0 ≤ pv b l i t ∧ pv b l i t < b ^ t := by
  induction t with
  | zero => simp [pv]
  | succ t ih =>
    have hd := fit_getD hb h (i + t)
    have h1 : (pv b l i t + 1) * b ≤ b ^ t * b := Int.mul_le_mul_of_nonneg_right (by omega) (by omega)
    have h2 : 0 ≤ pv b l i t * b := Int.mul_nonneg ih.1 (by omega)
    rw [Int.add_mul] at h1
    simp only [pv, Int.pow_succ]
    omega

theorem digit_eq {b p q d e : Int} (hd : 0 ≤ d ∧ d < b) (he : 0 ≤ e ∧ e < b) (h : p * b + d = q * b + e) : p = q ∧ d = e := by
  have hb : 0 < b := by omega
  have h1 : (p * b + d) / b = (q * b + e) / b := by rw [h]
  rw [Int.add_comm (p * b) d, Int.add_comm (q * b) e, Int.add_mul_ediv_right _ _ (by omega), Int.add_mul_ediv_right _ _ (by omega), Int.ediv_eq_zero_of_lt hd.1 hd.2, Int.ediv_eq_zero_of_lt he.1 he.2] at h1
  have hpq : p = q := by omega
  subst hpq
  exact ⟨rfl, by omega⟩

theorem pv_inj {b : Int} {l m : List Int} (hb : 0 < b) (hl : Fit b l) (hm : Fit b m) (i : Nat) : ∀ t, pv b l i t = pv b m i t → ∀ s, s < t → l.getD (i + s) 0 = m.getD (i + s) 0 := by
  intro t
  induction t with
  | zero => intro _ s hs; omega
  | succ t ih =>
    intro h s hs
    simp only [pv] at h
    obtain ⟨h1, h2⟩ := digit_eq (fit_getD hb hl _) (fit_getD hb hm _) h
    by_cases e : s = t
    · rw [e]; exact h2
    · exact ih h1 s (by omega)

theorem pv_congr {b : Int} {l m : List Int} {i j : Nat} (t : Nat) (h : ∀ s, s < t → l.getD (i + s) 0 = m.getD (j + s) 0) : pv b l i t = pv b m j t := by
  induction t with
  | zero => rfl
  | succ t ih => simp only [pv]; rw [ih (fun s hs => h s (by omega)), h t (by omega)]

def nb (many n : Nat) : Nat := (n + many - 1) / many

/-- What is packed: so many digits to a number. -/
def pk (b : Int) (many : Nat) (l : List Int) : List Int := (List.range (nb many l.length)).map fun q => pv b l (q * many) many

theorem pk_length (b : Int) (many : Nat) (l : List Int) : (pk b many l).length = nb many l.length := by simp [pk]

theorem pk_inj {b : Int} {many : Nat} {l m : List Int} (hm0 : 0 < many) (hb : 0 < b) (hl : Fit b l) (hm : Fit b m) (hlen : l.length = m.length) (h : pk b many l = pk b many m) : l = m := by
  apply List.ext_getElem hlen
  intro j hj hj'
  have hq : j / many < nb many l.length := by
    unfold nb
    rw [Nat.div_lt_iff_lt_mul hm0]
    have h1 := Nat.div_add_mod (l.length + many - 1) many
    have h2 := Nat.mod_lt (l.length + many - 1) hm0
    rw [Nat.mul_comm] at h1
    omega
  have h1 : (pk b many l)[j / many]? = (pk b many m)[j / many]? := by rw [h]
  unfold pk at h1
  rw [List.getElem?_map, List.getElem?_map, List.getElem?_range hq, List.getElem?_range (by rw [← hlen]; exact hq)] at h1
  simp only [Option.map_some, Option.some.injEq] at h1
  have h2 := pv_inj hb hl hm _ _ h1 (j % many) (Nat.mod_lt _ hm0)
  rw [show j / many * many + j % many = j from by rw [Nat.mul_comm]; exact Nat.div_add_mod j many] at h2
  simpa [List.getD_eq_getElem?_getD, hj, hj'] using h2

theorem getD_append_left (a b : List Int) (j : Nat) (h : j < a.length) : (a ++ b).getD j 0 = a.getD j 0 := by
  rw [List.getD_eq_getElem?_getD, List.getD_eq_getElem?_getD, List.getElem?_append_left h]
theorem getD_append_right (a b : List Int) (j : Nat) : (a ++ b).getD (a.length + j) 0 = b.getD j 0 := by
  rw [List.getD_eq_getElem?_getD, List.getD_eq_getElem?_getD, List.getElem?_append_right (by omega)]
  congr 2; omega

theorem pk_append {b : Int} {many : Nat} (hm0 : 0 < many) (l m : List Int) (h : l.length % many = 0) : pk b many (l ++ m) = pk b many l ++ pk b many m := by
  obtain ⟨c, hc⟩ : ∃ c, l.length = c * many := ⟨l.length / many, by have := Nat.div_add_mod l.length many; rw [Nat.mul_comm] at this; omega⟩
  have e1 : nb many l.length = c := by
    unfold nb; rw [hc, show c * many + many - 1 = (many - 1) + c * many by omega, Nat.add_mul_div_right _ _ hm0, Nat.div_eq_of_lt (by omega)]; omega
  have e2 : nb many (l ++ m).length = c + nb many m.length := by
    unfold nb; rw [List.length_append, hc, show c * many + m.length + many - 1 = (m.length + many - 1) + c * many by omega, Nat.add_mul_div_right _ _ hm0]; omega
  unfold pk
  rw [e1, e2, List.range_add, List.map_append, List.map_map]
  congr 1
  · apply List.map_congr_left
    intro q hq
    rw [List.mem_range] at hq
    apply pv_congr
    intro s hs
    apply getD_append_left
    have : (q + 1) * many ≤ c * many := Nat.mul_le_mul_right _ hq
    rw [Nat.add_mul] at this
    omega
  · apply List.map_congr_left
    intro q hq
    apply pv_congr
    intro s hs
    show (l ++ m).getD ((c + q) * many + s) 0 = _
    rw [show (c + q) * many + s = l.length + (q * many + s) by rw [hc, Nat.add_mul]; omega, getD_append_right]

def fits (b : Int) (l : List Int) : Bool := l.all fun x => decide (0 ≤ x ∧ x < b)
theorem fits_iff {b : Int} {l : List Int} : fits b l = true ↔ Fit b l := by simp [fits, Fit]

/-! ### What the printed functions answer -/
theorem rd_nat (l : List Int) (i : Nat) : rd l (i : Int) = l.getD i 0 := by simp [rd]

theorem all_loop (b : Int) (l : List Int) (hl : l.length ≤ 1000000) : ∀ d i : Nat, l.length - i = d → i ≤ l.length → Ev (fun k => pack_all.l0 k b l (l.length : Int) (i : Int)) (fits b (l.drop i)) := by
  intro d
  induction d with
  | zero =>
    intro i hd hi
    have : i = l.length := by omega
    subst this
    refine Ev.step (f := fun _ => some true) (fun k => ?_) (by simpa [fits] using Ev.now true)
    simp only [pack_all.l0]; rw [if_neg (by omega)]
  | succ d ih =>
    intro i hd hi
    have hlt : i < l.length := by omega
    have hx : l.drop i = l.getD i 0 :: l.drop (i + 1) := by
      rw [List.drop_eq_getElem_cons hlt]; simp [List.getD_eq_getElem?_getD, hlt]
    have hw : wrap64 ((i : Int) + 1) = ((i + 1 : Nat) : Int) := by rw [wrap_id (by omega) (by omega)]; omega
    by_cases h : 0 ≤ l.getD i 0 ∧ l.getD i 0 < b
    · have e : fits b (l.drop i) = fits b (l.drop (i + 1)) := by rw [hx]; unfold fits; rw [List.all_cons, decide_eq_true h, Bool.true_and]
      rw [e]
      refine Ev.step (fun k => ?_) (ih (i + 1) (by omega) (by omega))
      simp only [pack_all.l0]
      rw [if_pos (by omega), if_pos (by omega), if_pos (by omega), rd_nat, if_neg (by omega), if_neg (by omega), hw]
    · have e : fits b (l.drop i) = false := by rw [hx]; unfold fits; rw [List.all_cons, decide_eq_false h, Bool.false_and]
      rw [e]
      refine Ev.step (f := fun _ => some false) (fun k => ?_) (Ev.now _)
      simp only [pack_all.l0]
      rw [if_pos (by omega), if_pos (by omega), if_pos (by omega), rd_nat]
      by_cases h1 : l.getD i 0 < 0
      · rw [if_pos h1]
      · rw [if_neg h1, if_pos (by omega)]

theorem all_ev (b : Int) (l : List Int) (hl : l.length ≤ 1000000) : Ev (fun k => pack_all.f k l b) (fits b l) := by
  have := all_loop b l hl l.length 0 (by omega) (by omega)
  simpa [pack_all.f] using this

theorem inner_loop {b : Int} {l : List Int} (hb : 0 < b) (hb6 : b ≤ 6) (h : Fit b l) (many : Nat) (hm4 : b ^ many ≤ 256) (i : Nat) (hi : i ≤ 2000000) (hmm : many ≤ 4) (out : List Int) (hout : out.length ≤ 2000000) (r : ByteArray)
    (hk : Ev (fun k => pack_pack.l0 k l (many : Int) b (out ++ [pv b l i many]) ((i + many : Nat) : Int)) r) :
    ∀ d t : Nat, many - t = d → t ≤ many → Ev (fun k => pack_pack.l1 k l (many : Int) b out (i : Int) (pv b l i t) (many : Int) (t : Int)) r := by
  have hsmall : ∀ t, t ≤ many → pv b l i t < 256 := fun t ht => by
    have h1 := (pv_range hb h i t).2
    have h2 : b ^ t ≤ b ^ many := by have := pow_mono hb t (many - t); rwa [show t + (many - t) = many by omega] at this
    omega
  intro d
  induction d with
  | zero =>
    intro t hd ht
    have : t = many := by omega
    subst this
    refine Ev.step (fun k => ?_) hk
    simp only [pack_pack.l1]
    rw [if_neg (by omega), if_pos (by omega), Int.emod_eq_of_lt (pv_range hb h i t).1 (hsmall t (by omega)), wrap_id (by omega) (by omega)]
    congr 1
  | succ d ih =>
    intro t hd ht
    have ht1 : t < many := by omega
    have hnx := ih (t + 1) (by omega) (by omega)
    have W := wrap_digit ⟨(pv_range hb h i t).1, hsmall t ht⟩ ⟨hb, hb6⟩ (fit_getD hb h (i + t))
    have e1 := wrap_add i t (by omega)
    have e2 := wrap_one t (by omega)
    refine Ev.step (fun k => ?_) hnx
    simp only [pack_pack.l1]
    rw [if_pos (Int.ofNat_lt.2 ht1), e1, e2, W.1]
    by_cases hlt : i + t < l.length
    · rw [if_pos (Int.ofNat_lt.2 hlt), if_pos (Int.natCast_nonneg _), rd_nat, W.2, pv_succ]
    · rw [if_neg (fun h => hlt (Int.ofNat_lt.1 h))]
      have : l.getD (i + t) 0 = 0 := by rw [List.getD_eq_getElem?_getD, List.getElem?_eq_none (Nat.le_of_not_lt hlt)]; rfl
      rw [pv_succ, this, Int.add_zero]

theorem outer_loop {b : Int} {l : List Int} (hb : 0 < b) (hb6 : b ≤ 6) (h : Fit b l) (hl : l.length ≤ 1000000) (many : Nat) (hm0 : 0 < many) (hm4 : b ^ many ≤ 256) (hmm : many ≤ 4) :
    ∀ d q : Nat, nb many l.length - q = d → q ≤ nb many l.length → Ev (fun k => pack_pack.l0 k l (many : Int) b ((List.range q).map fun q => pv b l (q * many) many) ((q * many : Nat) : Int)) (strOfNums (pk b many l)) := by
  have hnb : nb many l.length * many < l.length + many := by
    unfold nb
    have := Nat.div_mul_le_self (l.length + many - 1) many
    omega
  have hnb2 : l.length ≤ nb many l.length * many := by
    unfold nb
    have h1 := Nat.div_add_mod (l.length + many - 1) many
    have h2 := Nat.mod_lt (l.length + many - 1) hm0
    rw [Nat.mul_comm] at h1
    omega
  have hnb3 : nb many l.length ≤ 1000004 := by
    have : nb many l.length * 1 ≤ nb many l.length * many := Nat.mul_le_mul_left _ hm0
    omega
  intro d
  induction d with
  | zero =>
    intro q hd hq
    have : q = nb many l.length := by omega
    subst this
    refine Ev.step (f := fun _ => some (strOfNums (pk b many l))) (fun k => ?_) (Ev.now _)
    simp only [pack_pack.l0]
    rw [if_neg (by omega)]
    rfl
  | succ d ih =>
    intro q hd hq
    have hql : (q + 1) * many ≤ nb many l.length * many := Nat.mul_le_mul_right _ (by omega)
    have hqm : q * many < l.length := by
      rw [Nat.add_mul] at hql; omega
    refine Ev.step (f := fun k => pack_pack.l1 k l (many : Int) b ((List.range q).map fun q => pv b l (q * many) many) ((q * many : Nat) : Int) (pv b l (q * many) 0) (many : Int) ((0 : Nat) : Int)) (fun k => ?_) ?_
    · simp only [pack_pack.l0]
      rw [if_pos (by omega)]
      rfl
    · refine inner_loop hb hb6 h many hm4 (q * many) (by omega) hmm _ (by simp; omega) _ ?_ many 0 (by omega) (by omega)
      have := ih (q + 1) (by omega) (by omega)
      rw [List.range_succ, List.map_append] at this
      rw [show q * many + many = (q + 1) * many by rw [Nat.add_mul]; omega]
      exact this

theorem pack_ev {b : Int} {l : List Int} (hb : 0 < b) (hb6 : b ≤ 6) (h : Fit b l) (hl : l.length ≤ 1000000) (many : Nat) (hm0 : 0 < many) (hm4 : b ^ many ≤ 256) (hmm : many ≤ 4) :
    Ev (fun k => pack_pack.f k l (many : Int) b) (strOfNums (pk b many l)) := by
  have := outer_loop hb hb6 h hl many hm0 hm4 hmm _ 0 rfl (by omega)
  simpa [pack_pack.f] using this

theorem pk_small {b : Int} {l : List Int} (hb : 0 < b) (h : Fit b l) (many : Nat) (hm4 : b ^ many ≤ 256) : ∀ x ∈ pk b many l, 0 ≤ x ∧ x < 256 := by
  intro x hx
  unfold pk at hx
  rw [List.mem_map] at hx
  obtain ⟨q, _, rfl⟩ := hx
  have := pv_range hb h (q * many) many
  omega

def tb (xs : List Int) : List UInt8 := xs.map fun n => UInt8.ofNat n.toNat
theorem str_toList (xs : List Int) : (strOfNums xs).toList = tb xs := by unfold strOfNums tb; rw [ByteArray.toList_mk]
theorem tb_inj {xs ys : List Int} (hx : ∀ x ∈ xs, 0 ≤ x ∧ x < 256) (hy : ∀ x ∈ ys, 0 ≤ x ∧ x < 256) (h : tb xs = tb ys) : xs = ys := by
  unfold tb at h
  induction xs generalizing ys with
  | nil => cases ys with
    | nil => rfl
    | cons y ys => simp at h
  | cons x xs ih => cases ys with
    | nil => simp at h
    | cons y ys =>
      simp only [List.map_cons, List.cons.injEq] at h
      have h1 := hx x (by simp)
      have h2 := hy y (by simp)
      have h3 : x = y := by
        have := congrArg UInt8.toNat h.1
        simp [UInt8.toNat_ofNat'] at this
        omega
      rw [h3, ih (fun z hz => hx z (by simp [hz])) (fun z hz => hy z (by simp [hz])) h.2]

theorem threes_ev (l : List Int) (hl : l.length ≤ 1000000) : Ev (fun k => pack_Threes.f k l) (if fits 6 l = true then (strOfNums (pk 6 3 l), 0) else ((⟨#[]⟩ : ByteArray), 1)) := by
  unfold pack_Threes.f
  refine Ev.bind (all_ev 6 l hl) ?_
  by_cases h : fits 6 l = true
  · rw [if_pos h]
    refine Ev.congr (f := fun k => (pack_pack.f k l 3 6).bind fun t => some (t, 0)) (fun k => by rw [if_pos h]) ?_
    exact Ev.bind (pack_ev (b := 6) (by decide) (by decide) (fits_iff.1 h) hl 3 (by decide) (by decide) (by decide)) (Ev.now _)
  · rw [if_neg h]
    exact Ev.congr (f := fun _ => some ((⟨#[]⟩ : ByteArray), 1)) (fun k => by rw [if_neg h]) (Ev.now _)

theorem alive_ev : Ev (fun k => kissgatelaw06_alive.f k) true := by
  unfold kissgatelaw06_alive.f
  refine Ev.bind (threes_ev [1, 2, 3] (by decide)) ?_
  refine Ev.congr (f := fun _ => some true) (fun k => ?_) (Ev.now _)
  have e : (strOfNums (pk 6 3 [1, 2, 3])).toList = ([51] : List UInt8) := by rw [str_toList]; decide
  have e2 : fits 6 [1, 2, 3] = true := by decide
  rw [if_pos e2]
  simp only [e, if_true]
  decide +kernel

theorem str_size (xs : List Int) : (strOfNums xs).size = xs.length := by simp [strOfNums, ByteArray.size]
theorem toList_append (a b : ByteArray) : (a ++ b).toList = a.toList ++ b.toList := by
  rw [ByteArray.toList_eq, ByteArray.toList_eq, ByteArray.toList_eq]; simp
theorem pk_len_le (b : Int) (many : Nat) (hm0 : 0 < many) (l : List Int) : (pk b many l).length ≤ l.length + many := by
  rw [pk_length]; unfold nb; exact Nat.le_trans (Nat.div_le_self _ _) (by omega)
theorem pk_eq_iff {b : Int} {many : Nat} {l m : List Int} (hm0 : 0 < many) (hb : 0 < b) (hm4 : b ^ many ≤ 256) (hl : Fit b l) (hm : Fit b m) (hlen : l.length = m.length) :
    ((strOfNums (pk b many l)).toList == (strOfNums (pk b many m)).toList) = decide (l = m) := by
  rw [str_toList, str_toList, Bool.eq_iff_iff, beq_iff_eq, decide_eq_true_iff]
  constructor
  · intro e; exact pk_inj hm0 hb hl hm hlen (tb_inj (pk_small hb hl many hm4) (pk_small hb hm many hm4) e)
  · intro e; rw [e]

theorem same_loop (a b : List Int) (hab : a.length = b.length) (ha : a.length ≤ 1000000) : ∀ d i : Nat, a.length - i = d → i ≤ a.length → Ev (fun k => kissgateref06_Same.l0 k a b (a.length : Int) (i : Int)) (decide (a.drop i = b.drop i)) := by
  intro d
  induction d with
  | zero =>
    intro i hd hi
    refine Ev.step (f := fun _ => some true) (fun k => ?_) ?_
    · simp only [kissgateref06_Same.l0]; rw [if_neg (by omega)]
    · rw [List.drop_eq_nil_of_le (by omega), List.drop_eq_nil_of_le (by omega)]; simpa using Ev.now true
  | succ d ih =>
    intro i hd hi
    have hlt : i < a.length := by omega
    have hx : a.drop i = a.getD i 0 :: a.drop (i + 1) := by rw [List.drop_eq_getElem_cons hlt]; simp [List.getD_eq_getElem?_getD, hlt]
    have hy : b.drop i = b.getD i 0 :: b.drop (i + 1) := by rw [List.drop_eq_getElem_cons (by omega)]; simp [List.getD_eq_getElem?_getD, hab ▸ hlt]
    have hw : wrap64 ((i : Int) + 1) = ((i + 1 : Nat) : Int) := by rw [wrap_id (by omega) (by omega)]; omega
    rw [hx, hy]
    by_cases h : a.getD i 0 = b.getD i 0
    · rw [show decide (a.getD i 0 :: a.drop (i + 1) = b.getD i 0 :: b.drop (i + 1)) = decide (a.drop (i + 1) = b.drop (i + 1)) by rw [decide_eq_decide, h]; simp]
      refine Ev.step (fun k => ?_) (ih (i + 1) (by omega) (by omega))
      simp only [kissgateref06_Same.l0]
      rw [if_pos (by omega), if_pos (by omega), if_pos (by omega), if_pos (by omega), rd_nat, rd_nat, if_pos h, hw]
    · rw [show decide (a.getD i 0 :: a.drop (i + 1) = b.getD i 0 :: b.drop (i + 1)) = false by rw [decide_eq_false_iff_not]; intro e; exact h (List.cons.inj e).1]
      refine Ev.step (f := fun _ => some false) (fun k => ?_) (Ev.now _)
      simp only [kissgateref06_Same.l0]
      rw [if_pos (by omega), if_pos (by omega), if_pos (by omega), if_pos (by omega), rd_nat, rd_nat, if_neg h]

theorem same_ev (a b : List Int) (ha : a.length ≤ 1000000) : Ev (fun k => kissgateref06_Same.f k a b) (decide (a = b)) := by
  unfold kissgateref06_Same.f
  by_cases h : a.length = b.length
  · refine Ev.congr (f := fun k => kissgateref06_Same.l0 k a b (a.length : Int) ((0 : Nat) : Int)) (fun k => by rw [if_pos (by omega)]; rfl) ?_
    exact same_loop a b h ha _ 0 rfl (by omega)
  · rw [show decide (a = b) = false by rw [decide_eq_false_iff_not]; intro e; exact h (by rw [e])]
    exact Ev.congr (f := fun _ => some false) (fun k => by rw [if_neg (by omega)]) (Ev.now _)


/-! ### What is unpacked -/
theorem wrap_succ (t : Nat) (h : t ≤ 100000000) : wrap64 ((t : Int) + 1) = ((t + 1 : Nat) : Int) := wrap_one t h

theorem l3_ev (out R : List Int) (hR : R.length ≤ 100) : ∀ d t : Nat, R.length - t = d → t ≤ R.length →
    Ev (fun k => pack_unpack.l3 k out R (R.length : Int) (t : Int)) (if (R.drop t).all (fun x => x == 0) = true then (out, true) else ([], false)) := by
  intro d
  induction d with
  | zero =>
    intro t hd ht
    rw [List.drop_eq_nil_of_le (by omega)]
    refine Ev.step (f := fun _ => some (out, true)) (fun k => ?_) (Ev.now _)
    simp only [pack_unpack.l3]; rw [if_neg (by omega)]
  | succ d ih =>
    intro t hd ht
    have hlt : t < R.length := by omega
    have hx : R.drop t = R.getD t 0 :: R.drop (t + 1) := by rw [List.drop_eq_getElem_cons hlt]; simp [List.getD_eq_getElem?_getD, hlt]
    have hw := wrap_one t (by omega)
    rw [hx, List.all_cons]
    by_cases h : R.getD t 0 = 0
    · rw [h]
      refine Ev.step (fun k => ?_) (ih (t + 1) (by omega) (by omega))
      simp only [pack_unpack.l3]
      rw [if_pos (by omega), if_pos (by omega), if_pos (by omega), rd_nat, if_pos h, hw]
    · rw [show (R.getD t 0 == 0) = false from beq_eq_false_iff_ne.2 h, Bool.false_and, if_neg (by decide)]
      refine Ev.step (f := fun _ => some ([], false)) (fun k => ?_) (Ev.now _)
      simp only [pack_unpack.l3]
      rw [if_pos (by omega), if_pos (by omega), if_pos (by omega), rd_nat, if_neg h]

theorem l2_all {s : ByteArray} {n many b i sz : Int} {R : List Int} (hR : R.length ≤ 100) {r : List Int × Bool} : ∀ d t : Nat, R.length - t = d → t ≤ R.length → ∀ out : List Int, ((out.length + (R.length - t) : Nat) : Int) ≤ n → n ≤ 1000000 →
    Ev (fun k => pack_unpack.l0 k s n many b (out ++ R.drop t) sz (wrap64 (i + 1))) r → Ev (fun k => pack_unpack.l2 k s n many b out R sz i (R.length : Int) (t : Int)) r := by
  intro d
  induction d with
  | zero =>
    intro t hd ht out _ _ h
    rw [List.drop_eq_nil_of_le (by omega), List.append_nil] at h
    refine Ev.step (fun k => ?_) h
    simp only [pack_unpack.l2]; rw [if_neg (by omega)]
  | succ d ih =>
    intro t hd ht out hn hn2 h
    have hlt : t < R.length := by omega
    have hx : R.drop t = R.getD t 0 :: R.drop (t + 1) := by rw [List.drop_eq_getElem_cons hlt]; simp [List.getD_eq_getElem?_getD, hlt]
    have hw := wrap_one t (by omega)
    have hstep := ih (t + 1) (by omega) (by omega) (out ++ [R.getD t 0]) (by rw [List.length_append, List.length_singleton]; omega) hn2 (by rw [List.append_assoc, List.singleton_append, ← hx]; exact h)
    refine Ev.step (fun k => ?_) hstep
    simp only [pack_unpack.l2]
    rw [if_pos (by omega), if_neg (by omega), if_pos (by omega), if_pos (by omega), if_pos (by omega), rd_nat, hw]

theorem l2_some {s : ByteArray} {n : Nat} {many b i sz : Int} {R : List Int} (hR : R.length ≤ 100) : ∀ q t : Nat, t + q < R.length → ∀ out : List Int, out.length + q = n → n ≤ 1000000 →
    Ev (fun k => pack_unpack.l2 k s (n : Int) many b out R sz i (R.length : Int) (t : Int)) (if (R.drop (t + q)).all (fun x => x == 0) = true then (out ++ (R.drop t).take q, true) else ([], false)) := by
  intro q
  induction q with
  | zero =>
    intro t ht out hn hn2
    have h3 := l3_ev out (R.drop t) (by rw [List.length_drop]; omega) _ 0 rfl (by omega)
    rw [List.drop_zero] at h3
    rw [List.take_zero, List.append_nil, Nat.add_zero]
    refine Ev.step (f := fun k => (some (R.drop t)).bind fun y => pack_unpack.l3 k out y (y.length : Int) 0) (fun k => ?_) h3
    simp only [pack_unpack.l2]
    rw [if_pos (by omega), if_pos (by omega), if_pos (by omega), if_pos (by omega), Int.toNat_natCast]
  | succ q ih =>
    intro t ht out hn hn2
    have hlt : t < R.length := by omega
    have hx : R.drop t = R.getD t 0 :: R.drop (t + 1) := by rw [List.drop_eq_getElem_cons hlt]; simp [List.getD_eq_getElem?_getD, hlt]
    have hw := wrap_one t (by omega)
    have hstep := ih (t + 1) (by omega) (out ++ [R.getD t 0]) (by rw [List.length_append, List.length_singleton]; omega) hn2
    rw [hx, List.take_succ_cons, show t + (q + 1) = t + 1 + q by omega]
    rw [List.append_assoc, List.singleton_append] at hstep
    refine Ev.step (fun k => ?_) hstep
    simp only [pack_unpack.l2]
    rw [if_pos (by omega), if_neg (by omega), if_pos (by omega), if_pos (by omega), if_pos (by omega), rd_nat, hw]

/-- The digits of a byte: three of six, four of four. -/
def d3 (v : Int) : List Int := [v / 36, v / 6 % 6, v % 6]
def d4 (v : Int) : List Int := [v / 64, v / 16 % 4, v / 4 % 4, v % 4]

theorem l1_three {s : ByteArray} {n i sz : Int} {out : List Int} {v : Int} (h0 : 0 ≤ v) (h1 : v < 256) {r : List Int × Bool}
    (hr : if 216 ≤ v then r = ([], false) else Ev (fun k => pack_unpack.l2 k s n 3 6 out (d3 v) sz i ((d3 v).length : Int) ((0 : Nat) : Int)) r) :
    Ev (fun k => pack_unpack.l1 k s n 3 6 out (List.replicate 3 0) v 2 sz i) r := by
  have w1 : wrap64 (v.tdiv 6) = v / 6 := by rw [Int.tdiv_eq_ediv_of_nonneg h0]; exact wrap_id (by omega) (by omega)
  have w2 : wrap64 ((v / 6).tdiv 6) = v / 36 := by rw [Int.tdiv_eq_ediv_of_nonneg (by omega)]; rw [wrap_id (by omega) (by omega)]; omega
  have w3 : wrap64 ((v / 36).tdiv 6) = v / 216 := by rw [Int.tdiv_eq_ediv_of_nonneg (by omega)]; rw [wrap_id (by omega) (by omega)]; omega
  have m1 : v.tmod 6 = v % 6 := Int.tmod_eq_emod_of_nonneg h0
  have m2 : (v / 6).tmod 6 = v / 6 % 6 := Int.tmod_eq_emod_of_nonneg (by omega)
  have m3 : (v / 36).tmod 6 = v / 36 % 6 := Int.tmod_eq_emod_of_nonneg (by omega)
  have x1 : wrap64 ((2 : Int) - 1) = 1 := by decide +kernel
  have x2 : wrap64 ((1 : Int) - 1) = 0 := by decide +kernel
  have x3 : wrap64 ((0 : Int) - 1) = -1 := by decide +kernel
  refine Ev.step (f := fun k => pack_unpack.l1 k s n 3 6 out [0, 0, v % 6] (v / 6) 1 sz i) (fun k => ?_) ?_
  · simp only [pack_unpack.l1]; rw [if_pos (by decide), if_neg (by decide), if_pos (by decide), if_pos (by decide), w1, m1, x1]; rfl
  refine Ev.step (f := fun k => pack_unpack.l1 k s n 3 6 out [0, v / 6 % 6, v % 6] (v / 36) 0 sz i) (fun k => ?_) ?_
  · simp only [pack_unpack.l1]; rw [if_pos (by decide), if_neg (by decide), if_pos (by decide), if_pos (by simp), w2, m2, x2]; rfl
  refine Ev.step (f := fun k => pack_unpack.l1 k s n 3 6 out [v / 36 % 6, v / 6 % 6, v % 6] (v / 216) (-1) sz i) (fun k => ?_) ?_
  · simp only [pack_unpack.l1]; rw [if_pos (by decide), if_neg (by decide), if_pos (by decide), if_pos (by simp), w3, m3, x3]; rfl
  by_cases hv : 216 ≤ v
  · rw [if_pos hv] at hr
    rw [hr]
    refine Ev.step (f := fun _ => some ([], false)) (fun k => ?_) (Ev.now _)
    simp only [pack_unpack.l1]; rw [if_neg (by decide), if_pos (by omega)]
  · rw [if_neg hv] at hr
    refine Ev.step (fun k => ?_) hr
    simp only [pack_unpack.l1]; rw [if_neg (by decide), if_neg (by omega), show v / 36 % 6 = v / 36 by omega]; rfl

theorem l1_four {s : ByteArray} {n i sz : Int} {out : List Int} {v : Int} (h0 : 0 ≤ v) (h1 : v < 256) {r : List Int × Bool}
    (hr : Ev (fun k => pack_unpack.l2 k s n 4 4 out (d4 v) sz i ((d4 v).length : Int) ((0 : Nat) : Int)) r) :
    Ev (fun k => pack_unpack.l1 k s n 4 4 out (List.replicate 4 0) v 3 sz i) r := by
  have w1 : wrap64 (v.tdiv 4) = v / 4 := by rw [Int.tdiv_eq_ediv_of_nonneg h0]; exact wrap_id (by omega) (by omega)
  have w2 : wrap64 ((v / 4).tdiv 4) = v / 16 := by rw [Int.tdiv_eq_ediv_of_nonneg (by omega)]; rw [wrap_id (by omega) (by omega)]; omega
  have w3 : wrap64 ((v / 16).tdiv 4) = v / 64 := by rw [Int.tdiv_eq_ediv_of_nonneg (by omega)]; rw [wrap_id (by omega) (by omega)]; omega
  have w4 : wrap64 ((v / 64).tdiv 4) = v / 256 := by rw [Int.tdiv_eq_ediv_of_nonneg (by omega)]; rw [wrap_id (by omega) (by omega)]; omega
  have m1 : v.tmod 4 = v % 4 := Int.tmod_eq_emod_of_nonneg h0
  have m2 : (v / 4).tmod 4 = v / 4 % 4 := Int.tmod_eq_emod_of_nonneg (by omega)
  have m3 : (v / 16).tmod 4 = v / 16 % 4 := Int.tmod_eq_emod_of_nonneg (by omega)
  have m4 : (v / 64).tmod 4 = v / 64 % 4 := Int.tmod_eq_emod_of_nonneg (by omega)
  have x0 : wrap64 ((3 : Int) - 1) = 2 := by decide +kernel
  have x1 : wrap64 ((2 : Int) - 1) = 1 := by decide +kernel
  have x2 : wrap64 ((1 : Int) - 1) = 0 := by decide +kernel
  have x3 : wrap64 ((0 : Int) - 1) = -1 := by decide +kernel
  refine Ev.step (f := fun k => pack_unpack.l1 k s n 4 4 out [0, 0, 0, v % 4] (v / 4) 2 sz i) (fun k => ?_) ?_
  · simp only [pack_unpack.l1]; rw [if_pos (by decide), if_neg (by decide), if_pos (by decide), if_pos (by decide), w1, m1, x0]; rfl
  refine Ev.step (f := fun k => pack_unpack.l1 k s n 4 4 out [0, 0, v / 4 % 4, v % 4] (v / 16) 1 sz i) (fun k => ?_) ?_
  · simp only [pack_unpack.l1]; rw [if_pos (by decide), if_neg (by decide), if_pos (by decide), if_pos (by simp), w2, m2, x1]; rfl
  refine Ev.step (f := fun k => pack_unpack.l1 k s n 4 4 out [0, v / 16 % 4, v / 4 % 4, v % 4] (v / 64) 0 sz i) (fun k => ?_) ?_
  · simp only [pack_unpack.l1]; rw [if_pos (by decide), if_neg (by decide), if_pos (by decide), if_pos (by simp), w3, m3, x2]; rfl
  refine Ev.step (f := fun k => pack_unpack.l1 k s n 4 4 out [v / 64 % 4, v / 16 % 4, v / 4 % 4, v % 4] (v / 256) (-1) sz i) (fun k => ?_) ?_
  · simp only [pack_unpack.l1]; rw [if_pos (by decide), if_neg (by decide), if_pos (by decide), if_pos (by simp), w4, m4, x3]; rfl
  refine Ev.step (fun k => ?_) hr
  simp only [pack_unpack.l1]; rw [if_neg (by decide), if_neg (by omega), show v / 64 % 4 = v / 64 by omega]; rfl

theorem bt_str (xs : List Int) (hx : ∀ x ∈ xs, 0 ≤ x ∧ x < 256) (i : Nat) : bt (strOfNums xs) (i : Int) = xs.getD i 0 := by
  unfold bt
  rw [Int.toNat_natCast]
  by_cases h : i < xs.length
  · rw [dif_pos (by rw [show (strOfNums xs).size = xs.length by simp [strOfNums, ByteArray.size]]; exact h)]
    have hm := hx xs[i] (List.getElem_mem h)
    have e : (strOfNums xs)[i]'(by rw [show (strOfNums xs).size = xs.length by simp [strOfNums, ByteArray.size]]; exact h) = UInt8.ofNat xs[i].toNat := by simp [strOfNums, ByteArray.getElem_eq_getElem_data]
    rw [e, List.getD_eq_getElem?_getD, List.getElem?_eq_getElem h]
    simp [UInt8.toNat_ofNat']
    omega
  · rw [dif_neg (by rw [show (strOfNums xs).size = xs.length by simp [strOfNums, ByteArray.size]]; exact h), List.getD_eq_getElem?_getD, List.getElem?_eq_none (by omega)]; rfl

/-! ### What the document packs -/
theorem pv_loc {b : Int} {l : List Int} (hb : 0 < b) (i : Nat) : ∀ t, (∀ s, s < t → 0 ≤ l.getD (i + s) 0 ∧ l.getD (i + s) 0 < b) → 0 ≤ pv b l i t ∧ pv b l i t < b ^ t := by
  intro t
  induction t with
  | zero => intro _; simp [pv]
  | succ t ih =>
    intro h
    have hd := h t (by omega)
    have ih := ih (fun s hs => h s (by omega))
    have h1 : (pv b l i t + 1) * b ≤ b ^ t * b := Int.mul_le_mul_of_nonneg_right (by omega) (by omega)
    have h2 : 0 ≤ pv b l i t * b := Int.mul_nonneg ih.1 (by omega)
    rw [Int.add_mul] at h1
    rw [pv_succ, Int.pow_succ]
    omega

theorem str_append (xs ys : List Int) : strOfNums xs ++ strOfNums ys = strOfNums (xs ++ ys) := by
  apply ByteArray.ext
  simp [strOfNums]

theorem mod_succ_eq {many : Nat} (hm : 0 < many) (i : Nat) (h : i % many = many - 1) : (i + 1) % many = 0 ∧ (i + 1) / many = i / many + 1 := by
  have h1 := Nat.div_add_mod i many
  have e : i + 1 = many * (i / many + 1) := by rw [Nat.mul_add]; omega
  rw [e]
  exact ⟨Nat.mul_mod_right _ _, Nat.mul_div_cancel_left _ hm⟩
theorem mod_succ_ne {many : Nat} (hm : 0 < many) (i : Nat) (h : i % many ≠ many - 1) : (i + 1) % many = i % many + 1 ∧ (i + 1) / many = i / many := by
  have h1 := Nat.div_add_mod i many
  have h2 := Nat.mod_lt i hm
  have e : i + 1 = (i % many + 1) + many * (i / many) := by omega
  constructor
  · rw [e, Nat.add_mul_mod_self_left, Nat.mod_eq_of_lt (by omega)]
  · rw [e, Nat.add_mul_div_left _ _ hm, Nat.div_eq_of_lt (by omega)]; omega

def vals (b : Int) (many : Nat) (l : List Int) (q : Nat) : List Int := (List.range q).map fun q => pv b l (q * many) many

theorem ref_pad {b : Int} {l : List Int} (hb : 0 < b) (hb6 : b ≤ 6) (many : Nat) (hm4 : b ^ many ≤ 256) (hmm : many ≤ 4) (q : Nat) (h : Fit b l) (hq : l.length < (q + 1) * many) (hq1 : q * many ≤ l.length) (hq2 : q ≤ 2000000) :
    ∀ d t : Nat, many - t = d → t ≤ many → l.length ≤ q * many + t → Ev (fun k => kissgateref06_Pack.l1 k (many : Int) b (strOfNums (vals b many l q)) (pv b l (q * many) t) (t : Int)) (strOfNums (vals b many l (q + 1)), true) := by
  have hsmall : ∀ t, t ≤ many → pv b l (q * many) t < 256 := fun t ht => by
    have h1 := (pv_range hb h (q * many) t).2
    have h2 : b ^ t ≤ b ^ many := by have := pow_mono hb t (many - t); rwa [show t + (many - t) = many by omega] at this
    omega
  have e0 : vals b many l (q + 1) = vals b many l q ++ [pv b l (q * many) many] := by unfold vals; rw [List.range_succ, List.map_append]; rfl
  intro d
  induction d with
  | zero =>
    intro t hd ht hl
    have : t = many := by omega
    subst this
    refine Ev.step (f := fun _ => some (strOfNums (vals b t l (q + 1)), true)) (fun k => ?_) (Ev.now _)
    simp only [kissgateref06_Pack.l1]
    rw [if_neg (by omega)]
    simp only [Option.bind_some]
    have s1 := str_size (vals b t l q)
    have s2 : (vals b t l q).length = q := by simp [vals]
    rw [Int.emod_eq_of_lt (pv_range hb h _ t).1 (hsmall t (by omega)), if_pos (by rw [s1, s2, str_size, List.length_singleton]; omega), str_append, e0]
  | succ d ih =>
    intro t hd ht hl
    have ht1 : t < many := by omega
    have hnx := ih (t + 1) (by omega) (by omega) (by omega)
    have hz : l.getD (q * many + t) 0 = 0 := by rw [List.getD_eq_getElem?_getD, List.getElem?_eq_none (by omega)]; rfl
    have W := wrap_digit ⟨(pv_range hb h (q * many) t).1, hsmall t ht⟩ ⟨hb, hb6⟩ (fit_getD hb h (q * many + t))
    have e2 := wrap_one t (by omega)
    rw [pv_succ, hz, Int.add_zero] at hnx
    refine Ev.step (fun k => ?_) hnx
    simp only [kissgateref06_Pack.l1]
    rw [if_pos (Int.ofNat_lt.2 ht1), e2, W.1]

theorem ref_loop {b : Int} {l : List Int} (hb : 0 < b) (hb6 : b ≤ 6) (hl : l.length ≤ 1000000) (many : Nat) (hm0 : 0 < many) (hm4 : b ^ many ≤ 256) (hmm : many ≤ 4) :
    ∀ d i : Nat, l.length - i = d → i ≤ l.length → (∀ j, j < i → 0 ≤ l.getD j 0 ∧ l.getD j 0 < b) →
    Ev (fun k => kissgateref06_Pack.l0 k l (many : Int) b (strOfNums (vals b many l (i / many))) (pv b l (i / many * many) (i % many)) l (l.length : Int) (i : Int))
      (if fits b (l.drop i) = true then (strOfNums (pk b many l), true) else ((⟨#[]⟩ : ByteArray), false)) := by
  intro d
  induction d with
  | zero =>
    intro i hd hi hp
    have hil : i = l.length := by omega
    subst hil
    have hF : Fit b l := by
      intro x hx
      obtain ⟨j, hj, rfl⟩ := List.getElem_of_mem hx
      have := hp j hj
      simpa [List.getD_eq_getElem?_getD, hj] using this
    rw [List.drop_eq_nil_of_le (Nat.le_refl _), if_pos (by rfl)]
    have h1 := Nat.div_add_mod l.length many
    have h2 := Nat.mod_lt l.length hm0
    have h3 : many * (l.length / many) = l.length / many * many := Nat.mul_comm _ _
    by_cases hz : l.length % many = 0
    · have hn : nb many l.length = l.length / many := by
        unfold nb
        rw [show l.length + many - 1 = (many - 1) + l.length / many * many by omega, Nat.add_mul_div_right _ _ hm0, Nat.div_eq_of_lt (by omega)]; omega
      refine Ev.step (f := fun _ => some (strOfNums (pk b many l), true)) (fun k => ?_) (Ev.now _)
      simp only [kissgateref06_Pack.l0]
      rw [if_neg (by omega), if_neg (by omega), if_neg (by rw [← Int.natCast_emod, hz]; decide)]
      unfold pk vals
      rw [hn]
    · have hn : nb many l.length = l.length / many + 1 := by
        unfold nb
        rw [show l.length + many - 1 = (l.length % many - 1) + (l.length / many + 1) * many by rw [Nat.add_mul]; omega, Nat.add_mul_div_right _ _ hm0, Nat.div_eq_of_lt (by omega)]; omega
      have P := ref_pad hb hb6 many hm4 hmm (l.length / many) hF (by rw [Nat.add_mul]; omega) (by omega) (by have := Nat.div_le_self l.length many; omega) _ (l.length % many) rfl (by omega) (by omega)
      have e : strOfNums (pk b many l) = strOfNums (vals b many l (l.length / many + 1)) := by unfold pk vals; rw [hn]
      rw [e]
      refine Ev.step (fun k => ?_) P
      simp only [kissgateref06_Pack.l0]
      rw [if_neg (by omega), if_neg (by omega), if_pos (by rw [← Int.natCast_emod]; omega), ← Int.natCast_emod]
  | succ d ih =>
    intro i hd hi hp
    have hlt : i < l.length := by omega
    have hx : l.drop i = l.getD i 0 :: l.drop (i + 1) := by rw [List.drop_eq_getElem_cons hlt]; simp [List.getD_eq_getElem?_getD, hlt]
    have hw := wrap_one i (by omega)
    have J : ∀ s n (c : Int), Ev (fun k => kissgateref06_Pack.j1 k l (many : Int) b s n (i : Int) c l (l.length : Int) (i : Int) true) ((⟨#[]⟩ : ByteArray), false) := fun s n c =>
      Ev.step (f := fun _ => some ((⟨#[]⟩ : ByteArray), false)) (fun k => by simp only [kissgateref06_Pack.j1]; rw [if_pos trivial]) (Ev.now _)
    by_cases h : 0 ≤ l.getD i 0 ∧ l.getD i 0 < b
    · have e : fits b (l.drop i) = fits b (l.drop (i + 1)) := by rw [hx]; unfold fits; rw [List.all_cons, decide_eq_true h, Bool.true_and]
      have hnext := ih (i + 1) (by omega) (by omega) (fun j hj => by by_cases e : j = i; (rw [e]; exact h); exact hp j (by omega))
      rw [e]
      have h1 := Nat.div_add_mod i many
      have h2 := Nat.mod_lt i hm0
      have h3 : many * (i / many) = i / many * many := Nat.mul_comm _ _
      have hloc : ∀ s, s < i % many → 0 ≤ l.getD (i / many * many + s) 0 ∧ l.getD (i / many * many + s) 0 < b := fun s hs => hp _ (by omega)
      have hr := pv_loc hb (i / many * many) (i % many) hloc
      have hr2 := pv_loc (l := l) hb (i / many * many) (i % many + 1) (fun s hs => by by_cases e : s = i % many; (rw [e, show i / many * many + i % many = i by omega]; exact h); exact hloc s (by omega))
      have hpw : b ^ (i % many) ≤ b ^ many := by have := pow_mono hb (i % many) (many - i % many); rwa [show i % many + (many - i % many) = many by omega] at this
      have hpw2 : b ^ (i % many + 1) ≤ b ^ many := by have := pow_mono hb (i % many + 1) (many - (i % many + 1)); rwa [show i % many + 1 + (many - (i % many + 1)) = many by omega] at this
      have W := wrap_digit ⟨hr.1, Int.lt_of_lt_of_le hr.2 (Int.le_trans hpw hm4)⟩ ⟨hb, hb6⟩ h
      have hv : wrap64 (wrap64 (pv b l (i / many * many) (i % many) * b) + l.getD i 0) = pv b l (i / many * many) (i % many + 1) := by
        rw [W.1, W.2, pv_succ, show i / many * many + i % many = i by omega]
      have hm1 : Int.tmod (i : Int) (many : Int) = ((i % many : Nat) : Int) := by rw [Int.tmod_eq_emod_of_nonneg (by omega)]; rfl
      have hm2 : wrap64 ((many : Int) - 1) = ((many - 1 : Nat) : Int) := by rw [wrap_id (by omega) (by omega)]; omega
      have K : Ev (fun k => kissgateref06_Pack.j1 k l (many : Int) b (strOfNums (vals b many l (i / many))) (pv b l (i / many * many) (i % many)) (i : Int) (l.getD i 0) l (l.length : Int) (i : Int) false) (if fits b (l.drop (i + 1)) = true then (strOfNums (pk b many l), true) else ((⟨#[]⟩ : ByteArray), false)) := by
        by_cases hz : i % many = many - 1
        · obtain ⟨z1, z2⟩ := mod_succ_eq hm0 i hz
          rw [z1, z2] at hnext
          refine Ev.step (fun k => ?_) hnext
          simp only [kissgateref06_Pack.j1]
          rw [if_neg (by decide), if_neg (by omega), hm1, hm2, hz, if_pos rfl]
          simp only [Option.bind_some]
          rw [← hz, hv, hw]
          have hmany : i % many + 1 = many := by omega
          rw [hmany] at hr2 ⊢
          have hq := Nat.div_le_self i many
          have s2 : (vals b many l (i / many)).length = i / many := by simp [vals]
          rw [Int.emod_eq_of_lt hr2.1 (by omega), if_pos (by rw [str_size, str_size, s2, List.length_singleton]; omega), str_append]
          have e0 : vals b many l (i / many + 1) = vals b many l (i / many) ++ [pv b l (i / many * many) many] := by unfold vals; rw [List.range_succ, List.map_append]; rfl
          rw [e0]
          rfl
        · obtain ⟨z1, z2⟩ := mod_succ_ne hm0 i hz
          rw [z1, z2] at hnext
          refine Ev.step (fun k => ?_) hnext
          simp only [kissgateref06_Pack.j1]
          rw [if_neg (by decide), if_neg (by omega), hm1, hm2, if_neg (by omega), hv, hw]
      refine Ev.step (fun k => ?_) K
      simp only [kissgateref06_Pack.l0]
      rw [if_pos (by omega), if_pos (by omega), if_pos (by omega), rd_nat, if_neg (by omega), decide_eq_false (by omega)]
    · have e : fits b (l.drop i) = false := by rw [hx]; unfold fits; rw [List.all_cons, decide_eq_false h, Bool.false_and]
      rw [e, if_neg (by decide)]
      refine Ev.step (fun k => ?_) (J (strOfNums (vals b many l (i / many))) (pv b l (i / many * many) (i % many)) (l.getD i 0))
      simp only [kissgateref06_Pack.l0]
      rw [if_pos (by omega), if_pos (by omega), if_pos (by omega), rd_nat]
      by_cases h1 : l.getD i 0 < 0
      · rw [if_pos h1]
      · rw [if_neg h1, decide_eq_true (by omega)]

theorem ref_ev {b : Int} {l : List Int} (hb : 0 < b) (hb6 : b ≤ 6) (hl : l.length ≤ 1000000) (many : Nat) (hm0 : 0 < many) (hm4 : b ^ many ≤ 256) (hmm : many ≤ 4) :
    Ev (fun k => kissgateref06_Pack.f k l (many : Int) b) (if fits b l = true then (strOfNums (pk b many l), true) else ((⟨#[]⟩ : ByteArray), false)) := by
  have := ref_loop hb hb6 hl many hm0 hm4 hmm _ 0 rfl (by omega) (fun j hj => by omega)
  rw [List.drop_zero, Nat.zero_div, Nat.zero_mod] at this
  exact this

theorem fours_ev (l : List Int) (hl : l.length ≤ 1000000) : Ev (fun k => pack_Fours.f k l) (if fits 4 l = true then (strOfNums (pk 4 4 l), 0) else ((⟨#[]⟩ : ByteArray), 1)) := by
  unfold pack_Fours.f
  refine Ev.bind (all_ev 4 l hl) ?_
  by_cases h : fits 4 l = true
  · rw [if_pos h]
    refine Ev.congr (f := fun k => (pack_pack.f k l 4 4).bind fun t => some (t, 0)) (fun k => by rw [if_pos h]) ?_
    exact Ev.bind (pack_ev (b := 4) (by decide) (by decide) (fits_iff.1 h) hl 4 (by decide) (by decide) (by decide)) (Ev.now _)
  · rw [if_neg h]
    exact Ev.congr (f := fun _ => some ((⟨#[]⟩ : ByteArray), 1)) (fun k => by rw [if_neg h]) (Ev.now _)
theorem size4_is (n : Nat) (h : n ≤ 1000000) : pack_Size4.f (n : Int) = some ((nb 4 n : Nat) : Int) := by
  unfold pack_Size4.f
  have e1 : mx (n : Int) 0 = (n : Int) := by unfold mx; split <;> omega
  rw [e1]
  have e2 : mn ((n : Int) % 4) 1 = if n % 4 = 0 then 0 else 1 := by unfold mn; split <;> split <;> omega
  rw [e2, wrap_id (n := (n : Int) / 4) (by omega) (by omega)]
  unfold nb
  congr 1
  split
  · rw [wrap_id (by omega) (by omega)]; omega
  · rw [wrap_id (by omega) (by omega)]; omega

theorem take_snoc (l : List Int) (j : Nat) (h : j < l.length) : l.take (j + 1) = l.take j ++ [l.getD j 0] := by
  rw [List.take_succ_eq_append_getElem h, List.getD_eq_getElem?_getD, List.getElem?_eq_getElem h]; rfl



theorem take_four (l : List Int) (q : Nat) (h : (q + 1) * 4 ≤ l.length) : l.take (q * 4) ++ [l.getD (q * 4) 0, l.getD (q * 4 + 1) 0, l.getD (q * 4 + 2) 0, l.getD (q * 4 + 3) 0] = l.take ((q + 1) * 4) := by
  rw [show (q + 1) * 4 = q * 4 + 3 + 1 by omega, take_snoc l _ (by omega), take_snoc l _ (by omega), take_snoc l _ (by omega), take_snoc l _ (by omega)]
  simp only [List.append_assoc, List.cons_append, List.nil_append]

theorem unp_four {l : List Int} (hF : Fit 4 l) (hl : l.length ≤ 100000) : ∀ d q : Nat, nb 4 l.length - q = d → q ≤ nb 4 l.length →
    Ev (fun k => pack_unpack.l0 k (strOfNums (pk 4 4 l)) (l.length : Int) 4 4 (l.take (q * 4)) ((nb 4 l.length : Nat) : Int) (q : Int)) (l, true) := by
  intro d
  induction d with
  | zero =>
    intro q hd hq
    have : q = nb 4 l.length := by omega
    subst this
    refine Ev.step (f := fun _ => some (l, true)) (fun k => ?_) (Ev.now _)
    simp only [pack_unpack.l0]
    rw [if_neg (by omega), List.take_of_length_le (by unfold nb; omega)]
  | succ d ih =>
    intro q hd hq
    have hqn : q < nb 4 l.length := by omega
    have hnb : nb 4 l.length ≤ 100000 := by unfold nb; omega
    have g0 := fit_getD (by decide) hF (q * 4)
    have g1 := fit_getD (by decide) hF (q * 4 + 1)
    have g2 := fit_getD (by decide) hF (q * 4 + 2)
    have g3 := fit_getD (by decide) hF (q * 4 + 3)
    have hv : (pk 4 4 l).getD q 0 = ((l.getD (q * 4) 0 * 4 + l.getD (q * 4 + 1) 0) * 4 + l.getD (q * 4 + 2) 0) * 4 + l.getD (q * 4 + 3) 0 := by
      unfold pk
      rw [List.getD_eq_getElem?_getD, List.getElem?_map, List.getElem?_range hqn]
      simp [pv]
    have hd4 : d4 ((pk 4 4 l).getD q 0) = [l.getD (q * 4) 0, l.getD (q * 4 + 1) 0, l.getD (q * 4 + 2) 0, l.getD (q * 4 + 3) 0] := by
      rw [hv]; unfold d4
      simp only [List.cons.injEq, and_true]
      refine ⟨by omega, by omega, by omega, by omega⟩
    have hb : bt (strOfNums (pk 4 4 l)) (q : Int) = (pk 4 4 l).getD q 0 := bt_str _ (pk_small (by decide) hF 4 (by decide)) q
    have hrange : 0 ≤ (pk 4 4 l).getD q 0 ∧ (pk 4 4 l).getD q 0 < 256 := by rw [hv]; omega
    have hL1 : Ev (fun k => pack_unpack.l1 k (strOfNums (pk 4 4 l)) (l.length : Int) 4 4 (l.take (q * 4)) (List.replicate 4 0) ((pk 4 4 l).getD q 0) 3 ((nb 4 l.length : Nat) : Int) (q : Int)) (l, true) := by
      refine l1_four hrange.1 hrange.2 ?_
      rw [hd4]
      have hq3 : q * 4 < l.length := by unfold nb at hqn; omega
      have ht : (l.take (q * 4)).length = q * 4 := by rw [List.length_take]; omega
      by_cases hfull : (q + 1) * 4 ≤ l.length
      · have := ih (q + 1) (by omega) (by omega)
        rw [← take_four l q hfull, ← wrap_one q (by omega)] at this
        refine l2_all (R := [l.getD (q * 4) 0, l.getD (q * 4 + 1) 0, l.getD (q * 4 + 2) 0, l.getD (q * 4 + 3) 0]) (by simp) _ 0 rfl (by omega) _ (by rw [ht]; simp only [List.length_cons, List.length_nil]; omega) (by omega) ?_
        rw [List.drop_zero]
        exact this
      · have hz3 : l.getD (q * 4 + 3) 0 = 0 := by rw [List.getD_eq_getElem?_getD, List.getElem?_eq_none (by omega)]; rfl
        have L2 := fun r hr hn => l2_some (s := strOfNums (pk 4 4 l)) (n := l.length) (many := 4) (b := 4) (i := (q : Int)) (sz := ((nb 4 l.length : Nat) : Int)) (R := [l.getD (q * 4) 0, l.getD (q * 4 + 1) 0, l.getD (q * 4 + 2) 0, l.getD (q * 4 + 3) 0]) (by simp) r 0 hr (l.take (q * 4)) hn (by omega)
        by_cases h2 : q * 4 + 2 < l.length
        · have := L2 3 (by simp) (by rw [ht]; omega)
          rw [hz3] at this ⊢
          simp only [Nat.zero_add, List.drop_succ_cons, List.drop_zero, List.all_cons, List.all_nil, beq_self_eq_true, Bool.and_true, if_true, List.take_succ_cons, List.take_zero] at this
          have e : l.take (q * 4) ++ [l.getD (q * 4) 0, l.getD (q * 4 + 1) 0, l.getD (q * 4 + 2) 0] = l := by
            have z : l = l.take (q * 4 + 1 + 1 + 1) := (List.take_of_length_le (by omega)).symm
            rw [take_snoc l _ (by omega), take_snoc l _ (by omega), take_snoc l _ (by omega)] at z
            simpa only [List.append_assoc, List.cons_append, List.nil_append] using z.symm
          rw [e] at this
          exact this
        have hz2 : l.getD (q * 4 + 2) 0 = 0 := by rw [List.getD_eq_getElem?_getD, List.getElem?_eq_none (by omega)]; rfl
        by_cases h1 : q * 4 + 1 < l.length
        · have := L2 2 (by simp) (by rw [ht]; omega)
          rw [hz3, hz2] at this ⊢
          simp only [Nat.zero_add, List.drop_succ_cons, List.drop_zero, List.all_cons, List.all_nil, beq_self_eq_true, Bool.and_true, if_true, List.take_succ_cons, List.take_zero] at this
          have e : l.take (q * 4) ++ [l.getD (q * 4) 0, l.getD (q * 4 + 1) 0] = l := by
            have z : l = l.take (q * 4 + 1 + 1) := (List.take_of_length_le (by omega)).symm
            rw [take_snoc l _ (by omega), take_snoc l _ (by omega)] at z
            simpa only [List.append_assoc, List.cons_append, List.nil_append] using z.symm
          rw [e] at this
          exact this
        · have hz1 : l.getD (q * 4 + 1) 0 = 0 := by rw [List.getD_eq_getElem?_getD, List.getElem?_eq_none (by omega)]; rfl
          have := L2 1 (by simp) (by rw [ht]; omega)
          rw [hz3, hz2, hz1] at this ⊢
          simp only [Nat.zero_add, List.drop_succ_cons, List.drop_zero, List.all_cons, List.all_nil, beq_self_eq_true, Bool.and_true, if_true, List.take_succ_cons, List.take_zero] at this
          have e : l.take (q * 4) ++ [l.getD (q * 4) 0] = l := by
            have z : l = l.take (q * 4 + 1) := (List.take_of_length_le (by omega)).symm
            rw [take_snoc l _ (by omega)] at z
            exact z.symm
          rw [e] at this
          exact this
    have e2 := str_size (pk 4 4 l)
    have e3 := pk_length 4 4 l
    refine Ev.step (fun k => ?_) hL1
    simp only [pack_unpack.l0]
    rw [if_pos (by omega), if_pos (by decide), if_pos (by decide), if_pos (by omega), if_pos (by omega), hb, wrap_id (n := (pk 4 4 l).getD q 0) (by omega) (by omega), show wrap64 ((4 : Int) - 1) = 3 by decide +kernel]
    rfl

theorem unpack_four {l : List Int} (hF : Fit 4 l) (hl : l.length ≤ 100000) : Ev (fun k => pack_unpack.f k (strOfNums (pk 4 4 l)) (l.length : Int) 4 4) (l, true) := by
  have h := unp_four hF hl _ 0 rfl (by omega)
  have e2 := str_size (pk 4 4 l)
  have e3 := pk_length 4 4 l
  have hw : wrap64 (Int.tdiv (wrap64 ((wrap64 ((l.length : Int) + 4)) - 1)) 4) = ((nb 4 l.length : Nat) : Int) := by
    rw [wrap_id (n := (l.length : Int) + 4) (by omega) (by omega), wrap_id (n := (l.length : Int) + 4 - 1) (by omega) (by omega), Int.tdiv_eq_ediv_of_nonneg (by omega), wrap_id (by omega) (by omega)]
    unfold nb
    omega
  unfold pack_unpack.f
  refine Ev.congr (f := fun k => pack_unpack.j0 k (strOfNums (pk 4 4 l)) (l.length : Int) 4 4 false) (fun k => ?_) ?_
  · rw [if_neg (by omega), if_neg (by decide), hw, e2, e3, bne_self_eq_false]
  · refine Ev.step (fun k => ?_) h
    simp only [pack_unpack.j0]
    rw [if_neg (by decide), e2, e3]
    rfl

theorem from_four {l : List Int} (hF : Fit 4 l) (hl : l.length ≤ 100000) : Ev (fun k => pack_FromFours.f k (strOfNums (pk 4 4 l)) (l.length : Int)) (l, 0) := by
  unfold pack_FromFours.f
  exact Ev.bind (unpack_four hF hl) (Ev.congr (f := fun _ => some (l, 0)) (fun k => by rw [if_pos rfl]) (Ev.now _))

theorem PackFours : kissgatelaw06_PackFours.Pure := by
  intro l _ _ _
  refine Ev.rounds ?_
  unfold kissgatelaw06_PackFours.f
  refine Ev.bind alive_ev ?_
  by_cases hlen : (l.length : Int) > 1000
  · exact Ev.congr (f := fun _ => some true) (fun k => by rw [if_pos rfl, if_pos hlen]) (Ev.now _)
  refine Ev.congr (fun k => by rw [if_pos rfl, if_neg hlen]) (Ev.bind (fours_ev l (by omega)) (Ev.bind (ref_ev (b := 4) (l := l) (by decide) (by decide) (by omega) 4 (by decide) (by decide) (by decide)) ?_))
  by_cases hF : fits 4 l = true
  · rw [if_pos hF, if_pos hF]
    refine Ev.congr (fun k => by rw [if_pos rfl]) (Ev.bind (from_four (fits_iff.1 hF) (by omega)) ?_)
    refine Ev.congr (fun k => by rw [if_pos rfl, if_pos rfl, if_pos rfl]) (Ev.bind (same_ev l l (by omega)) ?_)
    refine Ev.congr (f := fun _ => some true) (fun k => ?_) (Ev.now _)
    rw [if_pos (by simp), size4_is _ (by omega)]
    simp only [Option.bind_some]
    rw [str_size, pk_length, beq_self_eq_true]
  · rw [if_neg hF, if_neg hF]
    exact Ev.congr (f := fun _ => some true) (fun k => by rw [if_neg (by decide), if_pos rfl, ByteArray.toList_eq]; rfl) (Ev.now _)

end Go.Proofs.Ytaopimcecjgbeaa.Pure
