/- Each byte up to 215 is that of three events, no other one; each byte is that of four numbers. For every byte. -/
import Derived.Test.YtaopimcecjgbeaaPPackAllx3
import Derived.Laws.BitsLemmas
import Derived.OpenShut
import Derived.Laws.Strings
namespace Go.Proofs.Ytaopimcecjgbeaa.Pure
open Go.RowKit Go.Proofs.Ytaopimcecjgbeaa.PPackAll Go.Proofs.YtaopimcecjgbeaaW.PrintWords Go.Proofs.YtaopimcecjgbeaaW.PrintLast Go.Proofs.YtaopimcecjgbeaaW.PrintMore

theorem wrap_id {n : Int} (h0 : -9223372036854775808 ≤ n) (h1 : n ≤ 9223372036854775807) : wrap64 n = n := by unfold wrap64; omega

theorem wrap_add (i t : Nat) (h : i + t ≤ 100000000) : wrap64 ((i : Int) + (t : Int)) = ((i + t : Nat) : Int) := by rw [wrap_id (by omega) (by omega)]; omega
theorem wrap_one (t : Nat) (h : t ≤ 100000000) : wrap64 ((t : Int) + 1) = ((t + 1 : Nat) : Int) := by rw [wrap_id (by omega) (by omega)]; omega
theorem wrap_digit {p b d : Int} (hp : 0 ≤ p ∧ p < 256) (hb : 0 < b ∧ b ≤ 6) (hd : 0 ≤ d ∧ d < b) : wrap64 (p * b) = p * b ∧ wrap64 (p * b + d) = p * b + d := by
  have h1 : 0 ≤ p * b := Int.mul_nonneg hp.1 (by omega)
  have h2 : p * b ≤ 255 * 6 := Int.mul_le_mul (by omega) hb.2 (by omega) (by omega)
  generalize p * b = x at *
  exact ⟨wrap_id (by omega) (by omega), wrap_id (by omega) (by omega)⟩

/-- The value of the digits from place i on. -/
def pv (b : Int) (l : List Int) (i : Nat) : Nat → Int
  | 0 => 0
  | t + 1 => pv b l i t * b + l.getD (i + t) 0

theorem pv_succ (b : Int) (l : List Int) (i t : Nat) : pv b l i (t + 1) = pv b l i t * b + l.getD (i + t) 0 := rfl

def Fit (b : Int) (l : List Int) : Prop := ∀ x ∈ l, 0 ≤ x ∧ x < b

theorem fit_getD {b : Int} {l : List Int} (hb : 0 < b) (h : Fit b l) (j : Nat) : 0 ≤ l.getD j 0 ∧ l.getD j 0 < b := by
  rw [List.getD_eq_getElem?_getD]
  cases e : l[j]? with
  | none => simp; exact hb
  | some x => simp; exact h x (List.mem_of_getElem? e)

theorem pow_mono {b : Int} (hb : 0 < b) (s t : Nat) : b ^ s ≤ b ^ (s + t) := by
  induction t with
  | zero => exact Int.le_refl _
  | succ t ih =>
    have h0 : 0 < b ^ (s + t) := Int.pow_pos hb
    have h1 : b ^ (s + t) * 1 ≤ b ^ (s + t) * b := Int.mul_le_mul_of_nonneg_left (by omega) (by omega)
    rw [← Nat.add_assoc, Int.pow_succ]
    omega

theorem pv_range {b : Int} {l : List Int} (hb : 0 < b) (h : Fit b l) (i t : Nat) : 0 ≤ pv b l i t ∧ pv b l i t < b ^ t := by
  induction t with
  | zero => simp [pv]
  | succ t ih =>
    have hd := fit_getD hb h (i + t)
    have h1 : (pv b l i t + 1) * b ≤ b ^ t * b := Int.mul_le_mul_of_nonneg_right (by omega) (by omega)
    have h2 : 0 ≤ pv b l i t * b := Int.mul_nonneg ih.1 (by omega)
    rw [Int.add_mul] at h1
    simp only [pv, Int.pow_succ]
    omega

theorem digit_eq {b p q d e : Int} (hd : 0 ≤ d ∧ d < b) (he : 0 ≤ e ∧ e < b) (h : p * b + d = q * b + e) : p = q ∧ d = e := by
  have hb : 0 < b := by omega
  have h1 : (p * b + d) / b = (q * b + e) / b := by rw [h]
  rw [Int.add_comm (p * b) d, Int.add_comm (q * b) e, Int.add_mul_ediv_right _ _ (by omega), Int.add_mul_ediv_right _ _ (by omega), Int.ediv_eq_zero_of_lt hd.1 hd.2, Int.ediv_eq_zero_of_lt he.1 he.2] at h1
  have hpq : p = q := by omega
  subst hpq
  exact ⟨rfl, by omega⟩

theorem pv_inj {b : Int} {l m : List Int} (hb : 0 < b) (hl : Fit b l) (hm : Fit b m) (i : Nat) : ∀ t, pv b l i t = pv b m i t → ∀ s, s < t → l.getD (i + s) 0 = m.getD (i + s) 0 := by
  intro t
  induction t with
  | zero => intro _ s hs; omega
  | succ t ih =>
    intro h s hs
    simp only [pv] at h
    obtain ⟨h1, h2⟩ := digit_eq (fit_getD hb hl _) (fit_getD hb hm _) h
    by_cases e : s = t
    · rw [e]; exact h2
    · exact ih h1 s (by omega)

theorem pv_congr {b : Int} {l m : List Int} {i j : Nat} (t : Nat) (h : ∀ s, s < t → l.getD (i + s) 0 = m.getD (j + s) 0) : pv b l i t = pv b m j t := by
  induction t with
  | zero => rfl
  | succ t ih => simp only [pv]; rw [ih (fun s hs => h s (by omega)), h t (by omega)]

def nb (many n : Nat) : Nat := (n + many - 1) / many

/-- What is packed: so many digits to a number. -/
def pk (b : Int) (many : Nat) (l : List Int) : List Int := (List.range (nb many l.length)).map fun q => pv b l (q * many) many

theorem pk_length (b : Int) (many : Nat) (l : List Int) : (pk b many l).length = nb many l.length := by simp [pk]

theorem pk_inj {b : Int} {many : Nat} {l m : List Int} (hm0 : 0 < many) (hb : 0 < b) (hl : Fit b l) (hm : Fit b m) (hlen : l.length = m.length) (h : pk b many l = pk b many m) : l = m := by
  apply List.ext_getElem hlen
  intro j hj hj'
  have hq : j / many < nb many l.length := by
    unfold nb
    rw [Nat.div_lt_iff_lt_mul hm0]
    have h1 := Nat.div_add_mod (l.length + many - 1) many
    have h2 := Nat.mod_lt (l.length + many - 1) hm0
    rw [Nat.mul_comm] at h1
    omega
  have h1 : (pk b many l)[j / many]? = (pk b many m)[j / many]? := by rw [h]
  unfold pk at h1
  rw [List.getElem?_map, List.getElem?_map, List.getElem?_range hq, List.getElem?_range (by rw [← hlen]; exact hq)] at h1
  simp only [Option.map_some, Option.some.injEq] at h1
  have h2 := pv_inj hb hl hm _ _ h1 (j % many) (Nat.mod_lt _ hm0)
  rw [show j / many * many + j % many = j from by rw [Nat.mul_comm]; exact Nat.div_add_mod j many] at h2
  simpa [List.getD_eq_getElem?_getD, hj, hj'] using h2

theorem getD_append_left (a b : List Int) (j : Nat) (h : j < a.length) : (a ++ b).getD j 0 = a.getD j 0 := by
  rw [List.getD_eq_getElem?_getD, List.getD_eq_getElem?_getD, List.getElem?_append_left h]
theorem getD_append_right (a b : List Int) (j : Nat) : (a ++ b).getD (a.length + j) 0 = b.getD j 0 := by
  rw [List.getD_eq_getElem?_getD, List.getD_eq_getElem?_getD, List.getElem?_append_right (by omega)]
  congr 2; omega

theorem pk_append {b : Int} {many : Nat} (hm0 : 0 < many) (l m : List Int) (h : l.length % many = 0) : pk b many (l ++ m) = pk b many l ++ pk b many m := by
  obtain ⟨c, hc⟩ : ∃ c, l.length = c * many := ⟨l.length / many, by have := Nat.div_add_mod l.length many; rw [Nat.mul_comm] at this; omega⟩
  have e1 : nb many l.length = c := by
    unfold nb; rw [hc, show c * many + many - 1 = (many - 1) + c * many by omega, Nat.add_mul_div_right _ _ hm0, Nat.div_eq_of_lt (by omega)]; omega
  have e2 : nb many (l ++ m).length = c + nb many m.length := by
    unfold nb; rw [List.length_append, hc, show c * many + m.length + many - 1 = (m.length + many - 1) + c * many by omega, Nat.add_mul_div_right _ _ hm0]; omega
  unfold pk
  rw [e1, e2, List.range_add, List.map_append, List.map_map]
  congr 1
  · apply List.map_congr_left
    intro q hq
    rw [List.mem_range] at hq
    apply pv_congr
    intro s hs
    apply getD_append_left
    have : (q + 1) * many ≤ c * many := Nat.mul_le_mul_right _ hq
    rw [Nat.add_mul] at this
    omega
  · apply List.map_congr_left
    intro q hq
    apply pv_congr
    intro s hs
    show (l ++ m).getD ((c + q) * many + s) 0 = _
    rw [show (c + q) * many + s = l.length + (q * many + s) by rw [hc, Nat.add_mul]; omega, getD_append_right]

def fits (b : Int) (l : List Int) : Bool := l.all fun x => decide (0 ≤ x ∧ x < b)
theorem fits_iff {b : Int} {l : List Int} : fits b l = true ↔ Fit b l := by simp [fits, Fit]

/-! ### What the printed functions answer -/
theorem rd_nat (l : List Int) (i : Nat) : rd l (i : Int) = l.getD i 0 := by simp [rd]

theorem all_loop (b : Int) (l : List Int) (hl : l.length ≤ 1000000) : ∀ d i : Nat, l.length - i = d → i ≤ l.length → Ev (fun k => pack_all.l0 k b l (l.length : Int) (i : Int)) (fits b (l.drop i)) := by
  intro d
  induction d with
  | zero =>
    intro i hd hi
    have : i = l.length := by omega
    subst this
    refine Ev.step (f := fun _ => some true) (fun k => ?_) (by simpa [fits] using Ev.now true)
    simp only [pack_all.l0]; rw [if_neg (by omega)]
  | succ d ih =>
    intro i hd hi
    have hlt : i < l.length := by omega
    have hx : l.drop i = l.getD i 0 :: l.drop (i + 1) := by
      rw [List.drop_eq_getElem_cons hlt]; simp [List.getD_eq_getElem?_getD, hlt]
    have hw : wrap64 ((i : Int) + 1) = ((i + 1 : Nat) : Int) := by rw [wrap_id (by omega) (by omega)]; omega
    by_cases h : 0 ≤ l.getD i 0 ∧ l.getD i 0 < b
    · have e : fits b (l.drop i) = fits b (l.drop (i + 1)) := by rw [hx]; unfold fits; rw [List.all_cons, decide_eq_true h, Bool.true_and]
      rw [e]
      refine Ev.step (fun k => ?_) (ih (i + 1) (by omega) (by omega))
      simp only [pack_all.l0]
      rw [if_pos (by omega), if_pos (by omega), if_pos (by omega), rd_nat, if_neg (by omega), if_neg (by omega), hw]
    · have e : fits b (l.drop i) = false := by rw [hx]; unfold fits; rw [List.all_cons, decide_eq_false h, Bool.false_and]
      rw [e]
      refine Ev.step (f := fun _ => some false) (fun k => ?_) (Ev.now _)
      simp only [pack_all.l0]
      rw [if_pos (by omega), if_pos (by omega), if_pos (by omega), rd_nat]
      by_cases h1 : l.getD i 0 < 0
      · rw [if_pos h1]
      · rw [if_neg h1, if_pos (by omega)]

theorem all_ev (b : Int) (l : List Int) (hl : l.length ≤ 1000000) : Ev (fun k => pack_all.f k l b) (fits b l) := by
  have := all_loop b l hl l.length 0 (by omega) (by omega)
  simpa [pack_all.f] using this

theorem inner_loop {b : Int} {l : List Int} (hb : 0 < b) (hb6 : b ≤ 6) (h : Fit b l) (many : Nat) (hm4 : b ^ many ≤ 256) (i : Nat) (hi : i ≤ 2000000) (hmm : many ≤ 4) (out : List Int) (hout : out.length ≤ 2000000) (r : ByteArray)
    (hk : Ev (fun k => pack_pack.l0 k l (many : Int) b (out ++ [pv b l i many]) ((i + many : Nat) : Int)) r) :
    ∀ d t : Nat, many - t = d → t ≤ many → Ev (fun k => pack_pack.l1 k l (many : Int) b out (i : Int) (pv b l i t) (many : Int) (t : Int)) r := by
  have hsmall : ∀ t, t ≤ many → pv b l i t < 256 := fun t ht => by
    have h1 := (pv_range hb h i t).2
    have h2 : b ^ t ≤ b ^ many := by have := pow_mono hb t (many - t); rwa [show t + (many - t) = many by omega] at this
    omega
  intro d
  induction d with
  | zero =>
    intro t hd ht
    have : t = many := by omega
    subst this
    refine Ev.step (fun k => ?_) hk
    simp only [pack_pack.l1]
    rw [if_neg (by omega), if_pos (by omega), Int.emod_eq_of_lt (pv_range hb h i t).1 (hsmall t (by omega)), wrap_id (by omega) (by omega)]
    congr 1
  | succ d ih =>
    intro t hd ht
    have ht1 : t < many := by omega
    have hnx := ih (t + 1) (by omega) (by omega)
    have W := wrap_digit ⟨(pv_range hb h i t).1, hsmall t ht⟩ ⟨hb, hb6⟩ (fit_getD hb h (i + t))
    have e1 := wrap_add i t (by omega)
    have e2 := wrap_one t (by omega)
    refine Ev.step (fun k => ?_) hnx
    simp only [pack_pack.l1]
    rw [if_pos (Int.ofNat_lt.2 ht1), e1, e2, W.1]
    by_cases hlt : i + t < l.length
    · rw [if_pos (Int.ofNat_lt.2 hlt), if_pos (Int.natCast_nonneg _), rd_nat, W.2, pv_succ]
    · rw [if_neg (fun h => hlt (Int.ofNat_lt.1 h))]
      have : l.getD (i + t) 0 = 0 := by rw [List.getD_eq_getElem?_getD, List.getElem?_eq_none (Nat.le_of_not_lt hlt)]; rfl
      rw [pv_succ, this, Int.add_zero]

theorem outer_loop {b : Int} {l : List Int} (hb : 0 < b) (hb6 : b ≤ 6) (h : Fit b l) (hl : l.length ≤ 1000000) (many : Nat) (hm0 : 0 < many) (hm4 : b ^ many ≤ 256) (hmm : many ≤ 4) :
    ∀ d q : Nat, nb many l.length - q = d → q ≤ nb many l.length → Ev (fun k => pack_pack.l0 k l (many : Int) b ((List.range q).map fun q => pv b l (q * many) many) ((q * many : Nat) : Int)) (strOfNums (pk b many l)) := by
  have hnb : nb many l.length * many < l.length + many := by
    unfold nb
    have := Nat.div_mul_le_self (l.length + many - 1) many
    omega
  have hnb2 : l.length ≤ nb many l.length * many := by
    unfold nb
    have h1 := Nat.div_add_mod (l.length + many - 1) many
    have h2 := Nat.mod_lt (l.length + many - 1) hm0
    rw [Nat.mul_comm] at h1
    omega
  have hnb3 : nb many l.length ≤ 1000004 := by
    have : nb many l.length * 1 ≤ nb many l.length * many := Nat.mul_le_mul_left _ hm0
    omega
  intro d
  induction d with
  | zero =>
    intro q hd hq
    have : q = nb many l.length := by omega
    subst this
    refine Ev.step (f := fun _ => some (strOfNums (pk b many l))) (fun k => ?_) (Ev.now _)
    simp only [pack_pack.l0]
    rw [if_neg (by omega)]
    rfl
  | succ d ih =>
    intro q hd hq
    have hql : (q + 1) * many ≤ nb many l.length * many := Nat.mul_le_mul_right _ (by omega)
    have hqm : q * many < l.length := by
      rw [Nat.add_mul] at hql; omega
    refine Ev.step (f := fun k => pack_pack.l1 k l (many : Int) b ((List.range q).map fun q => pv b l (q * many) many) ((q * many : Nat) : Int) (pv b l (q * many) 0) (many : Int) ((0 : Nat) : Int)) (fun k => ?_) ?_
    · simp only [pack_pack.l0]
      rw [if_pos (by omega)]
      rfl
    · refine inner_loop hb hb6 h many hm4 (q * many) (by omega) hmm _ (by simp; omega) _ ?_ many 0 (by omega) (by omega)
      have := ih (q + 1) (by omega) (by omega)
      rw [List.range_succ, List.map_append] at this
      rw [show q * many + many = (q + 1) * many by rw [Nat.add_mul]; omega]
      exact this

theorem pack_ev {b : Int} {l : List Int} (hb : 0 < b) (hb6 : b ≤ 6) (h : Fit b l) (hl : l.length ≤ 1000000) (many : Nat) (hm0 : 0 < many) (hm4 : b ^ many ≤ 256) (hmm : many ≤ 4) :
    Ev (fun k => pack_pack.f k l (many : Int) b) (strOfNums (pk b many l)) := by
  have := outer_loop hb hb6 h hl many hm0 hm4 hmm _ 0 rfl (by omega)
  simpa [pack_pack.f] using this

theorem pk_small {b : Int} {l : List Int} (hb : 0 < b) (h : Fit b l) (many : Nat) (hm4 : b ^ many ≤ 256) : ∀ x ∈ pk b many l, 0 ≤ x ∧ x < 256 := by
  intro x hx
  unfold pk at hx
  rw [List.mem_map] at hx
  obtain ⟨q, _, rfl⟩ := hx
  have := pv_range hb h (q * many) many
  omega

def tb (xs : List Int) : List UInt8 := xs.map fun n => UInt8.ofNat n.toNat
theorem str_toList (xs : List Int) : (strOfNums xs).toList = tb xs := by unfold strOfNums tb; rw [ByteArray.toList_mk]
theorem tb_inj {xs ys : List Int} (hx : ∀ x ∈ xs, 0 ≤ x ∧ x < 256) (hy : ∀ x ∈ ys, 0 ≤ x ∧ x < 256) (h : tb xs = tb ys) : xs = ys := by
  unfold tb at h
  induction xs generalizing ys with
  | nil => cases ys with
    | nil => rfl
    | cons y ys => simp at h
  | cons x xs ih => cases ys with
    | nil => simp at h
    | cons y ys =>
      simp only [List.map_cons, List.cons.injEq] at h
      have h1 := hx x (by simp)
      have h2 := hy y (by simp)
      have h3 : x = y := by
        have := congrArg UInt8.toNat h.1
        simp [UInt8.toNat_ofNat'] at this
        omega
      rw [h3, ih (fun z hz => hx z (by simp [hz])) (fun z hz => hy z (by simp [hz])) h.2]

theorem threes_ev (l : List Int) (hl : l.length ≤ 1000000) : Ev (fun k => pack_Threes.f k l) (if fits 6 l = true then (strOfNums (pk 6 3 l), 0) else ((⟨#[]⟩ : ByteArray), 1)) := by
  unfold pack_Threes.f
  refine Ev.bind (all_ev 6 l hl) ?_
  by_cases h : fits 6 l = true
  · rw [if_pos h]
    refine Ev.congr (f := fun k => (pack_pack.f k l 3 6).bind fun t => some (t, 0)) (fun k => by rw [if_pos h]) ?_
    exact Ev.bind (pack_ev (b := 6) (by decide) (by decide) (fits_iff.1 h) hl 3 (by decide) (by decide) (by decide)) (Ev.now _)
  · rw [if_neg h]
    exact Ev.congr (f := fun _ => some ((⟨#[]⟩ : ByteArray), 1)) (fun k => by rw [if_neg h]) (Ev.now _)

theorem alive_ev : Ev (fun k => kissgatelaw06_alive.f k) true := by
  unfold kissgatelaw06_alive.f
  refine Ev.bind (threes_ev [1, 2, 3] (by decide)) ?_
  refine Ev.congr (f := fun _ => some true) (fun k => ?_) (Ev.now _)
  have e : (strOfNums (pk 6 3 [1, 2, 3])).toList = ([51] : List UInt8) := by rw [str_toList]; decide
  have e2 : fits 6 [1, 2, 3] = true := by decide
  rw [if_pos e2]
  simp only [e, if_true]
  decide +kernel

theorem str_size (xs : List Int) : (strOfNums xs).size = xs.length := by simp [strOfNums, ByteArray.size]
theorem toList_append (a b : ByteArray) : (a ++ b).toList = a.toList ++ b.toList := by
  rw [ByteArray.toList_eq, ByteArray.toList_eq, ByteArray.toList_eq]; simp
theorem pk_len_le (b : Int) (many : Nat) (hm0 : 0 < many) (l : List Int) : (pk b many l).length ≤ l.length + many := by
  rw [pk_length]; unfold nb; exact Nat.le_trans (Nat.div_le_self _ _) (by omega)
theorem pk_eq_iff {b : Int} {many : Nat} {l m : List Int} (hm0 : 0 < many) (hb : 0 < b) (hm4 : b ^ many ≤ 256) (hl : Fit b l) (hm : Fit b m) (hlen : l.length = m.length) :
    ((strOfNums (pk b many l)).toList == (strOfNums (pk b many m)).toList) = decide (l = m) := by
  rw [str_toList, str_toList, Bool.eq_iff_iff, beq_iff_eq, decide_eq_true_iff]
  constructor
  · intro e; exact pk_inj hm0 hb hl hm hlen (tb_inj (pk_small hb hl many hm4) (pk_small hb hm many hm4) e)
  · intro e; rw [e]

/-! ### What is unpacked -/
theorem wrap_succ (t : Nat) (h : t ≤ 100000000) : wrap64 ((t : Int) + 1) = ((t + 1 : Nat) : Int) := wrap_one t h

theorem l3_ev (out R : List Int) (hR : R.length ≤ 100) : ∀ d t : Nat, R.length - t = d → t ≤ R.length →
    Ev (fun k => pack_unpack.l3 k out R (R.length : Int) (t : Int)) (if (R.drop t).all (fun x => x == 0) = true then (out, true) else ([], false)) := by
  intro d
  induction d with
  | zero =>
    intro t hd ht
    rw [List.drop_eq_nil_of_le (by omega)]
    refine Ev.step (f := fun _ => some (out, true)) (fun k => ?_) (Ev.now _)
    simp only [pack_unpack.l3]; rw [if_neg (by omega)]
  | succ d ih =>
    intro t hd ht
    have hlt : t < R.length := by omega
    have hx : R.drop t = R.getD t 0 :: R.drop (t + 1) := by rw [List.drop_eq_getElem_cons hlt]; simp [List.getD_eq_getElem?_getD, hlt]
    have hw := wrap_one t (by omega)
    rw [hx, List.all_cons]
    by_cases h : R.getD t 0 = 0
    · rw [h]
      refine Ev.step (fun k => ?_) (ih (t + 1) (by omega) (by omega))
      simp only [pack_unpack.l3]
      rw [if_pos (by omega), if_pos (by omega), if_pos (by omega), rd_nat, if_pos h, hw]
    · rw [show (R.getD t 0 == 0) = false from beq_eq_false_iff_ne.2 h, Bool.false_and, if_neg (by decide)]
      refine Ev.step (f := fun _ => some ([], false)) (fun k => ?_) (Ev.now _)
      simp only [pack_unpack.l3]
      rw [if_pos (by omega), if_pos (by omega), if_pos (by omega), rd_nat, if_neg h]

theorem l2_all {s : ByteArray} {n many b i sz : Int} {R : List Int} (hR : R.length ≤ 100) {r : List Int × Bool} : ∀ d t : Nat, R.length - t = d → t ≤ R.length → ∀ out : List Int, ((out.length + (R.length - t) : Nat) : Int) ≤ n → n ≤ 1000000 →
    Ev (fun k => pack_unpack.l0 k s n many b (out ++ R.drop t) sz (wrap64 (i + 1))) r → Ev (fun k => pack_unpack.l2 k s n many b out R sz i (R.length : Int) (t : Int)) r := by
  intro d
  induction d with
  | zero =>
    intro t hd ht out _ _ h
    rw [List.drop_eq_nil_of_le (by omega), List.append_nil] at h
    refine Ev.step (fun k => ?_) h
    simp only [pack_unpack.l2]; rw [if_neg (by omega)]
  | succ d ih =>
    intro t hd ht out hn hn2 h
    have hlt : t < R.length := by omega
    have hx : R.drop t = R.getD t 0 :: R.drop (t + 1) := by rw [List.drop_eq_getElem_cons hlt]; simp [List.getD_eq_getElem?_getD, hlt]
    have hw := wrap_one t (by omega)
    have hstep := ih (t + 1) (by omega) (by omega) (out ++ [R.getD t 0]) (by rw [List.length_append, List.length_singleton]; omega) hn2 (by rw [List.append_assoc, List.singleton_append, ← hx]; exact h)
    refine Ev.step (fun k => ?_) hstep
    simp only [pack_unpack.l2]
    rw [if_pos (by omega), if_neg (by omega), if_pos (by omega), if_pos (by omega), if_pos (by omega), rd_nat, hw]

theorem l2_some {s : ByteArray} {n : Nat} {many b i sz : Int} {R : List Int} (hR : R.length ≤ 100) : ∀ q t : Nat, t + q < R.length → ∀ out : List Int, out.length + q = n → n ≤ 1000000 →
    Ev (fun k => pack_unpack.l2 k s (n : Int) many b out R sz i (R.length : Int) (t : Int)) (if (R.drop (t + q)).all (fun x => x == 0) = true then (out ++ (R.drop t).take q, true) else ([], false)) := by
  intro q
  induction q with
  | zero =>
    intro t ht out hn hn2
    have h3 := l3_ev out (R.drop t) (by rw [List.length_drop]; omega) _ 0 rfl (by omega)
    rw [List.drop_zero] at h3
    rw [List.take_zero, List.append_nil, Nat.add_zero]
    refine Ev.step (f := fun k => (some (R.drop t)).bind fun y => pack_unpack.l3 k out y (y.length : Int) 0) (fun k => ?_) h3
    simp only [pack_unpack.l2]
    rw [if_pos (by omega), if_pos (by omega), if_pos (by omega), if_pos (by omega), Int.toNat_natCast]
  | succ q ih =>
    intro t ht out hn hn2
    have hlt : t < R.length := by omega
    have hx : R.drop t = R.getD t 0 :: R.drop (t + 1) := by rw [List.drop_eq_getElem_cons hlt]; simp [List.getD_eq_getElem?_getD, hlt]
    have hw := wrap_one t (by omega)
    have hstep := ih (t + 1) (by omega) (out ++ [R.getD t 0]) (by rw [List.length_append, List.length_singleton]; omega) hn2
    rw [hx, List.take_succ_cons, show t + (q + 1) = t + 1 + q by omega]
    rw [List.append_assoc, List.singleton_append] at hstep
    refine Ev.step (fun k => ?_) hstep
    simp only [pack_unpack.l2]
    rw [if_pos (by omega), if_neg (by omega), if_pos (by omega), if_pos (by omega), if_pos (by omega), rd_nat, hw]

/-- The digits of a byte: three of six, four of four. -/
def d3 (v : Int) : List Int := [v / 36, v / 6 % 6, v % 6]
def d4 (v : Int) : List Int := [v / 64, v / 16 % 4, v / 4 % 4, v % 4]

theorem l1_three {s : ByteArray} {n i sz : Int} {out : List Int} {v : Int} (h0 : 0 ≤ v) (h1 : v < 256) {r : List Int × Bool}
    (hr : if 216 ≤ v then r = ([], false) else Ev (fun k => pack_unpack.l2 k s n 3 6 out (d3 v) sz i ((d3 v).length : Int) ((0 : Nat) : Int)) r) :
    Ev (fun k => pack_unpack.l1 k s n 3 6 out (List.replicate 3 0) v 2 sz i) r := by
  have w1 : wrap64 (v.tdiv 6) = v / 6 := by rw [Int.tdiv_eq_ediv_of_nonneg h0]; exact wrap_id (by omega) (by omega)
  have w2 : wrap64 ((v / 6).tdiv 6) = v / 36 := by rw [Int.tdiv_eq_ediv_of_nonneg (by omega)]; rw [wrap_id (by omega) (by omega)]; omega
  have w3 : wrap64 ((v / 36).tdiv 6) = v / 216 := by rw [Int.tdiv_eq_ediv_of_nonneg (by omega)]; rw [wrap_id (by omega) (by omega)]; omega
  have m1 : v.tmod 6 = v % 6 := Int.tmod_eq_emod_of_nonneg h0
  have m2 : (v / 6).tmod 6 = v / 6 % 6 := Int.tmod_eq_emod_of_nonneg (by omega)
  have m3 : (v / 36).tmod 6 = v / 36 % 6 := Int.tmod_eq_emod_of_nonneg (by omega)
  have x1 : wrap64 ((2 : Int) - 1) = 1 := by decide +kernel
  have x2 : wrap64 ((1 : Int) - 1) = 0 := by decide +kernel
  have x3 : wrap64 ((0 : Int) - 1) = -1 := by decide +kernel
  refine Ev.step (f := fun k => pack_unpack.l1 k s n 3 6 out [0, 0, v % 6] (v / 6) 1 sz i) (fun k => ?_) ?_
  · simp only [pack_unpack.l1]; rw [if_pos (by decide), if_neg (by decide), if_pos (by decide), if_pos (by decide), w1, m1, x1]; rfl
  refine Ev.step (f := fun k => pack_unpack.l1 k s n 3 6 out [0, v / 6 % 6, v % 6] (v / 36) 0 sz i) (fun k => ?_) ?_
  · simp only [pack_unpack.l1]; rw [if_pos (by decide), if_neg (by decide), if_pos (by decide), if_pos (by simp), w2, m2, x2]; rfl
  refine Ev.step (f := fun k => pack_unpack.l1 k s n 3 6 out [v / 36 % 6, v / 6 % 6, v % 6] (v / 216) (-1) sz i) (fun k => ?_) ?_
  · simp only [pack_unpack.l1]; rw [if_pos (by decide), if_neg (by decide), if_pos (by decide), if_pos (by simp), w3, m3, x3]; rfl
  by_cases hv : 216 ≤ v
  · rw [if_pos hv] at hr
    rw [hr]
    refine Ev.step (f := fun _ => some ([], false)) (fun k => ?_) (Ev.now _)
    simp only [pack_unpack.l1]; rw [if_neg (by decide), if_pos (by omega)]
  · rw [if_neg hv] at hr
    refine Ev.step (fun k => ?_) hr
    simp only [pack_unpack.l1]; rw [if_neg (by decide), if_neg (by omega), show v / 36 % 6 = v / 36 by omega]; rfl

theorem l1_four {s : ByteArray} {n i sz : Int} {out : List Int} {v : Int} (h0 : 0 ≤ v) (h1 : v < 256) {r : List Int × Bool}
    (hr : Ev (fun k => pack_unpack.l2 k s n 4 4 out (d4 v) sz i ((d4 v).length : Int) ((0 : Nat) : Int)) r) :
    Ev (fun k => pack_unpack.l1 k s n 4 4 out (List.replicate 4 0) v 3 sz i) r := by
  have w1 : wrap64 (v.tdiv 4) = v / 4 := by rw [Int.tdiv_eq_ediv_of_nonneg h0]; exact wrap_id (by omega) (by omega)
  have w2 : wrap64 ((v / 4).tdiv 4) = v / 16 := by rw [Int.tdiv_eq_ediv_of_nonneg (by omega)]; rw [wrap_id (by omega) (by omega)]; omega
  have w3 : wrap64 ((v / 16).tdiv 4) = v / 64 := by rw [Int.tdiv_eq_ediv_of_nonneg (by omega)]; rw [wrap_id (by omega) (by omega)]; omega
  have w4 : wrap64 ((v / 64).tdiv 4) = v / 256 := by rw [Int.tdiv_eq_ediv_of_nonneg (by omega)]; rw [wrap_id (by omega) (by omega)]; omega
  have m1 : v.tmod 4 = v % 4 := Int.tmod_eq_emod_of_nonneg h0
  have m2 : (v / 4).tmod 4 = v / 4 % 4 := Int.tmod_eq_emod_of_nonneg (by omega)
  have m3 : (v / 16).tmod 4 = v / 16 % 4 := Int.tmod_eq_emod_of_nonneg (by omega)
  have m4 : (v / 64).tmod 4 = v / 64 % 4 := Int.tmod_eq_emod_of_nonneg (by omega)
  have x0 : wrap64 ((3 : Int) - 1) = 2 := by decide +kernel
  have x1 : wrap64 ((2 : Int) - 1) = 1 := by decide +kernel
  have x2 : wrap64 ((1 : Int) - 1) = 0 := by decide +kernel
  have x3 : wrap64 ((0 : Int) - 1) = -1 := by decide +kernel
  refine Ev.step (f := fun k => pack_unpack.l1 k s n 4 4 out [0, 0, 0, v % 4] (v / 4) 2 sz i) (fun k => ?_) ?_
  · simp only [pack_unpack.l1]; rw [if_pos (by decide), if_neg (by decide), if_pos (by decide), if_pos (by decide), w1, m1, x0]; rfl
  refine Ev.step (f := fun k => pack_unpack.l1 k s n 4 4 out [0, 0, v / 4 % 4, v % 4] (v / 16) 1 sz i) (fun k => ?_) ?_
  · simp only [pack_unpack.l1]; rw [if_pos (by decide), if_neg (by decide), if_pos (by decide), if_pos (by simp), w2, m2, x1]; rfl
  refine Ev.step (f := fun k => pack_unpack.l1 k s n 4 4 out [0, v / 16 % 4, v / 4 % 4, v % 4] (v / 64) 0 sz i) (fun k => ?_) ?_
  · simp only [pack_unpack.l1]; rw [if_pos (by decide), if_neg (by decide), if_pos (by decide), if_pos (by simp), w3, m3, x2]; rfl
  refine Ev.step (f := fun k => pack_unpack.l1 k s n 4 4 out [v / 64 % 4, v / 16 % 4, v / 4 % 4, v % 4] (v / 256) (-1) sz i) (fun k => ?_) ?_
  · simp only [pack_unpack.l1]; rw [if_pos (by decide), if_neg (by decide), if_pos (by decide), if_pos (by simp), w4, m4, x3]; rfl
  refine Ev.step (fun k => ?_) hr
  simp only [pack_unpack.l1]; rw [if_neg (by decide), if_neg (by omega), show v / 64 % 4 = v / 64 by omega]; rfl

theorem bt_str (xs : List Int) (hx : ∀ x ∈ xs, 0 ≤ x ∧ x < 256) (i : Nat) : bt (strOfNums xs) (i : Int) = xs.getD i 0 := by
  unfold bt
  rw [Int.toNat_natCast]
  by_cases h : i < xs.length
  · rw [dif_pos (by rw [show (strOfNums xs).size = xs.length by simp [strOfNums, ByteArray.size]]; exact h)]
    have hm := hx xs[i] (List.getElem_mem h)
    have e : (strOfNums xs)[i]'(by rw [show (strOfNums xs).size = xs.length by simp [strOfNums, ByteArray.size]]; exact h) = UInt8.ofNat xs[i].toNat := by simp [strOfNums, ByteArray.getElem_eq_getElem_data]
    rw [e, List.getD_eq_getElem?_getD, List.getElem?_eq_getElem h]
    simp [UInt8.toNat_ofNat']
    omega
  · rw [dif_neg (by rw [show (strOfNums xs).size = xs.length by simp [strOfNums, ByteArray.size]]; exact h), List.getD_eq_getElem?_getD, List.getElem?_eq_none (by omega)]; rfl

theorem fours_one (v : Int) (h0 : 0 ≤ v) (h1 : v < 256) : Ev (fun k => pack_FromFours.f k (strOfNums [v]) 4) (d4 v, 0) := by
  have hb : bt (strOfNums [v]) ((0 : Nat) : Int) = v := by rw [bt_str [v] (by intro x hx; simp at hx; subst hx; exact ⟨h0, h1⟩)]; rfl
  have hsz : (strOfNums [v]).size = 1 := str_size [v]
  have h2 : Ev (fun k => pack_unpack.l1 k (strOfNums [v]) 4 4 4 [] (List.replicate 4 0) v 3 1 ((0 : Nat) : Int)) (d4 v, true) := by
    refine l1_four h0 h1 ?_
    refine l2_all (R := d4 v) (by simp [d4]) _ 0 rfl (by omega) [] (by simp [d4]) (by omega) ?_
    rw [List.drop_zero, List.nil_append]
    refine Ev.step (f := fun _ => some (d4 v, true)) (fun k => ?_) (Ev.now _)
    simp only [pack_unpack.l0]
    rw [if_neg (by decide +kernel)]
  unfold pack_FromFours.f
  refine Ev.bind (a := (d4 v, true)) ?_ (Ev.congr (f := fun _ => some (d4 v, 0)) (fun k => by rw [if_pos rfl]) (Ev.now _))
  unfold pack_unpack.f
  refine Ev.congr (f := fun k => pack_unpack.j0 k (strOfNums [v]) 4 4 4 false) (fun k => ?_) ?_
  · rw [if_neg (by decide), if_neg (by decide), hsz]; congr 1; decide +kernel
  · refine Ev.step (f := fun k => pack_unpack.l0 k (strOfNums [v]) 4 4 4 [] 1 ((0 : Nat) : Int)) (fun k => ?_) ?_
    · simp only [pack_unpack.j0]
      rw [if_neg (by decide), hsz]
      rfl
    · refine Ev.step (fun k => ?_) h2
      simp only [pack_unpack.l0]
      rw [if_pos (by decide), if_pos (by decide), if_pos (by decide), if_pos (by decide), if_pos (by rw [hsz]; decide), hb, wrap_id (n := v) (by omega) (by omega), show wrap64 ((4 : Int) - 1) = 3 by decide +kernel]
      rfl

theorem threes_one (v : Int) (h0 : 0 ≤ v) (h1 : v < 256) : Ev (fun k => pack_FromThrees.f k (strOfNums [v]) 3) (if 216 ≤ v then ([], 4) else (d3 v, 0)) := by
  have hb : bt (strOfNums [v]) ((0 : Nat) : Int) = v := by rw [bt_str [v] (by intro x hx; simp at hx; subst hx; exact ⟨h0, h1⟩)]; rfl
  have hsz : (strOfNums [v]).size = 1 := str_size [v]
  have h2 : Ev (fun k => pack_unpack.l1 k (strOfNums [v]) 3 3 6 [] (List.replicate 3 0) v 2 1 ((0 : Nat) : Int)) (if 216 ≤ v then ([], false) else (d3 v, true)) := by
    refine l1_three h0 h1 ?_
    by_cases hv : 216 ≤ v
    · rw [if_pos hv, if_pos hv]
    rw [if_neg hv, if_neg hv]
    refine l2_all (R := d3 v) (by simp [d3]) _ 0 rfl (by omega) [] (by simp [d3]) (by omega) ?_
    rw [List.drop_zero, List.nil_append]
    refine Ev.step (f := fun _ => some (d3 v, true)) (fun k => ?_) (Ev.now _)
    simp only [pack_unpack.l0]
    rw [if_neg (by decide +kernel)]
  have h3 : Ev (fun k => pack_unpack.f k (strOfNums [v]) 3 3 6) (if 216 ≤ v then ([], false) else (d3 v, true)) := by
    unfold pack_unpack.f
    refine Ev.congr (f := fun k => pack_unpack.j0 k (strOfNums [v]) 3 3 6 false) (fun k => ?_) ?_
    · rw [if_neg (by decide), if_neg (by decide), hsz]; congr 1; decide +kernel
    · refine Ev.step (f := fun k => pack_unpack.l0 k (strOfNums [v]) 3 3 6 [] 1 ((0 : Nat) : Int)) (fun k => ?_) ?_
      · simp only [pack_unpack.j0]
        rw [if_neg (by decide), hsz]
        rfl
      · refine Ev.step (fun k => ?_) h2
        simp only [pack_unpack.l0]
        rw [if_pos (by decide), if_pos (by decide), if_pos (by decide), if_pos (by decide), if_pos (by rw [hsz]; decide), hb, wrap_id (n := v) (by omega) (by omega), show wrap64 ((3 : Int) - 1) = 2 by decide +kernel]
        rfl
  unfold pack_FromThrees.f
  refine Ev.bind h3 ?_
  by_cases hv : 216 ≤ v
  · rw [if_pos hv, if_pos hv]
    exact Ev.congr (f := fun _ => some ([], 4)) (fun k => by rw [if_neg (by decide)]) (Ev.now _)
  · rw [if_neg hv, if_neg hv]
    exact Ev.congr (f := fun _ => some (d3 v, 0)) (fun k => by rw [if_pos rfl]) (Ev.now _)

theorem PackAll : kissgatelaw06_PackAll.Pure := by
  intro v hv
  have hb := bounds_u8 hv
  refine Ev.rounds ?_
  unfold kissgatelaw06_PackAll.f
  refine Ev.bind alive_ev ?_
  refine Ev.congr (fun k => by rw [if_pos rfl]; rfl) (Ev.bind (f := fun k (bt139 : List Int × Int) => ((pack_FromFours.f k (strOfNums [v]) 4).bind fun bt143 => _)) (threes_one v (by omega) (by omega)) (Ev.bind (fours_one v (by omega) (by omega)) ?_))
  refine Ev.congr (f := fun _ => some true) (fun k => ?_) (Ev.now _)
  by_cases h : 216 ≤ v
  · rw [if_pos h, if_neg (by rw [decide_eq_false (by omega)]; decide), if_pos rfl, if_pos (by rfl), if_pos (by omega)]
  · have e4 : wrap64 (wrap64 (wrap64 (wrap64 (v / 64 * 64) + wrap64 (v / 16 % 4 * 16)) + wrap64 (v / 4 % 4 * 4)) + v % 4) = wrap64 v := by
      rw [wrap_id (n := v / 64 * 64) (by omega) (by omega), wrap_id (n := v / 16 % 4 * 16) (by omega) (by omega), wrap_id (n := v / 4 % 4 * 4) (by omega) (by omega), wrap_id (n := v / 64 * 64 + v / 16 % 4 * 16) (by omega) (by omega), wrap_id (n := v / 64 * 64 + v / 16 % 4 * 16 + v / 4 % 4 * 4) (by omega) (by omega)]
      congr 1; omega
    have e3 : wrap64 (wrap64 (wrap64 (v / 36 * 36) + wrap64 (v / 6 % 6 * 6)) + v % 6) = wrap64 v := by
      rw [wrap_id (n := v / 36 * 36) (by omega) (by omega), wrap_id (n := v / 6 % 6 * 6) (by omega) (by omega), wrap_id (n := v / 36 * 36 + v / 6 % 6 * 6) (by omega) (by omega)]
      congr 1; omega
    rw [if_neg h, if_neg (by rw [decide_eq_true (by omega)]; exact Bool.noConfusion), if_pos rfl, if_pos (by rfl), if_neg (by omega), if_pos (by rfl), if_pos (by simp [d3]), if_pos (by simp [d3]), if_pos (by simp [d3]), if_pos (by exact e3), if_pos (by simp [d4]), if_pos (by simp [d4]), if_pos (by simp [d4]), if_pos (by simp [d4])]
    congr 1
    rw [beq_iff_eq]
    exact e4

end Go.Proofs.Ytaopimcecjgbeaa.Pure
