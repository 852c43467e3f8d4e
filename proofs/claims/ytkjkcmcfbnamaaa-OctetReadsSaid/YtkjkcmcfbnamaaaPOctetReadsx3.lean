-- Written by a program of this session (see NOTES.md), which reads the translation's print; Lean checks it.
import Derived.Test.YtkjkcmcfbnamaaaPOctetReadsx0
import Derived.Test.YtkjkcmcfbnamaaaPOctetReadsx1
import Derived.Test.YtkjkcmcfbnamaaaPOctetReadsx2
namespace Go.Proofs.Ytkjkcmcfbnamaaa.POctetReads
open Go.RowKit Go.Proofs.YtkjkcmcfbnamaaaW.PrintWords Go.Proofs.YtkjkcmcfbnamaaaW.PrintLast Go.Proofs.YtkjkcmcfbnamaaaW.PrintMore
attribute [local go_sem] max2_int min2_int max_two min_two max_three min_three max_four min_four   -- for this text's walks alone
set_option linter.unusedVariables false
set_option linter.unusedSimpArgs false

/-! ### kissgatelaw01_OctetReads: function 6 -/
theorem wrap_one (t : Nat) (h : t ≤ 100000000) : wrap64 ((t : Int) + 1) = ((t + 1 : Nat) : Int) := by rw [wrap_id (by omega) (by omega)]; omega
theorem wraps_i64 (n : Int) (h0 : 0 ≤ n) (h1 : n < 2 ^ 63) : IntKind.i64.wrap n = n := by rw [IntKind.wrap_i64]; omega
theorem str_size (xs : List Int) : (strOfNums xs).size = xs.length := by simp [strOfNums, ByteArray.size]
theorem str_append (xs ys : List Int) : strOfNums xs ++ strOfNums ys = strOfNums (xs ++ ys) := by
  apply ByteArray.ext
  simp [strOfNums]
theorem toList_append (a b : ByteArray) : (a ++ b).toList = a.toList ++ b.toList := by
  rw [ByteArray.toList_eq, ByteArray.toList_eq, ByteArray.toList_eq]; simp
theorem toList_inj {a b : ByteArray} (h : a.toList = b.toList) : a = b := by
  rw [ByteArray.toList_eq, ByteArray.toList_eq] at h
  exact ByteArray.ext (Array.toList_inj.1 h)

/-! ### Numbers as bytes -/
open Wr (putBytes numOf)
theorem putBytes_length (a : Int) : ∀ k, (putBytes a k).length = k
  | 0 => rfl
  | k + 1 => by simp [putBytes, putBytes_length a k]
theorem putBytes_small (a : Int) : ∀ k, ∀ x ∈ putBytes a k, 0 ≤ x ∧ x < 256
  | 0 => fun x h => by simp [putBytes] at h
  | k + 1 => fun x h => by
    simp only [putBytes, List.mem_cons] at h
    rcases h with rfl | h
    · omega
    · exact putBytes_small a k x h

/-- The value of bytes, the highest first. -/
def val (xs : List Int) : Int := xs.foldl (fun n x => n * 256 + x) 0
theorem val_from (xs : List Int) : ∀ n : Int, xs.foldl (fun n x => n * 256 + x) n = n * 256 ^ xs.length + val xs := by
  induction xs with
  | nil => intro n; simp [val]
  | cons x xs ih =>
    intro n
    unfold val
    rw [List.foldl_cons, List.foldl_cons, ih, ih (0 * 256 + x), List.length_cons, Int.pow_succ, Int.zero_mul, Int.zero_add, Int.add_mul]
    rw [show n * (256 ^ xs.length * 256) = n * 256 * 256 ^ xs.length by rw [Int.mul_comm (256 ^ xs.length) 256, Int.mul_assoc]]
    omega
theorem val_cons (x : Int) (xs : List Int) : val (x :: xs) = x * 256 ^ xs.length + val xs := by
  have := val_from xs x
  unfold val at this ⊢
  rw [List.foldl_cons, Int.zero_mul, Int.zero_add]; exact this
theorem val_range {xs : List Int} (h : ∀ x ∈ xs, 0 ≤ x ∧ x < 256) : 0 ≤ val xs ∧ val xs < 256 ^ xs.length := by
  induction xs with
  | nil => simp [val]
  | cons x xs ih =>
    have ih := ih (fun y hy => h y (by simp [hy]))
    have hx := h x (by simp)
    rw [val_cons, List.length_cons, Int.pow_succ]
    have h1 : (x + 1) * 256 ^ xs.length ≤ 256 * 256 ^ xs.length := Int.mul_le_mul_of_nonneg_right (by omega) (Int.le_of_lt (Int.pow_pos (by decide)))
    have h2 : 0 ≤ x * 256 ^ xs.length := Int.mul_nonneg hx.1 (Int.le_of_lt (Int.pow_pos (by decide)))
    rw [Int.add_mul, Int.one_mul] at h1
    generalize 256 ^ xs.length = z at *
    omega
theorem pow_two_eight (k : Nat) : (2 : Int) ^ (8 * k) = 256 ^ k := by rw [Int.pow_mul]; rfl
theorem emod_step (a z : Int) (hp : 0 < z) : a / z % 256 * z + a % z = a % (z * 256) := by
  have e1 : a % z + z * (a / z) = a := Int.emod_add_mul_ediv a z
  have hr0 : 0 ≤ a % z := Int.emod_nonneg a (Int.ne_of_gt hp)
  have hr1 : a % z < z := Int.emod_lt_of_pos a hp
  have hq : a / z = a / z % 256 + 256 * (a / z / 256) := (Int.emod_add_mul_ediv (a / z) 256).symm
  have hd0 : 0 ≤ a / z % 256 := by omega
  have hd1 : a / z % 256 < 256 := by omega
  revert e1 hr0 hr1 hq hd0 hd1
  generalize a / z % 256 = d
  generalize a / z / 256 = u
  generalize a % z = r
  generalize a / z = q
  intro e1 hr0 hr1 hq hd0 hd1
  subst hq
  subst e1
  rw [Int.mul_add, ← Int.mul_assoc z 256 u, Int.mul_comm z d, ← Int.add_assoc, Int.add_mul_emod_self_left]
  have h4 : 0 ≤ d * z := Int.mul_nonneg hd0 (Int.le_of_lt hp)
  have h6 : (d + 1) * z ≤ 256 * z := Int.mul_le_mul_of_nonneg_right hd1 (Int.le_of_lt hp)
  rw [Int.add_mul, Int.one_mul, Int.mul_comm 256 z] at h6
  rw [Int.emod_eq_of_lt (by omega) (by omega)]
  omega
theorem val_put (a : Int) : ∀ k, val (putBytes a k) = a % 256 ^ k
  | 0 => by simp [putBytes, val]
  | k + 1 => by
    rw [putBytes, val_cons, val_put a k, putBytes_length, pow_two_eight, Int.pow_succ]
    exact emod_step a _ (Int.pow_pos (by decide))
theorem put_val : ∀ {xs : List Int}, (∀ x ∈ xs, 0 ≤ x ∧ x < 256) → putBytes (val xs) xs.length = xs := by
  intro xs
  induction xs with
  | nil => intro _; rfl
  | cons x xs ih =>
    intro h
    have hx := h x (by simp)
    have hr := val_range (xs := xs) (fun y hy => h y (List.mem_cons_of_mem _ hy))
    have hp : (0 : Int) < 256 ^ xs.length := Int.pow_pos (by decide)
    rw [List.length_cons, putBytes, pow_two_eight, val_cons]
    have e1 : (x * 256 ^ xs.length + val xs) / 256 ^ xs.length % 256 = x := by
      rw [Int.add_comm, Int.add_mul_ediv_right _ _ (Int.ne_of_gt hp), Int.ediv_eq_zero_of_lt hr.1 hr.2]; omega
    rw [e1]
    congr 1
    have e2 : ∀ k, k ≤ xs.length → putBytes (x * 256 ^ xs.length + val xs) k = putBytes (val xs) k := by
      intro k
      induction k with
      | zero => intro _; rfl
      | succ k ihk =>
        intro hk
        rw [putBytes, putBytes, ihk (by omega), pow_two_eight]
        congr 1
        obtain ⟨m, hm⟩ : ∃ m, xs.length = k + 1 + m := ⟨xs.length - (k + 1), by omega⟩
        have e3 : x * 256 ^ xs.length = (x * 256 ^ m * 256) * 256 ^ k := by rw [hm, Int.pow_add, Int.pow_succ]; simp only [Int.mul_assoc, Int.mul_comm, Int.mul_left_comm]
        rw [e3, Int.add_comm, Int.add_mul_ediv_right _ _ (Int.ne_of_gt (Int.pow_pos (by decide)))]
        omega
    rw [e2 _ (Nat.le_refl _)]
    exact ih (fun y hy => h y (by simp [hy]))
theorem put_inj {a b : Int} {k : Nat} (h : putBytes a k = putBytes b k) : a % 256 ^ k = b % 256 ^ k := by rw [← val_put, ← val_put, h]
theorem put_congr {a b : Int} : ∀ {k : Nat}, a % 256 ^ k = b % 256 ^ k → putBytes a k = putBytes b k := by
  intro k h
  have ha := putBytes_small a k
  have hb := putBytes_small b k
  have e1 := put_val ha
  have e2 := put_val hb
  rw [putBytes_length, val_put] at e1 e2
  rw [← e1, ← e2, h]

theorem mx_of_lt {a b : Int} (h : a < b) : mx a b = b := by unfold mx; rw [if_pos h]
theorem mx_of_ge {a b : Int} (h : b ≤ a) : mx a b = a := by unfold mx; rw [if_neg (by omega)]
theorem mn_of_gt {a b : Int} (h : b < a) : mn a b = b := by unfold mn; rw [if_pos h]
theorem mn_of_le {a b : Int} (h : a ≤ b) : mn a b = a := by unfold mn; rw [if_neg (by omega)]
theorem take_snoc (l : List Int) (j : Nat) (h : j < l.length) : l.take (j + 1) = l.take j ++ [l.getD j 0] := by
  rw [List.take_succ_eq_append_getElem h, List.getD_eq_getElem?_getD, List.getElem?_eq_getElem h]; rfl


/-! ### The reader -/
/-- n bytes of s from place i on. -/
def seg (s : ByteArray) (i n : Nat) : List Int := ((bytesOf s).drop i).take n
theorem seg_length (s : ByteArray) (i n : Nat) (h : i + n ≤ s.size) : (seg s i n).length = n := by
  unfold seg; rw [List.length_take, List.length_drop, bytesOf_length]; omega
theorem bytesOf_small (s : ByteArray) : ∀ x ∈ bytesOf s, 0 ≤ x ∧ x < 256 := by
  intro x hx
  simp only [bytesOf, List.mem_map] at hx
  obtain ⟨b, -, rfl⟩ := hx
  have := b.toNat_lt; omega
theorem seg_small (s : ByteArray) (i n : Nat) : ∀ x ∈ seg s i n, 0 ≤ x ∧ x < 256 := fun x hx =>
  bytesOf_small s x (List.mem_of_mem_drop (List.mem_of_mem_take hx))
theorem bytesOf_cut (s : ByteArray) (i n : Nat) : bytesOf (s.extract i (i + n)) = seg s i n := by
  unfold seg bytesOf
  rw [ByteArray.data_extract, Array.toList_extract, List.extract_eq_take_drop, List.map_take, List.map_drop]
  congr 1; omega
theorem or_8 (x y : Int) (h0 : 0 ≤ x) (h1 : x < 2 ^ 55) (k0 : 0 ≤ y) (k1 : y < 256) : Go.bits .or .i64 (wrap64 (x * 256)) (wrap64 y) = x * 256 + y := by
  rw [wrap_id (by omega) (by omega), wrap_id (by omega) (by omega)]
  exact bits_join .i64 63 (by decide) wraps_i64 8 (x * 256) y (by omega) (by omega) (by omega) k0 k1 (by omega)
theorem val_snoc (xs : List Int) (x : Int) : val (xs ++ [x]) = val xs * 256 + x := by
  unfold val; rw [List.foldl_append]; rfl
theorem pow_le_55 (j : Nat) (h : j ≤ 6) : (256 : Int) ^ j ≤ 2 ^ 48 := by
  rw [← pow_two_eight]
  have : (2 : Nat) ^ (8 * j) ≤ 2 ^ 48 := Nat.pow_le_pow_right (by decide) (by omega)
  exact_mod_cast this
theorem get_loop (x5 : ByteArray) (hs : x5.size ≤ 7) (s : ByteArray) (i b : Int) : ∀ d j : Nat, x5.size - j = d → j ≤ x5.size →
    Ev (fun k => octet_Reader_Get.l0 k x5 (val ((bytesOf x5).take j)) (x5.size : Int) (j : Int) s i b) (val (bytesOf x5), s, i, b) := by
  intro d
  induction d with
  | zero =>
    intro j hd hj
    have : j = x5.size := by omega
    subst this
    refine Ev.step (f := fun _ => some (val (bytesOf x5), s, i, b)) (fun k => ?_) (Ev.now _)
    simp only [octet_Reader_Get.l0]
    rw [if_neg (by omega), List.take_of_length_le (by rw [bytesOf_length]; exact Nat.le_refl _)]
  | succ d ih =>
    intro j hd hj
    have hlt : j < x5.size := by omega
    have hnx := ih (j + 1) (by omega) (by omega)
    have hl : (bytesOf x5).length = x5.size := bytesOf_length x5
    have e1 : val ((bytesOf x5).take (j + 1)) = val ((bytesOf x5).take j) * 256 + bt x5 (j : Int) := by
      rw [take_snoc _ _ (by rw [hl]; exact hlt), val_snoc]; rw [← rd_bytesOf]; rfl
    have hr := val_range (xs := (bytesOf x5).take j) (fun x hx => bytesOf_small x5 x (List.mem_of_mem_take hx))
    rw [List.length_take, hl, Nat.min_eq_left (Nat.le_of_lt hlt)] at hr
    have hp := pow_le_55 j (by omega)
    have hb := bt_range x5 (j : Int)
    rw [e1] at hnx
    refine Ev.step (fun k => ?_) hnx
    simp only [octet_Reader_Get.l0]
    rw [if_pos (Int.ofNat_lt.2 hlt), if_pos (Int.natCast_nonneg j), if_pos (Int.ofNat_lt.2 hlt), or_8 _ _ hr.1 (Int.lt_of_lt_of_le hr.2 (Int.le_trans hp (by decide))) hb.1 (by omega), wrap_one j (by omega)]

theorem take_good (s : ByteArray) (i n : Nat) (hs : s.size ≤ 140737488351232) (h : i + n ≤ s.size) :
    octet_Reader_take.f s i (-1) n = some (s.extract i (i + n), true, s, ((i + n : Nat) : Int), -1) := by
  unfold octet_Reader_take.f
  have w1 : wrap64 ((s.size : Int) - (i : Int)) = (s.size : Int) - (i : Int) := wrap_id (by omega) (by omega)
  have w2 : wrap64 ((i : Int) + (n : Int)) = ((i + n : Nat) : Int) := by rw [wrap_id (by omega) (by omega)]; omega
  have w3 : wrap64 (((i + n : Nat) : Int) - (n : Int)) = (i : Int) := by rw [wrap_id (by omega) (by omega)]; omega
  rw [w1, w2, w3, if_neg (by decide), if_neg (by omega), if_neg (by omega), if_pos (by omega), if_pos (by omega), if_pos (by omega), Int.toNat_natCast, Int.toNat_natCast]
theorem take_short (s : ByteArray) (i n : Nat) (hs : s.size ≤ 140737488351232) (hi : i ≤ s.size) (h : ¬ i + n ≤ s.size) :
    octet_Reader_take.f s i (-1) n = some ((⟨#[]⟩ : ByteArray), false, s, (i : Int), (i : Int)) := by
  unfold octet_Reader_take.f
  have w1 : wrap64 ((s.size : Int) - (i : Int)) = (s.size : Int) - (i : Int) := wrap_id (by omega) (by omega)
  rw [w1, if_neg (by decide), if_neg (by omega), if_pos (by omega)]
theorem take_bad (s : ByteArray) (i b n : Int) (hb : 0 ≤ b) : octet_Reader_take.f s i b n = some ((⟨#[]⟩ : ByteArray), false, s, i, b) := by
  unfold octet_Reader_take.f; rw [if_pos hb]


/-! ### The reader's answers in closed form -/
def okB (s : ByteArray) (i b n : Int) : Prop := b = -1 ∧ 0 ≤ n ∧ i + n ≤ s.size
instance (s : ByteArray) (i b n : Int) : Decidable (okB s i b n) := inferInstanceAs (Decidable (b = -1 ∧ 0 ≤ n ∧ i + n ≤ s.size))
def rdV (s : ByteArray) (i b n : Int) : ByteArray := if okB s i b n then s.extract i.toNat (i + n).toNat else ⟨#[]⟩
def rdI (s : ByteArray) (i b n : Int) : Int := if okB s i b n then i + n else i
def rdF (s : ByteArray) (i b n : Int) : Int := if b = -1 then (if okB s i b n then -1 else i) else b
theorem Rd.next {s : ByteArray} {i b : Int} (h : Rd s i b) (n : Int) : Rd s (rdI s i b n) (rdF s i b n) := by
  obtain ⟨h0, h1, h2, h3⟩ := h
  unfold Rd rdI rdF
  by_cases c : okB s i b n
  · rw [if_pos c, if_pos c]
    obtain ⟨c1, c2, c3⟩ := c
    exact ⟨h0, by omega, by omega, by rw [if_pos c1]; exact .inl rfl⟩
  · rw [if_neg c, if_neg c]
    exact ⟨h0, h1, h2, by split; exact .inr h1; exact h3⟩
theorem take_eq {s : ByteArray} {i b : Int} (h : Rd s i b) (n : Int) : octet_Reader_take.f s i b n = some (rdV s i b n, decide (okB s i b n), s, rdI s i b n, rdF s i b n) := by
  obtain ⟨h0, h1, h2, h3⟩ := h
  unfold octet_Reader_take.f rdV rdI rdF
  have w1 : wrap64 ((s.size : Int) - i) = (s.size : Int) - i := wrap_id (by omega) (by omega)
  rw [w1]
  rcases h3 with rfl | h3
  · rw [if_neg (show ¬ ((-1 : Int) ≥ 0) by decide), if_pos rfl]
    by_cases c1 : n < 0
    · have c : ¬ okB s i (-1) n := fun c => by have := c.2.1; omega
      rw [if_pos c1, if_neg c, if_neg c, if_neg c, decide_eq_false c]
    · rw [if_neg c1]
      by_cases c2 : n > (s.size : Int) - i
      · have c : ¬ okB s i (-1) n := fun c => by have := c.2.2; omega
        rw [if_pos c2, if_neg c, if_neg c, if_neg c, decide_eq_false c]
      · have c : okB s i (-1) n := ⟨rfl, by omega, by omega⟩
        have w2 : wrap64 (i + n) = i + n := wrap_id (by omega) (by omega)
        have w3 : wrap64 (i + n - n) = i := by rw [wrap_id (by omega) (by omega)]; omega
        rw [if_neg c2, w2, w3, if_pos h1, if_pos (by omega), if_pos (by omega), if_pos c, if_pos c, if_pos c, decide_eq_true c]
  · have c : ¬ okB s i b n := fun c => by have := c.1; omega
    rw [if_pos (show b ≥ 0 from h3), if_neg c, if_neg c, if_neg (by omega), decide_eq_false c]
theorem raw_eq {s : ByteArray} {i b : Int} (h : Rd s i b) (n : Int) : octet_Reader_Raw.f s i b n = some (rdV s i b n, s, rdI s i b n, rdF s i b n) := by
  unfold octet_Reader_Raw.f; rw [take_eq h]; rfl
theorem rdV_size {s : ByteArray} {i b : Int} (h : Rd s i b) (n : Int) (hn : n ≤ 7) : (rdV s i b n).size ≤ 7 := by
  unfold rdV
  by_cases c : okB s i b n
  · rw [if_pos c, ByteArray.size_extract]
    have := h.2.1; have := c.2.1; omega
  · rw [if_neg c]; decide
theorem mnmx_le (n : Int) : mn (mx n 1) 7 ≤ 7 := by unfold mn mx; split <;> split <;> omega
theorem mnmx_ge (n : Int) : 1 ≤ mn (mx n 1) 7 := by unfold mn mx; split <;> split <;> omega
def getV (s : ByteArray) (i b n : Int) : Int := val (bytesOf (rdV s i b (mn (mx n 1) 7)))
theorem get_eq {s : ByteArray} {i b : Int} (h : Rd s i b) (n : Int) : Ev (fun k => octet_Reader_Get.f k s i b n) (getV s i b n, s, rdI s i b (mn (mx n 1) 7), rdF s i b (mn (mx n 1) 7)) := by
  have hz := rdV_size h (mn (mx n 1) 7) (mnmx_le n)
  have L := get_loop (rdV s i b (mn (mx n 1) 7)) hz s (rdI s i b (mn (mx n 1) 7)) (rdF s i b (mn (mx n 1) 7)) _ 0 rfl (Nat.zero_le _)
  unfold getV
  by_cases c : okB s i b (mn (mx n 1) 7)
  · refine Ev.congr (fun k => ?_) L
    unfold octet_Reader_Get.f
    rw [take_eq h, decide_eq_true c]
    rfl
  · refine Ev.congr (fun k => ?_) (Ev.now _)
    unfold octet_Reader_Get.f
    have e : rdV s i b (mn (mx n 1) 7) = ⟨#[]⟩ := by unfold rdV; rw [if_neg c]
    rw [take_eq h, decide_eq_false c, e]
    rfl
theorem left_eq {s : ByteArray} {i b : Int} (h : Rd s i b) : octet_Reader_Left.f s i b = some (if b = -1 then (s.size : Int) - i else 0, s, i, b) := by
  obtain ⟨h0, h1, h2, h3⟩ := h
  unfold octet_Reader_Left.f
  rcases h3 with rfl | h3
  · rw [if_neg (by decide), if_pos rfl, wrap_id (by omega) (by omega)]
  · rw [if_pos h3, if_neg (by omega)]
def failV (i b : Int) : Int := if b = -1 then i else b
theorem fail_eq {s : ByteArray} {i b : Int} (h : Rd s i b) : octet_Reader_Fail.f s i b = some (s, i, failV i b) := by
  obtain ⟨h0, h1, h2, h3⟩ := h
  unfold octet_Reader_Fail.f failV
  rcases h3 with rfl | h3
  · rw [if_pos (by decide), if_pos rfl]
  · rw [if_neg (by omega), if_neg (by omega)]
theorem Rd.fail {s : ByteArray} {i b : Int} (h : Rd s i b) : Rd s i (failV i b) := by
  obtain ⟨h0, h1, h2, h3⟩ := h
  exact ⟨h0, h1, h2, by unfold failV; split; exact .inr h1; exact h3⟩
theorem Raw_nice {g : Nat} {s : ByteArray} {i b : Int} {w0 w : World} (hI : IsS51 w0 w g s i b) (hB : Below w0.heap.size w0 w) (hR : Rd s i b) (n : Int) :
    Calls Try.prog 14 #[.pointer (some ⟨g, 0, none⟩), .int .i64 n] w fun e w' => e = .returned (.string (rdV s i b n)) ∧ IsS51 w0 w' g s (rdI s i b n) (rdF s i b n) ∧ Below w0.heap.size w0 w' ∧ KeepBut w w' g none := octet_Reader_Raw.calls g s i b n _ _ _ _ w0 w hI hB (raw_eq hR n)
theorem Get_nice {g : Nat} {s : ByteArray} {i b : Int} {w0 w : World} (hI : IsS51 w0 w g s i b) (hB : Below w0.heap.size w0 w) (hR : Rd s i b) (n : Int) :
    Calls Try.prog 16 #[.pointer (some ⟨g, 0, none⟩), .int .i64 n] w fun e w' => e = .returned (.int .i64 (getV s i b n)) ∧ IsS51 w0 w' g s (rdI s i b (mn (mx n 1) 7)) (rdF s i b (mn (mx n 1) 7)) ∧ Below w0.heap.size w0 w' ∧ KeepBut w w' g none := by
  obtain ⟨K, hK⟩ := get_eq hR n
  exact octet_Reader_Get.calls K g s i b n _ _ _ _ w0 w hI hB (hK K (Nat.le_refl _))
theorem Left_nice {g : Nat} {s : ByteArray} {i b : Int} {w0 w : World} (hI : IsS51 w0 w g s i b) (hB : Below w0.heap.size w0 w) (hR : Rd s i b) :
    Calls Try.prog 17 #[.pointer (some ⟨g, 0, none⟩)] w fun e w' => e = .returned (.int .i64 (if b = -1 then (s.size : Int) - i else 0)) ∧ IsS51 w0 w' g s i b ∧ Below w0.heap.size w0 w' ∧ KeepBut w w' g none := octet_Reader_Left.calls g s i b _ _ _ _ w0 w hI hB (left_eq hR)
theorem Fail_nice {g : Nat} {s : ByteArray} {i b : Int} {w0 w : World} (hI : IsS51 w0 w g s i b) (hB : Below w0.heap.size w0 w) (hR : Rd s i b) :
    Calls Try.prog 20 #[.pointer (some ⟨g, 0, none⟩)] w fun e w' => e = .returned (.tuple #[]) ∧ IsS51 w0 w' g s i (failV i b) ∧ Below w0.heap.size w0 w' ∧ KeepBut w w' g none := octet_Reader_Fail.calls g s i b _ _ _ w0 w hI hB (fail_eq hR)
theorem rraw_eq {s : ByteArray} {i b : Int} (h : Rd s i b) (n : Int) : kissgateref01_Reader_Raw.f s i b n = some (rdV s i b n, s, rdI s i b n, rdF s i b n) := by
  have e : kissgateref01_Reader_Raw.f s i b n = (octet_Reader_take.f s i b n).bind fun t => some (t.1, t.2.2.1, t.2.2.2.1, t.2.2.2.2) := by
    unfold kissgateref01_Reader_Raw.f octet_Reader_take.f
    repeat' split
    all_goals rfl
  rw [e, take_eq h]; rfl
theorem rget_loop (x6 : ByteArray) (hs : x6.size ≤ 7) (s : ByteArray) (i b : Int) : ∀ d j : Nat, x6.size - j = d → j ≤ x6.size →
    Ev (fun k => kissgateref01_Reader_Get.l0 k (val ((bytesOf x6).take j)) x6 (j : Int) s i b) (val (bytesOf x6), s, i, b) := by
  intro d
  induction d with
  | zero =>
    intro j hd hj
    have : j = x6.size := by omega
    subst this
    refine Ev.step (f := fun _ => some (val (bytesOf x6), s, i, b)) (fun k => ?_) (Ev.now _)
    simp only [kissgateref01_Reader_Get.l0]
    rw [if_neg (by omega), List.take_of_length_le (by rw [bytesOf_length]; exact Nat.le_refl _)]
  | succ d ih =>
    intro j hd hj
    have hlt : j < x6.size := by omega
    have hnx := ih (j + 1) (by omega) (by omega)
    have hl : (bytesOf x6).length = x6.size := bytesOf_length x6
    have e1 : val ((bytesOf x6).take (j + 1)) = val ((bytesOf x6).take j) * 256 + bt x6 (j : Int) := by
      rw [take_snoc _ _ (by rw [hl]; exact hlt), val_snoc]; rw [← rd_bytesOf]; rfl
    have hr := val_range (xs := (bytesOf x6).take j) (fun x hx => bytesOf_small x6 x (List.mem_of_mem_take hx))
    rw [List.length_take, hl, Nat.min_eq_left (Nat.le_of_lt hlt)] at hr
    have hp := pow_le_55 j (by omega)
    have hb := bt_range x6 (j : Int)
    rw [e1] at hnx
    refine Ev.step (fun k => ?_) hnx
    simp only [kissgateref01_Reader_Get.l0]
    generalize val ((bytesOf x6).take j) = v at *
    generalize bt x6 (j : Int) = c at *
    have hv : v < 2 ^ 48 := Int.lt_of_lt_of_le hr.2 hp
    have e48 : (2 : Int) ^ 48 = 281474976710656 := by decide
    rw [if_pos (Int.ofNat_lt.2 hlt), if_pos (Int.natCast_nonneg j), wrap_id (n := v * 256) (by omega) (by omega), wrap_id (n := c) (by omega) (by omega), wrap_id (n := v * 256 + c) (by omega) (by omega), wrap_one j (by omega)]
theorem rget_eq {s : ByteArray} {i b : Int} (h : Rd s i b) (n : Int) : Ev (fun k => kissgateref01_Reader_Get.f k s i b n) (getV s i b n, s, rdI s i b (mn (mx n 1) 7), rdF s i b (mn (mx n 1) 7)) := by
  have hz := rdV_size h (mn (mx n 1) 7) (mnmx_le n)
  have L := rget_loop (rdV s i b (mn (mx n 1) 7)) hz s (rdI s i b (mn (mx n 1) 7)) (rdF s i b (mn (mx n 1) 7)) _ 0 rfl (Nat.zero_le _)
  have J1 : Ev (fun k => kissgateref01_Reader_Get.j1 k (mn (mx n 1) 7) s i b) (getV s i b n, s, rdI s i b (mn (mx n 1) 7), rdF s i b (mn (mx n 1) 7)) := by
    refine Ev.step (fun k => ?_) L
    rw [kissgateref01_Reader_Get.j1, rraw_eq h]; rfl
  by_cases c1 : n < 1
  · have e : mn (mx n 1) 7 = 1 := by rw [mx_of_lt c1]; rfl
    rw [e] at J1 ⊢
    have J0 : Ev (fun k => kissgateref01_Reader_Get.j0 k 1 s i b) (getV s i b n, s, rdI s i b 1, rdF s i b 1) := by
      refine Ev.step (fun k => ?_) J1
      rw [kissgateref01_Reader_Get.j0, if_neg (by decide)]
    refine Ev.congr (fun k => ?_) J0
    unfold kissgateref01_Reader_Get.f; rw [if_pos c1]
  · by_cases c2 : n > 7
    · have e : mn (mx n 1) 7 = 7 := by rw [mx_of_ge (by omega), mn_of_gt c2]
      rw [e] at J1 ⊢
      have J0 : Ev (fun k => kissgateref01_Reader_Get.j0 k n s i b) (getV s i b n, s, rdI s i b 7, rdF s i b 7) := by
        refine Ev.step (fun k => ?_) J1
        rw [kissgateref01_Reader_Get.j0, if_pos c2]
      refine Ev.congr (fun k => ?_) J0
      unfold kissgateref01_Reader_Get.f; rw [if_neg c1]
    · have e : mn (mx n 1) 7 = n := by rw [mx_of_ge (by omega), mn_of_le (by omega)]
      rw [e] at J1 ⊢
      have J0 : Ev (fun k => kissgateref01_Reader_Get.j0 k n s i b) (getV s i b n, s, rdI s i b n, rdF s i b n) := by
        refine Ev.step (fun k => ?_) J1
        rw [kissgateref01_Reader_Get.j0, if_neg c2]
      refine Ev.congr (fun k => ?_) J0
      unfold kissgateref01_Reader_Get.f; rw [if_neg c1]
theorem RRaw_nice {g : Nat} {s : ByteArray} {i b : Int} {w0 w : World} (hI : IsS46 w0 w g s i b) (hB : Below w0.heap.size w0 w) (hR : Rd s i b) (n : Int) :
    Calls Try.prog 19 #[.pointer (some ⟨g, 0, none⟩), .int .i64 n] w fun e w' => e = .returned (.string (rdV s i b n)) ∧ IsS46 w0 w' g s (rdI s i b n) (rdF s i b n) ∧ Below w0.heap.size w0 w' ∧ KeepBut w w' g none := kissgateref01_Reader_Raw.calls g s i b n _ _ _ _ w0 w hI hB (rraw_eq hR n)
theorem RGet_nice {g : Nat} {s : ByteArray} {i b : Int} {w0 w : World} (hI : IsS46 w0 w g s i b) (hB : Below w0.heap.size w0 w) (hR : Rd s i b) (n : Int) :
    Calls Try.prog 18 #[.pointer (some ⟨g, 0, none⟩), .int .i64 n] w fun e w' => e = .returned (.int .i64 (getV s i b n)) ∧ IsS46 w0 w' g s (rdI s i b (mn (mx n 1) 7)) (rdF s i b (mn (mx n 1) 7)) ∧ Below w0.heap.size w0 w' ∧ KeepBut w w' g none := by
  obtain ⟨K, hK⟩ := rget_eq hR n
  exact kissgateref01_Reader_Get.calls K g s i b n _ _ _ _ w0 w hI hB (hK K (Nat.le_refl _))
theorem keep_g {w0 W W' : World} {g h : Nat} {f0 : ByteArray} {f1 f2 : Int} (hI : IsS51 w0 W h f0 f1 f2) (hk : KeepBut W W' g none) (hne : h ≠ g) : IsS51 w0 W' h f0 f1 f2 :=
  ⟨(hk.2 h (IsS51.lt hI) hne (by simp)).trans hI.1, hI.2⟩
theorem keep_h {w0 W W' : World} {g h : Nat} {f0 : ByteArray} {f1 f2 : Int} (hI : IsS46 w0 W h f0 f1 f2) (hk : KeepBut W W' g none) (hne : h ≠ g) : IsS46 w0 W' h f0 f1 f2 :=
  ⟨(hk.2 h (IsS46.lt hI) hne (by simp)).trans hI.1, hI.2⟩
def leftV (s : ByteArray) (i b : Int) : Int := if b = -1 then (s.size : Int) - i else 0
set_option maxHeartbeats 4000000 in
set_option maxRecDepth 100000 in
theorem qLeft {g : Nat} {s : ByteArray} {i b : Int} {w : World} (h : w.heap[g]? = some (.cells #[.string s, .int .i64 i, .int .i64 b] 51 (0, 0))) (hR : Rd s i b) :
    Calls Try.prog 17 #[.pointer (some ⟨g, 0, none⟩)] w fun e w' => e = .returned (.int .i64 (leftV s i b)) ∧ ∃ n, w' = w.drewN n := by
  have q0 := (blk_cell h 0).trans (rfl : _ = some (Value.string s))
  have q1 := (blk_cell h 1).trans (rfl : _ = some (Value.int .i64 i))
  have q2 := (blk_cell h 2).trans (rfl : _ = some (Value.int .i64 b))
  have e1 : wrap64 ((s.size : Int) - i) = (s.size : Int) - i := by obtain ⟨h0, h1, h2, h3⟩ := hR; exact wrap_id (by omega) (by omega)
  have HR := Aside0.mk hR
  have h3 := hR.2.2.2
  clear hR h
  rcases h3 with rfl | hb
  · by_cases c : i < (s.size : Int)
    · have cb : decide (i < (s.size : Int)) = true := decide_eq_true c
      rw [show leftV s i (-1) = wrap64 ((s.size : Int) - i) from (if_pos rfl).trans e1.symm]
      clear c e1
      go_enter Try.func17, Try.ntmps17
      go_wp2_with fail
      (repeat (go_quiet (fail); go_wp2_with fail))
      go_ret
      first | exact ⟨rfl, 0, rfl⟩ | exact ⟨rfl, _, rfl⟩ | exact ⟨rfl, _, World.drewN_drewN _ _ _⟩
    · have cb : decide (i < (s.size : Int)) = false := decide_eq_false c
      have hi : i = (s.size : Int) := by have := HR.out.2.2.1; omega
      rw [show leftV s i (-1) = wrap64 ((s.size : Int) - i) from (if_pos rfl).trans e1.symm]
      clear c hi e1
      go_enter Try.func17, Try.ntmps17
      go_wp2_with fail
      (repeat (go_quiet (fail); go_wp2_with fail))
      go_ret
      first | exact ⟨rfl, 0, rfl⟩ | exact ⟨rfl, _, rfl⟩ | exact ⟨rfl, _, World.drewN_drewN _ _ _⟩
  · have hbb : decide (0 ≤ b) = true := decide_eq_true hb
    · rw [show leftV s i b = 0 from if_neg (by omega)]
      clear hb e1
      go_enter Try.func17, Try.ntmps17
      go_wp2_with fail
      (repeat (go_quiet (fail); go_wp2_with fail))
      go_ret
      first | exact ⟨rfl, 0, rfl⟩ | exact ⟨rfl, _, rfl⟩ | exact ⟨rfl, _, World.drewN_drewN _ _ _⟩
set_option maxHeartbeats 4000000 in
set_option maxRecDepth 100000 in
theorem qRLeft {g : Nat} {s : ByteArray} {i b : Int} {w : World} (h : w.heap[g]? = some (.cells #[.string s, .int .i64 i, .int .i64 b] 46 (0, 0))) (hR : Rd s i b) :
    Calls Try.prog 21 #[.pointer (some ⟨g, 0, none⟩)] w fun e w' => e = .returned (.int .i64 (leftV s i b)) ∧ ∃ n, w' = w.drewN n := by
  have q0 := (blk_cell h 0).trans (rfl : _ = some (Value.string s))
  have q1 := (blk_cell h 1).trans (rfl : _ = some (Value.int .i64 i))
  have q2 := (blk_cell h 2).trans (rfl : _ = some (Value.int .i64 b))
  have e1 : wrap64 ((s.size : Int) - i) = (s.size : Int) - i := by obtain ⟨h0, h1, h2, h3⟩ := hR; exact wrap_id (by omega) (by omega)
  have HR := Aside0.mk hR
  have h3 := hR.2.2.2
  clear hR h
  rcases h3 with rfl | hb
  · by_cases c : i < (s.size : Int)
    · have cb : decide (i < (s.size : Int)) = true := decide_eq_true c
      rw [show leftV s i (-1) = wrap64 ((s.size : Int) - i) from (if_pos rfl).trans e1.symm]
      clear c e1
      go_enter Try.func21, Try.ntmps21
      go_wp2_with fail
      (repeat (go_quiet (fail); go_wp2_with fail))
      go_ret
      first | exact ⟨rfl, 0, rfl⟩ | exact ⟨rfl, _, rfl⟩ | exact ⟨rfl, _, World.drewN_drewN _ _ _⟩
    · have cb : decide (i < (s.size : Int)) = false := decide_eq_false c
      have hi : i = (s.size : Int) := by have := HR.out.2.2.1; omega
      rw [show leftV s i (-1) = wrap64 ((s.size : Int) - i) from (if_pos rfl).trans e1.symm]
      clear c hi e1
      go_enter Try.func21, Try.ntmps21
      go_wp2_with fail
      (repeat (go_quiet (fail); go_wp2_with fail))
      go_ret
      first | exact ⟨rfl, 0, rfl⟩ | exact ⟨rfl, _, rfl⟩ | exact ⟨rfl, _, World.drewN_drewN _ _ _⟩
  · have hbb : decide (0 ≤ b) = true := decide_eq_true hb
    · rw [show leftV s i b = 0 from if_neg (by omega)]
      clear hb e1
      go_enter Try.func21, Try.ntmps21
      go_wp2_with fail
      (repeat (go_quiet (fail); go_wp2_with fail))
      go_ret
      first | exact ⟨rfl, 0, rfl⟩ | exact ⟨rfl, _, rfl⟩ | exact ⟨rfl, _, World.drewN_drewN _ _ _⟩
set_option maxHeartbeats 4000000 in
set_option maxRecDepth 100000 in
theorem qFault {g : Nat} {s : ByteArray} {i b : Int} {w : World} (h : w.heap[g]? = some (.cells #[.string s, .int .i64 i, .int .i64 b] 51 (0, 0))) (hR : Rd s i b) :
    Calls Try.prog 22 #[.pointer (some ⟨g, 0, none⟩)] w fun e w' => e = .returned (.int .i64 b) ∧ ∃ n, w' = w.drewN n := by
  have q0 := (blk_cell h 0).trans (rfl : _ = some (Value.string s))
  have q1 := (blk_cell h 1).trans (rfl : _ = some (Value.int .i64 i))
  have q2 := (blk_cell h 2).trans (rfl : _ = some (Value.int .i64 b))
  have e1 : wrap64 ((s.size : Int) - i) = (s.size : Int) - i := by obtain ⟨h0, h1, h2, h3⟩ := hR; exact wrap_id (by omega) (by omega)
  have HR := Aside0.mk hR
  have h3 := hR.2.2.2
  clear hR h
  rcases h3 with rfl | hb
  · by_cases c : i < (s.size : Int)
    · have cb : decide (i < (s.size : Int)) = true := decide_eq_true c
      clear c e1
      go_enter Try.func22, Try.ntmps22
      go_wp2_with fail
      (repeat (go_quiet (fail); go_wp2_with fail))
      go_ret
      first | exact ⟨rfl, 0, rfl⟩ | exact ⟨rfl, _, rfl⟩ | exact ⟨rfl, _, World.drewN_drewN _ _ _⟩
    · have cb : decide (i < (s.size : Int)) = false := decide_eq_false c
      have hi : i = (s.size : Int) := by have := HR.out.2.2.1; omega
      clear c hi e1
      go_enter Try.func22, Try.ntmps22
      go_wp2_with fail
      (repeat (go_quiet (fail); go_wp2_with fail))
      go_ret
      first | exact ⟨rfl, 0, rfl⟩ | exact ⟨rfl, _, rfl⟩ | exact ⟨rfl, _, World.drewN_drewN _ _ _⟩
  · have hbb : decide (0 ≤ b) = true := decide_eq_true hb
    · clear hb e1
      go_enter Try.func22, Try.ntmps22
      go_wp2_with fail
      (repeat (go_quiet (fail); go_wp2_with fail))
      go_ret
      first | exact ⟨rfl, 0, rfl⟩ | exact ⟨rfl, _, rfl⟩ | exact ⟨rfl, _, World.drewN_drewN _ _ _⟩
set_option maxHeartbeats 4000000 in
set_option maxRecDepth 100000 in
theorem qEnd {g : Nat} {s : ByteArray} {i b : Int} {w : World} (h : w.heap[g]? = some (.cells #[.string s, .int .i64 i, .int .i64 b] 51 (0, 0))) (hR : Rd s i b) :
    Calls Try.prog 15 #[.pointer (some ⟨g, 0, none⟩)] w fun e w' => e = .returned (.int .i64 (endV s i b)) ∧ ∃ n, w' = w.drewN n := by
  have q0 := (blk_cell h 0).trans (rfl : _ = some (Value.string s))
  have q1 := (blk_cell h 1).trans (rfl : _ = some (Value.int .i64 i))
  have q2 := (blk_cell h 2).trans (rfl : _ = some (Value.int .i64 b))
  have e1 : wrap64 ((s.size : Int) - i) = (s.size : Int) - i := by obtain ⟨h0, h1, h2, h3⟩ := hR; exact wrap_id (by omega) (by omega)
  have HR := Aside0.mk hR
  have h3 := hR.2.2.2
  clear hR h
  rcases h3 with rfl | hb
  · by_cases c : i < (s.size : Int)
    · have cb : decide (i < (s.size : Int)) = true := decide_eq_true c
      rw [show endV s i (-1) = 4 from if_neg (by omega)]
      clear c e1
      go_enter Try.func15, Try.ntmps15
      go_wp2_with fail
      (repeat (go_quiet (fail); go_wp2_with fail))
      go_ret
      first | exact ⟨rfl, 0, rfl⟩ | exact ⟨rfl, _, rfl⟩ | exact ⟨rfl, _, World.drewN_drewN _ _ _⟩
    · have cb : decide (i < (s.size : Int)) = false := decide_eq_false c
      have hi : i = (s.size : Int) := by have := HR.out.2.2.1; omega
      rw [show endV s i (-1) = 0 from if_pos ⟨rfl, hi⟩]
      clear c hi e1
      go_enter Try.func15, Try.ntmps15
      go_wp2_with fail
      (repeat (go_quiet (fail); go_wp2_with fail))
      go_ret
      first | exact ⟨rfl, 0, rfl⟩ | exact ⟨rfl, _, rfl⟩ | exact ⟨rfl, _, World.drewN_drewN _ _ _⟩
  · have hbb : decide (0 ≤ b) = true := decide_eq_true hb
    · rw [show endV s i b = 4 from if_neg (by omega)]
      clear hb e1
      go_enter Try.func15, Try.ntmps15
      go_wp2_with fail
      (repeat (go_quiet (fail); go_wp2_with fail))
      go_ret
      first | exact ⟨rfl, 0, rfl⟩ | exact ⟨rfl, _, rfl⟩ | exact ⟨rfl, _, World.drewN_drewN _ _ _⟩
set_option maxHeartbeats 4000000 in
theorem nil_take (n : Int) (w : World) : Calls Try.prog 23 #[.pointer none, .int .i64 n] w fun e w' => e = .returned (.tuple #[.string ⟨#[]⟩, .bool false]) ∧ Drawn0 w w' := by
  go_enter Try.func23, Try.ntmps23
  go_wp2_with fail
  go_ret2
  exact ⟨rfl, Drawn0.refl _⟩
set_option maxHeartbeats 4000000 in
theorem nil_Fail (w : World) : Calls Try.prog 20 #[.pointer none] w fun e w' => e = .returned (.tuple #[]) ∧ Drawn0 w w' := by
  go_enter Try.func20, Try.ntmps20
  go_wp2_with fail
  go_end0
  exact ⟨rfl, Drawn0.refl _⟩
set_option maxHeartbeats 4000000 in
theorem nil_Raw (n : Int) (w : World) : Calls Try.prog 14 #[.pointer none, .int .i64 n] w fun e w' => e = .returned (.string ⟨#[]⟩) ∧ Drawn0 w w' := by
  go_enter Try.func14, Try.ntmps14
  go_wp2_with fail
  go_at_call 23
  refine (nil_take _ _).mono ?_
  rintro e w1 ⟨rfl, hd⟩
  have HD := Aside0.mk hd
  clear hd
  go_wp2_with fail
  go_ret
  exact ⟨rfl, HD.out⟩
set_option maxHeartbeats 4000000 in
theorem nil_Get (w : World) : Calls Try.prog 16 #[.pointer none, .int .i64 1] w fun e w' => e = .returned (.int .i64 0) ∧ Drawn0 w w' := by
  go_enter Try.func16, Try.ntmps16
  go_wp2_with fail
  go_at_call 23
  refine (nil_take _ _).mono ?_
  rintro e w1 ⟨rfl, hd⟩
  have HD := Aside0.mk hd
  clear hd
  go_wp2_with fail
  go_ret
  exact ⟨rfl, HD.out⟩
set_option maxHeartbeats 4000000 in
theorem nil_Left (w : World) : Calls Try.prog 17 #[.pointer none] w fun e w' => e = .returned (.int .i64 0) ∧ Drawn0 w w' := by
  go_enter Try.func17, Try.ntmps17
  go_wp2_with fail
  go_ret
  exact ⟨rfl, Drawn0.refl _⟩
set_option maxHeartbeats 4000000 in
theorem nil_Fault (w : World) : Calls Try.prog 22 #[.pointer none] w fun e w' => e = .returned (.int .i64 (-1)) ∧ Drawn0 w w' := by
  go_enter Try.func22, Try.ntmps22
  go_wp2_with fail
  go_ret
  exact ⟨rfl, Drawn0.refl _⟩
set_option maxHeartbeats 4000000 in
theorem nil_End (w : World) : Calls Try.prog 15 #[.pointer none] w fun e w' => e = .returned (.int .i64 2) ∧ Drawn0 w w' := by
  go_enter Try.func15, Try.ntmps15
  go_wp2_with fail
  go_ret
  exact ⟨rfl, Drawn0.refl _⟩
def kissgatelaw01_OctetReads.Pure : Prop := True
set_option maxHeartbeats 8000000 in
set_option maxRecDepth 100000 in
theorem kissgatelaw01_OctetReads.walk (P : kissgatelaw01_OctetReads.Pure) (a0 : ByteArray) (A1 : Option Addr) (c1 : Nat) (l1 : List S48) (w : World) (w0 : a0.size ≤ 140737488351232) (hr1 : Kd.C k48 w A1 l1.length l1) (hc1 : l1.length ≤ c1) (hw1 : ∀ z ∈ l1, (Lit.int .i64 z.f0).wf = true ∧ (Lit.int .i64 z.f1).wf = true) :
    Calls Try.prog 6 #[.string a0, .slice A1 l1.length c1] w fun e w' => e = .returned (.bool true) ∧ Below w.heap.size w w' := by
  clear P hw1 w0
  have HR := Aside0.mk hr1
  have HC := Aside0.mk hc1
  have hu := Try.underlying51
  have hu2 := Try.underlying48
  clear hr1 hc1
  go_enter Try.func6, Try.ntmps6
  go_wp2_with fail
  go_at_call 8
  refine (kissgatelaw01_alive.good w _ (Below.refl _ _)).mono ?_
  rintro e w1 ⟨rfl, hb⟩
  have HB := Aside0.mk hb
  clear hb
  by_cases c1 : (1024 : Int) < (a0.size : Int)
  · have c1b : decide ((1024 : Int) < (a0.size : Int)) = true := decide_eq_true c1
    go_wp2_with fail
    go_ret
    exact ⟨rfl, HB.out⟩
  have c1b : decide ((1024 : Int) < (a0.size : Int)) = false := decide_eq_false c1
  have HS := Aside0.mk (show a0.size ≤ 100000 by omega)
  clear c1
  by_cases c1 : (60 : Int) < (l1.length : Int)
  · have c1b : decide ((60 : Int) < (l1.length : Int)) = true := decide_eq_true c1
    go_wp2_with fail
    go_ret
    exact ⟨rfl, HB.out⟩
  have c2b : decide ((60 : Int) < (l1.length : Int)) = false := decide_eq_false c1
  have HL0 := Aside0.mk (show l1.length ≤ 60 by omega)
  clear c1
  have HS := Aside0.mk (Rd_new a0 HS.out)
  have hu3 := Try.underlying46
  go_wp2_with fail
  go_at_call 13
  refine (Open_nice _ HB.out).mono ?_
  rintro e w4 ⟨g, rfl, hi, hb, _⟩
  have HI := Aside0.mk hi
  have HB := Aside0.mk hb
  clear hi hb
  go_upto_block 0 with (fail)
  have HNE := Aside0.mk (show w4.heap.size ≠ g from Nat.ne_of_gt (IsS51.lt HI.out))
  have HH := Aside0.mk (IsS46.new w w4 a0 0 (-1) HB.out)
  have HI := Aside0.mk (IsS51.alloc HI.out (.cells #[.string a0, .int .i64 0, .int .i64 (-1)] 46))
  have HB := Aside0.mk (below_alloc HB.out (.cells #[.string a0, .int .i64 0, .int .i64 (-1)] 46))
  generalize w4.alloc (.cells #[.string a0, .int .i64 0, .int .i64 (-1)] 46) = W3 at HI HH HB ⊢
  generalize w4.heap.size = h at HNE HH ⊢
  go_wp2_with fail
  go_loopw [28] (fun v28 wr => ∃ (k : Nat) (i b : Int), k ≤ l1.length ∧ v28 = .int .i64 (k : Nat) ∧ Aside0 (Rd a0 i b) ∧ Aside0 (IsS51 w wr g a0 i b) ∧ Aside0 (IsS46 w wr h a0 i b) ∧ Aside0 (Below w.heap.size w wr)) (fun v28 _ => l1.length - (intOf v28).toNat)
  case atStart => exact ⟨0, 0, -1, Nat.zero_le _, rfl, HS, HI, HH, HB⟩
  case round =>
    clear HI HH HB HS c1b c2b
    obtain ⟨k, i, b, hk, rfl, HS, HI, HH, HB⟩ := hrel
    by_cases hlt : (k : Int) < (l1.length : Int)
    · have hltn : decide (k < l1.length) = true := decide_eq_true (by omega)
      have HK := Aside0.mk (show k < l1.length by omega)
      have E3 := Aside0.mk (show wrap64 ((k : Int) + 1) = ((k + 1 : Nat) : Int) by have := HK.out; have := HL0.out; unfold wrap64; omega)
      obtain ⟨ad, e0, hx0, hx1⟩ := at_T48 HR.out (k : Int) (by omega) hlt
      cases e0
      replace hx0 := (HB.out.cell (World.block_lt_of_cell? w _ hx0)).trans hx0
      replace hx1 := (HB.out.cell (World.block_lt_of_cell? w _ hx1)).trans hx1
      have p0 := eq_true (show 0 ≤ (k : Int) by omega)
      have q0 := eq_true hlt
      generalize rd_T48 l1 (k : Int) = z at hx0 hx1
      obtain ⟨kd, nn⟩ := z
      replace hx0 : wr.cell? (ad.add (k * 2)) = some (.int .i64 kd) := hx0
      replace hx1 : wr.cell? ⟨(ad.add (k * 2)).block, (ad.add (k * 2)).off + 1, none⟩ = some (.int .i64 nn) := hx1
      clear hlt hk
      have HZ := Aside0.mk (heap_alloc_new wr (.cells #[.int .i64 kd, .int .i64 nn] 48))
      have cz0 := (blk_cell HZ.out 0).trans rfl
      have cz1 := (blk_cell HZ.out 1).trans rfl
      go_upto_block 2 with (fail)
      clear cz0 cz1 hx0 hx1 p0 q0
      have HBG := Aside0.mk (show wr.heap.size ≠ g from Nat.ne_of_gt (IsS51.lt HI.out))
      have HBH := Aside0.mk (show wr.heap.size ≠ h from Nat.ne_of_gt (IsS46.lt HH.out))
      replace HH := Aside0.mk (IsS46.alloc HH.out (.cells #[.int .i64 kd, .int .i64 nn] 48))
      replace HI := Aside0.mk (IsS51.alloc HI.out (.cells #[.int .i64 kd, .int .i64 nn] 48))
      replace HB := Aside0.mk (below_alloc HB.out (.cells #[.int .i64 kd, .int .i64 nn] 48))
      generalize wr.alloc (.cells #[.int .i64 kd, .int .i64 nn] 48) = W at HZ HI HB HH ⊢
      generalize wr.heap.size = gb at HZ HBG HBH ⊢
      have z1 := (blk_cell HZ.out 1).trans rfl
      go_cut [] (fun wc => ∃ (i b : Int), Aside0 (Rd a0 i b) ∧ Aside0 (IsS51 w wc g a0 i b) ∧ Aside0 (IsS46 w wc h a0 i b) ∧ Aside0 (Below w.heap.size w wc))
      case first => as_aux_lemma =>
        by_cases k0 : kd = 0
        · have k0b : (kd == 0) = true := beq_iff_eq.mpr k0
          clear k0
          obtain ⟨v, hv⟩ : ∃ v, getV a0 i b nn = v := ⟨_, rfl⟩
          have CG := Aside0.mk (show ∀ W : World, IsS51 w W g a0 i b → Below w.heap.size w W → Calls Try.prog 16 #[.pointer (some ⟨g, 0, none⟩), .int .i64 nn] W fun e w' => e = .returned (.int .i64 v) ∧ IsS51 w w' g a0 (rdI a0 i b (mn (mx nn 1) 7)) (rdF a0 i b (mn (mx nn 1) 7)) ∧ Below w.heap.size w w' ∧ KeepBut W w' g none from fun W hi hb => by rw [← hv]; exact Get_nice hi hb HS.out nn)
          have CH := Aside0.mk (show ∀ W : World, IsS46 w W h a0 i b → Below w.heap.size w W → Calls Try.prog 18 #[.pointer (some ⟨h, 0, none⟩), .int .i64 nn] W fun e w' => e = .returned (.int .i64 v) ∧ IsS46 w w' h a0 (rdI a0 i b (mn (mx nn 1) 7)) (rdF a0 i b (mn (mx nn 1) 7)) ∧ Below w.heap.size w w' ∧ KeepBut W w' h none from fun W hi hb => by rw [← hv]; exact RGet_nice hi hb HS.out nn)
          clear hv
          have f1 : (v == v) = true := beq_self_eq_true _
          go_wp2_with fail
          go_region_held3 (fun w' => w'.cell? ⟨gb, 1, none⟩ = some (.int .i64 nn)) (first | go_keep | exact (blk_cell HZ.out 1).trans rfl) (first | (go_at_call 16; refine (CG.out _ (by exact HI.out) (by first | exact HB.out | (apply below_drew1; exact HB.out))).mono ?_; rintro e w5 ⟨rfl, hi, hb, hk⟩; have HZ := Aside0.mk ((hk.2 gb (Array.getElem?_eq_some_iff.1 HZ.out).1 HBG.out (by simp)).trans HZ.out); have HH := Aside0.mk (keep_h HH.out hk HNE.out); have HI := Aside0.mk hi; have HB := Aside0.mk hb; clear hi hb hk) | (go_at_call 18; refine (CH.out _ (by exact HH.out) (by first | exact HB.out | (apply below_drew1; exact HB.out))).mono ?_; rintro e w5 ⟨rfl, hi, hb, hk⟩; have HZ := Aside0.mk ((hk.2 gb (Array.getElem?_eq_some_iff.1 HZ.out).1 HBH.out (by simp)).trans HZ.out); have HI := Aside0.mk (keep_g HI.out hk (Ne.symm HNE.out)); have HH := Aside0.mk hi; have HB := Aside0.mk hb; clear hi hb hk))
          go_wp2_with fail
          go_meet
          case rel => exact ⟨_, _, ⟨Rd.next HS.out _⟩, HI, HH, HB⟩
        have k0b : (kd == 0) = false := beq_eq_false_iff_ne.mpr k0
        clear k0
        by_cases k1 : kd = 1
        · have k1b : (kd == 1) = true := beq_iff_eq.mpr k1
          clear k1
          obtain ⟨v, hv⟩ : ∃ v, rdV a0 i b nn = v := ⟨_, rfl⟩
          have CG := Aside0.mk (show ∀ W : World, IsS51 w W g a0 i b → Below w.heap.size w W → Calls Try.prog 14 #[.pointer (some ⟨g, 0, none⟩), .int .i64 nn] W fun e w' => e = .returned (.string v) ∧ IsS51 w w' g a0 (rdI a0 i b nn) (rdF a0 i b nn) ∧ Below w.heap.size w w' ∧ KeepBut W w' g none from fun W hi hb => by rw [← hv]; exact Raw_nice hi hb HS.out nn)
          have CH := Aside0.mk (show ∀ W : World, IsS46 w W h a0 i b → Below w.heap.size w W → Calls Try.prog 19 #[.pointer (some ⟨h, 0, none⟩), .int .i64 nn] W fun e w' => e = .returned (.string v) ∧ IsS46 w w' h a0 (rdI a0 i b nn) (rdF a0 i b nn) ∧ Below w.heap.size w w' ∧ KeepBut W w' h none from fun W hi hb => by rw [← hv]; exact RRaw_nice hi hb HS.out nn)
          clear hv
          go_wp2_with fail
          go_region_held3 (fun w' => w'.cell? ⟨gb, 1, none⟩ = some (.int .i64 nn)) (first | go_keep | exact (blk_cell HZ.out 1).trans rfl) (first | (go_at_call 14; refine (CG.out _ (by exact HI.out) (by first | exact HB.out | (apply below_drew1; exact HB.out))).mono ?_; rintro e w5 ⟨rfl, hi, hb, hk⟩; have HZ := Aside0.mk ((hk.2 gb (Array.getElem?_eq_some_iff.1 HZ.out).1 HBG.out (by simp)).trans HZ.out); have HH := Aside0.mk (keep_h HH.out hk HNE.out); have HI := Aside0.mk hi; have HB := Aside0.mk hb; clear hi hb hk) | (go_at_call 19; refine (CH.out _ (by exact HH.out) (by first | exact HB.out | (apply below_drew1; exact HB.out))).mono ?_; rintro e w5 ⟨rfl, hi, hb, hk⟩; have HZ := Aside0.mk ((hk.2 gb (Array.getElem?_eq_some_iff.1 HZ.out).1 HBH.out (by simp)).trans HZ.out); have HI := Aside0.mk (keep_g HI.out hk (Ne.symm HNE.out)); have HH := Aside0.mk hi; have HB := Aside0.mk hb; clear hi hb hk))
          go_wp2_with fail
          go_meet
          case rel => exact ⟨_, _, ⟨Rd.next HS.out _⟩, HI, HH, HB⟩
        have k1b : (kd == 1) = false := beq_eq_false_iff_ne.mpr k1
        clear k1
        by_cases k2 : kd = 2
        · have k2b : (kd == 2) = true := beq_iff_eq.mpr k2
          clear k2
          have hb3 := HS.out.2.2.2
          by_cases hb0 : b = -1
          · subst hb0
            clear hb3
            have HF := Aside0.mk (show failV i (-1) = i from if_pos rfl)
            have HN := Aside0.mk (Fail_nice HI.out HB.out HS.out)
            go_wp2_with fail
            go_at_call 20
            refine (HN.out).mono ?_
            rw [HF.out]
            rintro e w5 ⟨rfl, hi, hb, hk⟩
            have HH := Aside0.mk (keep_h HH.out hk HNE.out)
            have HI := Aside0.mk hi
            have HB := Aside0.mk hb
            have HS2 := Aside0.mk (show Rd a0 i (i) by have h := Rd.fail HS.out; rw [HF.out] at h; exact h)
            clear hi hb hk
            have q1 := (blk_cell HH.out.1 1).trans (rfl : _ = some (Value.int .i64 i))
            have q2 := (blk_cell HH.out.1 2).trans (rfl : _ = some (Value.int .i64 (-1)))
            have q3 := blk_frozen HH.out.1 2
            go_wp2_with fail
            go_meet
            case rel => exact ⟨i, i, HS2, ⟨IsS51.far HI.out (Ne.symm HNE.out) _⟩, ⟨IsS46.set_2 HH.out i⟩, ⟨HB.out.setCell HH.out.2 _⟩⟩
          · have hbb : decide (b < 0) = false := decide_eq_false (by omega)
            have HX := Aside0.mk hb0
            clear hb0 hb3
            have HF := Aside0.mk (show failV i b = b from if_neg HX.out)
            have HN := Aside0.mk (Fail_nice HI.out HB.out HS.out)
            go_wp2_with fail
            go_at_call 20
            refine (HN.out).mono ?_
            rw [HF.out]
            rintro e w5 ⟨rfl, hi, hb, hk⟩
            have HH := Aside0.mk (keep_h HH.out hk HNE.out)
            have HI := Aside0.mk hi
            have HB := Aside0.mk hb
            have HS2 := Aside0.mk (show Rd a0 i (b) by have h := Rd.fail HS.out; rw [HF.out] at h; exact h)
            clear hi hb hk
            have q1 := (blk_cell HH.out.1 1).trans (rfl : _ = some (Value.int .i64 i))
            have q2 := (blk_cell HH.out.1 2).trans (rfl : _ = some (Value.int .i64 b))
            have q3 := blk_frozen HH.out.1 2
            go_wp2_with fail
            go_meet
            case rel => exact ⟨i, b, HS2, HI, HH, HB⟩
        have k2b : (kd == 2) = false := beq_eq_false_iff_ne.mpr k2
        clear k2
        go_wp2_with fail
        go_meet
        case rel => exact ⟨i, b, HS, HI, HH, HB⟩
      case rest =>
        clear HI HH HB HS
        obtain ⟨i, b, HS, HI, HH, HB⟩ := hcut
        obtain ⟨lv, hlv⟩ : ∃ lv, leftV a0 i b = lv := ⟨_, rfl⟩
        have hb3 := HS.out.2.2.2
        by_cases hb0 : b = -1
        · subst hb0
          clear hb3
          by_cases hi0 : i = (a0.size : Int)
          · subst hi0
            as_aux_lemma =>
              have Qle := Aside0.mk (show ∀ W : World, W.heap[g]? = some (.cells #[.string a0, .int .i64 (a0.size : Int), .int .i64 (-1)] 51 (0, 0)) → Calls Try.prog 17 #[.pointer (some ⟨g, 0, none⟩)] W fun e w' => e = .returned (.int .i64 lv) ∧ ∃ n, w' = W.drewN n from fun W hW => by rw [← hlv]; exact qLeft hW HS.out)
              have Rle := Aside0.mk (show ∀ W : World, W.heap[h]? = some (.cells #[.string a0, .int .i64 (a0.size : Int), .int .i64 (-1)] 46 (0, 0)) → Calls Try.prog 21 #[.pointer (some ⟨h, 0, none⟩)] W fun e w' => e = .returned (.int .i64 lv) ∧ ∃ n, w' = W.drewN n from fun W hW => by rw [← hlv]; exact qRLeft hW HS.out)
              have Qfa := Aside0.mk (show ∀ W : World, W.heap[g]? = some (.cells #[.string a0, .int .i64 (a0.size : Int), .int .i64 (-1)] 51 (0, 0)) → Calls Try.prog 22 #[.pointer (some ⟨g, 0, none⟩)] W fun e w' => e = .returned (.int .i64 (-1)) ∧ ∃ n, w' = W.drewN n from fun W hW => by exact qFault hW HS.out)
              have Qen := Aside0.mk (show ∀ W : World, W.heap[g]? = some (.cells #[.string a0, .int .i64 (a0.size : Int), .int .i64 (-1)] 51 (0, 0)) → Calls Try.prog 15 #[.pointer (some ⟨g, 0, none⟩)] W fun e w' => e = .returned (.int .i64 0) ∧ ∃ n, w' = W.drewN n from fun W hW => by rw [show (0 : Int) = endV a0 (a0.size : Int) (-1) from (if_pos ⟨rfl, rfl⟩).symm]; exact qEnd hW HS.out)
              clear hlv
              have q1 := (blk_cell HH.out.1 1).trans (rfl : _ = some (Value.int .i64 (a0.size : Int)))
              have q2 := (blk_cell HH.out.1 2).trans (rfl : _ = some (Value.int .i64 (-1)))
              go_wp2_with fail
              (repeat (go_quiet (fail); go_wp2_with fail))
              go_quiet (first | (go_at_call 17; exact Calls.quiet_of (Qle.out _ HI.out.1)) | (go_at_call 21; exact Calls.quiet_of (Rle.out _ HH.out.1)) | (go_at_call 22; exact Calls.quiet_of (Qfa.out _ HI.out.1)) | (go_at_call 15; exact Calls.quiet_of (Qen.out _ HI.out.1)))
              go_wp2_with fail
              rw [E3.out]
              first
                | (go_roundw; case rel => exact ⟨k + 1, _, _, HK.out, by first | rfl | rw [E3.out], HS, ⟨IsS51.drewN HI.out _⟩, ⟨IsS46.drewN HH.out _⟩, ⟨below_step HB.out (Drawn0.below ⟨⟨_, rfl⟩⟩)⟩⟩)
                | (refine ⟨?_, ?measure⟩; exact ⟨k + 1, _, _, HK.out, by first | rfl | rw [E3.out], HS, ⟨IsS51.drewN HI.out _⟩, ⟨IsS46.drewN HH.out _⟩, ⟨below_step HB.out (Drawn0.below ⟨⟨_, rfl⟩⟩)⟩⟩)
              case measure => have := HK.out; simp [intOf]; omega
          · have hib : (i == (a0.size : Int)) = false := beq_eq_false_iff_ne.mpr hi0
            as_aux_lemma =>
              have Qle := Aside0.mk (show ∀ W : World, W.heap[g]? = some (.cells #[.string a0, .int .i64 i, .int .i64 (-1)] 51 (0, 0)) → Calls Try.prog 17 #[.pointer (some ⟨g, 0, none⟩)] W fun e w' => e = .returned (.int .i64 lv) ∧ ∃ n, w' = W.drewN n from fun W hW => by rw [← hlv]; exact qLeft hW HS.out)
              have Rle := Aside0.mk (show ∀ W : World, W.heap[h]? = some (.cells #[.string a0, .int .i64 i, .int .i64 (-1)] 46 (0, 0)) → Calls Try.prog 21 #[.pointer (some ⟨h, 0, none⟩)] W fun e w' => e = .returned (.int .i64 lv) ∧ ∃ n, w' = W.drewN n from fun W hW => by rw [← hlv]; exact qRLeft hW HS.out)
              have Qfa := Aside0.mk (show ∀ W : World, W.heap[g]? = some (.cells #[.string a0, .int .i64 i, .int .i64 (-1)] 51 (0, 0)) → Calls Try.prog 22 #[.pointer (some ⟨g, 0, none⟩)] W fun e w' => e = .returned (.int .i64 (-1)) ∧ ∃ n, w' = W.drewN n from fun W hW => by exact qFault hW HS.out)
              have Qen := Aside0.mk (show ∀ W : World, W.heap[g]? = some (.cells #[.string a0, .int .i64 i, .int .i64 (-1)] 51 (0, 0)) → Calls Try.prog 15 #[.pointer (some ⟨g, 0, none⟩)] W fun e w' => e = .returned (.int .i64 4) ∧ ∃ n, w' = W.drewN n from fun W hW => by rw [show (4 : Int) = endV a0 i (-1) from (if_neg (by omega)).symm]; exact qEnd hW HS.out)
              clear hlv
              have q1 := (blk_cell HH.out.1 1).trans (rfl : _ = some (Value.int .i64 i))
              have q2 := (blk_cell HH.out.1 2).trans (rfl : _ = some (Value.int .i64 (-1)))
              go_wp2_with fail
              (repeat (go_quiet (fail); go_wp2_with fail))
              go_quiet (first | (go_at_call 17; exact Calls.quiet_of (Qle.out _ HI.out.1)) | (go_at_call 21; exact Calls.quiet_of (Rle.out _ HH.out.1)) | (go_at_call 22; exact Calls.quiet_of (Qfa.out _ HI.out.1)) | (go_at_call 15; exact Calls.quiet_of (Qen.out _ HI.out.1)))
              go_wp2_with fail
              rw [E3.out]
              first
                | (go_roundw; case rel => exact ⟨k + 1, _, _, HK.out, by first | rfl | rw [E3.out], HS, ⟨IsS51.drewN HI.out _⟩, ⟨IsS46.drewN HH.out _⟩, ⟨below_step HB.out (Drawn0.below ⟨⟨_, rfl⟩⟩)⟩⟩)
                | (refine ⟨?_, ?measure⟩; exact ⟨k + 1, _, _, HK.out, by first | rfl | rw [E3.out], HS, ⟨IsS51.drewN HI.out _⟩, ⟨IsS46.drewN HH.out _⟩, ⟨below_step HB.out (Drawn0.below ⟨⟨_, rfl⟩⟩)⟩⟩)
              case measure => have := HK.out; simp [intOf]; omega
        · have hbb : decide (b < 0) = false := decide_eq_false (by omega)
          have hb1 := hb0
          clear hb3
          as_aux_lemma =>
            have Qle := Aside0.mk (show ∀ W : World, W.heap[g]? = some (.cells #[.string a0, .int .i64 i, .int .i64 b] 51 (0, 0)) → Calls Try.prog 17 #[.pointer (some ⟨g, 0, none⟩)] W fun e w' => e = .returned (.int .i64 lv) ∧ ∃ n, w' = W.drewN n from fun W hW => by rw [← hlv]; exact qLeft hW HS.out)
            have Rle := Aside0.mk (show ∀ W : World, W.heap[h]? = some (.cells #[.string a0, .int .i64 i, .int .i64 b] 46 (0, 0)) → Calls Try.prog 21 #[.pointer (some ⟨h, 0, none⟩)] W fun e w' => e = .returned (.int .i64 lv) ∧ ∃ n, w' = W.drewN n from fun W hW => by rw [← hlv]; exact qRLeft hW HS.out)
            have Qfa := Aside0.mk (show ∀ W : World, W.heap[g]? = some (.cells #[.string a0, .int .i64 i, .int .i64 b] 51 (0, 0)) → Calls Try.prog 22 #[.pointer (some ⟨g, 0, none⟩)] W fun e w' => e = .returned (.int .i64 b) ∧ ∃ n, w' = W.drewN n from fun W hW => by exact qFault hW HS.out)
            have Qen := Aside0.mk (show ∀ W : World, W.heap[g]? = some (.cells #[.string a0, .int .i64 i, .int .i64 b] 51 (0, 0)) → Calls Try.prog 15 #[.pointer (some ⟨g, 0, none⟩)] W fun e w' => e = .returned (.int .i64 4) ∧ ∃ n, w' = W.drewN n from fun W hW => by rw [show (4 : Int) = endV a0 i b from (if_neg (by omega)).symm]; exact qEnd hW HS.out)
            clear hlv hb0 hb1
            have q1 := (blk_cell HH.out.1 1).trans (rfl : _ = some (Value.int .i64 i))
            have q2 := (blk_cell HH.out.1 2).trans (rfl : _ = some (Value.int .i64 b))
            go_wp2_with fail
            (repeat (go_quiet (fail); go_wp2_with fail))
            go_quiet (first | (go_at_call 17; exact Calls.quiet_of (Qle.out _ HI.out.1)) | (go_at_call 21; exact Calls.quiet_of (Rle.out _ HH.out.1)) | (go_at_call 22; exact Calls.quiet_of (Qfa.out _ HI.out.1)) | (go_at_call 15; exact Calls.quiet_of (Qen.out _ HI.out.1)))
            go_wp2_with fail
            rw [E3.out]
            first
              | (go_roundw; case rel => exact ⟨k + 1, _, _, HK.out, by first | rfl | rw [E3.out], HS, ⟨IsS51.drewN HI.out _⟩, ⟨IsS46.drewN HH.out _⟩, ⟨below_step HB.out (Drawn0.below ⟨⟨_, rfl⟩⟩)⟩⟩)
              | (refine ⟨?_, ?measure⟩; exact ⟨k + 1, _, _, HK.out, by first | rfl | rw [E3.out], HS, ⟨IsS51.drewN HI.out _⟩, ⟨IsS46.drewN HH.out _⟩, ⟨below_step HB.out (Drawn0.below ⟨⟨_, rfl⟩⟩)⟩⟩)
            case measure => have := HK.out; simp [intOf]; omega
    · have hltn : decide (k < l1.length) = false := decide_eq_false (by omega)
      clear hlt hk
      go_wp2_with fail
      go_at_call 20
      refine (nil_Fail _).mono ?_
      rintro e w5 ⟨rfl, hd⟩
      have HB := Aside0.mk (below_step HB.out hd.below)
      clear hd
      go_wp2_with fail
      go_at_call 16
      refine (nil_Get _).mono ?_
      rintro e w5 ⟨rfl, hd⟩
      have HB := Aside0.mk (below_step HB.out hd.below)
      clear hd
      go_wp2_with fail
      go_at_call 14
      refine (nil_Raw 1 _).mono ?_
      rintro e w5 ⟨rfl, hd⟩
      have HB := Aside0.mk (below_step HB.out hd.below)
      clear hd
      go_wp2_with fail
      go_at_call 17
      refine (nil_Left _).mono ?_
      rintro e w5 ⟨rfl, hd⟩
      have HB := Aside0.mk (below_step HB.out hd.below)
      clear hd
      go_wp2_with fail
      go_at_call 22
      refine (nil_Fault _).mono ?_
      rintro e w5 ⟨rfl, hd⟩
      have HB := Aside0.mk (below_step HB.out hd.below)
      clear hd
      go_wp2_with fail
      go_at_call 15
      refine (nil_End _).mono ?_
      rintro e w5 ⟨rfl, hd⟩
      have HB := Aside0.mk (below_step HB.out hd.below)
      clear hd
      go_wp2_with fail
      go_ret
      exact ⟨by first | rfl | simp, HB.out⟩


end Go.Proofs.Ytkjkcmcfbnamaaa.POctetReads
