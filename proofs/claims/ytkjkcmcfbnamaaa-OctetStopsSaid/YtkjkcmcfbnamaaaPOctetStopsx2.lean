-- Written by a program of this session (see NOTES.md), which reads the translation's print; Lean checks it.
import Derived.Test.YtkjkcmcfbnamaaaPOctetStopsx0
import Derived.Test.YtkjkcmcfbnamaaaPOctetStopsx1
namespace Go.Proofs.Ytkjkcmcfbnamaaa.POctetStops
open Go.RowKit Go.Proofs.YtkjkcmcfbnamaaaW.PrintWords Go.Proofs.YtkjkcmcfbnamaaaW.PrintLast Go.Proofs.YtkjkcmcfbnamaaaW.PrintMore
attribute [local go_sem] max2_int min2_int max_two min_two max_three min_three max_four min_four   -- for this text's walks alone
set_option linter.unusedVariables false
set_option linter.unusedSimpArgs false

/-! ### kissgatelaw01_OctetStops: function 7 -/
theorem wrap_one (t : Nat) (h : t ≤ 100000000) : wrap64 ((t : Int) + 1) = ((t + 1 : Nat) : Int) := by rw [wrap_id (by omega) (by omega)]; omega
theorem wraps_i64 (n : Int) (h0 : 0 ≤ n) (h1 : n < 2 ^ 63) : IntKind.i64.wrap n = n := by rw [IntKind.wrap_i64]; omega
theorem str_size (xs : List Int) : (strOfNums xs).size = xs.length := by simp [strOfNums, ByteArray.size]
theorem str_append (xs ys : List Int) : strOfNums xs ++ strOfNums ys = strOfNums (xs ++ ys) := by
  apply ByteArray.ext
  simp [strOfNums]
theorem toList_append (a b : ByteArray) : (a ++ b).toList = a.toList ++ b.toList := by
  rw [ByteArray.toList_eq, ByteArray.toList_eq, ByteArray.toList_eq]; simp
theorem toList_inj {a b : ByteArray} (h : a.toList = b.toList) : a = b := by
  rw [ByteArray.toList_eq, ByteArray.toList_eq] at h
  exact ByteArray.ext (Array.toList_inj.1 h)

/-! ### Numbers as bytes -/
open Wr (putBytes numOf)
theorem putBytes_length (a : Int) : ∀ k, (putBytes a k).length = k
  | 0 => rfl
  | k + 1 => by simp [putBytes, putBytes_length a k]
theorem putBytes_small (a : Int) : ∀ k, ∀ x ∈ putBytes a k, 0 ≤ x ∧ x < 256
  | 0 => fun x h => by simp [putBytes] at h
  | k + 1 => fun x h => by
    simp only [putBytes, List.mem_cons] at h
    rcases h with rfl | h
    · omega
    · exact putBytes_small a k x h

/-- The value of bytes, the highest first. -/
def val (xs : List Int) : Int := xs.foldl (fun n x => n * 256 + x) 0
theorem val_from (xs : List Int) : ∀ n : Int, xs.foldl (fun n x => n * 256 + x) n = n * 256 ^ xs.length + val xs := by
  induction xs with
  | nil => intro n; simp [val]
  | cons x xs ih =>
    intro n
    unfold val
    rw [List.foldl_cons, List.foldl_cons, ih, ih (0 * 256 + x), List.length_cons, Int.pow_succ, Int.zero_mul, Int.zero_add, Int.add_mul]
    rw [show n * (256 ^ xs.length * 256) = n * 256 * 256 ^ xs.length by rw [Int.mul_comm (256 ^ xs.length) 256, Int.mul_assoc]]
    omega
theorem val_cons (x : Int) (xs : List Int) : val (x :: xs) = x * 256 ^ xs.length + val xs := by
  have := val_from xs x
  unfold val at this ⊢
  rw [List.foldl_cons, Int.zero_mul, Int.zero_add]; exact this
theorem val_range {xs : List Int} (h : ∀ x ∈ xs, 0 ≤ x ∧ x < 256) : 0 ≤ val xs ∧ val xs < 256 ^ xs.length := by
  induction xs with
  | nil => simp [val]
  | cons x xs ih =>
    have ih := ih (fun y hy => h y (by simp [hy]))
    have hx := h x (by simp)
    rw [val_cons, List.length_cons, Int.pow_succ]
    have h1 : (x + 1) * 256 ^ xs.length ≤ 256 * 256 ^ xs.length := Int.mul_le_mul_of_nonneg_right (by omega) (Int.le_of_lt (Int.pow_pos (by decide)))
    have h2 : 0 ≤ x * 256 ^ xs.length := Int.mul_nonneg hx.1 (Int.le_of_lt (Int.pow_pos (by decide)))
    rw [Int.add_mul, Int.one_mul] at h1
    generalize 256 ^ xs.length = z at *
    omega
theorem pow_two_eight (k : Nat) : (2 : Int) ^ (8 * k) = 256 ^ k := by rw [Int.pow_mul]; rfl
theorem emod_step (a z : Int) (hp : 0 < z) : a / z % 256 * z + a % z = a % (z * 256) := by
  have e1 : a % z + z * (a / z) = a := Int.emod_add_mul_ediv a z
  have hr0 : 0 ≤ a % z := Int.emod_nonneg a (Int.ne_of_gt hp)
  have hr1 : a % z < z := Int.emod_lt_of_pos a hp
  have hq : a / z = a / z % 256 + 256 * (a / z / 256) := (Int.emod_add_mul_ediv (a / z) 256).symm
  have hd0 : 0 ≤ a / z % 256 := by omega
  have hd1 : a / z % 256 < 256 := by omega
  revert e1 hr0 hr1 hq hd0 hd1
  generalize a / z % 256 = d
  generalize a / z / 256 = u
  generalize a % z = r
  generalize a / z = q
  intro e1 hr0 hr1 hq hd0 hd1
  subst hq
  subst e1
  rw [Int.mul_add, ← Int.mul_assoc z 256 u, Int.mul_comm z d, ← Int.add_assoc, Int.add_mul_emod_self_left]
  have h4 : 0 ≤ d * z := Int.mul_nonneg hd0 (Int.le_of_lt hp)
  have h6 : (d + 1) * z ≤ 256 * z := Int.mul_le_mul_of_nonneg_right hd1 (Int.le_of_lt hp)
  rw [Int.add_mul, Int.one_mul, Int.mul_comm 256 z] at h6
  rw [Int.emod_eq_of_lt (by omega) (by omega)]
  omega
theorem val_put (a : Int) : ∀ k, val (putBytes a k) = a % 256 ^ k
  | 0 => by simp [putBytes, val]
  | k + 1 => by
    rw [putBytes, val_cons, val_put a k, putBytes_length, pow_two_eight, Int.pow_succ]
    exact emod_step a _ (Int.pow_pos (by decide))
theorem put_val : ∀ {xs : List Int}, (∀ x ∈ xs, 0 ≤ x ∧ x < 256) → putBytes (val xs) xs.length = xs := by
  intro xs
  induction xs with
  | nil => intro _; rfl
  | cons x xs ih =>
    intro h
    have hx := h x (by simp)
    have hr := val_range (xs := xs) (fun y hy => h y (List.mem_cons_of_mem _ hy))
    have hp : (0 : Int) < 256 ^ xs.length := Int.pow_pos (by decide)
    rw [List.length_cons, putBytes, pow_two_eight, val_cons]
    have e1 : (x * 256 ^ xs.length + val xs) / 256 ^ xs.length % 256 = x := by
      rw [Int.add_comm, Int.add_mul_ediv_right _ _ (Int.ne_of_gt hp), Int.ediv_eq_zero_of_lt hr.1 hr.2]; omega
    rw [e1]
    congr 1
    have e2 : ∀ k, k ≤ xs.length → putBytes (x * 256 ^ xs.length + val xs) k = putBytes (val xs) k := by
      intro k
      induction k with
      | zero => intro _; rfl
      | succ k ihk =>
        intro hk
        rw [putBytes, putBytes, ihk (by omega), pow_two_eight]
        congr 1
        obtain ⟨m, hm⟩ : ∃ m, xs.length = k + 1 + m := ⟨xs.length - (k + 1), by omega⟩
        have e3 : x * 256 ^ xs.length = (x * 256 ^ m * 256) * 256 ^ k := by rw [hm, Int.pow_add, Int.pow_succ]; simp only [Int.mul_assoc, Int.mul_comm, Int.mul_left_comm]
        rw [e3, Int.add_comm, Int.add_mul_ediv_right _ _ (Int.ne_of_gt (Int.pow_pos (by decide)))]
        omega
    rw [e2 _ (Nat.le_refl _)]
    exact ih (fun y hy => h y (by simp [hy]))
theorem put_inj {a b : Int} {k : Nat} (h : putBytes a k = putBytes b k) : a % 256 ^ k = b % 256 ^ k := by rw [← val_put, ← val_put, h]
theorem put_congr {a b : Int} : ∀ {k : Nat}, a % 256 ^ k = b % 256 ^ k → putBytes a k = putBytes b k := by
  intro k h
  have ha := putBytes_small a k
  have hb := putBytes_small b k
  have e1 := put_val ha
  have e2 := put_val hb
  rw [putBytes_length, val_put] at e1 e2
  rw [← e1, ← e2, h]

theorem mx_of_lt {a b : Int} (h : a < b) : mx a b = b := by unfold mx; rw [if_pos h]
theorem mx_of_ge {a b : Int} (h : b ≤ a) : mx a b = a := by unfold mx; rw [if_neg (by omega)]
theorem mn_of_gt {a b : Int} (h : b < a) : mn a b = b := by unfold mn; rw [if_pos h]
theorem mn_of_le {a b : Int} (h : a ≤ b) : mn a b = a := by unfold mn; rw [if_neg (by omega)]
theorem take_snoc (l : List Int) (j : Nat) (h : j < l.length) : l.take (j + 1) = l.take j ++ [l.getD j 0] := by
  rw [List.take_succ_eq_append_getElem h, List.getD_eq_getElem?_getD, List.getElem?_eq_getElem h]; rfl


/-! ### The reader -/
/-- n bytes of s from place i on. -/
def seg (s : ByteArray) (i n : Nat) : List Int := ((bytesOf s).drop i).take n
theorem seg_length (s : ByteArray) (i n : Nat) (h : i + n ≤ s.size) : (seg s i n).length = n := by
  unfold seg; rw [List.length_take, List.length_drop, bytesOf_length]; omega
theorem bytesOf_small (s : ByteArray) : ∀ x ∈ bytesOf s, 0 ≤ x ∧ x < 256 := by
  intro x hx
  simp only [bytesOf, List.mem_map] at hx
  obtain ⟨b, -, rfl⟩ := hx
  have := b.toNat_lt; omega
theorem seg_small (s : ByteArray) (i n : Nat) : ∀ x ∈ seg s i n, 0 ≤ x ∧ x < 256 := fun x hx =>
  bytesOf_small s x (List.mem_of_mem_drop (List.mem_of_mem_take hx))
theorem bytesOf_cut (s : ByteArray) (i n : Nat) : bytesOf (s.extract i (i + n)) = seg s i n := by
  unfold seg bytesOf
  rw [ByteArray.data_extract, Array.toList_extract, List.extract_eq_take_drop, List.map_take, List.map_drop]
  congr 1; omega
theorem or_8 (x y : Int) (h0 : 0 ≤ x) (h1 : x < 2 ^ 55) (k0 : 0 ≤ y) (k1 : y < 256) : Go.bits .or .i64 (wrap64 (x * 256)) (wrap64 y) = x * 256 + y := by
  rw [wrap_id (by omega) (by omega), wrap_id (by omega) (by omega)]
  exact bits_join .i64 63 (by decide) wraps_i64 8 (x * 256) y (by omega) (by omega) (by omega) k0 k1 (by omega)
theorem val_snoc (xs : List Int) (x : Int) : val (xs ++ [x]) = val xs * 256 + x := by
  unfold val; rw [List.foldl_append]; rfl
theorem pow_le_55 (j : Nat) (h : j ≤ 6) : (256 : Int) ^ j ≤ 2 ^ 48 := by
  rw [← pow_two_eight]
  have : (2 : Nat) ^ (8 * j) ≤ 2 ^ 48 := Nat.pow_le_pow_right (by decide) (by omega)
  exact_mod_cast this
theorem get_loop (x5 : ByteArray) (hs : x5.size ≤ 7) (s : ByteArray) (i b : Int) : ∀ d j : Nat, x5.size - j = d → j ≤ x5.size →
    Ev (fun k => octet_Reader_Get.l0 k x5 (val ((bytesOf x5).take j)) (x5.size : Int) (j : Int) s i b) (val (bytesOf x5), s, i, b) := by
  intro d
  induction d with
  | zero =>
    intro j hd hj
    have : j = x5.size := by omega
    subst this
    refine Ev.step (f := fun _ => some (val (bytesOf x5), s, i, b)) (fun k => ?_) (Ev.now _)
    simp only [octet_Reader_Get.l0]
    rw [if_neg (by omega), List.take_of_length_le (by rw [bytesOf_length]; exact Nat.le_refl _)]
  | succ d ih =>
    intro j hd hj
    have hlt : j < x5.size := by omega
    have hnx := ih (j + 1) (by omega) (by omega)
    have hl : (bytesOf x5).length = x5.size := bytesOf_length x5
    have e1 : val ((bytesOf x5).take (j + 1)) = val ((bytesOf x5).take j) * 256 + bt x5 (j : Int) := by
      rw [take_snoc _ _ (by rw [hl]; exact hlt), val_snoc]; rw [← rd_bytesOf]; rfl
    have hr := val_range (xs := (bytesOf x5).take j) (fun x hx => bytesOf_small x5 x (List.mem_of_mem_take hx))
    rw [List.length_take, hl, Nat.min_eq_left (Nat.le_of_lt hlt)] at hr
    have hp := pow_le_55 j (by omega)
    have hb := bt_range x5 (j : Int)
    rw [e1] at hnx
    refine Ev.step (fun k => ?_) hnx
    simp only [octet_Reader_Get.l0]
    rw [if_pos (Int.ofNat_lt.2 hlt), if_pos (Int.natCast_nonneg j), if_pos (Int.ofNat_lt.2 hlt), or_8 _ _ hr.1 (Int.lt_of_lt_of_le hr.2 (Int.le_trans hp (by decide))) hb.1 (by omega), wrap_one j (by omega)]

theorem take_good (s : ByteArray) (i n : Nat) (hs : s.size ≤ 140737488351232) (h : i + n ≤ s.size) :
    octet_Reader_take.f s i (-1) n = some (s.extract i (i + n), true, s, ((i + n : Nat) : Int), -1) := by
  unfold octet_Reader_take.f
  have w1 : wrap64 ((s.size : Int) - (i : Int)) = (s.size : Int) - (i : Int) := wrap_id (by omega) (by omega)
  have w2 : wrap64 ((i : Int) + (n : Int)) = ((i + n : Nat) : Int) := by rw [wrap_id (by omega) (by omega)]; omega
  have w3 : wrap64 (((i + n : Nat) : Int) - (n : Int)) = (i : Int) := by rw [wrap_id (by omega) (by omega)]; omega
  rw [w1, w2, w3, if_neg (by decide), if_neg (by omega), if_neg (by omega), if_pos (by omega), if_pos (by omega), if_pos (by omega), Int.toNat_natCast, Int.toNat_natCast]
theorem take_short (s : ByteArray) (i n : Nat) (hs : s.size ≤ 140737488351232) (hi : i ≤ s.size) (h : ¬ i + n ≤ s.size) :
    octet_Reader_take.f s i (-1) n = some ((⟨#[]⟩ : ByteArray), false, s, (i : Int), (i : Int)) := by
  unfold octet_Reader_take.f
  have w1 : wrap64 ((s.size : Int) - (i : Int)) = (s.size : Int) - (i : Int) := wrap_id (by omega) (by omega)
  rw [w1, if_neg (by decide), if_neg (by omega), if_pos (by omega)]
theorem take_bad (s : ByteArray) (i b n : Int) (hb : 0 ≤ b) : octet_Reader_take.f s i b n = some ((⟨#[]⟩ : ByteArray), false, s, i, b) := by
  unfold octet_Reader_take.f; rw [if_pos hb]


/-! ### The reader's answers in closed form -/
def okB (s : ByteArray) (i b n : Int) : Prop := b = -1 ∧ 0 ≤ n ∧ i + n ≤ s.size
instance (s : ByteArray) (i b n : Int) : Decidable (okB s i b n) := inferInstanceAs (Decidable (b = -1 ∧ 0 ≤ n ∧ i + n ≤ s.size))
def rdV (s : ByteArray) (i b n : Int) : ByteArray := if okB s i b n then s.extract i.toNat (i + n).toNat else ⟨#[]⟩
def rdI (s : ByteArray) (i b n : Int) : Int := if okB s i b n then i + n else i
def rdF (s : ByteArray) (i b n : Int) : Int := if b = -1 then (if okB s i b n then -1 else i) else b
theorem Rd.next {s : ByteArray} {i b : Int} (h : Rd s i b) (n : Int) : Rd s (rdI s i b n) (rdF s i b n) := by
  obtain ⟨h0, h1, h2, h3⟩ := h
  unfold Rd rdI rdF
  by_cases c : okB s i b n
  · rw [if_pos c, if_pos c]
    obtain ⟨c1, c2, c3⟩ := c
    exact ⟨h0, by omega, by omega, by rw [if_pos c1]; exact .inl rfl⟩
  · rw [if_neg c, if_neg c]
    exact ⟨h0, h1, h2, by split; exact .inr h1; exact h3⟩
theorem take_eq {s : ByteArray} {i b : Int} (h : Rd s i b) (n : Int) : octet_Reader_take.f s i b n = some (rdV s i b n, decide (okB s i b n), s, rdI s i b n, rdF s i b n) := by
  obtain ⟨h0, h1, h2, h3⟩ := h
  unfold octet_Reader_take.f rdV rdI rdF
  have w1 : wrap64 ((s.size : Int) - i) = (s.size : Int) - i := wrap_id (by omega) (by omega)
  rw [w1]
  rcases h3 with rfl | h3
  · rw [if_neg (show ¬ ((-1 : Int) ≥ 0) by decide), if_pos rfl]
    by_cases c1 : n < 0
    · have c : ¬ okB s i (-1) n := fun c => by have := c.2.1; omega
      rw [if_pos c1, if_neg c, if_neg c, if_neg c, decide_eq_false c]
    · rw [if_neg c1]
      by_cases c2 : n > (s.size : Int) - i
      · have c : ¬ okB s i (-1) n := fun c => by have := c.2.2; omega
        rw [if_pos c2, if_neg c, if_neg c, if_neg c, decide_eq_false c]
      · have c : okB s i (-1) n := ⟨rfl, by omega, by omega⟩
        have w2 : wrap64 (i + n) = i + n := wrap_id (by omega) (by omega)
        have w3 : wrap64 (i + n - n) = i := by rw [wrap_id (by omega) (by omega)]; omega
        rw [if_neg c2, w2, w3, if_pos h1, if_pos (by omega), if_pos (by omega), if_pos c, if_pos c, if_pos c, decide_eq_true c]
  · have c : ¬ okB s i b n := fun c => by have := c.1; omega
    rw [if_pos (show b ≥ 0 from h3), if_neg c, if_neg c, if_neg (by omega), decide_eq_false c]
theorem raw_eq {s : ByteArray} {i b : Int} (h : Rd s i b) (n : Int) : octet_Reader_Raw.f s i b n = some (rdV s i b n, s, rdI s i b n, rdF s i b n) := by
  unfold octet_Reader_Raw.f; rw [take_eq h]; rfl
theorem rdV_size {s : ByteArray} {i b : Int} (h : Rd s i b) (n : Int) (hn : n ≤ 7) : (rdV s i b n).size ≤ 7 := by
  unfold rdV
  by_cases c : okB s i b n
  · rw [if_pos c, ByteArray.size_extract]
    have := h.2.1; have := c.2.1; omega
  · rw [if_neg c]; decide
theorem mnmx_le (n : Int) : mn (mx n 1) 7 ≤ 7 := by unfold mn mx; split <;> split <;> omega
theorem mnmx_ge (n : Int) : 1 ≤ mn (mx n 1) 7 := by unfold mn mx; split <;> split <;> omega
def getV (s : ByteArray) (i b n : Int) : Int := val (bytesOf (rdV s i b (mn (mx n 1) 7)))
theorem get_eq {s : ByteArray} {i b : Int} (h : Rd s i b) (n : Int) : Ev (fun k => octet_Reader_Get.f k s i b n) (getV s i b n, s, rdI s i b (mn (mx n 1) 7), rdF s i b (mn (mx n 1) 7)) := by
  have hz := rdV_size h (mn (mx n 1) 7) (mnmx_le n)
  have L := get_loop (rdV s i b (mn (mx n 1) 7)) hz s (rdI s i b (mn (mx n 1) 7)) (rdF s i b (mn (mx n 1) 7)) _ 0 rfl (Nat.zero_le _)
  unfold getV
  by_cases c : okB s i b (mn (mx n 1) 7)
  · refine Ev.congr (fun k => ?_) L
    unfold octet_Reader_Get.f
    rw [take_eq h, decide_eq_true c]
    rfl
  · refine Ev.congr (fun k => ?_) (Ev.now _)
    unfold octet_Reader_Get.f
    have e : rdV s i b (mn (mx n 1) 7) = ⟨#[]⟩ := by unfold rdV; rw [if_neg c]
    rw [take_eq h, decide_eq_false c, e]
    rfl
theorem left_eq {s : ByteArray} {i b : Int} (h : Rd s i b) : octet_Reader_Left.f s i b = some (if b = -1 then (s.size : Int) - i else 0, s, i, b) := by
  obtain ⟨h0, h1, h2, h3⟩ := h
  unfold octet_Reader_Left.f
  rcases h3 with rfl | h3
  · rw [if_neg (by decide), if_pos rfl, wrap_id (by omega) (by omega)]
  · rw [if_pos h3, if_neg (by omega)]
def failV (i b : Int) : Int := if b = -1 then i else b
theorem fail_eq {s : ByteArray} {i b : Int} (h : Rd s i b) : octet_Reader_Fail.f s i b = some (s, i, failV i b) := by
  obtain ⟨h0, h1, h2, h3⟩ := h
  unfold octet_Reader_Fail.f failV
  rcases h3 with rfl | h3
  · rw [if_pos (by decide), if_pos rfl]
  · rw [if_neg (by omega), if_neg (by omega)]
theorem Rd.fail {s : ByteArray} {i b : Int} (h : Rd s i b) : Rd s i (failV i b) := by
  obtain ⟨h0, h1, h2, h3⟩ := h
  exact ⟨h0, h1, h2, by unfold failV; split; exact .inr h1; exact h3⟩
theorem Raw_nice {g : Nat} {s : ByteArray} {i b : Int} {w0 w : World} (hI : IsS51 w0 w g s i b) (hB : Below w0.heap.size w0 w) (hR : Rd s i b) (n : Int) :
    Calls Try.prog 14 #[.pointer (some ⟨g, 0, none⟩), .int .i64 n] w fun e w' => e = .returned (.string (rdV s i b n)) ∧ IsS51 w0 w' g s (rdI s i b n) (rdF s i b n) ∧ Below w0.heap.size w0 w' ∧ KeepBut w w' g none := octet_Reader_Raw.calls g s i b n _ _ _ _ w0 w hI hB (raw_eq hR n)
theorem Get_nice {g : Nat} {s : ByteArray} {i b : Int} {w0 w : World} (hI : IsS51 w0 w g s i b) (hB : Below w0.heap.size w0 w) (hR : Rd s i b) (n : Int) :
    Calls Try.prog 16 #[.pointer (some ⟨g, 0, none⟩), .int .i64 n] w fun e w' => e = .returned (.int .i64 (getV s i b n)) ∧ IsS51 w0 w' g s (rdI s i b (mn (mx n 1) 7)) (rdF s i b (mn (mx n 1) 7)) ∧ Below w0.heap.size w0 w' ∧ KeepBut w w' g none := by
  obtain ⟨K, hK⟩ := get_eq hR n
  exact octet_Reader_Get.calls K g s i b n _ _ _ _ w0 w hI hB (hK K (Nat.le_refl _))
theorem Left_nice {g : Nat} {s : ByteArray} {i b : Int} {w0 w : World} (hI : IsS51 w0 w g s i b) (hB : Below w0.heap.size w0 w) (hR : Rd s i b) :
    Calls Try.prog 17 #[.pointer (some ⟨g, 0, none⟩)] w fun e w' => e = .returned (.int .i64 (if b = -1 then (s.size : Int) - i else 0)) ∧ IsS51 w0 w' g s i b ∧ Below w0.heap.size w0 w' ∧ KeepBut w w' g none := octet_Reader_Left.calls g s i b _ _ _ _ w0 w hI hB (left_eq hR)
theorem Fail_nice {g : Nat} {s : ByteArray} {i b : Int} {w0 w : World} (hI : IsS51 w0 w g s i b) (hB : Below w0.heap.size w0 w) (hR : Rd s i b) :
    Calls Try.prog 20 #[.pointer (some ⟨g, 0, none⟩)] w fun e w' => e = .returned (.tuple #[]) ∧ IsS51 w0 w' g s i (failV i b) ∧ Below w0.heap.size w0 w' ∧ KeepBut w w' g none := octet_Reader_Fail.calls g s i b _ _ _ w0 w hI hB (fail_eq hR)
def kissgatelaw01_OctetStops.Pure : Prop := True
theorem half_ok (s : ByteArray) : okB s 0 (-1) ((s.size : Int) / 2) := ⟨rfl, by omega, by omega⟩
theorem rd_bad (s : ByteArray) (i b n : Int) (hb : 0 ≤ b) : rdV s i b n = ⟨#[]⟩ ∧ rdI s i b n = i ∧ rdF s i b n = b := by
  have c : ¬ okB s i b n := fun c => by have := c.1; omega
  exact ⟨by unfold rdV; rw [if_neg c], by unfold rdI; rw [if_neg c], by unfold rdF; rw [if_neg (by omega)]⟩
theorem get_bad0 (s : ByteArray) (i b n : Int) (hb : 0 ≤ b) : getV s i b n = 0 := by unfold getV; rw [(rd_bad s i b _ hb).1]; rfl
theorem fail_bad (i b : Int) (hb : 0 ≤ b) : failV i b = b := by unfold failV; rw [if_neg (by omega)]
set_option maxHeartbeats 8000000 in
set_option maxRecDepth 100000 in
theorem kissgatelaw01_OctetStops.walk (P : kissgatelaw01_OctetStops.Pure) (a0 : ByteArray) (A1 : Option Addr) (c1 : Nat) (l1 : List S48) (w : World) (w0 : a0.size ≤ 140737488351232) (hr1 : Kd.C k48 w A1 l1.length l1) (hc1 : l1.length ≤ c1) (hw1 : ∀ z ∈ l1, (Lit.int .i64 z.f0).wf = true ∧ (Lit.int .i64 z.f1).wf = true) :
    Calls Try.prog 7 #[.string a0, .slice A1 l1.length c1] w fun e w' => e = .returned (.bool true) ∧ Below w.heap.size w w' := by
  clear P hw1 w0
  have HR := Aside0.mk hr1
  have HC := Aside0.mk hc1
  have hu := Try.underlying51
  have hu2 := Try.underlying48
  clear hr1 hc1
  go_enter Try.func7, Try.ntmps7
  go_wp2_with fail
  go_at_call 8
  refine (kissgatelaw01_alive.good w _ (Below.refl _ _)).mono ?_
  rintro e w1 ⟨rfl, hb⟩
  have HB := Aside0.mk hb
  clear hb
  by_cases c1 : (1024 : Int) < (a0.size : Int)
  · have c1b : decide ((1024 : Int) < (a0.size : Int)) = true := decide_eq_true c1
    go_wp2_with fail
    go_ret
    exact ⟨rfl, HB.out⟩
  have c1b : decide ((1024 : Int) < (a0.size : Int)) = false := decide_eq_false c1
  have HS := Aside0.mk (show a0.size ≤ 100000 by omega)
  clear c1
  by_cases c1 : (60 : Int) < (l1.length : Int)
  · have c1b : decide ((60 : Int) < (l1.length : Int)) = true := decide_eq_true c1
    go_wp2_with fail
    go_ret
    exact ⟨rfl, HB.out⟩
  have c2b : decide ((60 : Int) < (l1.length : Int)) = false := decide_eq_false c1
  have HL0 := Aside0.mk (show l1.length ≤ 60 by omega)
  clear c1
  go_wp2_with fail
  go_at_call 13
  refine (Open_nice _ HB.out).mono ?_
  rintro e w4 ⟨g, rfl, hi, hb, _⟩
  have HI := Aside0.mk hi
  have HB := Aside0.mk hb
  clear hi hb
  obtain ⟨hf, hhf, HF⟩ : ∃ hf : Int, Int.tdiv (a0.size : Int) 2 = hf ∧ Aside0 (hf = (a0.size : Int) / 2 ∧ 0 ≤ hf ∧ hf ≤ a0.size) := ⟨_, rfl, ⟨by rw [Int.tdiv_eq_ediv_of_nonneg (by omega)]; omega⟩⟩
  have hhf2 : (a0.size : Int) / 2 = hf := HF.out.1.symm
  have HR0 := Aside0.mk (Rd_new a0 HS.out)
  have HR1 := Aside0.mk (show Rd a0 hf (-1) from ⟨HS.out, HF.out.2.1, HF.out.2.2, .inl rfl⟩)
  have HR2 := Aside0.mk (show Rd a0 hf hf from ⟨HS.out, HF.out.2.1, HF.out.2.2, .inr HF.out.2.1⟩)
  have HN := Aside0.mk (Raw_nice HI.out HB.out HR0.out hf)
  have HE := Aside0.mk (show rdI a0 0 (-1) hf = hf ∧ rdF a0 0 (-1) hf = -1 by
    have c := half_ok a0
    rw [hhf2] at c
    exact ⟨by unfold rdI; rw [if_pos c]; omega, by unfold rdF; rw [if_pos rfl, if_pos c]⟩)
  have HE2 := Aside0.mk (show rdI a0 hf (-1) ((a0.size : Int) + 1) = hf ∧ rdF a0 hf (-1) ((a0.size : Int) + 1) = hf by
    have c : ¬ okB a0 hf (-1) ((a0.size : Int) + 1) := fun c => by have := c.2.2; have := HF.out; omega
    exact ⟨by unfold rdI; rw [if_neg c], by unfold rdF; rw [if_pos rfl, if_neg c]⟩)
  clear hhf2
  have e1 : wrap64 ((a0.size : Int) + 1) = (a0.size : Int) + 1 := by have := HS.out; unfold wrap64; omega
  have e0 : wrap64 hf = hf := by have := HS.out; have := HF.out; unfold wrap64; omega
  have E0 := Aside0.mk e0
  go_wp2_with fail
  (try rw [e0])
  clear e0
  go_at_call 14
  refine (HN.out).mono ?_
  rw [HE.out.1, HE.out.2]
  rintro e w5 ⟨rfl, hi, hb, _⟩
  have HI := Aside0.mk hi
  have HB := Aside0.mk hb
  clear hi hb HN
  have HN := Aside0.mk (Raw_nice HI.out HB.out HR1.out ((a0.size : Int) + 1))
  go_wp2_with fail
  (try rw [e1])
  go_at_call 14
  refine (HN.out).mono ?_
  rw [HE2.out.1, HE2.out.2]
  rintro e w5 ⟨rfl, hi, hb, _⟩
  have HI := Aside0.mk hi
  have HB := Aside0.mk hb
  clear hi hb
  clear e1
  go_wp2_with fail
  go_at_call 22
  refine (Fault_nice HI.out HB.out HR2.out).mono ?_
  rintro e w5 ⟨rfl, hi, hb, _⟩
  have HI := Aside0.mk hi
  have HB := Aside0.mk hb
  clear hi hb
  go_wp2_with fail
  go_loopw [35] (fun v35 wr => ∃ (k : Nat), k ≤ l1.length ∧ v35 = .int .i64 (k : Nat) ∧ Aside0 (IsS51 w wr g a0 hf hf) ∧ Aside0 (Below w.heap.size w wr)) (fun v35 _ => l1.length - (intOf v35).toNat)
  case atStart => exact ⟨0, Nat.zero_le _, rfl, HI, HB⟩
  case round =>
    clear HI HB c1b c2b
    obtain ⟨k, hk, rfl, HI, HB⟩ := hrel
    by_cases hlt : (k : Int) < (l1.length : Int)
    · have hltn : decide (k < l1.length) = true := decide_eq_true (by omega)
      have HK := Aside0.mk (show k < l1.length by omega)
      have E3 := Aside0.mk (show wrap64 ((k : Int) + 1) = ((k + 1 : Nat) : Int) by have := HK.out; have := HL0.out; unfold wrap64; omega)
      obtain ⟨ad, e0, hx0, hx1⟩ := at_T48 HR.out (k : Int) (by omega) hlt
      cases e0
      replace hx0 := (HB.out.cell (World.block_lt_of_cell? w _ hx0)).trans hx0
      replace hx1 := (HB.out.cell (World.block_lt_of_cell? w _ hx1)).trans hx1
      have p0 := eq_true (show 0 ≤ (k : Int) by omega)
      have q0 := eq_true hlt
      generalize rd_T48 l1 (k : Int) = z at hx0 hx1
      obtain ⟨kd, nn⟩ := z
      replace hx0 : wr.cell? (ad.add (k * 2)) = some (.int .i64 kd) := hx0
      replace hx1 : wr.cell? ⟨(ad.add (k * 2)).block, (ad.add (k * 2)).off + 1, none⟩ = some (.int .i64 nn) := hx1
      clear hlt hk
      have HZ := Aside0.mk (heap_alloc_new wr (.cells #[.int .i64 kd, .int .i64 nn] 48))
      have cz0 := (blk_cell HZ.out 0).trans rfl
      have cz1 := (blk_cell HZ.out 1).trans rfl
      go_upto_region 12 with (fail)
      clear cz0 cz1 hx0 hx1 p0 q0
      have HBG := Aside0.mk (show wr.heap.size ≠ g from Nat.ne_of_gt (IsS51.lt HI.out))
      replace HI := Aside0.mk (IsS51.alloc HI.out (.cells #[.int .i64 kd, .int .i64 nn] 48))
      replace HB := Aside0.mk (below_alloc HB.out (.cells #[.int .i64 kd, .int .i64 nn] 48))
      generalize wr.alloc (.cells #[.int .i64 kd, .int .i64 nn] 48) = W at HZ HI HB ⊢
      generalize wr.heap.size = gb at HZ HBG ⊢
      have z1 := (blk_cell HZ.out 1).trans rfl
      have HN := Aside0.mk (Get_nice HI.out HB.out HR2.out nn)
      go_wp2_with fail
      go_at_call 16
      refine (HN.out).mono ?_
      rw [get_bad0 _ _ _ _ HF.out.2.1, (rd_bad a0 hf hf _ HF.out.2.1).2.1, (rd_bad a0 hf hf _ HF.out.2.1).2.2]
      rintro e w5 ⟨rfl, hi, hb, hk⟩
      have HZ := Aside0.mk ((hk.2 gb (Array.getElem?_eq_some_iff.1 HZ.out).1 HBG.out (by simp)).trans HZ.out)
      have z1 := (blk_cell HZ.out 1).trans rfl
      have HI := Aside0.mk hi
      have HB := Aside0.mk hb
      clear hi hb hk
      have HN := Aside0.mk (Raw_nice HI.out HB.out HR2.out nn)
      go_wp2_with fail
      go_at_call 14
      refine (HN.out).mono ?_
      rw [(rd_bad a0 hf hf _ HF.out.2.1).1, (rd_bad a0 hf hf _ HF.out.2.1).2.1, (rd_bad a0 hf hf _ HF.out.2.1).2.2]
      rintro e w5 ⟨rfl, hi, hb, hk⟩
      have HZ := Aside0.mk ((hk.2 gb (Array.getElem?_eq_some_iff.1 HZ.out).1 HBG.out (by simp)).trans HZ.out)
      have z1 := (blk_cell HZ.out 1).trans rfl
      have HI := Aside0.mk hi
      have HB := Aside0.mk hb
      clear hi hb hk
      have HN := Aside0.mk (Fail_nice HI.out HB.out HR2.out)
      go_wp2_with fail
      go_at_call 20
      refine (HN.out).mono ?_
      rw [fail_bad _ _ HF.out.2.1]
      rintro e w5 ⟨rfl, hi, hb, _⟩
      have HI := Aside0.mk hi
      have HB := Aside0.mk hb
      clear hi hb
      go_wp2_with fail
      rw [E3.out]
      first
        | (go_roundw; case rel => exact ⟨k + 1, HK.out, by first | rfl | rw [E3.out], HI, HB⟩)
        | (refine ⟨?_, ?measure⟩; exact ⟨k + 1, HK.out, by first | rfl | rw [E3.out], HI, HB⟩)
      case measure => have := HK.out; simp [intOf]; omega
    · have hltn : decide (k < l1.length) = false := decide_eq_false (by omega)
      clear hlt hk
      have e0 := E0.out
      go_wp2_with fail
      go_at_call 22
      refine (Fault_nice HI.out HB.out HR2.out).mono ?_
      rintro e w5 ⟨rfl, hi, hb, _⟩
      have HI := Aside0.mk hi
      have HB := Aside0.mk hb
      clear hi hb
      have HN := Aside0.mk (Left_nice HI.out HB.out HR2.out)
      go_wp2_with fail
      go_at_call 17
      refine (HN.out).mono ?_
      rw [if_neg (show ¬ hf = -1 by have := HF.out; omega)]
      rintro e w5 ⟨rfl, hi, hb, _⟩
      have HI := Aside0.mk hi
      have HB := Aside0.mk hb
      clear hi hb
      go_wp2_with fail
      go_ret
      exact ⟨by first | rfl | simp, HB.out⟩


end Go.Proofs.Ytkjkcmcfbnamaaa.POctetStops
