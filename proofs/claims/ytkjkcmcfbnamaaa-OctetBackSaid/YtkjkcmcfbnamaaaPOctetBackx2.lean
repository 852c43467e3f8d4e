-- Written by a program of this session (see NOTES.md), which reads the translation's print; Lean checks it.
import Derived.Test.YtkjkcmcfbnamaaaPOctetBackx0
import Derived.Test.YtkjkcmcfbnamaaaPOctetBackx1
namespace Go.Proofs.Ytkjkcmcfbnamaaa.POctetBack
open Go.RowKit Go.Proofs.YtkjkcmcfbnamaaaW.PrintWords Go.Proofs.YtkjkcmcfbnamaaaW.PrintLast Go.Proofs.YtkjkcmcfbnamaaaW.PrintMore
attribute [local go_sem] max2_int min2_int max_two min_two max_three min_three max_four min_four   -- for this text's walks alone
set_option linter.unusedVariables false
set_option linter.unusedSimpArgs false

/-! ### kissgatelaw01_OctetBack: function 5 -/
theorem wrap_one (t : Nat) (h : t ≤ 100000000) : wrap64 ((t : Int) + 1) = ((t + 1 : Nat) : Int) := by rw [wrap_id (by omega) (by omega)]; omega
theorem wraps_i64 (n : Int) (h0 : 0 ≤ n) (h1 : n < 2 ^ 63) : IntKind.i64.wrap n = n := by rw [IntKind.wrap_i64]; omega
theorem str_size (xs : List Int) : (strOfNums xs).size = xs.length := by simp [strOfNums, ByteArray.size]
theorem str_append (xs ys : List Int) : strOfNums xs ++ strOfNums ys = strOfNums (xs ++ ys) := by
  apply ByteArray.ext
  simp [strOfNums]
theorem toList_append (a b : ByteArray) : (a ++ b).toList = a.toList ++ b.toList := by
  rw [ByteArray.toList_eq, ByteArray.toList_eq, ByteArray.toList_eq]; simp
theorem toList_inj {a b : ByteArray} (h : a.toList = b.toList) : a = b := by
  rw [ByteArray.toList_eq, ByteArray.toList_eq] at h
  exact ByteArray.ext (Array.toList_inj.1 h)

/-! ### Numbers as bytes -/
open Wr (putBytes numOf)
theorem putBytes_length (a : Int) : ∀ k, (putBytes a k).length = k
  | 0 => rfl
  | k + 1 => by simp [putBytes, putBytes_length a k]
theorem putBytes_small (a : Int) : ∀ k, ∀ x ∈ putBytes a k, 0 ≤ x ∧ x < 256
  | 0 => fun x h => by simp [putBytes] at h
  | k + 1 => fun x h => by
    simp only [putBytes, List.mem_cons] at h
    rcases h with rfl | h
    · omega
    · exact putBytes_small a k x h

/-- The value of bytes, the highest first. -/
def val (xs : List Int) : Int := xs.foldl (fun n x => n * 256 + x) 0
theorem val_from (xs : List Int) : ∀ n : Int, xs.foldl (fun n x => n * 256 + x) n = n * 256 ^ xs.length + val xs := by
  induction xs with
  | nil => intro n; simp [val]
  | cons x xs ih =>
    intro n
    unfold val
    rw [List.foldl_cons, List.foldl_cons, ih, ih (0 * 256 + x), List.length_cons, Int.pow_succ, Int.zero_mul, Int.zero_add, Int.add_mul]
    rw [show n * (256 ^ xs.length * 256) = n * 256 * 256 ^ xs.length by rw [Int.mul_comm (256 ^ xs.length) 256, Int.mul_assoc]]
    omega
theorem val_cons (x : Int) (xs : List Int) : val (x :: xs) = x * 256 ^ xs.length + val xs := by
  have := val_from xs x
  unfold val at this ⊢
  rw [List.foldl_cons, Int.zero_mul, Int.zero_add]; exact this
theorem val_range {xs : List Int} (h : ∀ x ∈ xs, 0 ≤ x ∧ x < 256) : 0 ≤ val xs ∧ val xs < 256 ^ xs.length := by
  induction xs with
  | nil => simp [val]
  | cons x xs ih =>
    have ih := ih (fun y hy => h y (by simp [hy]))
    have hx := h x (by simp)
    rw [val_cons, List.length_cons, Int.pow_succ]
    have h1 : (x + 1) * 256 ^ xs.length ≤ 256 * 256 ^ xs.length := Int.mul_le_mul_of_nonneg_right (by omega) (Int.le_of_lt (Int.pow_pos (by decide)))
    have h2 : 0 ≤ x * 256 ^ xs.length := Int.mul_nonneg hx.1 (Int.le_of_lt (Int.pow_pos (by decide)))
    rw [Int.add_mul, Int.one_mul] at h1
    generalize 256 ^ xs.length = z at *
    omega
theorem pow_two_eight (k : Nat) : (2 : Int) ^ (8 * k) = 256 ^ k := by rw [Int.pow_mul]; rfl
theorem emod_step (a z : Int) (hp : 0 < z) : a / z % 256 * z + a % z = a % (z * 256) := by
  have e1 : a % z + z * (a / z) = a := Int.emod_add_mul_ediv a z
  have hr0 : 0 ≤ a % z := Int.emod_nonneg a (Int.ne_of_gt hp)
  have hr1 : a % z < z := Int.emod_lt_of_pos a hp
  have hq : a / z = a / z % 256 + 256 * (a / z / 256) := (Int.emod_add_mul_ediv (a / z) 256).symm
  have hd0 : 0 ≤ a / z % 256 := by omega
  have hd1 : a / z % 256 < 256 := by omega
  revert e1 hr0 hr1 hq hd0 hd1
  generalize a / z % 256 = d
  generalize a / z / 256 = u
  generalize a % z = r
  generalize a / z = q
  intro e1 hr0 hr1 hq hd0 hd1
  subst hq
  subst e1
  rw [Int.mul_add, ← Int.mul_assoc z 256 u, Int.mul_comm z d, ← Int.add_assoc, Int.add_mul_emod_self_left]
  have h4 : 0 ≤ d * z := Int.mul_nonneg hd0 (Int.le_of_lt hp)
  have h6 : (d + 1) * z ≤ 256 * z := Int.mul_le_mul_of_nonneg_right hd1 (Int.le_of_lt hp)
  rw [Int.add_mul, Int.one_mul, Int.mul_comm 256 z] at h6
  rw [Int.emod_eq_of_lt (by omega) (by omega)]
  omega
theorem val_put (a : Int) : ∀ k, val (putBytes a k) = a % 256 ^ k
  | 0 => by simp [putBytes, val]
  | k + 1 => by
    rw [putBytes, val_cons, val_put a k, putBytes_length, pow_two_eight, Int.pow_succ]
    exact emod_step a _ (Int.pow_pos (by decide))
theorem put_val : ∀ {xs : List Int}, (∀ x ∈ xs, 0 ≤ x ∧ x < 256) → putBytes (val xs) xs.length = xs := by
  intro xs
  induction xs with
  | nil => intro _; rfl
  | cons x xs ih =>
    intro h
    have hx := h x (by simp)
    have hr := val_range (xs := xs) (fun y hy => h y (List.mem_cons_of_mem _ hy))
    have hp : (0 : Int) < 256 ^ xs.length := Int.pow_pos (by decide)
    rw [List.length_cons, putBytes, pow_two_eight, val_cons]
    have e1 : (x * 256 ^ xs.length + val xs) / 256 ^ xs.length % 256 = x := by
      rw [Int.add_comm, Int.add_mul_ediv_right _ _ (Int.ne_of_gt hp), Int.ediv_eq_zero_of_lt hr.1 hr.2]; omega
    rw [e1]
    congr 1
    have e2 : ∀ k, k ≤ xs.length → putBytes (x * 256 ^ xs.length + val xs) k = putBytes (val xs) k := by
      intro k
      induction k with
      | zero => intro _; rfl
      | succ k ihk =>
        intro hk
        rw [putBytes, putBytes, ihk (by omega), pow_two_eight]
        congr 1
        obtain ⟨m, hm⟩ : ∃ m, xs.length = k + 1 + m := ⟨xs.length - (k + 1), by omega⟩
        have e3 : x * 256 ^ xs.length = (x * 256 ^ m * 256) * 256 ^ k := by rw [hm, Int.pow_add, Int.pow_succ]; simp only [Int.mul_assoc, Int.mul_comm, Int.mul_left_comm]
        rw [e3, Int.add_comm, Int.add_mul_ediv_right _ _ (Int.ne_of_gt (Int.pow_pos (by decide)))]
        omega
    rw [e2 _ (Nat.le_refl _)]
    exact ih (fun y hy => h y (by simp [hy]))
theorem put_inj {a b : Int} {k : Nat} (h : putBytes a k = putBytes b k) : a % 256 ^ k = b % 256 ^ k := by rw [← val_put, ← val_put, h]
theorem put_congr {a b : Int} : ∀ {k : Nat}, a % 256 ^ k = b % 256 ^ k → putBytes a k = putBytes b k := by
  intro k h
  have ha := putBytes_small a k
  have hb := putBytes_small b k
  have e1 := put_val ha
  have e2 := put_val hb
  rw [putBytes_length, val_put] at e1 e2
  rw [← e1, ← e2, h]

theorem mx_of_lt {a b : Int} (h : a < b) : mx a b = b := by unfold mx; rw [if_pos h]
theorem mx_of_ge {a b : Int} (h : b ≤ a) : mx a b = a := by unfold mx; rw [if_neg (by omega)]
theorem mn_of_gt {a b : Int} (h : b < a) : mn a b = b := by unfold mn; rw [if_pos h]
theorem mn_of_le {a b : Int} (h : a ≤ b) : mn a b = a := by unfold mn; rw [if_neg (by omega)]
theorem take_snoc (l : List Int) (j : Nat) (h : j < l.length) : l.take (j + 1) = l.take j ++ [l.getD j 0] := by
  rw [List.take_succ_eq_append_getElem h, List.getD_eq_getElem?_getD, List.getElem?_eq_getElem h]; rfl


/-! ### The reader -/
/-- n bytes of s from place i on. -/
def seg (s : ByteArray) (i n : Nat) : List Int := ((bytesOf s).drop i).take n
theorem seg_length (s : ByteArray) (i n : Nat) (h : i + n ≤ s.size) : (seg s i n).length = n := by
  unfold seg; rw [List.length_take, List.length_drop, bytesOf_length]; omega
theorem bytesOf_small (s : ByteArray) : ∀ x ∈ bytesOf s, 0 ≤ x ∧ x < 256 := by
  intro x hx
  simp only [bytesOf, List.mem_map] at hx
  obtain ⟨b, -, rfl⟩ := hx
  have := b.toNat_lt; omega
theorem seg_small (s : ByteArray) (i n : Nat) : ∀ x ∈ seg s i n, 0 ≤ x ∧ x < 256 := fun x hx =>
  bytesOf_small s x (List.mem_of_mem_drop (List.mem_of_mem_take hx))
theorem bytesOf_cut (s : ByteArray) (i n : Nat) : bytesOf (s.extract i (i + n)) = seg s i n := by
  unfold seg bytesOf
  rw [ByteArray.data_extract, Array.toList_extract, List.extract_eq_take_drop, List.map_take, List.map_drop]
  congr 1; omega
theorem or_8 (x y : Int) (h0 : 0 ≤ x) (h1 : x < 2 ^ 55) (k0 : 0 ≤ y) (k1 : y < 256) : Go.bits .or .i64 (wrap64 (x * 256)) (wrap64 y) = x * 256 + y := by
  rw [wrap_id (by omega) (by omega), wrap_id (by omega) (by omega)]
  exact bits_join .i64 63 (by decide) wraps_i64 8 (x * 256) y (by omega) (by omega) (by omega) k0 k1 (by omega)
theorem val_snoc (xs : List Int) (x : Int) : val (xs ++ [x]) = val xs * 256 + x := by
  unfold val; rw [List.foldl_append]; rfl
theorem pow_le_55 (j : Nat) (h : j ≤ 6) : (256 : Int) ^ j ≤ 2 ^ 48 := by
  rw [← pow_two_eight]
  have : (2 : Nat) ^ (8 * j) ≤ 2 ^ 48 := Nat.pow_le_pow_right (by decide) (by omega)
  exact_mod_cast this
theorem get_loop (x5 : ByteArray) (hs : x5.size ≤ 7) (s : ByteArray) (i b : Int) : ∀ d j : Nat, x5.size - j = d → j ≤ x5.size →
    Ev (fun k => octet_Reader_Get.l0 k x5 (val ((bytesOf x5).take j)) (x5.size : Int) (j : Int) s i b) (val (bytesOf x5), s, i, b) := by
  intro d
  induction d with
  | zero =>
    intro j hd hj
    have : j = x5.size := by omega
    subst this
    refine Ev.step (f := fun _ => some (val (bytesOf x5), s, i, b)) (fun k => ?_) (Ev.now _)
    simp only [octet_Reader_Get.l0]
    rw [if_neg (by omega), List.take_of_length_le (by rw [bytesOf_length]; exact Nat.le_refl _)]
  | succ d ih =>
    intro j hd hj
    have hlt : j < x5.size := by omega
    have hnx := ih (j + 1) (by omega) (by omega)
    have hl : (bytesOf x5).length = x5.size := bytesOf_length x5
    have e1 : val ((bytesOf x5).take (j + 1)) = val ((bytesOf x5).take j) * 256 + bt x5 (j : Int) := by
      rw [take_snoc _ _ (by rw [hl]; exact hlt), val_snoc]; rw [← rd_bytesOf]; rfl
    have hr := val_range (xs := (bytesOf x5).take j) (fun x hx => bytesOf_small x5 x (List.mem_of_mem_take hx))
    rw [List.length_take, hl, Nat.min_eq_left (Nat.le_of_lt hlt)] at hr
    have hp := pow_le_55 j (by omega)
    have hb := bt_range x5 (j : Int)
    rw [e1] at hnx
    refine Ev.step (fun k => ?_) hnx
    simp only [octet_Reader_Get.l0]
    rw [if_pos (Int.ofNat_lt.2 hlt), if_pos (Int.natCast_nonneg j), if_pos (Int.ofNat_lt.2 hlt), or_8 _ _ hr.1 (Int.lt_of_lt_of_le hr.2 (Int.le_trans hp (by decide))) hb.1 (by omega), wrap_one j (by omega)]

theorem take_good (s : ByteArray) (i n : Nat) (hs : s.size ≤ 140737488351232) (h : i + n ≤ s.size) :
    octet_Reader_take.f s i (-1) n = some (s.extract i (i + n), true, s, ((i + n : Nat) : Int), -1) := by
  unfold octet_Reader_take.f
  have w1 : wrap64 ((s.size : Int) - (i : Int)) = (s.size : Int) - (i : Int) := wrap_id (by omega) (by omega)
  have w2 : wrap64 ((i : Int) + (n : Int)) = ((i + n : Nat) : Int) := by rw [wrap_id (by omega) (by omega)]; omega
  have w3 : wrap64 (((i + n : Nat) : Int) - (n : Int)) = (i : Int) := by rw [wrap_id (by omega) (by omega)]; omega
  rw [w1, w2, w3, if_neg (by decide), if_neg (by omega), if_neg (by omega), if_pos (by omega), if_pos (by omega), if_pos (by omega), Int.toNat_natCast, Int.toNat_natCast]
theorem take_short (s : ByteArray) (i n : Nat) (hs : s.size ≤ 140737488351232) (hi : i ≤ s.size) (h : ¬ i + n ≤ s.size) :
    octet_Reader_take.f s i (-1) n = some ((⟨#[]⟩ : ByteArray), false, s, (i : Int), (i : Int)) := by
  unfold octet_Reader_take.f
  have w1 : wrap64 ((s.size : Int) - (i : Int)) = (s.size : Int) - (i : Int) := wrap_id (by omega) (by omega)
  rw [w1, if_neg (by decide), if_neg (by omega), if_pos (by omega)]
theorem take_bad (s : ByteArray) (i b n : Int) (hb : 0 ≤ b) : octet_Reader_take.f s i b n = some ((⟨#[]⟩ : ByteArray), false, s, i, b) := by
  unfold octet_Reader_take.f; rw [if_pos hb]


/-! ### The reader's answers in closed form -/
def okB (s : ByteArray) (i b n : Int) : Prop := b = -1 ∧ 0 ≤ n ∧ i + n ≤ s.size
instance (s : ByteArray) (i b n : Int) : Decidable (okB s i b n) := inferInstanceAs (Decidable (b = -1 ∧ 0 ≤ n ∧ i + n ≤ s.size))
def rdV (s : ByteArray) (i b n : Int) : ByteArray := if okB s i b n then s.extract i.toNat (i + n).toNat else ⟨#[]⟩
def rdI (s : ByteArray) (i b n : Int) : Int := if okB s i b n then i + n else i
def rdF (s : ByteArray) (i b n : Int) : Int := if b = -1 then (if okB s i b n then -1 else i) else b
theorem Rd.next {s : ByteArray} {i b : Int} (h : Rd s i b) (n : Int) : Rd s (rdI s i b n) (rdF s i b n) := by
  obtain ⟨h0, h1, h2, h3⟩ := h
  unfold Rd rdI rdF
  by_cases c : okB s i b n
  · rw [if_pos c, if_pos c]
    obtain ⟨c1, c2, c3⟩ := c
    exact ⟨h0, by omega, by omega, by rw [if_pos c1]; exact .inl rfl⟩
  · rw [if_neg c, if_neg c]
    exact ⟨h0, h1, h2, by split; exact .inr h1; exact h3⟩
theorem take_eq {s : ByteArray} {i b : Int} (h : Rd s i b) (n : Int) : octet_Reader_take.f s i b n = some (rdV s i b n, decide (okB s i b n), s, rdI s i b n, rdF s i b n) := by
  obtain ⟨h0, h1, h2, h3⟩ := h
  unfold octet_Reader_take.f rdV rdI rdF
  have w1 : wrap64 ((s.size : Int) - i) = (s.size : Int) - i := wrap_id (by omega) (by omega)
  rw [w1]
  rcases h3 with rfl | h3
  · rw [if_neg (show ¬ ((-1 : Int) ≥ 0) by decide), if_pos rfl]
    by_cases c1 : n < 0
    · have c : ¬ okB s i (-1) n := fun c => by have := c.2.1; omega
      rw [if_pos c1, if_neg c, if_neg c, if_neg c, decide_eq_false c]
    · rw [if_neg c1]
      by_cases c2 : n > (s.size : Int) - i
      · have c : ¬ okB s i (-1) n := fun c => by have := c.2.2; omega
        rw [if_pos c2, if_neg c, if_neg c, if_neg c, decide_eq_false c]
      · have c : okB s i (-1) n := ⟨rfl, by omega, by omega⟩
        have w2 : wrap64 (i + n) = i + n := wrap_id (by omega) (by omega)
        have w3 : wrap64 (i + n - n) = i := by rw [wrap_id (by omega) (by omega)]; omega
        rw [if_neg c2, w2, w3, if_pos h1, if_pos (by omega), if_pos (by omega), if_pos c, if_pos c, if_pos c, decide_eq_true c]
  · have c : ¬ okB s i b n := fun c => by have := c.1; omega
    rw [if_pos (show b ≥ 0 from h3), if_neg c, if_neg c, if_neg (by omega), decide_eq_false c]
theorem raw_eq {s : ByteArray} {i b : Int} (h : Rd s i b) (n : Int) : octet_Reader_Raw.f s i b n = some (rdV s i b n, s, rdI s i b n, rdF s i b n) := by
  unfold octet_Reader_Raw.f; rw [take_eq h]; rfl
theorem rdV_size {s : ByteArray} {i b : Int} (h : Rd s i b) (n : Int) (hn : n ≤ 7) : (rdV s i b n).size ≤ 7 := by
  unfold rdV
  by_cases c : okB s i b n
  · rw [if_pos c, ByteArray.size_extract]
    have := h.2.1; have := c.2.1; omega
  · rw [if_neg c]; decide
theorem mnmx_le (n : Int) : mn (mx n 1) 7 ≤ 7 := by unfold mn mx; split <;> split <;> omega
theorem mnmx_ge (n : Int) : 1 ≤ mn (mx n 1) 7 := by unfold mn mx; split <;> split <;> omega
def getV (s : ByteArray) (i b n : Int) : Int := val (bytesOf (rdV s i b (mn (mx n 1) 7)))
theorem get_eq {s : ByteArray} {i b : Int} (h : Rd s i b) (n : Int) : Ev (fun k => octet_Reader_Get.f k s i b n) (getV s i b n, s, rdI s i b (mn (mx n 1) 7), rdF s i b (mn (mx n 1) 7)) := by
  have hz := rdV_size h (mn (mx n 1) 7) (mnmx_le n)
  have L := get_loop (rdV s i b (mn (mx n 1) 7)) hz s (rdI s i b (mn (mx n 1) 7)) (rdF s i b (mn (mx n 1) 7)) _ 0 rfl (Nat.zero_le _)
  unfold getV
  by_cases c : okB s i b (mn (mx n 1) 7)
  · refine Ev.congr (fun k => ?_) L
    unfold octet_Reader_Get.f
    rw [take_eq h, decide_eq_true c]
    rfl
  · refine Ev.congr (fun k => ?_) (Ev.now _)
    unfold octet_Reader_Get.f
    have e : rdV s i b (mn (mx n 1) 7) = ⟨#[]⟩ := by unfold rdV; rw [if_neg c]
    rw [take_eq h, decide_eq_false c, e]
    rfl
theorem left_eq {s : ByteArray} {i b : Int} (h : Rd s i b) : octet_Reader_Left.f s i b = some (if b = -1 then (s.size : Int) - i else 0, s, i, b) := by
  obtain ⟨h0, h1, h2, h3⟩ := h
  unfold octet_Reader_Left.f
  rcases h3 with rfl | h3
  · rw [if_neg (by decide), if_pos rfl, wrap_id (by omega) (by omega)]
  · rw [if_pos h3, if_neg (by omega)]
def failV (i b : Int) : Int := if b = -1 then i else b
theorem Rd.fail {s : ByteArray} {i b : Int} (h : Rd s i b) : Rd s i (failV i b) := by
  obtain ⟨h0, h1, h2, h3⟩ := h
  exact ⟨h0, h1, h2, by unfold failV; split; exact .inr h1; exact h3⟩
theorem Raw_nice {g : Nat} {s : ByteArray} {i b : Int} {w0 w : World} (hI : IsS51 w0 w g s i b) (hB : Below w0.heap.size w0 w) (hR : Rd s i b) (n : Int) :
    Calls Try.prog 14 #[.pointer (some ⟨g, 0, none⟩), .int .i64 n] w fun e w' => e = .returned (.string (rdV s i b n)) ∧ IsS51 w0 w' g s (rdI s i b n) (rdF s i b n) ∧ Below w0.heap.size w0 w' ∧ KeepBut w w' g none := octet_Reader_Raw.calls g s i b n _ _ _ _ w0 w hI hB (raw_eq hR n)
theorem Get_nice {g : Nat} {s : ByteArray} {i b : Int} {w0 w : World} (hI : IsS51 w0 w g s i b) (hB : Below w0.heap.size w0 w) (hR : Rd s i b) (n : Int) :
    Calls Try.prog 16 #[.pointer (some ⟨g, 0, none⟩), .int .i64 n] w fun e w' => e = .returned (.int .i64 (getV s i b n)) ∧ IsS51 w0 w' g s (rdI s i b (mn (mx n 1) 7)) (rdF s i b (mn (mx n 1) 7)) ∧ Below w0.heap.size w0 w' ∧ KeepBut w w' g none := by
  obtain ⟨K, hK⟩ := get_eq hR n
  exact octet_Reader_Get.calls K g s i b n _ _ _ _ w0 w hI hB (hK K (Nat.le_refl _))
theorem Left_nice {g : Nat} {s : ByteArray} {i b : Int} {w0 w : World} (hI : IsS51 w0 w g s i b) (hB : Below w0.heap.size w0 w) (hR : Rd s i b) :
    Calls Try.prog 17 #[.pointer (some ⟨g, 0, none⟩)] w fun e w' => e = .returned (.int .i64 (if b = -1 then (s.size : Int) - i else 0)) ∧ IsS51 w0 w' g s i b ∧ Below w0.heap.size w0 w' ∧ KeepBut w w' g none := octet_Reader_Left.calls g s i b _ _ _ _ w0 w hI hB (left_eq hR)
def szOf (size : Int) : Nat := (mn (mx size 1) 8).toNat
theorem numOf_eq (size a : Int) : numOf size a = strOfNums (putBytes a (szOf size)) := rfl

theorem szOf_mid {size : Int} (h : 1 ≤ size) (h8 : size ≤ 8) : ((szOf size : Nat) : Int) = size := by unfold szOf; rw [mx_of_ge h, mn_of_le h8]; omega
open Wr
theorem WS.later {B : Nat} {w0 w W W' : World} {g : Nat} {c : ByteArray} {n : Nat} (h : Aside0 (WS B w0 w W g c n)) (hb : Below W.heap.size W W') : WS B w0 w W' g c n := by
  obtain ⟨⟨v, h1, h2, h3⟩, hbw, hk, hs⟩ := h.out
  have hgr : W.grownBy W' none := grown_of_below hb none
  have hB : B ≤ W.heap.size := Nat.le_of_lt (Nat.lt_of_le_of_lt h3 (blk_lt h1))
  exact ⟨⟨v, blk_grown h1 hgr (by simp), pw_own_below h2 hb, h3⟩, hbw.grown hgr hB (fun _ h => by cases h), hk.trans (row1 := none) ⟨hgr.size, fun i hi _ _ _ => hgr.block i hi (by simp)⟩ (.inl rfl), hs⟩
open Wr
def kissgatelaw01_OctetBack.Pure : Prop := True
def catB (f g : Nat → Int) : Nat → ByteArray
  | 0 => ⟨#[]⟩
  | k + 1 => catB f g k ++ numOf (f k) (g k)
theorem catB_split (f g : Nat → Int) : ∀ n k : Nat, k ≤ n → ∃ R, catB f g n = catB f g k ++ R
  | n, k, h => by
    induction n with
    | zero => obtain rfl : k = 0 := by omega
              exact ⟨⟨#[]⟩, by unfold catB; rfl⟩
    | succ n ih =>
      by_cases c : k = n + 1
      · subst c; exact ⟨⟨#[]⟩, by apply ByteArray.ext; simp⟩
      · obtain ⟨R, hR⟩ := ih (by omega)
        exact ⟨R ++ numOf (f n) (g n), by rw [catB, hR, ByteArray.append_assoc]⟩
theorem catB_size (f g : Nat → Int) : ∀ n, (catB f g n).size ≤ 8 * n
  | 0 => by unfold catB; decide
  | n + 1 => by
    have := catB_size f g n
    have := mnmx (f n)
    rw [catB, ByteArray.size_append, numOf_size]; omega
theorem seg_mid (A N Z : ByteArray) : seg (A ++ N ++ Z) A.size N.size = bytesOf N := by
  unfold seg
  rw [bytesOf_append, bytesOf_append, ← bytesOf_length A, ← bytesOf_length N, List.append_assoc, List.drop_left, List.take_left]
theorem val_numOf (x y : Int) (h1 : 1 ≤ x) (h2 : x ≤ 7) : val (bytesOf (numOf x y)) = y % 256 ^ x.toNat := by
  have hs : szOf x = x.toNat := by have := szOf_mid h1 (by omega); omega
  rw [numOf_eq, bytesOf_str _ (putBytes_small y _), val_put, hs]
theorem numOf_size7 (x y : Int) (h1 : 1 ≤ x) (h2 : x ≤ 7) : ((numOf x y).size : Int) = x := by
  rw [numOf_size]; unfold mn mx; repeat' split <;> omega
theorem back_step (f g : Nat → Int) (s : ByteArray) (n k : Nat) (hk : k < n) (h1 : 1 ≤ f k) (h2 : f k ≤ 7) :
    okB (catB f g n ++ s) ((catB f g k).size : Int) (-1) (f k) ∧ getV (catB f g n ++ s) ((catB f g k).size : Int) (-1) (f k) = g k % 256 ^ (f k).toNat ∧ ((catB f g k).size : Int) + f k = ((catB f g (k + 1)).size : Int) := by
  obtain ⟨R, hR⟩ := catB_split f g n (k + 1) hk
  have hs := numOf_size7 (f k) (g k) h1 h2
  have hT : catB f g n ++ s = catB f g k ++ numOf (f k) (g k) ++ (R ++ s) := by rw [hR, catB, ByteArray.append_assoc]
  have hsz : (catB f g k).size + (numOf (f k) (g k)).size ≤ (catB f g n ++ s).size := by rw [hT, ByteArray.size_append, ByteArray.size_append]; omega
  have ok : okB (catB f g n ++ s) ((catB f g k).size : Int) (-1) (f k) := ⟨rfl, by omega, by omega⟩
  refine ⟨ok, ?_, ?_⟩
  · unfold getV rdV
    have e : mn (mx (f k) 1) 7 = f k := by rw [mx_of_ge h1, mn_of_le h2]
    rw [e, if_pos ok]
    have e2 : (((catB f g k).size : Int) + f k).toNat = (catB f g k).size + (numOf (f k) (g k)).size := by omega
    rw [e2, Int.toNat_natCast, bytesOf_cut, hT, seg_mid, val_numOf _ _ h1 h2]
  · rw [catB, ByteArray.size_append]; omega
theorem mod_u64 (y : Int) (x : Int) (h1 : 1 ≤ x) (h2 : x ≤ 7) : Int.tmod (y % 18446744073709551616) (256 ^ x.toNat) = y % 256 ^ x.toNat := by
  have hx : x = 1 ∨ x = 2 ∨ x = 3 ∨ x = 4 ∨ x = 5 ∨ x = 6 ∨ x = 7 := by omega
  rw [Int.tmod_eq_emod_of_nonneg (by omega)]
  rcases hx with rfl | rfl | rfl | rfl | rfl | rfl | rfl <;> (simp only [show (1 : Int).toNat = 1 from rfl, show (2 : Int).toNat = 2 from rfl, show (3 : Int).toNat = 3 from rfl, show (4 : Int).toNat = 4 from rfl, show (5 : Int).toNat = 5 from rfl, show (6 : Int).toNat = 6 from rfl, show (7 : Int).toNat = 7 from rfl]; omega)
theorem mod18 (y M : Int) (h0 : 0 < M) (h1 : M ≤ 72057594037927936) (h2 : 18446744073709551616 % M = 0) : IntKind.i64.wrap ((IntKind.u64.wrap y).tmod M) = y % M := by
  have e1 : IntKind.u64.wrap y = y % 18446744073709551616 := IntKind.wrap_u64 y
  rw [e1, Int.tmod_eq_emod_of_nonneg (Int.emod_nonneg _ (by decide)), Int.emod_emod_of_dvd _ (Int.dvd_of_emod_eq_zero h2)]
  have a := Int.emod_nonneg y (Int.ne_of_gt h0)
  have b := Int.emod_lt_of_pos y h0
  rw [IntKind.wrap_i64]
  omega
theorem cut_tail (C s T : ByteArray) (hT : C ++ s = T) : T.extract C.size (C.size + s.size) = s := by
  have h : bytesOf (T.extract C.size (C.size + s.size)) = bytesOf s := by
    have e := seg_mid C s ⟨#[]⟩
    have e2 : C ++ s ++ (⟨#[]⟩ : ByteArray) = T := by rw [← hT]; apply ByteArray.ext; simp
    rw [e2] at e
    rw [bytesOf_cut, e]
  rw [← str_bytesOf (T.extract C.size (C.size + s.size)), h, str_bytesOf]
set_option maxHeartbeats 8000000 in
set_option maxRecDepth 100000 in
theorem kissgatelaw01_OctetBack.walk (P : kissgatelaw01_OctetBack.Pure) (A0 : Option Addr) (c0 : Nat) (l0 : List Int) (A1 : Option Addr) (c1 : Nat) (l1 : List Int) (a2 : ByteArray) (w : World) (hr0 : Kd.C (Kd.int .i64) w A0 l0.length l0) (hc0 : l0.length ≤ c0) (hw0 : ∀ z ∈ l0, (Lit.int .i64 z).wf = true) (hr1 : Kd.C (Kd.int .i64) w A1 l1.length l1) (hc1 : l1.length ≤ c1) (hw1 : ∀ z ∈ l1, (Lit.int .i64 z).wf = true) (w2 : a2.size ≤ 140737488351232) :
    Calls Try.prog 5 #[.slice A0 l0.length c0, .slice A1 l1.length c1, .string a2] w fun e w' => e = .returned (.bool true) ∧ Below w.heap.size w w' := by
  have HR0 := Aside0.mk hr0
  have HR1 := Aside0.mk hr1
  have HC0 := Aside0.mk hc0
  have HC1 := Aside0.mk hc1
  have hu := Try.underlying27
  clear P hw0 hw1 hr0 hr1 hc0 hc1
  clear w2
  go_enter Try.func5, Try.ntmps5
  go_wp2_with fail
  go_at_call 8
  refine (kissgatelaw01_alive.good w _ (Below.refl _ _)).mono ?_
  rintro e w1 ⟨rfl, hb⟩
  have HB := Aside0.mk hb
  clear hb
  by_cases c1 : (100 : Int) < (l0.length : Int)
  · have c1b : decide ((100 : Int) < (l0.length : Int)) = true := decide_eq_true c1
    clear c1
    go_wp2_with fail
    go_ret
    exact ⟨rfl, HB.out⟩
  have c1b : decide ((100 : Int) < (l0.length : Int)) = false := decide_eq_false c1
  have HL0 := Aside0.mk (show l0.length ≤ 100 by omega)
  clear c1
  by_cases c1 : (l1.length : Int) < (l0.length : Int)
  · have c1b : decide ((l1.length : Int) < (l0.length : Int)) = true := decide_eq_true c1
    have c1n : decide (l1.length < l0.length) = true := decide_eq_true (by omega)
    clear c1
    go_wp2_with fail
    go_ret
    exact ⟨rfl, HB.out⟩
  have c2b : decide ((l1.length : Int) < (l0.length : Int)) = false := decide_eq_false c1
  have c2bn : decide (l1.length < l0.length) = false := decide_eq_false (by omega)
  have HL1 := Aside0.mk (show l0.length ≤ l1.length by omega)
  clear c1
  by_cases c1 : (4096 : Int) < (a2.size : Int)
  · have c1b : decide ((4096 : Int) < (a2.size : Int)) = true := decide_eq_true c1
    clear c1
    go_wp2_with fail
    go_ret
    exact ⟨rfl, HB.out⟩
  have c3b : decide ((4096 : Int) < (a2.size : Int)) = false := decide_eq_false c1
  have HS := Aside0.mk (show a2.size ≤ 4096 by omega)
  clear c1
  go_upto_region 6 with (fail)
  have HW := Aside0.mk (WS.new HB.out HB.out.size)
  generalize w1.alloc (.cells #[.slice none 0 0] 27) = W at HW ⊢
  generalize w1.heap.size = g at HW ⊢
  go_wp2_with fail
  go_loopw [34] (fun v34 wr => ∃ (k : Nat), k ≤ l0.length ∧ v34 = .int .i64 (k : Nat) ∧ Aside0 (∀ j < k, 1 ≤ rd l0 (j : Int) ∧ rd l0 (j : Int) ≤ 7) ∧ Aside0 (WS w.heap.size w W wr g (catB (fun j => rd l0 (j : Int)) (fun j => rd l1 (j : Int)) k) (8 * k))) (fun v34 _ => l0.length - (intOf v34).toNat)
  case atStart => exact ⟨0, Nat.zero_le _, rfl, ⟨fun j h => by omega⟩, HW⟩
  case round =>
    clear HW c1b c2b c3b
    obtain ⟨k, hk, rfl, HJ, HW⟩ := hrel
    by_cases hlt : (k : Int) < (l0.length : Int)
    · have hltn : decide (k < l0.length) = true := decide_eq_true (by omega)
      have HK := Aside0.mk (show k < l0.length by omega)
      have E3 := Aside0.mk (show wrap64 ((k : Int) + 1) = ((k + 1 : Nat) : Int) by have := HK.out; have := HL0.out; unfold wrap64; omega)
      have hlt1 : (k : Int) < (l1.length : Int) := by have := HL1.out; omega
      have hltn1 : decide (k < l1.length) = true := decide_eq_true (by omega)
      obtain ⟨ad0, e0, HX0⟩ := Kd.at_int HR0.out (k : Int) (by omega) hlt
      obtain ⟨ad1, e1, HX1⟩ := Kd.at_int HR1.out (k : Int) (by omega) hlt1
      cases e0
      cases e1
      have p0 := eq_true (show 0 ≤ (k : Int) by omega)
      have q0 := eq_true hlt
      have q1 := eq_true hlt1
      obtain ⟨x, hx⟩ : ∃ x, x = rd l0 (k : Int) := ⟨_, rfl⟩
      obtain ⟨y, hy⟩ : ∃ y, y = rd l1 (k : Int) := ⟨_, rfl⟩
      rw [← hx] at HX0
      rw [← hy] at HX1
      replace HX0 := Aside0.mk (show w.cell? (ad0.add k) = some (.int .i64 x) from HX0)
      replace HX1 := Aside0.mk (show w.cell? (ad1.add k) = some (.int .i64 y) from HX1)
      have HXY := Aside0.mk (And.intro hx hy)
      clear hlt hk hlt1 hx hy
      have HB := Aside0.mk HW.out.below
      have hx0 := (HB.out.cell (World.block_lt_of_cell? w _ HX0.out)).trans HX0.out
      have hx1 := (HB.out.cell (World.block_lt_of_cell? w _ HX1.out)).trans HX1.out
      by_cases cx : x < 1
      · have cxb : decide (x < 1) = true := decide_eq_true cx
        clear cx
        go_wp2_with fail
        go_ret
        exact ⟨rfl, HB.out⟩
      have cxb : decide (x < 1) = false := decide_eq_false cx
      by_cases cy : 7 < x
      · have cyb : decide (7 < x) = true := decide_eq_true cy
        clear cx cy
        go_wp2_with fail
        go_ret
        exact ⟨rfl, HB.out⟩
      have cyb : decide (7 < x) = false := decide_eq_false cy
      have HX7 := Aside0.mk (show 1 ≤ x ∧ x ≤ 7 by omega)
      clear cx cy
      have HN := Aside0.mk (put_ws x y HW (by have := HK.out; have := HL0.out; omega))
      go_wp2_with fail
      go_at_call 9
      refine (HN.out).mono ?_
      rintro e w5 ⟨rfl, HW⟩
      go_wp2_with fail
      rw [E3.out]
      first
        | (go_roundw; case rel => exact ⟨k + 1, HK.out, by first | rfl | rw [E3.out], ⟨fun j hj => by rcases Nat.lt_or_eq_of_le (Nat.le_of_lt_succ hj) with h | h; exact HJ.out j h; (rw [h, ← HXY.out.1]; exact HX7.out)⟩, ⟨by have h := HW.out; rw [HXY.out.1, HXY.out.2] at h; rw [show 8 * (k + 1) = 8 * k + 8 by omega]; exact h⟩⟩)
        | (refine ⟨?_, ?measure⟩; exact ⟨k + 1, HK.out, by first | rfl | rw [E3.out], ⟨fun j hj => by rcases Nat.lt_or_eq_of_le (Nat.le_of_lt_succ hj) with h | h; exact HJ.out j h; (rw [h, ← HXY.out.1]; exact HX7.out)⟩, ⟨by have h := HW.out; rw [HXY.out.1, HXY.out.2] at h; rw [show 8 * (k + 1) = 8 * k + 8 by omega]; exact h⟩⟩)
      case measure => have := HK.out; simp [intOf]; omega
    · have hltn : decide (k < l0.length) = false := decide_eq_false (by omega)
      have HKE := Aside0.mk hk
      clear hlt hk
      have hkn : k = l0.length := by have := HKE.out; have := of_decide_eq_false hltn; omega
      have HN := Aside0.mk (raw_ws a2 4096 HW HS.out (by have := HL0.out; have := HKE.out; omega))
      go_wp2_with fail
      go_at_call 11
      refine (HN.out).mono ?_
      rintro e w5 ⟨rfl, HW⟩
      go_wp2_with fail
      go_at_call 12
      refine (text_ws HW).mono ?_
      rintro e w6 ⟨rfl, rfl⟩
      have HB := Aside0.mk HW.out.below
      subst hkn
      obtain ⟨T, hT⟩ : ∃ T, catB (fun j => rd l0 (j : Int)) (fun j => rd l1 (j : Int)) l0.length ++ a2 = T := ⟨_, rfl⟩
      have HT := Aside0.mk hT
      have HTS := Aside0.mk (show T.size ≤ 100000 by rw [← hT, ByteArray.size_append]; have := catB_size (fun j => rd l0 (j : Int)) (fun j => rd l1 (j : Int)) l0.length; have := HL0.out; have := HS.out; omega)
      rw [hT]
      clear hT HN hltn
      go_wp2_with fail
      go_at_call 13
      refine (Open_nice _ HB.out).mono ?_
      rintro e w4 ⟨h, rfl, hi, hb, _⟩
      have HI := Aside0.mk hi
      have HB := Aside0.mk hb
      clear hi hb HW
      go_wp2_with fail
      go_loopw [61] (fun v61 wr => ∃ (k : Nat), k ≤ l0.length ∧ v61 = .int .i64 (k : Nat) ∧ Aside0 (IsS51 w wr h T ((catB (fun j => rd l0 (j : Int)) (fun j => rd l1 (j : Int)) k).size : Int) (-1)) ∧ Aside0 (Below w.heap.size w wr)) (fun v61 _ => l0.length - (intOf v61).toNat)
      case atStart => exact ⟨0, Nat.zero_le _, rfl, HI, HB⟩
      case round =>
        clear HI HB HKE
        obtain ⟨k, hk, rfl, HI, HB⟩ := hrel
        by_cases hlt : (k : Int) < (l0.length : Int)
        · have hltn : decide (k < l0.length) = true := decide_eq_true (by omega)
          have HK := Aside0.mk (show k < l0.length by omega)
          have E3 := Aside0.mk (show wrap64 ((k : Int) + 1) = ((k + 1 : Nat) : Int) by have := HK.out; have := HL0.out; unfold wrap64; omega)
          have hlt1 : (k : Int) < (l1.length : Int) := by have := HL1.out; omega
          have hltn1 : decide (k < l1.length) = true := decide_eq_true (by omega)
          obtain ⟨ad0, e0, HX0⟩ := Kd.at_int HR0.out (k : Int) (by omega) hlt
          obtain ⟨ad1, e1, HX1⟩ := Kd.at_int HR1.out (k : Int) (by omega) hlt1
          cases e0
          cases e1
          have p0 := eq_true (show 0 ≤ (k : Int) by omega)
          have q0 := eq_true hlt
          have q1 := eq_true hlt1
          obtain ⟨x, hx⟩ : ∃ x, x = rd l0 (k : Int) := ⟨_, rfl⟩
          obtain ⟨y, hy⟩ : ∃ y, y = rd l1 (k : Int) := ⟨_, rfl⟩
          rw [← hx] at HX0
          rw [← hy] at HX1
          replace HX0 := Aside0.mk (show w.cell? (ad0.add k) = some (.int .i64 x) from HX0)
          replace HX1 := Aside0.mk (show w.cell? (ad1.add k) = some (.int .i64 y) from HX1)
          have HXY := Aside0.mk (And.intro hx hy)
          clear hlt hk hlt1 hx hy
          have hx0 := (HB.out.cell (World.block_lt_of_cell? w _ HX0.out)).trans HX0.out
          have hx1 := (HB.out.cell (World.block_lt_of_cell? w _ HX1.out)).trans HX1.out
          have HX7 := Aside0.mk (show 1 ≤ x ∧ x ≤ 7 by rw [HXY.out.1]; exact HJ.out k HK.out)
          obtain ⟨ix, hix⟩ : ∃ ix : Int, ((catB (fun j => rd l0 (j : Int)) (fun j => rd l1 (j : Int)) k).size : Int) = ix := ⟨_, rfl⟩
          have HST := Aside0.mk (show okB T ix (-1) x ∧ getV T ix (-1) x = y % 256 ^ x.toNat ∧ ix + x = ((catB (fun j => rd l0 (j : Int)) (fun j => rd l1 (j : Int)) (k + 1)).size : Int) by
            have h := back_step (fun j => rd l0 (j : Int)) (fun j => rd l1 (j : Int)) a2 l0.length k HK.out (by have := HX7.out.1; rw [HXY.out.1] at this; exact this) (by have := HX7.out.2; rw [HXY.out.1] at this; exact this)
            rw [HT.out, hix] at h
            rw [HXY.out.1, HXY.out.2]
            exact h)
          rw [hix] at HI
          have HRD := Aside0.mk (show Rd T ix (-1) from ⟨HTS.out, by rw [← hix]; omega, by have := HST.out.1.2.2; have := HX7.out; omega, .inl rfl⟩)
          obtain ⟨v, hv⟩ : ∃ v, y % 256 ^ x.toNat = v := ⟨_, rfl⟩
          have CG := Aside0.mk (show ∀ W : World, IsS51 w W h T ix (-1) → Below w.heap.size w W → Calls Try.prog 16 #[.pointer (some ⟨h, 0, none⟩), .int .i64 x] W fun e w' => e = .returned (.int .i64 v) ∧ IsS51 w w' h T (ix + x) (-1) ∧ Below w.heap.size w w' ∧ KeepBut W w' h none from fun W hi hb => by
            have hn := Get_nice hi hb HRD.out x
            have em : mn (mx x 1) 7 = x := by rw [mx_of_ge HX7.out.1, mn_of_le HX7.out.2]
            have ei : rdI T ix (-1) x = ix + x := by unfold rdI; rw [if_pos HST.out.1]
            have ef : rdF T ix (-1) x = -1 := by unfold rdF; rw [if_pos rfl, if_pos HST.out.1]
            rw [HST.out.2.1, hv, em, ei, ef] at hn
            exact hn)
          have HV := Aside0.mk hv
          clear hix hv
          have hx7 : x = 1 ∨ x = 2 ∨ x = 3 ∨ x = 4 ∨ x = 5 ∨ x = 6 ∨ x = 7 := by have := HX7.out; omega
          rcases hx7 with rfl | rfl | rfl | rfl | rfl | rfl | rfl
          · as_aux_lemma =>
            have h1 : IntKind.u64.wrap 256 = 256 := by decide
            have h3 : IntKind.i64.wrap 8 = 8 := by decide
            have h4 : IntKind.u64.wrap 8 = 8 := by decide
            have h6 : (IntKind.u64.wrap 256 = 0) = False := by decide
            have h7 : (IntKind.u64.wrap (2 ^ min (IntKind.u64.wrap (IntKind.i64.wrap 8)).toNat 64) = 0) = False := by decide
            have h8 : IntKind.u64.wrap (2 ^ min (IntKind.u64.wrap (IntKind.i64.wrap 8)).toNat 64) = 256 := by decide
            have h2 : IntKind.i64.wrap ((IntKind.u64.wrap y).tmod 256) = v := by
              have e := HV.out
              rw [show (256 : Int) ^ Int.toNat 1 = 256 by decide] at e
              rw [← e]
              exact mod18 y 256 (by decide) (by decide) (by decide)
            have f1 : (v == v) = true := beq_self_eq_true _
            go_wp2_with fail
            go_region_held3 (fun w' => w'.cell? (ad1.add k) = some (.int .i64 y)) (first | go_keep | exact (HB.out.cell (World.block_lt_of_cell? w _ HX1.out)).trans HX1.out) (first | (go_at_call 16; refine (CG.out _ (by exact HI.out) (by first | exact HB.out | (apply below_drew1; exact HB.out))).mono ?_; rintro e w5 ⟨rfl, hi, hb, _⟩; have HI := Aside0.mk hi; have HB := Aside0.mk hb; clear hi hb))
            go_wp2_with fail
            rw [E3.out]
            first
              | (go_roundw; case rel => exact ⟨k + 1, HK.out, by first | rfl | rw [E3.out], ⟨by have h := HI.out; rw [HST.out.2.2] at h; exact h⟩, HB⟩)
              | (refine ⟨?_, ?measure⟩; exact ⟨k + 1, HK.out, by first | rfl | rw [E3.out], ⟨by have h := HI.out; rw [HST.out.2.2] at h; exact h⟩, HB⟩)
            case measure => have := HK.out; simp [intOf]; omega
          · as_aux_lemma =>
            have h1 : IntKind.u64.wrap 65536 = 65536 := by decide
            have h3 : IntKind.i64.wrap 16 = 16 := by decide
            have h4 : IntKind.u64.wrap 16 = 16 := by decide
            have h6 : (IntKind.u64.wrap 65536 = 0) = False := by decide
            have h7 : (IntKind.u64.wrap (2 ^ min (IntKind.u64.wrap (IntKind.i64.wrap 16)).toNat 64) = 0) = False := by decide
            have h8 : IntKind.u64.wrap (2 ^ min (IntKind.u64.wrap (IntKind.i64.wrap 16)).toNat 64) = 65536 := by decide
            have h2 : IntKind.i64.wrap ((IntKind.u64.wrap y).tmod 65536) = v := by
              have e := HV.out
              rw [show (256 : Int) ^ Int.toNat 2 = 65536 by decide] at e
              rw [← e]
              exact mod18 y 65536 (by decide) (by decide) (by decide)
            have f1 : (v == v) = true := beq_self_eq_true _
            go_wp2_with fail
            go_region_held3 (fun w' => w'.cell? (ad1.add k) = some (.int .i64 y)) (first | go_keep | exact (HB.out.cell (World.block_lt_of_cell? w _ HX1.out)).trans HX1.out) (first | (go_at_call 16; refine (CG.out _ (by exact HI.out) (by first | exact HB.out | (apply below_drew1; exact HB.out))).mono ?_; rintro e w5 ⟨rfl, hi, hb, _⟩; have HI := Aside0.mk hi; have HB := Aside0.mk hb; clear hi hb))
            go_wp2_with fail
            rw [E3.out]
            first
              | (go_roundw; case rel => exact ⟨k + 1, HK.out, by first | rfl | rw [E3.out], ⟨by have h := HI.out; rw [HST.out.2.2] at h; exact h⟩, HB⟩)
              | (refine ⟨?_, ?measure⟩; exact ⟨k + 1, HK.out, by first | rfl | rw [E3.out], ⟨by have h := HI.out; rw [HST.out.2.2] at h; exact h⟩, HB⟩)
            case measure => have := HK.out; simp [intOf]; omega
          · as_aux_lemma =>
            have h1 : IntKind.u64.wrap 16777216 = 16777216 := by decide
            have h3 : IntKind.i64.wrap 24 = 24 := by decide
            have h4 : IntKind.u64.wrap 24 = 24 := by decide
            have h6 : (IntKind.u64.wrap 16777216 = 0) = False := by decide
            have h7 : (IntKind.u64.wrap (2 ^ min (IntKind.u64.wrap (IntKind.i64.wrap 24)).toNat 64) = 0) = False := by decide
            have h8 : IntKind.u64.wrap (2 ^ min (IntKind.u64.wrap (IntKind.i64.wrap 24)).toNat 64) = 16777216 := by decide
            have h2 : IntKind.i64.wrap ((IntKind.u64.wrap y).tmod 16777216) = v := by
              have e := HV.out
              rw [show (256 : Int) ^ Int.toNat 3 = 16777216 by decide] at e
              rw [← e]
              exact mod18 y 16777216 (by decide) (by decide) (by decide)
            have f1 : (v == v) = true := beq_self_eq_true _
            go_wp2_with fail
            go_region_held3 (fun w' => w'.cell? (ad1.add k) = some (.int .i64 y)) (first | go_keep | exact (HB.out.cell (World.block_lt_of_cell? w _ HX1.out)).trans HX1.out) (first | (go_at_call 16; refine (CG.out _ (by exact HI.out) (by first | exact HB.out | (apply below_drew1; exact HB.out))).mono ?_; rintro e w5 ⟨rfl, hi, hb, _⟩; have HI := Aside0.mk hi; have HB := Aside0.mk hb; clear hi hb))
            go_wp2_with fail
            rw [E3.out]
            first
              | (go_roundw; case rel => exact ⟨k + 1, HK.out, by first | rfl | rw [E3.out], ⟨by have h := HI.out; rw [HST.out.2.2] at h; exact h⟩, HB⟩)
              | (refine ⟨?_, ?measure⟩; exact ⟨k + 1, HK.out, by first | rfl | rw [E3.out], ⟨by have h := HI.out; rw [HST.out.2.2] at h; exact h⟩, HB⟩)
            case measure => have := HK.out; simp [intOf]; omega
          · as_aux_lemma =>
            have h1 : IntKind.u64.wrap 4294967296 = 4294967296 := by decide
            have h3 : IntKind.i64.wrap 32 = 32 := by decide
            have h4 : IntKind.u64.wrap 32 = 32 := by decide
            have h6 : (IntKind.u64.wrap 4294967296 = 0) = False := by decide
            have h7 : (IntKind.u64.wrap (2 ^ min (IntKind.u64.wrap (IntKind.i64.wrap 32)).toNat 64) = 0) = False := by decide
            have h8 : IntKind.u64.wrap (2 ^ min (IntKind.u64.wrap (IntKind.i64.wrap 32)).toNat 64) = 4294967296 := by decide
            have h2 : IntKind.i64.wrap ((IntKind.u64.wrap y).tmod 4294967296) = v := by
              have e := HV.out
              rw [show (256 : Int) ^ Int.toNat 4 = 4294967296 by decide] at e
              rw [← e]
              exact mod18 y 4294967296 (by decide) (by decide) (by decide)
            have f1 : (v == v) = true := beq_self_eq_true _
            go_wp2_with fail
            go_region_held3 (fun w' => w'.cell? (ad1.add k) = some (.int .i64 y)) (first | go_keep | exact (HB.out.cell (World.block_lt_of_cell? w _ HX1.out)).trans HX1.out) (first | (go_at_call 16; refine (CG.out _ (by exact HI.out) (by first | exact HB.out | (apply below_drew1; exact HB.out))).mono ?_; rintro e w5 ⟨rfl, hi, hb, _⟩; have HI := Aside0.mk hi; have HB := Aside0.mk hb; clear hi hb))
            go_wp2_with fail
            rw [E3.out]
            first
              | (go_roundw; case rel => exact ⟨k + 1, HK.out, by first | rfl | rw [E3.out], ⟨by have h := HI.out; rw [HST.out.2.2] at h; exact h⟩, HB⟩)
              | (refine ⟨?_, ?measure⟩; exact ⟨k + 1, HK.out, by first | rfl | rw [E3.out], ⟨by have h := HI.out; rw [HST.out.2.2] at h; exact h⟩, HB⟩)
            case measure => have := HK.out; simp [intOf]; omega
          · as_aux_lemma =>
            have h1 : IntKind.u64.wrap 1099511627776 = 1099511627776 := by decide
            have h3 : IntKind.i64.wrap 40 = 40 := by decide
            have h4 : IntKind.u64.wrap 40 = 40 := by decide
            have h6 : (IntKind.u64.wrap 1099511627776 = 0) = False := by decide
            have h7 : (IntKind.u64.wrap (2 ^ min (IntKind.u64.wrap (IntKind.i64.wrap 40)).toNat 64) = 0) = False := by decide
            have h8 : IntKind.u64.wrap (2 ^ min (IntKind.u64.wrap (IntKind.i64.wrap 40)).toNat 64) = 1099511627776 := by decide
            have h2 : IntKind.i64.wrap ((IntKind.u64.wrap y).tmod 1099511627776) = v := by
              have e := HV.out
              rw [show (256 : Int) ^ Int.toNat 5 = 1099511627776 by decide] at e
              rw [← e]
              exact mod18 y 1099511627776 (by decide) (by decide) (by decide)
            have f1 : (v == v) = true := beq_self_eq_true _
            go_wp2_with fail
            go_region_held3 (fun w' => w'.cell? (ad1.add k) = some (.int .i64 y)) (first | go_keep | exact (HB.out.cell (World.block_lt_of_cell? w _ HX1.out)).trans HX1.out) (first | (go_at_call 16; refine (CG.out _ (by exact HI.out) (by first | exact HB.out | (apply below_drew1; exact HB.out))).mono ?_; rintro e w5 ⟨rfl, hi, hb, _⟩; have HI := Aside0.mk hi; have HB := Aside0.mk hb; clear hi hb))
            go_wp2_with fail
            rw [E3.out]
            first
              | (go_roundw; case rel => exact ⟨k + 1, HK.out, by first | rfl | rw [E3.out], ⟨by have h := HI.out; rw [HST.out.2.2] at h; exact h⟩, HB⟩)
              | (refine ⟨?_, ?measure⟩; exact ⟨k + 1, HK.out, by first | rfl | rw [E3.out], ⟨by have h := HI.out; rw [HST.out.2.2] at h; exact h⟩, HB⟩)
            case measure => have := HK.out; simp [intOf]; omega
          · as_aux_lemma =>
            have h1 : IntKind.u64.wrap 281474976710656 = 281474976710656 := by decide
            have h3 : IntKind.i64.wrap 48 = 48 := by decide
            have h4 : IntKind.u64.wrap 48 = 48 := by decide
            have h6 : (IntKind.u64.wrap 281474976710656 = 0) = False := by decide
            have h7 : (IntKind.u64.wrap (2 ^ min (IntKind.u64.wrap (IntKind.i64.wrap 48)).toNat 64) = 0) = False := by decide
            have h8 : IntKind.u64.wrap (2 ^ min (IntKind.u64.wrap (IntKind.i64.wrap 48)).toNat 64) = 281474976710656 := by decide
            have h2 : IntKind.i64.wrap ((IntKind.u64.wrap y).tmod 281474976710656) = v := by
              have e := HV.out
              rw [show (256 : Int) ^ Int.toNat 6 = 281474976710656 by decide] at e
              rw [← e]
              exact mod18 y 281474976710656 (by decide) (by decide) (by decide)
            have f1 : (v == v) = true := beq_self_eq_true _
            go_wp2_with fail
            go_region_held3 (fun w' => w'.cell? (ad1.add k) = some (.int .i64 y)) (first | go_keep | exact (HB.out.cell (World.block_lt_of_cell? w _ HX1.out)).trans HX1.out) (first | (go_at_call 16; refine (CG.out _ (by exact HI.out) (by first | exact HB.out | (apply below_drew1; exact HB.out))).mono ?_; rintro e w5 ⟨rfl, hi, hb, _⟩; have HI := Aside0.mk hi; have HB := Aside0.mk hb; clear hi hb))
            go_wp2_with fail
            rw [E3.out]
            first
              | (go_roundw; case rel => exact ⟨k + 1, HK.out, by first | rfl | rw [E3.out], ⟨by have h := HI.out; rw [HST.out.2.2] at h; exact h⟩, HB⟩)
              | (refine ⟨?_, ?measure⟩; exact ⟨k + 1, HK.out, by first | rfl | rw [E3.out], ⟨by have h := HI.out; rw [HST.out.2.2] at h; exact h⟩, HB⟩)
            case measure => have := HK.out; simp [intOf]; omega
          · as_aux_lemma =>
            have h1 : IntKind.u64.wrap 72057594037927936 = 72057594037927936 := by decide
            have h3 : IntKind.i64.wrap 56 = 56 := by decide
            have h4 : IntKind.u64.wrap 56 = 56 := by decide
            have h6 : (IntKind.u64.wrap 72057594037927936 = 0) = False := by decide
            have h7 : (IntKind.u64.wrap (2 ^ min (IntKind.u64.wrap (IntKind.i64.wrap 56)).toNat 64) = 0) = False := by decide
            have h8 : IntKind.u64.wrap (2 ^ min (IntKind.u64.wrap (IntKind.i64.wrap 56)).toNat 64) = 72057594037927936 := by decide
            have h2 : IntKind.i64.wrap ((IntKind.u64.wrap y).tmod 72057594037927936) = v := by
              have e := HV.out
              rw [show (256 : Int) ^ Int.toNat 7 = 72057594037927936 by decide] at e
              rw [← e]
              exact mod18 y 72057594037927936 (by decide) (by decide) (by decide)
            have f1 : (v == v) = true := beq_self_eq_true _
            go_wp2_with fail
            go_region_held3 (fun w' => w'.cell? (ad1.add k) = some (.int .i64 y)) (first | go_keep | exact (HB.out.cell (World.block_lt_of_cell? w _ HX1.out)).trans HX1.out) (first | (go_at_call 16; refine (CG.out _ (by exact HI.out) (by first | exact HB.out | (apply below_drew1; exact HB.out))).mono ?_; rintro e w5 ⟨rfl, hi, hb, _⟩; have HI := Aside0.mk hi; have HB := Aside0.mk hb; clear hi hb))
            go_wp2_with fail
            rw [E3.out]
            first
              | (go_roundw; case rel => exact ⟨k + 1, HK.out, by first | rfl | rw [E3.out], ⟨by have h := HI.out; rw [HST.out.2.2] at h; exact h⟩, HB⟩)
              | (refine ⟨?_, ?measure⟩; exact ⟨k + 1, HK.out, by first | rfl | rw [E3.out], ⟨by have h := HI.out; rw [HST.out.2.2] at h; exact h⟩, HB⟩)
            case measure => have := HK.out; simp [intOf]; omega
        · have hltn : decide (k < l0.length) = false := decide_eq_false (by omega)
          have HKE := Aside0.mk hk
          clear hlt hk
          have hkn : k = l0.length := by have := HKE.out; have := of_decide_eq_false hltn; omega
          subst hkn
          obtain ⟨C, hC⟩ : ∃ C, catB (fun j => rd l0 (j : Int)) (fun j => rd l1 (j : Int)) l0.length = C := ⟨_, rfl⟩
          rw [hC] at HT HI
          have hts : T.size = C.size + a2.size := by rw [← HT.out, ByteArray.size_append]
          have HRD := Aside0.mk (show Rd T (C.size : Int) (-1) from ⟨HTS.out, by omega, by omega, .inl rfl⟩)
          have HOK := Aside0.mk (show okB T (C.size : Int) (-1) (a2.size : Int) from ⟨rfl, by omega, by omega⟩)
          have HL := Aside0.mk (show (if (-1 : Int) = -1 then (T.size : Int) - (C.size : Int) else 0) = (a2.size : Int) by rw [if_pos rfl]; omega)
          have HV := Aside0.mk (show rdV T (C.size : Int) (-1) (a2.size : Int) = a2 ∧ rdI T (C.size : Int) (-1) (a2.size : Int) = (T.size : Int) ∧ rdF T (C.size : Int) (-1) (a2.size : Int) = -1 by
            refine ⟨?_, ?_, ?_⟩
            · unfold rdV
              rw [if_pos HOK.out, Int.toNat_natCast, show ((C.size : Int) + (a2.size : Int)).toNat = C.size + a2.size by omega, cut_tail C a2 T HT.out]
            · unfold rdI; rw [if_pos HOK.out]; omega
            · unfold rdF; rw [if_pos rfl, if_pos HOK.out])
          have HR2 := Aside0.mk (show Rd T (T.size : Int) (-1) from ⟨HTS.out, by omega, by omega, .inl rfl⟩)
          clear hts hC hltn
          have HN := Aside0.mk (Left_nice HI.out HB.out HRD.out)
          go_wp2_with fail
          go_at_call 17
          refine (HN.out).mono ?_
          rw [HL.out]
          rintro e w5 ⟨rfl, hi, hb, _⟩
          have HI := Aside0.mk hi
          have HB := Aside0.mk hb
          clear hi hb
          have HN := Aside0.mk (Raw_nice HI.out HB.out HRD.out (a2.size : Int))
          go_wp2_with fail
          go_at_call 14
          refine (HN.out).mono ?_
          rw [HV.out.1, HV.out.2.1, HV.out.2.2]
          rintro e w5 ⟨rfl, hi, hb, _⟩
          have HI := Aside0.mk hi
          have HB := Aside0.mk hb
          clear hi hb
          have HN := Aside0.mk (End_nice HI.out HB.out HR2.out)
          go_wp2_with fail
          go_at_call 15
          refine (HN.out).mono ?_
          rw [show endV T (T.size : Int) (-1) = 0 from if_pos ⟨rfl, rfl⟩]
          rintro e w5 ⟨rfl, hi, hb, _⟩
          have HI := Aside0.mk hi
          have HB := Aside0.mk hb
          clear hi hb
          go_wp2_with fail
          go_ret
          exact ⟨by first | rfl | simp, HB.out⟩


end Go.Proofs.Ytkjkcmcfbnamaaa.POctetBack
