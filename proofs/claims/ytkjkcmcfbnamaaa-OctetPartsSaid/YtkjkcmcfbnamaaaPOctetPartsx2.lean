-- Written by a program of this session (see NOTES.md), which reads the translation's print; Lean checks it.
import Derived.Test.YtkjkcmcfbnamaaaPOctetPartsx0
import Derived.Test.YtkjkcmcfbnamaaaPOctetPartsx1
namespace Go.Proofs.Ytkjkcmcfbnamaaa.POctetParts
open Go.RowKit Go.Proofs.YtkjkcmcfbnamaaaW.PrintWords Go.Proofs.YtkjkcmcfbnamaaaW.PrintLast Go.Proofs.YtkjkcmcfbnamaaaW.PrintMore
attribute [local go_sem] max2_int min2_int max_two min_two max_three min_three max_four min_four   -- for this text's walks alone
set_option linter.unusedVariables false
set_option linter.unusedSimpArgs false

/-! ### kissgatelaw01_OctetParts: function 4 -/
theorem wrap_one (t : Nat) (h : t ≤ 100000000) : wrap64 ((t : Int) + 1) = ((t + 1 : Nat) : Int) := by rw [wrap_id (by omega) (by omega)]; omega
theorem wraps_i64 (n : Int) (h0 : 0 ≤ n) (h1 : n < 2 ^ 63) : IntKind.i64.wrap n = n := by rw [IntKind.wrap_i64]; omega
theorem str_size (xs : List Int) : (strOfNums xs).size = xs.length := by simp [strOfNums, ByteArray.size]
theorem str_append (xs ys : List Int) : strOfNums xs ++ strOfNums ys = strOfNums (xs ++ ys) := by
  apply ByteArray.ext
  simp [strOfNums]
theorem toList_append (a b : ByteArray) : (a ++ b).toList = a.toList ++ b.toList := by
  rw [ByteArray.toList_eq, ByteArray.toList_eq, ByteArray.toList_eq]; simp
theorem toList_inj {a b : ByteArray} (h : a.toList = b.toList) : a = b := by
  rw [ByteArray.toList_eq, ByteArray.toList_eq] at h
  exact ByteArray.ext (Array.toList_inj.1 h)

/-! ### Numbers as bytes -/
open Wr (putBytes numOf)
theorem putBytes_length (a : Int) : ∀ k, (putBytes a k).length = k
  | 0 => rfl
  | k + 1 => by simp [putBytes, putBytes_length a k]
theorem putBytes_small (a : Int) : ∀ k, ∀ x ∈ putBytes a k, 0 ≤ x ∧ x < 256
  | 0 => fun x h => by simp [putBytes] at h
  | k + 1 => fun x h => by
    simp only [putBytes, List.mem_cons] at h
    rcases h with rfl | h
    · omega
    · exact putBytes_small a k x h

/-- The value of bytes, the highest first. -/
def val (xs : List Int) : Int := xs.foldl (fun n x => n * 256 + x) 0
theorem val_from (xs : List Int) : ∀ n : Int, xs.foldl (fun n x => n * 256 + x) n = n * 256 ^ xs.length + val xs := by
  induction xs with
  | nil => intro n; simp [val]
  | cons x xs ih =>
    intro n
    unfold val
    rw [List.foldl_cons, List.foldl_cons, ih, ih (0 * 256 + x), List.length_cons, Int.pow_succ, Int.zero_mul, Int.zero_add, Int.add_mul]
    rw [show n * (256 ^ xs.length * 256) = n * 256 * 256 ^ xs.length by rw [Int.mul_comm (256 ^ xs.length) 256, Int.mul_assoc]]
    omega
theorem val_cons (x : Int) (xs : List Int) : val (x :: xs) = x * 256 ^ xs.length + val xs := by
  have := val_from xs x
  unfold val at this ⊢
  rw [List.foldl_cons, Int.zero_mul, Int.zero_add]; exact this
theorem val_range {xs : List Int} (h : ∀ x ∈ xs, 0 ≤ x ∧ x < 256) : 0 ≤ val xs ∧ val xs < 256 ^ xs.length := by
  induction xs with
  | nil => simp [val]
  | cons x xs ih =>
    have ih := ih (fun y hy => h y (by simp [hy]))
    have hx := h x (by simp)
    rw [val_cons, List.length_cons, Int.pow_succ]
    have h1 : (x + 1) * 256 ^ xs.length ≤ 256 * 256 ^ xs.length := Int.mul_le_mul_of_nonneg_right (by omega) (Int.le_of_lt (Int.pow_pos (by decide)))
    have h2 : 0 ≤ x * 256 ^ xs.length := Int.mul_nonneg hx.1 (Int.le_of_lt (Int.pow_pos (by decide)))
    rw [Int.add_mul, Int.one_mul] at h1
    generalize 256 ^ xs.length = z at *
    omega
theorem pow_two_eight (k : Nat) : (2 : Int) ^ (8 * k) = 256 ^ k := by rw [Int.pow_mul]; rfl
theorem emod_step (a z : Int) (hp : 0 < z) : a / z % 256 * z + a % z = a % (z * 256) := by
  have e1 : a % z + z * (a / z) = a := Int.emod_add_mul_ediv a z
  have hr0 : 0 ≤ a % z := Int.emod_nonneg a (Int.ne_of_gt hp)
  have hr1 : a % z < z := Int.emod_lt_of_pos a hp
  have hq : a / z = a / z % 256 + 256 * (a / z / 256) := (Int.emod_add_mul_ediv (a / z) 256).symm
  have hd0 : 0 ≤ a / z % 256 := by omega
  have hd1 : a / z % 256 < 256 := by omega
  revert e1 hr0 hr1 hq hd0 hd1
  generalize a / z % 256 = d
  generalize a / z / 256 = u
  generalize a % z = r
  generalize a / z = q
  intro e1 hr0 hr1 hq hd0 hd1
  subst hq
  subst e1
  rw [Int.mul_add, ← Int.mul_assoc z 256 u, Int.mul_comm z d, ← Int.add_assoc, Int.add_mul_emod_self_left]
  have h4 : 0 ≤ d * z := Int.mul_nonneg hd0 (Int.le_of_lt hp)
  have h6 : (d + 1) * z ≤ 256 * z := Int.mul_le_mul_of_nonneg_right hd1 (Int.le_of_lt hp)
  rw [Int.add_mul, Int.one_mul, Int.mul_comm 256 z] at h6
  rw [Int.emod_eq_of_lt (by omega) (by omega)]
  omega
theorem val_put (a : Int) : ∀ k, val (putBytes a k) = a % 256 ^ k
  | 0 => by simp [putBytes, val]
  | k + 1 => by
    rw [putBytes, val_cons, val_put a k, putBytes_length, pow_two_eight, Int.pow_succ]
    exact emod_step a _ (Int.pow_pos (by decide))
theorem put_val : ∀ {xs : List Int}, (∀ x ∈ xs, 0 ≤ x ∧ x < 256) → putBytes (val xs) xs.length = xs := by
  intro xs
  induction xs with
  | nil => intro _; rfl
  | cons x xs ih =>
    intro h
    have hx := h x (by simp)
    have hr := val_range (xs := xs) (fun y hy => h y (List.mem_cons_of_mem _ hy))
    have hp : (0 : Int) < 256 ^ xs.length := Int.pow_pos (by decide)
    rw [List.length_cons, putBytes, pow_two_eight, val_cons]
    have e1 : (x * 256 ^ xs.length + val xs) / 256 ^ xs.length % 256 = x := by
      rw [Int.add_comm, Int.add_mul_ediv_right _ _ (Int.ne_of_gt hp), Int.ediv_eq_zero_of_lt hr.1 hr.2]; omega
    rw [e1]
    congr 1
    have e2 : ∀ k, k ≤ xs.length → putBytes (x * 256 ^ xs.length + val xs) k = putBytes (val xs) k := by
      intro k
      induction k with
      | zero => intro _; rfl
      | succ k ihk =>
        intro hk
        rw [putBytes, putBytes, ihk (by omega), pow_two_eight]
        congr 1
        obtain ⟨m, hm⟩ : ∃ m, xs.length = k + 1 + m := ⟨xs.length - (k + 1), by omega⟩
        have e3 : x * 256 ^ xs.length = (x * 256 ^ m * 256) * 256 ^ k := by rw [hm, Int.pow_add, Int.pow_succ]; simp only [Int.mul_assoc, Int.mul_comm, Int.mul_left_comm]
        rw [e3, Int.add_comm, Int.add_mul_ediv_right _ _ (Int.ne_of_gt (Int.pow_pos (by decide)))]
        omega
    rw [e2 _ (Nat.le_refl _)]
    exact ih (fun y hy => h y (by simp [hy]))
theorem put_inj {a b : Int} {k : Nat} (h : putBytes a k = putBytes b k) : a % 256 ^ k = b % 256 ^ k := by rw [← val_put, ← val_put, h]
theorem put_congr {a b : Int} : ∀ {k : Nat}, a % 256 ^ k = b % 256 ^ k → putBytes a k = putBytes b k := by
  intro k h
  have ha := putBytes_small a k
  have hb := putBytes_small b k
  have e1 := put_val ha
  have e2 := put_val hb
  rw [putBytes_length, val_put] at e1 e2
  rw [← e1, ← e2, h]

theorem mx_of_lt {a b : Int} (h : a < b) : mx a b = b := by unfold mx; rw [if_pos h]
theorem mx_of_ge {a b : Int} (h : b ≤ a) : mx a b = a := by unfold mx; rw [if_neg (by omega)]
theorem mn_of_gt {a b : Int} (h : b < a) : mn a b = b := by unfold mn; rw [if_pos h]
theorem mn_of_le {a b : Int} (h : a ≤ b) : mn a b = a := by unfold mn; rw [if_neg (by omega)]
theorem take_snoc (l : List Int) (j : Nat) (h : j < l.length) : l.take (j + 1) = l.take j ++ [l.getD j 0] := by
  rw [List.take_succ_eq_append_getElem h, List.getD_eq_getElem?_getD, List.getElem?_eq_getElem h]; rfl


/-! ### The reader -/
/-- n bytes of s from place i on. -/
def seg (s : ByteArray) (i n : Nat) : List Int := ((bytesOf s).drop i).take n
theorem seg_length (s : ByteArray) (i n : Nat) (h : i + n ≤ s.size) : (seg s i n).length = n := by
  unfold seg; rw [List.length_take, List.length_drop, bytesOf_length]; omega
theorem bytesOf_small (s : ByteArray) : ∀ x ∈ bytesOf s, 0 ≤ x ∧ x < 256 := by
  intro x hx
  simp only [bytesOf, List.mem_map] at hx
  obtain ⟨b, -, rfl⟩ := hx
  have := b.toNat_lt; omega
theorem seg_small (s : ByteArray) (i n : Nat) : ∀ x ∈ seg s i n, 0 ≤ x ∧ x < 256 := fun x hx =>
  bytesOf_small s x (List.mem_of_mem_drop (List.mem_of_mem_take hx))
theorem bytesOf_cut (s : ByteArray) (i n : Nat) : bytesOf (s.extract i (i + n)) = seg s i n := by
  unfold seg bytesOf
  rw [ByteArray.data_extract, Array.toList_extract, List.extract_eq_take_drop, List.map_take, List.map_drop]
  congr 1; omega
theorem or_8 (x y : Int) (h0 : 0 ≤ x) (h1 : x < 2 ^ 55) (k0 : 0 ≤ y) (k1 : y < 256) : Go.bits .or .i64 (wrap64 (x * 256)) (wrap64 y) = x * 256 + y := by
  rw [wrap_id (by omega) (by omega), wrap_id (by omega) (by omega)]
  exact bits_join .i64 63 (by decide) wraps_i64 8 (x * 256) y (by omega) (by omega) (by omega) k0 k1 (by omega)
theorem val_snoc (xs : List Int) (x : Int) : val (xs ++ [x]) = val xs * 256 + x := by
  unfold val; rw [List.foldl_append]; rfl
theorem pow_le_55 (j : Nat) (h : j ≤ 6) : (256 : Int) ^ j ≤ 2 ^ 48 := by
  rw [← pow_two_eight]
  have : (2 : Nat) ^ (8 * j) ≤ 2 ^ 48 := Nat.pow_le_pow_right (by decide) (by omega)
  exact_mod_cast this
theorem take_good (s : ByteArray) (i n : Nat) (hs : s.size ≤ 140737488351232) (h : i + n ≤ s.size) :
    octet_Reader_take.f s i (-1) n = some (s.extract i (i + n), true, s, ((i + n : Nat) : Int), -1) := by
  unfold octet_Reader_take.f
  have w1 : wrap64 ((s.size : Int) - (i : Int)) = (s.size : Int) - (i : Int) := wrap_id (by omega) (by omega)
  have w2 : wrap64 ((i : Int) + (n : Int)) = ((i + n : Nat) : Int) := by rw [wrap_id (by omega) (by omega)]; omega
  have w3 : wrap64 (((i + n : Nat) : Int) - (n : Int)) = (i : Int) := by rw [wrap_id (by omega) (by omega)]; omega
  rw [w1, w2, w3, if_neg (by decide), if_neg (by omega), if_neg (by omega), if_pos (by omega), if_pos (by omega), if_pos (by omega), Int.toNat_natCast, Int.toNat_natCast]
theorem take_short (s : ByteArray) (i n : Nat) (hs : s.size ≤ 140737488351232) (hi : i ≤ s.size) (h : ¬ i + n ≤ s.size) :
    octet_Reader_take.f s i (-1) n = some ((⟨#[]⟩ : ByteArray), false, s, (i : Int), (i : Int)) := by
  unfold octet_Reader_take.f
  have w1 : wrap64 ((s.size : Int) - (i : Int)) = (s.size : Int) - (i : Int) := wrap_id (by omega) (by omega)
  rw [w1, if_neg (by decide), if_neg (by omega), if_pos (by omega)]
theorem take_bad (s : ByteArray) (i b n : Int) (hb : 0 ≤ b) : octet_Reader_take.f s i b n = some ((⟨#[]⟩ : ByteArray), false, s, i, b) := by
  unfold octet_Reader_take.f; rw [if_pos hb]


/-! ### The reader's answers in closed form -/
def okB (s : ByteArray) (i b n : Int) : Prop := b = -1 ∧ 0 ≤ n ∧ i + n ≤ s.size
instance (s : ByteArray) (i b n : Int) : Decidable (okB s i b n) := inferInstanceAs (Decidable (b = -1 ∧ 0 ≤ n ∧ i + n ≤ s.size))
def rdV (s : ByteArray) (i b n : Int) : ByteArray := if okB s i b n then s.extract i.toNat (i + n).toNat else ⟨#[]⟩
def rdI (s : ByteArray) (i b n : Int) : Int := if okB s i b n then i + n else i
def rdF (s : ByteArray) (i b n : Int) : Int := if b = -1 then (if okB s i b n then -1 else i) else b
theorem Rd.next {s : ByteArray} {i b : Int} (h : Rd s i b) (n : Int) : Rd s (rdI s i b n) (rdF s i b n) := by
  obtain ⟨h0, h1, h2, h3⟩ := h
  unfold Rd rdI rdF
  by_cases c : okB s i b n
  · rw [if_pos c, if_pos c]
    obtain ⟨c1, c2, c3⟩ := c
    exact ⟨h0, by omega, by omega, by rw [if_pos c1]; exact .inl rfl⟩
  · rw [if_neg c, if_neg c]
    exact ⟨h0, h1, h2, by split; exact .inr h1; exact h3⟩
theorem take_eq {s : ByteArray} {i b : Int} (h : Rd s i b) (n : Int) : octet_Reader_take.f s i b n = some (rdV s i b n, decide (okB s i b n), s, rdI s i b n, rdF s i b n) := by
  obtain ⟨h0, h1, h2, h3⟩ := h
  unfold octet_Reader_take.f rdV rdI rdF
  have w1 : wrap64 ((s.size : Int) - i) = (s.size : Int) - i := wrap_id (by omega) (by omega)
  rw [w1]
  rcases h3 with rfl | h3
  · rw [if_neg (show ¬ ((-1 : Int) ≥ 0) by decide), if_pos rfl]
    by_cases c1 : n < 0
    · have c : ¬ okB s i (-1) n := fun c => by have := c.2.1; omega
      rw [if_pos c1, if_neg c, if_neg c, if_neg c, decide_eq_false c]
    · rw [if_neg c1]
      by_cases c2 : n > (s.size : Int) - i
      · have c : ¬ okB s i (-1) n := fun c => by have := c.2.2; omega
        rw [if_pos c2, if_neg c, if_neg c, if_neg c, decide_eq_false c]
      · have c : okB s i (-1) n := ⟨rfl, by omega, by omega⟩
        have w2 : wrap64 (i + n) = i + n := wrap_id (by omega) (by omega)
        have w3 : wrap64 (i + n - n) = i := by rw [wrap_id (by omega) (by omega)]; omega
        rw [if_neg c2, w2, w3, if_pos h1, if_pos (by omega), if_pos (by omega), if_pos c, if_pos c, if_pos c, decide_eq_true c]
  · have c : ¬ okB s i b n := fun c => by have := c.1; omega
    rw [if_pos (show b ≥ 0 from h3), if_neg c, if_neg c, if_neg (by omega), decide_eq_false c]
theorem raw_eq {s : ByteArray} {i b : Int} (h : Rd s i b) (n : Int) : octet_Reader_Raw.f s i b n = some (rdV s i b n, s, rdI s i b n, rdF s i b n) := by
  unfold octet_Reader_Raw.f; rw [take_eq h]; rfl
theorem rdV_size {s : ByteArray} {i b : Int} (h : Rd s i b) (n : Int) (hn : n ≤ 7) : (rdV s i b n).size ≤ 7 := by
  unfold rdV
  by_cases c : okB s i b n
  · rw [if_pos c, ByteArray.size_extract]
    have := h.2.1; have := c.2.1; omega
  · rw [if_neg c]; decide
theorem mnmx_le (n : Int) : mn (mx n 1) 7 ≤ 7 := by unfold mn mx; split <;> split <;> omega
theorem mnmx_ge (n : Int) : 1 ≤ mn (mx n 1) 7 := by unfold mn mx; split <;> split <;> omega
def failV (i b : Int) : Int := if b = -1 then i else b
theorem Rd.fail {s : ByteArray} {i b : Int} (h : Rd s i b) : Rd s i (failV i b) := by
  obtain ⟨h0, h1, h2, h3⟩ := h
  exact ⟨h0, h1, h2, by unfold failV; split; exact .inr h1; exact h3⟩
theorem Raw_nice {g : Nat} {s : ByteArray} {i b : Int} {w0 w : World} (hI : IsS51 w0 w g s i b) (hB : Below w0.heap.size w0 w) (hR : Rd s i b) (n : Int) :
    Calls Try.prog 14 #[.pointer (some ⟨g, 0, none⟩), .int .i64 n] w fun e w' => e = .returned (.string (rdV s i b n)) ∧ IsS51 w0 w' g s (rdI s i b n) (rdF s i b n) ∧ Below w0.heap.size w0 w' ∧ KeepBut w w' g none := octet_Reader_Raw.calls g s i b n _ _ _ _ w0 w hI hB (raw_eq hR n)
def szOf (size : Int) : Nat := (mn (mx size 1) 8).toNat
theorem numOf_eq (size a : Int) : numOf size a = strOfNums (putBytes a (szOf size)) := rfl

theorem szOf_mid {size : Int} (h : 1 ≤ size) (h8 : size ≤ 8) : ((szOf size : Nat) : Int) = size := by unfold szOf; rw [mx_of_ge h, mn_of_le h8]; omega
open Wr
/-- A writer, and where its row lies. -/
def IsWr (B : Nat) (W : World) (g : Nat) (f0 : ByteArray) (r : Option Nat) : Prop :=
  ∃ v, W.heap[g]? = some (.cells #[v] 27 (0, 0)) ∧ W.ownsRow B 5 1 v f0.size (nums .u8 (bytesOf f0)) ∧ B ≤ g ∧ v.ownBlock = r
theorem IsWr.isW {B : Nat} {W : World} {g : Nat} {c : ByteArray} {r : Option Nat} (h : IsWr B W g c r) : IsW B W g c := by
  obtain ⟨v, h1, h2, h3, _⟩ := h; exact ⟨v, h1, h2, h3⟩
theorem wr_after2 {B : Nat} {w0 w wr W w1 : World} {g : Nat} {v : Value} {n : Nat} {xs : List Value} {r0 : Option Nat} (HG : wr.heap[g]? = some (.cells #[v] 27 (0, 0))) (HO : wr.ownsRow B 5 1 v n xs)
    (HB : Below B w0 wr) (hBs : B ≤ wr.heap.size) (HK : KeepBut w wr g r0) (hr : v.ownBlock = r0 ∨ ∃ b, v.ownBlock = some b ∧ w.heap.size ≤ b) (hW : wr.grownBy W none) (hg : W.grownBy w1 v.ownBlock) :
    w1.heap[g]? = some (.cells #[v] 27 (0, 0)) ∧ Below B w0 w1 ∧ KeepBut w w1 g r0 := by
  have hne : some g ≠ v.ownBlock := own_ne HO HG (by decide)
  have hgrow : wr.grownBy w1 v.ownBlock := World.grownBy.trans (⟨hW.os, hW.tape, hW.output, hW.size, fun i hi _ => hW.block i hi (by simp)⟩ : wr.grownBy W v.ownBlock) hg
  exact ⟨blk_grown HG hgrow hne, (HB.grown hgrow hBs (own_base HO)), HK.trans (KeepBut.of_grown hgrow g) hr⟩
theorem wr_store2 {B : Nat} {w0 w w1 : World} {g : Nat} {v : Value} {c : ByteArray} {b : Int} {g' cap : Nat} {r0 : Option Nat} (hb : 0 ≤ b ∧ b < 256) (k0 : w1.heap[g]? = some (.cells #[v] 27 (0, 0))) (k1 : Below B w0 w1) (k2 : KeepBut w w1 g r0) (hge : B ≤ g)
    (ho : w1.ownsRow B 5 1 (.slice (some ⟨g', 0, none⟩) (c.size + 1) cap) (c.size + 1) (nums .u8 (bytesOf c) ++ [.int .u8 b])) :
    IsWr B (w1.setCell ⟨g, 0, none⟩ (.slice (some ⟨g', 0, none⟩) (c.size + 1) cap)) g (c ++ strOfNums [b]) (some g') ∧ Below B w0 (w1.setCell ⟨g, 0, none⟩ (.slice (some ⟨g', 0, none⟩) (c.size + 1) cap)) ∧ KeepBut w (w1.setCell ⟨g, 0, none⟩ (.slice (some ⟨g', 0, none⟩) (c.size + 1) cap)) g r0 := by
  refine ⟨⟨_, by simpa using blk_set k0 0 _, ?_, hge, rfl⟩, k1.setCell hge _, k2.set_ 0 _⟩
  have e1 : (c ++ strOfNums [b]).size = c.size + 1 := by rw [ByteArray.size_append, str_one_size]
  have e2 : nums .u8 (bytesOf (c ++ strOfNums [b])) = nums .u8 (bytesOf c) ++ [.int .u8 b] := by
    rw [bytesOf_append, bytesOf_str _ (by intro x hx; simp at hx; subst hx; exact hb), nums_append]; rfl
  rw [e1, e2]
  exact own_setCell ho (own_ne ho k0 (by decide)) _
set_option maxHeartbeats 1000000 in
set_option maxRecDepth 100000 in
theorem put_two (B g : Nat) (s0 : ByteArray) (r0 : Option Nat) (a1 a2 : Int) (w0 w : World) (hI : IsWr B w g s0 r0) (hB : Below B w0 w) (hs : s0.size + 8 ≤ 140737488355328) :
    Calls Try.prog 9 #[.pointer (some ⟨g, 0, none⟩), .int .i64 a1, .int .i64 a2] w fun e w' => e = .returned (.tuple #[]) ∧ ∃ r1, IsWr B w' g (s0 ++ strOfNums (putBytes a2 (mn (mx a1 1) 8).toNat)) r1 ∧ (r1 = r0 ∨ ∃ b, r1 = some b ∧ w.heap.size ≤ b) ∧ Below B w0 w' ∧ KeepBut w w' g r0 := by
  obtain ⟨i0, hi, hz0, hz1, hz2⟩ := info_parts info5
  obtain ⟨sz, hsz, hsz8⟩ : ∃ sz : Nat, (mn (mx a1 1) 8).toNat = sz ∧ sz ≤ 8 := ⟨_, rfl, by unfold mn mx; split <;> split <;> omega⟩
  have key : ∀ (v6 : Value), v6 = .int .i64 ((sz : Int) - 1) → True := fun _ _ => trivial
  rw [hsz]
  have HI := Aside0.mk hI
  have HB := Aside0.mk hB
  have HSZ := Aside0.mk hsz
  clear hI hB hsz key
  go_enter Try.func9, Try.ntmps9
  go_wp2
  all_goals
    have hsz := HSZ.out
    unfold mn mx at hsz
    go_loopw [6] (fun v6 wr => ∃ (m : Nat) (c : ByteArray) (r : Option Nat), m ≤ sz ∧ v6 = .int .i64 ((m : Int) - 1) ∧ Aside0 (c ++ strOfNums (putBytes a2 m) = s0 ++ strOfNums (putBytes a2 sz)) ∧ Aside0 (c.size + m = s0.size + sz) ∧ Aside0 (IsWr B wr g c r) ∧ Aside0 (Below B w0 wr) ∧ Aside0 (KeepBut w wr g r0) ∧ Aside0 (r = r0 ∨ ∃ b, r = some b ∧ w.heap.size ≤ b)) (fun v6 _ => (intOf v6 + 1).toNat)
    case atStart => exact ⟨sz, s0, r0, Nat.le_refl _, by congr 1; split at hsz <;> (try split at hsz) <;> omega, ⟨rfl⟩, ⟨rfl⟩, HI, HB, ⟨KeepBut.refl _ _ _⟩, ⟨.inl rfl⟩⟩
    case round =>
      clear hsz
      obtain ⟨m, c, r, hm, rfl, HC, HL, HI, HB, HK, HRR⟩ := hrel
      cases m with
      | zero =>
        go_wp2
        go_end0
        have e := HC.out
        refine ⟨rfl, r, ?_, HRR.out, HB.out, HK.out⟩
        rw [← e]
        have e0 : c ++ strOfNums (putBytes a2 0) = c := by apply ByteArray.ext; simp [putBytes, strOfNums]
        rw [e0]
        exact HI.out
      | succ i =>
        rw [show ((i + 1 : Nat) : Int) - 1 = (i : Int) from by omega]
        obtain ⟨v, hgb, hown, hge, hvr⟩ := HI.out
        have hc0 := (blk_cell hgb 0).trans (show (#[v] : Array Value)[0]? = some v from rfl)
        have hf0 := blk_frozen hgb 0
        have HG := Aside0.mk hgb
        have HO := Aside0.mk hown
        clear hgb hown
        have hi0 : 0 ≤ (i : Int) := by omega
        have hi7 : (i : Int) ≤ 7 := by omega
        have hw8 : IntKind.i64.wrap (8 * (i : Int)) = 8 * (i : Int) := by rw [IntKind.wrap_i64]; omega
        have hcA : ∀ o, (wr.alloc o).cell? ⟨g, 0, none⟩ = some v := fun o => (World.cell?_alloc_lt _ _ _ (blk_lt HG.out)).trans hc0
        go_wp2
        have hbB : B ≤ wr.heap.size := Nat.le_of_lt (Nat.lt_of_le_of_lt hge (blk_lt HG.out))
        go_region_law (refine step_append_lies _ rfl (.tmp 19) (.tmp 25) 25 rfl B 5 i0 (.int .u8 0) 1 1 Try.underlying25 hi hz0 hz1 hz2 rfl (by decide) v c.size (nums .u8 (bytesOf c)) (by simp [Act.eval]) (by repeat (first | exact HO.out | apply World.ownsRow.alloc | apply World.ownsRow.drew)) ⟨wr.heap.size, 0, none⟩ 1 1 [.int .u8 (IntKind.u8.wrap (a2 / 2 ^ (8 * (i : Int)).toNat))] (by simp [Act.eval]) rfl (World.news_of_block (cs := #[.int .u8 (IntKind.u8.wrap (a2 / 2 ^ (8 * (i : Int)).toNat))]) (t := 5) (fr := (0, 0)) (by first | exact heap_alloc_new wr _ | simp)) (by intro u hu; simp at hu; subst hu; rfl) (by decide) (by have := HL.out; unfold maxLen; omega) (by have := HL.out; omega) (by simp; omega) _ rfl ?_; intro g' cap' w1 hown' hgrow hat hlt; obtain ⟨k0, k1, k2⟩ := wr_after2 HG.out HO.out HB.out hbB HK.out (by rw [hvr]; exact HRR.out) (by first | exact World.grownBy_alloc wr _ none | exact grown_drew (World.grownBy_alloc wr _ none) | exact grown_drew (grown_drew (World.grownBy_alloc wr _ none))) hgrow; have kc := blk_cell k0 0; have kf := blk_frozen k0 0; have HAT := Aside0.mk (show v.ownBlock = some g' ∨ wr.heap.size ≤ g' by rcases hat with h | h; exact .inl h; (right; rw [h]; first | exact (World.grownBy_alloc wr _ none).size | exact (grown_drew (World.grownBy_alloc wr _ none)).size | exact (grown_drew (grown_drew (World.grownBy_alloc wr _ none))).size)))
        all_goals
          have hb0 : IntKind.u8.wrap (a2 / 2 ^ (8 * (i : Int)).toNat) = a2 / 2 ^ (8 * i) % 256 := by rw [IntKind.wrap_u8, show (8 * (i : Int)).toNat = 8 * i by omega]
          have hbr : 0 ≤ IntKind.u8.wrap (a2 / 2 ^ (8 * (i : Int)).toNat) ∧ IntKind.u8.wrap (a2 / 2 ^ (8 * (i : Int)).toNat) < 256 := by rw [hb0]; omega
          obtain ⟨j0, j1, j2⟩ := wr_store2 hbr k0 k1 k2 hge hown'
          have J0 := Aside0.mk j0
          have J1 := Aside0.mk j1
          have J2 := Aside0.mk j2
          have J3 := Aside0.mk hb0
          have J5 := Aside0.mk (show some g' = r0 ∨ ∃ b, some g' = some b ∧ w.heap.size ≤ b by rcases HAT.out with h | h; (rw [hvr] at h; rw [← h]; exact HRR.out); exact .inr ⟨g', rfl, Nat.le_trans HK.out.1 h⟩)
          clear j0 j1 j2 hb0 hbr
          go_wp2
          go_roundw
          case rel =>
            refine ⟨i, c ++ strOfNums [IntKind.u8.wrap (a2 / 2 ^ (8 * (i : Int)).toNat)], some g', by omega, by go_num, ⟨(put_step c a2 _ i J3.out).trans HC.out⟩, ⟨by have := HL.out; rw [ByteArray.size_append, str_one_size]; omega⟩, J0, J1, J2, J5⟩
          case measure => simp [intOf]

def kissgatelaw01_OctetParts.Pure : Prop := True
theorem seg_mid (A N Z : ByteArray) : seg (A ++ N ++ Z) A.size N.size = bytesOf N := by
  unfold seg
  rw [bytesOf_append, bytesOf_append, ← bytesOf_length A, ← bytesOf_length N, List.append_assoc, List.drop_left, List.take_left]
theorem cut_tail (C s T : ByteArray) (hT : C ++ s = T) : T.extract C.size (C.size + s.size) = s := by
  have h : bytesOf (T.extract C.size (C.size + s.size)) = bytesOf s := by
    have e := seg_mid C s ⟨#[]⟩
    have e2 : C ++ s ++ (⟨#[]⟩ : ByteArray) = T := by rw [← hT]; apply ByteArray.ext; simp
    rw [e2] at e
    rw [bytesOf_cut, e]
  rw [← str_bytesOf (T.extract C.size (C.size + s.size)), h, str_bytesOf]

theorem IsWr.below {B : Nat} {W W' : World} {g : Nat} {c : ByteArray} {r : Option Nat} (h : IsWr B W g c r) (hb : Below W.heap.size W W') : IsWr B W' g c r := by
  obtain ⟨v, h1, h2, h3, h4⟩ := h
  exact ⟨v, blk_grown h1 (grown_of_below hb none) (by simp), pw_own_below h2 hb, h3, h4⟩
theorem IsWr.new {B : Nat} (W : World) (hs : B ≤ W.heap.size) : IsWr B (W.alloc (.cells #[.slice none 0 0] 27)) W.heap.size ⟨#[]⟩ none :=
  ⟨_, by simpa using heap_alloc_new W _, own_nil _ B 5 1, hs, rfl⟩
theorem IsWr.lt {B : Nat} {W : World} {g : Nat} {c : ByteArray} {r : Option Nat} (h : IsWr B W g c r) : g < W.heap.size := by obtain ⟨v, h1, _⟩ := h; exact blk_lt h1
theorem IsWr.row_lt {B : Nat} {W : World} {g : Nat} {c : ByteArray} {r : Option Nat} (h : IsWr B W g c r) (k : Nat) (hk : r = some k) : k < W.heap.size := by
  obtain ⟨v, _, h2, _, h4⟩ := h; exact own_lt h2 k (h4.trans hk)
def Ap (r1 r2 : Option Nat) : Prop := ∀ k, r1 = some k → r2 ≠ some k
theorem Ap.nil : Ap none none := fun k h => by cases h
theorem Ap.symm {r1 r2 : Option Nat} (h : Ap r1 r2) : Ap r2 r1 := fun k h1 h2 => h k h2 h1
theorem IsWr.keep {B : Nat} {W W' : World} {ga gb : Nat} {ca cb : ByteArray} {ra rb : Option Nat} (ha : IsWr B W ga ca ra) (h : IsWr B W gb cb rb) (hk : KeepBut W W' ga ra) (hne : gb ≠ ga) (hap : Ap ra rb) : IsWr B W' gb cb rb := by
  obtain ⟨va, a1, a2, a3, a4⟩ := ha
  obtain ⟨v, h1, h2, h3, h4⟩ := h
  have e1 : some gb ≠ ra := by rw [← a4]; exact own_ne a2 h1 (by decide)
  have e2 : v.ownBlock ≠ some ga := fun e => own_ne h2 a1 (by decide) e.symm
  have e3 : v.ownBlock = none ∨ v.ownBlock ≠ ra := by
    rw [h4]
    rcases rb with _ | k
    · exact .inl rfl
    · exact .inr fun e => hap k e.symm rfl
  exact ⟨v, hk.blk h1 hne e1, hk.own h2 e2 e3, h3, h4⟩
/-- Three writers. -/
structure Tri (B : Nat) (w0 W : World) (ga gb gc : Nat) (ca cb cc : ByteArray) : Prop where
  ex : ∃ ra rb rc, IsWr B W ga ca ra ∧ IsWr B W gb cb rb ∧ IsWr B W gc cc rc ∧ Ap ra rb ∧ Ap ra rc ∧ Ap rb rc
  nab : ga ≠ gb
  nac : ga ≠ gc
  nbc : gb ≠ gc
  below : Below B w0 W
theorem Tri.ba {B : Nat} {w0 W : World} {ga gb gc : Nat} {ca cb cc : ByteArray} (h : Tri B w0 W ga gb gc ca cb cc) : Tri B w0 W gb ga gc cb ca cc := by
  obtain ⟨⟨ra, rb, rc, h1, h2, h3, h4, h5, h6⟩, a, b, c, d⟩ := h
  exact ⟨⟨rb, ra, rc, h2, h1, h3, h4.symm, h6, h5⟩, Ne.symm a, c, b, d⟩
theorem Tri.ca {B : Nat} {w0 W : World} {ga gb gc : Nat} {ca cb cc : ByteArray} (h : Tri B w0 W ga gb gc ca cb cc) : Tri B w0 W gc gb ga cc cb ca := by
  obtain ⟨⟨ra, rb, rc, h1, h2, h3, h4, h5, h6⟩, a, b, c, d⟩ := h
  exact ⟨⟨rc, rb, ra, h3, h2, h1, h6.symm, h5.symm, h4.symm⟩, Ne.symm c, Ne.symm b, Ne.symm a, d⟩
theorem Tri.put {B : Nat} {w0 W : World} {ga gb gc : Nat} {ca cb cc : ByteArray} (h : Tri B w0 W ga gb gc ca cb cc) (hs : ca.size ≤ 100000) (a1 a2 : Int) :
    Calls Try.prog 9 #[.pointer (some ⟨ga, 0, none⟩), .int .i64 a1, .int .i64 a2] W fun e w' => e = .returned (.tuple #[]) ∧ Tri B w0 w' ga gb gc (ca ++ numOf a1 a2) cb cc := by
  obtain ⟨⟨ra, rb, rc, h1, h2, h3, h4, h5, h6⟩, a, b, c, d⟩ := h
  refine (put_two B ga ca ra a1 a2 w0 W h1 d (by omega)).mono ?_
  rintro e w' ⟨rfl, r1, k1, k2, k3, k4⟩
  have ap : ∀ r : Option Nat, Ap ra r → (∀ k, r = some k → k < W.heap.size) → Ap r1 r := by
    intro r hr hl k hk hk2
    rcases k2 with rfl | ⟨b, hb, hb2⟩
    · exact hr k hk hk2
    · rw [hb] at hk; cases hk
      exact absurd (hl _ hk2) (Nat.not_lt.2 hb2)
  exact ⟨rfl, ⟨r1, rb, rc, k1, h1.keep h2 k4 (Ne.symm a) h4, h1.keep h3 k4 (Ne.symm b) h5, ap rb h4 (h2.row_lt), ap rc h5 (h3.row_lt), h6⟩, a, b, c, k3⟩
theorem Tri.new {w0 w1 : World} (hB : Below w0.heap.size w0 w1) :
    Tri w0.heap.size w0 (((w1.alloc (.cells #[.slice none 0 0] 27)).alloc (.cells #[.slice none 0 0] 27)).alloc (.cells #[.slice none 0 0] 27)) w1.heap.size (w1.heap.size + 1) (w1.heap.size + 2) ⟨#[]⟩ ⟨#[]⟩ ⟨#[]⟩ := by
  have s1 : (w1.alloc (.cells #[.slice none 0 0] 27)).heap.size = w1.heap.size + 1 := Array.size_push _
  have s2 : ((w1.alloc (.cells #[.slice none 0 0] 27)).alloc (.cells #[.slice none 0 0] 27)).heap.size = w1.heap.size + 2 := by rw [show ((w1.alloc (.cells #[.slice none 0 0] 27)).alloc (.cells #[.slice none 0 0] 27)).heap.size = (w1.alloc (.cells #[.slice none 0 0] 27)).heap.size + 1 from Array.size_push _, s1]
  have hs := hB.size
  have B1 := below_alloc (Below.refl _ (w1.alloc (.cells #[.slice none 0 0] 27))) (.cells #[.slice none 0 0] 27)
  have B2 := below_alloc (Below.refl _ ((w1.alloc (.cells #[.slice none 0 0] 27)).alloc (.cells #[.slice none 0 0] 27))) (.cells #[.slice none 0 0] 27)
  have A := IsWr.new (B := w0.heap.size) w1 hs
  have C := IsWr.new (B := w0.heap.size) (w1.alloc (.cells #[.slice none 0 0] 27)) (by omega)
  have D := IsWr.new (B := w0.heap.size) ((w1.alloc (.cells #[.slice none 0 0] 27)).alloc (.cells #[.slice none 0 0] 27)) (by omega)
  rw [s1] at C
  rw [s2] at D
  exact ⟨⟨none, none, none, (A.below B1).below B2, C.below B2, D, Ap.nil, Ap.nil, Ap.nil⟩, by omega, by omega, by omega, below_alloc (below_alloc (below_alloc hB _) _) _⟩
theorem text_of {B : Nat} {W : World} {g : Nat} {c : ByteArray} {r : Option Nat} (h : IsWr B W g c r) :
    Calls Try.prog 12 #[.pointer (some ⟨g, 0, none⟩)] W fun e w' => e = .returned (.string c) ∧ w' = W := text_walk B g c W h.isW
theorem Tri.text {B : Nat} {w0 W : World} {ga gb gc : Nat} {ca cb cc : ByteArray} (h : Tri B w0 W ga gb gc ca cb cc) :
    Calls Try.prog 12 #[.pointer (some ⟨ga, 0, none⟩)] W fun e w' => e = .returned (.string ca) ∧ w' = W := by
  obtain ⟨⟨ra, rb, rc, h1, _⟩, _⟩ := h; exact text_of h1
theorem Tri.later {B : Nat} {w0 W W' : World} {ga gb gc : Nat} {ca cb cc : ByteArray} (h : Tri B w0 W ga gb gc ca cb cc) (hb : Below W.heap.size W W') (hB : Below B w0 W') : Tri B w0 W' ga gb gc ca cb cc := by
  obtain ⟨⟨ra, rb, rc, h1, h2, h3, h4, h5, h6⟩, a, b, c, d⟩ := h
  exact ⟨⟨ra, rb, rc, h1.below hb, h2.below hb, h3.below hb, h4, h5, h6⟩, a, b, c, hB⟩
theorem Open_new (s : ByteArray) {w0 w : World} (hB : Below w0.heap.size w0 w) : Calls Try.prog 13 #[.string s] w fun e w' => ∃ g_ : Nat, e = .returned (.pointer (some ⟨g_, 0, none⟩)) ∧ IsS51 w0 w' g_ s 0 (-1) ∧ Below w0.heap.size w0 w' ∧ Below w.heap.size w w' ∧ w.heap.size ≤ g_ := by
  have hu := Try.underlying51
  go_enter Try.func13, Try.ntmps13
  go_wp2_with fail
  go_ret
  exact ⟨_, rfl, ⟨heap_alloc_new _ _, hB.size⟩, below_alloc hB _, below_alloc (Below.refl _ _) _, Nat.le_refl _⟩
theorem num4 (x : Int) : (numOf 4 x).size = 4 := by rw [numOf_size]; rfl
theorem empty_right (c : ByteArray) : c ++ (⟨#[]⟩ : ByteArray) = c := by apply ByteArray.ext; simp
/-- What has been written. -/
def Parts (k cut : Nat) (ca cb cc : ByteArray) : Prop := ca = cb ++ cc ∧ cb.size = 4 * min k cut ∧ ca.size = 4 * k ∧ (k ≤ cut → cc = ⟨#[]⟩)
theorem Parts.one {k cut : Nat} {ca cb cc : ByteArray} (h : Parts k cut ca cb cc) (x : Int) (hk : k < cut) : Parts (k + 1) cut (ca ++ numOf 4 x) (cb ++ numOf 4 x) cc := by
  obtain ⟨h1, h2, h3, h4⟩ := h
  have e := h4 (by omega)
  subst e
  rw [empty_right] at h1
  refine ⟨by rw [empty_right, h1], by rw [ByteArray.size_append, num4]; omega, by rw [ByteArray.size_append, num4]; omega, fun _ => rfl⟩
theorem Parts.two {k cut : Nat} {ca cb cc : ByteArray} (h : Parts k cut ca cb cc) (x : Int) (hk : ¬ k < cut) : Parts (k + 1) cut (ca ++ numOf 4 x) cb (cc ++ numOf 4 x) := by
  obtain ⟨h1, h2, h3, h4⟩ := h
  exact ⟨by rw [h1, ByteArray.append_assoc], by omega, by rw [ByteArray.size_append, num4]; omega, fun h => by omega⟩
theorem keep_g {w0 W W' : World} {g h : Nat} {f0 : ByteArray} {f1 f2 : Int} (hI : IsS51 w0 W h f0 f1 f2) (hk : KeepBut W W' g none) (hne : h ≠ g) : IsS51 w0 W' h f0 f1 f2 :=
  ⟨(hk.2 h (IsS51.lt hI) hne (by simp)).trans hI.1, hI.2⟩
theorem cut_head (C s T : ByteArray) (hT : C ++ s = T) : T.extract 0 C.size = C := by
  have h : bytesOf (T.extract 0 (0 + C.size)) = bytesOf C := by
    have e := seg_mid ⟨#[]⟩ C s
    have e2 : (⟨#[]⟩ : ByteArray) ++ C ++ s = T := by rw [← hT]; apply ByteArray.ext; simp
    rw [e2] at e
    rw [bytesOf_cut]; exact e
  rw [Nat.zero_add] at h
  rw [← str_bytesOf (T.extract 0 C.size), h, str_bytesOf]
set_option maxHeartbeats 8000000 in
set_option maxRecDepth 100000 in
theorem kissgatelaw01_OctetParts.walk (P : kissgatelaw01_OctetParts.Pure) (A0 : Option Addr) (c0 : Nat) (l0 : List Int) (a1 : Int) (w : World) (hr0 : Kd.C (Kd.int .i64) w A0 l0.length l0) (hc0 : l0.length ≤ c0) (hw0 : ∀ z ∈ l0, (Lit.int .i64 z).wf = true) (w1 : (Lit.int .i64 a1).wf = true) :
    Calls Try.prog 4 #[.slice A0 l0.length c0, .int .i64 a1] w fun e w' => e = .returned (.bool true) ∧ Below w.heap.size w w' := by
  have HR0 := Aside0.mk hr0
  have HC0 := Aside0.mk hc0
  have hu := Try.underlying27
  clear P hw0 hr0 hc0 w1
  go_enter Try.func4, Try.ntmps4
  go_wp2_with fail
  go_at_call 8
  refine (kissgatelaw01_alive.good w _ (Below.refl _ _)).mono ?_
  rintro e w1 ⟨rfl, hb⟩
  have HB := Aside0.mk hb
  clear hb
  by_cases c1 : (100 : Int) < (l0.length : Int)
  · have c1b : decide ((100 : Int) < (l0.length : Int)) = true := decide_eq_true c1
    clear c1
    go_wp2_with fail
    go_ret
    exact ⟨rfl, HB.out⟩
  have c1b : decide ((100 : Int) < (l0.length : Int)) = false := decide_eq_false c1
  have HL0 := Aside0.mk (show l0.length ≤ 100 by omega)
  clear c1
  by_cases c1 : a1 < 0
  · have c1b : decide (a1 < 0) = true := decide_eq_true c1
    clear c1
    go_wp2_with fail
    go_ret
    exact ⟨rfl, HB.out⟩
  have c2b : decide (a1 < 0) = false := decide_eq_false c1
  have HA0 := Aside0.mk (show 0 ≤ a1 by omega)
  clear c1
  by_cases c1 : (l0.length : Int) < a1
  · have c1b : decide ((l0.length : Int) < a1) = true := decide_eq_true c1
    clear c1
    go_wp2_with fail
    go_ret
    exact ⟨rfl, HB.out⟩
  have c3b : decide ((l0.length : Int) < a1) = false := decide_eq_false c1
  have HA1 := Aside0.mk (show a1 ≤ l0.length by omega)
  clear c1
  obtain ⟨cut, rfl⟩ : ∃ cut : Nat, a1 = (cut : Int) := ⟨a1.toNat, by have := HA0.out; omega⟩
  have HCU := Aside0.mk (show cut ≤ l0.length by have := HA1.out; omega)
  have c3n : decide (l0.length < cut) = false := decide_eq_false (by have := HCU.out; omega)
  go_upto_block 0 with (fail)
  have HT := Aside0.mk (Tri.new HB.out)
  generalize ((w1.alloc (.cells #[.slice none 0 0] 27)).alloc (.cells #[.slice none 0 0] 27)).alloc (.cells #[.slice none 0 0] 27) = W at HT ⊢
  generalize w1.heap.size + 2 = gc at HT ⊢
  generalize w1.heap.size + 1 = gb at HT ⊢
  generalize w1.heap.size = ga at HT ⊢
  go_wp2_with fail
  go_loopw [37] (fun v37 wr => ∃ (k : Nat) (ca cb cc : ByteArray), k ≤ l0.length ∧ v37 = .int .i64 (k : Nat) ∧ Aside0 (Parts k cut ca cb cc) ∧ Aside0 (Tri w.heap.size w wr ga gb gc ca cb cc)) (fun v37 _ => l0.length - (intOf v37).toNat)
  case atStart => exact ⟨0, _, _, _, Nat.zero_le _, rfl, ⟨⟨by rw [empty_right], by rw [Nat.zero_min]; rfl, rfl, fun _ => rfl⟩⟩, HT⟩
  case round =>
    clear HT c1b c2b c3b c3n
    obtain ⟨k, ca, cb, cc, hk, rfl, HP, HT⟩ := hrel
    by_cases hlt : (k : Int) < (l0.length : Int)
    · have hltn : decide (k < l0.length) = true := decide_eq_true (by omega)
      have HK := Aside0.mk (show k < l0.length by omega)
      have E3 := Aside0.mk (show wrap64 ((k : Int) + 1) = ((k + 1 : Nat) : Int) by have := HK.out; have := HL0.out; unfold wrap64; omega)
      obtain ⟨ad0, e0, HX0⟩ := Kd.at_int HR0.out (k : Int) (by omega) hlt
      cases e0
      have p0 := eq_true (show 0 ≤ (k : Int) by omega)
      have q0 := eq_true hlt
      obtain ⟨x, hx⟩ : ∃ x, x = rd l0 (k : Int) := ⟨_, rfl⟩
      rw [← hx] at HX0
      replace HX0 := Aside0.mk (show w.cell? (ad0.add k) = some (.int .i64 x) from HX0)
      have hx0 := (HT.out.below.cell (World.block_lt_of_cell? w _ HX0.out)).trans HX0.out
      clear hlt hk hx
      have HSA := Aside0.mk (show ca.size ≤ 100000 ∧ cb.size ≤ 100000 ∧ cc.size ≤ 100000 by
        have h := HP.out
        have h2 : ca.size = cb.size + cc.size := by rw [h.1, ByteArray.size_append]
        have := h.2.2.1; have := HK.out; have := HL0.out; omega)
      have HN := Aside0.mk (Tri.put HT.out HSA.out.1 4 x)
      go_wp2_with fail
      go_at_call 9
      refine (HN.out).mono ?_
      rintro e w5 ⟨rfl, ht⟩
      have HT := Aside0.mk ht
      clear ht HN hx0
      by_cases ck : k < cut
      · have ckb : decide ((k : Int) < (cut : Int)) = true := decide_eq_true (by omega)
        have ckn : decide (k < cut) = true := decide_eq_true ck
        have HP2 := Aside0.mk (Parts.one HP.out x ck)
        have HN := Aside0.mk (Tri.put HT.out.ba HSA.out.2.1 4 x)
        clear ck
        go_wp2_with fail
        go_at_call 9
        refine (HN.out).mono ?_
        rintro e w5 ⟨rfl, ht⟩
        have HT := Aside0.mk ht.ba
        clear ht HN
        go_wp2_with fail
        rw [E3.out]
        first
          | (go_roundw; case rel => exact ⟨k + 1, _, _, _, HK.out, by first | rfl | rw [E3.out], HP2, HT⟩)
          | (refine ⟨?_, ?measure⟩; exact ⟨k + 1, _, _, _, HK.out, by first | rfl | rw [E3.out], HP2, HT⟩)
        case measure => have := HK.out; simp [intOf]; omega
      · have ckb : decide ((k : Int) < (cut : Int)) = false := decide_eq_false (by omega)
        have ckn : decide (k < cut) = false := decide_eq_false ck
        have HP2 := Aside0.mk (Parts.two HP.out x ck)
        have HN := Aside0.mk (Tri.put HT.out.ca HSA.out.2.2 4 x)
        clear ck
        go_wp2_with fail
        go_at_call 9
        refine (HN.out).mono ?_
        rintro e w5 ⟨rfl, ht⟩
        have HT := Aside0.mk ht.ca
        clear ht HN
        go_wp2_with fail
        rw [E3.out]
        first
          | (go_roundw; case rel => exact ⟨k + 1, _, _, _, HK.out, by first | rfl | rw [E3.out], HP2, HT⟩)
          | (refine ⟨?_, ?measure⟩; exact ⟨k + 1, _, _, _, HK.out, by first | rfl | rw [E3.out], HP2, HT⟩)
        case measure => have := HK.out; simp [intOf]; omega
    · have hltn : decide (k < l0.length) = false := decide_eq_false (by omega)
      have HKE := Aside0.mk hk
      clear hlt hk
      have hkn : k = l0.length := by have := HKE.out; have := of_decide_eq_false hltn; omega
      subst hkn
      obtain ⟨p1, p2, p3, p4⟩ := HP.out
      have p5 : cb.size + cc.size = 4 * l0.length := by rw [← p3, p1, ByteArray.size_append]
      have p6 : cb.size = 4 * cut := by have := HCU.out; omega
      have hz : cb.size + cc.size ≤ 9223372036854775807 := by have := HL0.out; omega
      have HZ := Aside0.mk (And.intro p5 p6)
      subst p1
      clear p2 p3 p4 p5 p6 HP hltn
      have N1 := Aside0.mk (Tri.text HT.out)
      have N2 := Aside0.mk (Tri.text HT.out.ba)
      have N3 := Aside0.mk (Tri.text HT.out.ca)
      have HB := Aside0.mk HT.out.below
      go_wp2_with fail
      go_at_call 12
      refine (N1.out).mono ?_
      rintro e w6 ⟨rfl, rfl⟩
      go_wp2_with fail
      go_at_call 12
      refine (N2.out).mono ?_
      rintro e w6 ⟨rfl, rfl⟩
      go_wp2_with fail
      go_at_call 12
      refine (N3.out).mono ?_
      rintro e w6 ⟨rfl, rfl⟩
      go_wp2_with fail
      go_at_call 12
      refine (N1.out).mono ?_
      rintro e w6 ⟨rfl, rfl⟩
      obtain ⟨T, hT⟩ : ∃ T, cb ++ cc = T := ⟨_, rfl⟩
      have HTT := Aside0.mk hT
      have hTs : T.size = 4 * l0.length := by rw [← hT, ByteArray.size_append]; exact HZ.out.1
      rw [hT] at HT N1 ⊢
      have HTS := Aside0.mk (show T.size ≤ 100000 by have := HL0.out; omega)
      have HTL := Aside0.mk hTs
      clear hT hTs
      go_wp2_with fail
      go_at_call 13
      refine (Open_nice _ HB.out).mono ?_
      rintro e w4 ⟨g1, rfl, hi, hb, hbb⟩
      have HT := Aside0.mk (Tri.later HT.out hbb hb)
      have HI1 := Aside0.mk hi
      have HB := Aside0.mk hb
      clear hi hb hbb
      have N1 := Aside0.mk (Tri.text HT.out)
      go_wp2_with fail
      go_at_call 12
      refine (N1.out).mono ?_
      rintro e w6 ⟨rfl, rfl⟩
      go_wp2_with fail
      go_at_call 13
      refine (Open_new _ HB.out).mono ?_
      rintro e w4 ⟨g2, rfl, hi, hb, hbb, hge⟩
      have HNE := Aside0.mk (show g1 ≠ g2 from Nat.ne_of_lt (Nat.lt_of_lt_of_le (IsS51.lt HI1.out) hge))
      have HI1 := Aside0.mk (IsS51.below HI1.out hbb)
      have HI2 := Aside0.mk hi
      have HB := Aside0.mk hb
      clear hi hb hbb hge HT N1 N2 N3
      have HRD := Aside0.mk (Rd_new T HTS.out)
      have e1 : wrap64 (4 * (l0.length : Int)) = (T.size : Int) := by have := HTL.out; have := HL0.out; unfold wrap64; omega
      have e2 : wrap64 (4 * (cut : Int)) = (cb.size : Int) := by have := HZ.out.2; have := HL0.out; have := HCU.out; unfold wrap64; omega
      have e4 : wrap64 ((l0.length : Int) - (cut : Int)) = ((l0.length - cut : Nat) : Int) := by have := HL0.out; have := HCU.out; unfold wrap64; omega
      have e5 : wrap64 (4 * ((l0.length - cut : Nat) : Int)) = (cc.size : Int) := by have := HZ.out; have := HL0.out; have := HCU.out; unfold wrap64; omega
      have E1 := Aside0.mk e1
      have E2 := Aside0.mk e2
      have E4 := Aside0.mk e4
      have E5 := Aside0.mk e5
      have HS3 := Aside0.mk (show T.size = cb.size + cc.size by rw [← HTT.out, ByteArray.size_append])
      have V1 := Aside0.mk (show rdV T 0 (-1) (T.size : Int) = T ∧ rdI T 0 (-1) (T.size : Int) = (T.size : Int) ∧ rdF T 0 (-1) (T.size : Int) = -1 by
        have ok : okB T 0 (-1) (T.size : Int) := ⟨rfl, by omega, by omega⟩
        refine ⟨?_, by unfold rdI; rw [if_pos ok]; omega, by unfold rdF; rw [if_pos rfl, if_pos ok]⟩
        unfold rdV
        rw [if_pos ok, show (0 : Int).toNat = 0 from rfl, show ((0 : Int) + (T.size : Int)).toNat = T.size by omega]
        exact cut_head T ⟨#[]⟩ T (empty_right T))
      have V2 := Aside0.mk (show rdV T 0 (-1) (cb.size : Int) = cb ∧ rdI T 0 (-1) (cb.size : Int) = (cb.size : Int) ∧ rdF T 0 (-1) (cb.size : Int) = -1 by
        have ok : okB T 0 (-1) (cb.size : Int) := ⟨rfl, by omega, by have := HS3.out; omega⟩
        refine ⟨?_, by unfold rdI; rw [if_pos ok]; omega, by unfold rdF; rw [if_pos rfl, if_pos ok]⟩
        unfold rdV
        rw [if_pos ok, show (0 : Int).toNat = 0 from rfl, show ((0 : Int) + (cb.size : Int)).toNat = cb.size by omega]
        exact cut_head cb cc T HTT.out)
      have V3 := Aside0.mk (show rdV T (cb.size : Int) (-1) (cc.size : Int) = cc ∧ rdI T (cb.size : Int) (-1) (cc.size : Int) = (T.size : Int) ∧ rdF T (cb.size : Int) (-1) (cc.size : Int) = -1 by
        have ok : okB T (cb.size : Int) (-1) (cc.size : Int) := ⟨rfl, by omega, by have := HS3.out; omega⟩
        refine ⟨?_, by unfold rdI; rw [if_pos ok]; have := HS3.out; omega, by unfold rdF; rw [if_pos rfl, if_pos ok]⟩
        unfold rdV
        rw [if_pos ok, Int.toNat_natCast, show ((cb.size : Int) + (cc.size : Int)).toNat = cb.size + cc.size by omega]
        exact cut_tail cb cc T HTT.out)
      have HRB := Aside0.mk (show Rd T (cb.size : Int) (-1) from ⟨HTS.out, by omega, by have := HS3.out; omega, .inl rfl⟩)
      have HRT := Aside0.mk (show Rd T (T.size : Int) (-1) from ⟨HTS.out, by omega, by omega, .inl rfl⟩)
      have HTE := HTT.out
      have N1 := Aside0.mk (Raw_nice HI1.out HB.out HRD.out (T.size : Int))
      go_wp2_with fail
      (try rw [E1.out])
      go_at_call 14
      refine (N1.out).mono ?_
      rw [V1.out.1, V1.out.2.1, V1.out.2.2]
      rintro e w6 ⟨rfl, hi, hb, hk⟩
      have HI2 := Aside0.mk (keep_g HI2.out hk (Ne.symm HNE.out))
      have HI1 := Aside0.mk hi
      have HB := Aside0.mk hb
      clear hi hb hk
      have N1 := Aside0.mk (Raw_nice HI2.out HB.out HRD.out (cb.size : Int))
      go_wp2_with fail
      (try rw [E2.out])
      go_at_call 14
      refine (N1.out).mono ?_
      rw [V2.out.1, V2.out.2.1, V2.out.2.2]
      rintro e w6 ⟨rfl, hi, hb, hk⟩
      have HI1 := Aside0.mk (keep_g HI1.out hk HNE.out)
      have HI2 := Aside0.mk hi
      have HB := Aside0.mk hb
      clear hi hb hk
      have N1 := Aside0.mk (Raw_nice HI2.out HB.out HRB.out (cc.size : Int))
      go_wp2_with fail
      (try rw [E4.out])
      (try rw [E5.out])
      go_at_call 14
      refine (N1.out).mono ?_
      rw [V3.out.1, V3.out.2.1, V3.out.2.2]
      rintro e w6 ⟨rfl, hi, hb, hk⟩
      have HI1 := Aside0.mk (keep_g HI1.out hk HNE.out)
      have HI2 := Aside0.mk hi
      have HB := Aside0.mk hb
      clear hi hb hk
      have N1 := Aside0.mk (End_nice HI1.out HB.out HRT.out)
      go_wp2_with fail
      go_at_call 15
      refine (N1.out).mono ?_
      rw [show endV T (T.size : Int) (-1) = 0 from if_pos ⟨rfl, rfl⟩]
      rintro e w6 ⟨rfl, hi, hb, hk⟩
      have HI2 := Aside0.mk (keep_g HI2.out hk (Ne.symm HNE.out))
      have HB := Aside0.mk hb
      clear hi hb hk
      have N1 := Aside0.mk (End_nice HI2.out HB.out HRT.out)
      go_wp2_with fail
      go_at_call 15
      refine (N1.out).mono ?_
      rw [show endV T (T.size : Int) (-1) = 0 from if_pos ⟨rfl, rfl⟩]
      rintro e w6 ⟨rfl, hi, hb, hk⟩
      have HB := Aside0.mk hb
      clear hi hb hk
      go_wp2_with fail
      go_ret
      exact ⟨by first | rfl | simp, HB.out⟩


end Go.Proofs.Ytkjkcmcfbnamaaa.POctetParts
