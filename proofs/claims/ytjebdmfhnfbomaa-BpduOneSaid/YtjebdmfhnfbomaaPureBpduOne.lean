/- Unlike BPDUs have unlike bytes, all of one length. -/
import Derived.Test.YtjebdmfhnfbomaaPBpduOnex3
import Derived.Test.YtjebdmfhnfbomaaWr
import Derived.Laws.BitsLemmas
import Derived.OpenShut
import Derived.Laws.Strings
namespace Go.Proofs.Ytjebdmfhnfbomaa.Pure
open Go.RowKit Go.Proofs.Ytjebdmfhnfbomaa.PBpduOne Go.Proofs.YtjebdmfhnfbomaaW.PrintWords Go.Proofs.YtjebdmfhnfbomaaW.PrintLast Go.Proofs.YtjebdmfhnfbomaaW.PrintMore


theorem wrap_id {n : Int} (h0 : -9223372036854775808 ≤ n) (h1 : n ≤ 9223372036854775807) : wrap64 n = n := by unfold wrap64; omega
theorem wrap_one (t : Nat) (h : t ≤ 100000000) : wrap64 ((t : Int) + 1) = ((t + 1 : Nat) : Int) := by rw [wrap_id (by omega) (by omega)]; omega
theorem wraps_i64 (n : Int) (h0 : 0 ≤ n) (h1 : n < 2 ^ 63) : IntKind.i64.wrap n = n := by rw [IntKind.wrap_i64]; omega
theorem str_size (xs : List Int) : (strOfNums xs).size = xs.length := by simp [strOfNums, ByteArray.size]
theorem str_append (xs ys : List Int) : strOfNums xs ++ strOfNums ys = strOfNums (xs ++ ys) := by
  apply ByteArray.ext
  simp [strOfNums]
theorem toList_append (a b : ByteArray) : (a ++ b).toList = a.toList ++ b.toList := by
  rw [ByteArray.toList_eq, ByteArray.toList_eq, ByteArray.toList_eq]; simp
theorem toList_inj {a b : ByteArray} (h : a.toList = b.toList) : a = b := by
  rw [ByteArray.toList_eq, ByteArray.toList_eq] at h
  exact ByteArray.ext (Array.toList_inj.1 h)

/-! ### Numbers as bytes -/
open Wr (putBytes numOf)
theorem putBytes_length (a : Int) : ∀ k, (putBytes a k).length = k
  | 0 => rfl
  | k + 1 => by simp [putBytes, putBytes_length a k]
theorem putBytes_small (a : Int) : ∀ k, ∀ x ∈ putBytes a k, 0 ≤ x ∧ x < 256
  | 0 => fun x h => by simp [putBytes] at h
  | k + 1 => fun x h => by
    simp only [putBytes, List.mem_cons] at h
    rcases h with rfl | h
    · omega
    · exact putBytes_small a k x h

/-- The value of bytes, the highest first. -/
def val (xs : List Int) : Int := xs.foldl (fun n x => n * 256 + x) 0
theorem val_from (xs : List Int) : ∀ n : Int, xs.foldl (fun n x => n * 256 + x) n = n * 256 ^ xs.length + val xs := by
  induction xs with
  | nil => intro n; simp [val]
  | cons x xs ih =>
    intro n
    unfold val
    rw [List.foldl_cons, List.foldl_cons, ih, ih (0 * 256 + x), List.length_cons, Int.pow_succ, Int.zero_mul, Int.zero_add, Int.add_mul]
    rw [show n * (256 ^ xs.length * 256) = n * 256 * 256 ^ xs.length by rw [Int.mul_comm (256 ^ xs.length) 256, Int.mul_assoc]]
    omega
theorem val_cons (x : Int) (xs : List Int) : val (x :: xs) = x * 256 ^ xs.length + val xs := by
  have := val_from xs x
  unfold val at this ⊢
  rw [List.foldl_cons, Int.zero_mul, Int.zero_add]; exact this
theorem val_range {xs : List Int} (h : ∀ x ∈ xs, 0 ≤ x ∧ x < 256) : 0 ≤ val xs ∧ val xs < 256 ^ xs.length := by
  induction xs with
  | nil => simp [val]
  | cons x xs ih =>
    have ih := ih (fun y hy => h y (by simp [hy]))
    have hx := h x (by simp)
    rw [val_cons, List.length_cons, Int.pow_succ]
    have h1 : (x + 1) * 256 ^ xs.length ≤ 256 * 256 ^ xs.length := Int.mul_le_mul_of_nonneg_right (by omega) (Int.le_of_lt (Int.pow_pos (by decide)))
    have h2 : 0 ≤ x * 256 ^ xs.length := Int.mul_nonneg hx.1 (Int.le_of_lt (Int.pow_pos (by decide)))
    rw [Int.add_mul, Int.one_mul] at h1
    generalize 256 ^ xs.length = z at *
    omega
theorem pow_two_eight (k : Nat) : (2 : Int) ^ (8 * k) = 256 ^ k := by rw [Int.pow_mul]; rfl
theorem emod_step (a z : Int) (hp : 0 < z) : a / z % 256 * z + a % z = a % (z * 256) := by
  have e1 : a % z + z * (a / z) = a := Int.emod_add_mul_ediv a z
  have hr0 : 0 ≤ a % z := Int.emod_nonneg a (Int.ne_of_gt hp)
  have hr1 : a % z < z := Int.emod_lt_of_pos a hp
  have hq : a / z = a / z % 256 + 256 * (a / z / 256) := (Int.emod_add_mul_ediv (a / z) 256).symm
  have hd0 : 0 ≤ a / z % 256 := by omega
  have hd1 : a / z % 256 < 256 := by omega
  revert e1 hr0 hr1 hq hd0 hd1
  generalize a / z % 256 = d
  generalize a / z / 256 = u
  generalize a % z = r
  generalize a / z = q
  intro e1 hr0 hr1 hq hd0 hd1
  subst hq
  subst e1
  rw [Int.mul_add, ← Int.mul_assoc z 256 u, Int.mul_comm z d, ← Int.add_assoc, Int.add_mul_emod_self_left]
  have h4 : 0 ≤ d * z := Int.mul_nonneg hd0 (Int.le_of_lt hp)
  have h6 : (d + 1) * z ≤ 256 * z := Int.mul_le_mul_of_nonneg_right hd1 (Int.le_of_lt hp)
  rw [Int.add_mul, Int.one_mul, Int.mul_comm 256 z] at h6
  rw [Int.emod_eq_of_lt (by omega) (by omega)]
  omega
theorem val_put (a : Int) : ∀ k, val (putBytes a k) = a % 256 ^ k
  | 0 => by simp [putBytes, val]
  | k + 1 => by
    rw [putBytes, val_cons, val_put a k, putBytes_length, pow_two_eight, Int.pow_succ]
    exact emod_step a _ (Int.pow_pos (by decide))
theorem put_val : ∀ {xs : List Int}, (∀ x ∈ xs, 0 ≤ x ∧ x < 256) → putBytes (val xs) xs.length = xs := by
  intro xs
  induction xs with
  | nil => intro _; rfl
  | cons x xs ih =>
    intro h
    have hx := h x (by simp)
    have hr := val_range (xs := xs) (fun y hy => h y (List.mem_cons_of_mem _ hy))
    have hp : (0 : Int) < 256 ^ xs.length := Int.pow_pos (by decide)
    rw [List.length_cons, putBytes, pow_two_eight, val_cons]
    have e1 : (x * 256 ^ xs.length + val xs) / 256 ^ xs.length % 256 = x := by
      rw [Int.add_comm, Int.add_mul_ediv_right _ _ (Int.ne_of_gt hp), Int.ediv_eq_zero_of_lt hr.1 hr.2]; omega
    rw [e1]
    congr 1
    have e2 : ∀ k, k ≤ xs.length → putBytes (x * 256 ^ xs.length + val xs) k = putBytes (val xs) k := by
      intro k
      induction k with
      | zero => intro _; rfl
      | succ k ihk =>
        intro hk
        rw [putBytes, putBytes, ihk (by omega), pow_two_eight]
        congr 1
        obtain ⟨m, hm⟩ : ∃ m, xs.length = k + 1 + m := ⟨xs.length - (k + 1), by omega⟩
        have e3 : x * 256 ^ xs.length = (x * 256 ^ m * 256) * 256 ^ k := by rw [hm, Int.pow_add, Int.pow_succ]; simp only [Int.mul_assoc, Int.mul_comm, Int.mul_left_comm]
        rw [e3, Int.add_comm, Int.add_mul_ediv_right _ _ (Int.ne_of_gt (Int.pow_pos (by decide)))]
        omega
    rw [e2 _ (Nat.le_refl _)]
    exact ih (fun y hy => h y (by simp [hy]))
theorem put_inj {a b : Int} {k : Nat} (h : putBytes a k = putBytes b k) : a % 256 ^ k = b % 256 ^ k := by rw [← val_put, ← val_put, h]
theorem put_congr {a b : Int} : ∀ {k : Nat}, a % 256 ^ k = b % 256 ^ k → putBytes a k = putBytes b k := by
  intro k h
  have ha := putBytes_small a k
  have hb := putBytes_small b k
  have e1 := put_val ha
  have e2 := put_val hb
  rw [putBytes_length, val_put] at e1 e2
  rw [← e1, ← e2, h]

theorem mx_of_lt {a b : Int} (h : a < b) : mx a b = b := by unfold mx; rw [if_pos h]
theorem mx_of_ge {a b : Int} (h : b ≤ a) : mx a b = a := by unfold mx; rw [if_neg (by omega)]
theorem mn_of_gt {a b : Int} (h : b < a) : mn a b = b := by unfold mn; rw [if_pos h]
theorem mn_of_le {a b : Int} (h : a ≤ b) : mn a b = a := by unfold mn; rw [if_neg (by omega)]
def szOf (size : Int) : Nat := (mn (mx size 1) 8).toNat
theorem numOf_eq (size a : Int) : numOf size a = strOfNums (putBytes a (szOf size)) := rfl

theorem digit64 (n : Int) (i : Nat) (hi : i < 8) : n % 18446744073709551616 / 256 ^ i % 256 = n / 2 ^ (8 * i) % 256 := by
  rw [pow_two_eight]
  have hc : i = 0 ∨ i = 1 ∨ i = 2 ∨ i = 3 ∨ i = 4 ∨ i = 5 ∨ i = 6 ∨ i = 7 := by omega
  rcases hc with rfl | rfl | rfl | rfl | rfl | rfl | rfl | rfl <;> omega

theorem szOf_lo {size : Int} (h : size < 1) : szOf size = 1 := by unfold szOf; rw [mx_of_lt h]; rfl
theorem szOf_hi {size : Int} (h : 8 < size) : szOf size = 8 := by unfold szOf; rw [mx_of_ge (by omega), mn_of_gt h]; rfl
theorem szOf_mid {size : Int} (h : 1 ≤ size) (h8 : size ≤ 8) : ((szOf size : Nat) : Int) = size := by unfold szOf; rw [mx_of_ge h, mn_of_le h8]; omega
theorem szOf_le (size : Int) : szOf size ≤ 8 := by
  by_cases h1 : size < 1
  · rw [szOf_lo h1]; decide
  · by_cases h2 : 8 < size
    · rw [szOf_hi h2]; decide
    · have := szOf_mid (show 1 ≤ size by omega) (by omega); omega

theorem take_snoc (l : List Int) (j : Nat) (h : j < l.length) : l.take (j + 1) = l.take j ++ [l.getD j 0] := by
  rw [List.take_succ_eq_append_getElem h, List.getD_eq_getElem?_getD, List.getElem?_eq_getElem h]; rfl


/-! ### The reader -/
/-- n bytes of s from place i on. -/
def seg (s : ByteArray) (i n : Nat) : List Int := ((bytesOf s).drop i).take n
theorem seg_length (s : ByteArray) (i n : Nat) (h : i + n ≤ s.size) : (seg s i n).length = n := by
  unfold seg; rw [List.length_take, List.length_drop, bytesOf_length]; omega
theorem bytesOf_small (s : ByteArray) : ∀ x ∈ bytesOf s, 0 ≤ x ∧ x < 256 := by
  intro x hx
  simp only [bytesOf, List.mem_map] at hx
  obtain ⟨b, -, rfl⟩ := hx
  have := b.toNat_lt; omega
theorem seg_small (s : ByteArray) (i n : Nat) : ∀ x ∈ seg s i n, 0 ≤ x ∧ x < 256 := fun x hx =>
  bytesOf_small s x (List.mem_of_mem_drop (List.mem_of_mem_take hx))
theorem bytesOf_cut (s : ByteArray) (i n : Nat) : bytesOf (s.extract i (i + n)) = seg s i n := by
  unfold seg bytesOf
  rw [ByteArray.data_extract, Array.toList_extract, List.extract_eq_take_drop, List.map_take, List.map_drop]
  congr 1; omega
theorem or_8 (x y : Int) (h0 : 0 ≤ x) (h1 : x < 2 ^ 55) (k0 : 0 ≤ y) (k1 : y < 256) : Go.bits .or .i64 (wrap64 (x * 256)) (wrap64 y) = x * 256 + y := by
  rw [wrap_id (by omega) (by omega), wrap_id (by omega) (by omega)]
  exact bits_join .i64 63 (by decide) wraps_i64 8 (x * 256) y (by omega) (by omega) (by omega) k0 k1 (by omega)
theorem val_snoc (xs : List Int) (x : Int) : val (xs ++ [x]) = val xs * 256 + x := by
  unfold val; rw [List.foldl_append]; rfl
theorem pow_le_55 (j : Nat) (h : j ≤ 6) : (256 : Int) ^ j ≤ 2 ^ 48 := by
  rw [← pow_two_eight]
  have : (2 : Nat) ^ (8 * j) ≤ 2 ^ 48 := Nat.pow_le_pow_right (by decide) (by omega)
  exact_mod_cast this
theorem mnmx7 (n : Nat) (h1 : 1 ≤ n) (h7 : n ≤ 7) : mn (mx (n : Int) 1) 7 = (n : Int) := by rw [mx_of_ge (by omega), mn_of_le (by omega)]
/-- A reader's state: it reads from i on, or it has failed. -/
def Rs (s : ByteArray) (i : Nat) (b : Int) : Prop := i ≤ s.size ∧ (b = -1 ∨ 0 ≤ b)

/-! ### The reading of a BPDU -/
/-- The numbers of n bytes each from i on are those of xs. -/
def Mt (s : ByteArray) (n : Nat) : Nat → List Int → Prop
  | _, [] => True
  | i, x :: xs => i + n ≤ s.size ∧ val (seg s i n) = x ∧ Mt s n (i + n) xs
theorem and_12 (x : Int) (h0 : 0 ≤ x) (h1 : x < 2 ^ 63) : Go.bits .and .i64 x 4095 = x % 4096 := bits_mask .i64 63 (by decide) wraps_i64 12 (by decide) x h0 h1
theorem and_8 (x : Int) (h0 : 0 ≤ x) (h1 : x < 2 ^ 63) : Go.bits .and .i64 x 255 = x % 256 := bits_mask .i64 63 (by decide) wraps_i64 8 (by decide) x h0 h1
theorem seg_val (s : ByteArray) (i n : Nat) (h : i + n ≤ s.size) : 0 ≤ val (seg s i n) ∧ val (seg s i n) < 256 ^ n := by
  have := val_range (seg_small s i n)
  rwa [seg_length s i n h] at this
/-- A bridge's name out of its eight bytes. -/
def idOf (s : ByteArray) (i : Nat) : Int := val (seg s i 2) / 4096 * 281474976710656 + val (seg s (i + 2) 6)
def IdOk (s : ByteArray) (i : Nat) : Prop := i + 8 ≤ s.size ∧ val (seg s i 2) % 4096 = 0

theorem and_one (x : Int) (h0 : 0 ≤ x) (h1 : x < 2 ^ 63) : Go.bits .and .i64 x 1 = x % 2 :=
  bits_mask .i64 63 (by decide) wraps_i64 1 (by decide) x h0 h1
theorem and_48 (x : Int) (h0 : 0 ≤ x) (h1 : x < 2 ^ 63) : Go.bits .and .i64 x 281474976710655 = x % 281474976710656 :=
  bits_mask .i64 63 (by decide) wraps_i64 48 (by decide) x h0 h1
theorem or_48 (x y : Int) (h0 : 0 ≤ x) (h1 : x < 2 ^ 63) (hx : x % 281474976710656 = 0) (k0 : 0 ≤ y) (k1 : y < 281474976710656) : Go.bits .or .i64 x y = x + y :=
  bits_join .i64 63 (by decide) wraps_i64 48 x y h0 hx h1 k0 k1 (by omega)
theorem good_is (a : Int) : addr_Good.f a = some (decide (0 ≤ a ∧ a ≤ 281474976710655)) := by
  unfold addr_Good.f
  by_cases h : a ≥ 0
  · rw [if_pos h]; congr 1; rw [decide_eq_decide]; omega
  · rw [if_neg h]; congr 1; symm; rw [decide_eq_false_iff_not]; omega

theorem rgood_is (a : Int) : kissgateref02_Good.f a = some (decide (0 ≤ a ∧ a ≤ 281474976710655)) := by
  unfold kissgateref02_Good.f
  by_cases h : a ≥ 0
  · rw [if_pos h]; congr 1; rw [decide_eq_decide]; omega
  · rw [if_neg h]; congr 1; symm; rw [decide_eq_false_iff_not]; omega

def many (a : Int) : Bool := decide (0 ≤ a ∧ a ≤ 281474976710655 ∧ a / 1099511627776 % 2 = 1)

theorem many_is (a : Int) : addr_Many.f a = some (many a) := by
  unfold addr_Many.f many
  rw [good_is]; simp only [Option.bind_some]
  by_cases h : 0 ≤ a ∧ a ≤ 281474976710655
  · rw [if_pos (by simpa using h), and_one _ (by omega) (by omega)]
    congr 1
    rw [Bool.eq_iff_iff]; simp; omega
  · rw [if_neg (by simpa using h)]; congr 1; symm; rw [decide_eq_false_iff_not]; omega

theorem rmany_is (a : Int) : kissgateref02_Many.f a = some (many a) := by
  unfold kissgateref02_Many.f many
  rw [rgood_is]; simp only [Option.bind_some]
  by_cases h : 0 ≤ a ∧ a ≤ 281474976710655
  · rw [if_pos (by simpa using h)]
    have e : Int.tmod (wrap64 (Int.tdiv a 1099511627776)) 2 = a / 1099511627776 % 2 := by
      rw [Int.tdiv_eq_ediv_of_nonneg h.1]
      have : wrap64 (a / 1099511627776) = a / 1099511627776 := by unfold wrap64; omega
      rw [this, Int.tmod_eq_emod_of_nonneg (by omega)]
    rw [e]; congr 1
    rw [Bool.eq_iff_iff]; simp; omega
  · rw [if_neg (by simpa using h)]; congr 1; symm; rw [decide_eq_false_iff_not]; omega

def bridge (a : Int) : Bool := decide (0 < a ∧ a / 281474976710656 ≤ 15) && !many (a % 281474976710656)

theorem bridge_is (a : Int) (ha : a < 2 ^ 63) : bpdu_Bridge.f a = some (bridge a) := by
  unfold bpdu_Bridge.f bridge
  by_cases h : a > 0
  · rw [if_pos h]
    by_cases h2 : a / 281474976710656 ≤ 15
    · rw [if_pos h2, and_48 _ (by omega) ha, many_is]; simp [h, h2]
    · rw [if_neg h2]; simp [h2]
  · rw [if_neg h]; simp [h]

theorem rbridge_is (a : Int) (ha : a < 2 ^ 63) : kissgateref08_Bridge.f a = some (bridge a) := by
  unfold kissgateref08_Bridge.f bridge
  by_cases h : a ≤ 0
  · rw [if_pos h]; have : ¬ 0 < a := by omega
    simp [this]
  · rw [if_neg h, Int.tdiv_eq_ediv_of_nonneg (by omega), Int.tmod_eq_emod_of_nonneg (by omega)]
    have e : wrap64 (a / 281474976710656) = a / 281474976710656 := by unfold wrap64; omega
    have h' : 0 < a := by omega
    rw [e]
    by_cases h2 : a / 281474976710656 > 15
    · rw [if_pos h2]; have : ¬ a / 281474976710656 ≤ 15 := by omega
      simp [this]
    · rw [if_neg h2, rmany_is]; have : a / 281474976710656 ≤ 15 := by omega
      simp [h', this]


theorem alive_ev : Ev (fun k => kissgatelaw08_alive.f k) true := by
  unfold kissgatelaw08_alive.f
  refine Ev.bind (a := 281474976710658) ?_ (Ev.congr (fun k => ?_) (Ev.now true))
  · have e : many 2 = false := by decide
    unfold bpdu_Id.f
    refine Ev.congr (f := fun k => bpdu_Id.j0 k 1 2 false) (fun k => ?_) ?_
    · rw [if_neg (by decide), if_neg (by decide), good_is, many_is, e]; rfl
    · refine Ev.step (f := fun _ => some 281474976710658) (fun k => ?_) (Ev.now _)
      simp only [bpdu_Id.j0]
      rw [if_neg (by decide), show wrap64 (1 * 281474976710656) = 281474976710656 by decide +kernel, or_48 _ _ (by decide) (by decide) (by decide) (by decide) (by decide)]
      rfl
  · rw [if_pos rfl, bridge_is _ (by decide)]
    show some (bridge 1) = some true
    rw [show bridge 1 = true by decide]
theorem ite_dec {p q : Prop} [Decidable p] [Decidable q] : (if p then some (decide q) else some false) = some (decide (p ∧ q)) := by
  by_cases h : p
  · rw [if_pos h]; congr 1; rw [decide_eq_decide]; exact ⟨fun x => ⟨h, x⟩, fun x => x.2⟩
  · rw [if_neg h]; congr 1; symm; rw [decide_eq_false_iff_not]; exact fun x => h x.1
/-- What a BPDU's fields must be. -/
def Gd (a b c d e f : Int) : Prop := bridge a = true ∧ bridge c = true ∧ 0 ≤ b ∧ b ≤ 2147483647 ∧ 0 ≤ d ∧ d ≤ 5 ∧ 0 ≤ e ∧ e ≤ 10 ∧ 0 ≤ f ∧ f ≤ 3
instance (a b c d e f : Int) : Decidable (Gd a b c d e f) := by unfold Gd; infer_instance
theorem bgood_is (a b c d e f : Int) (g : Bool) (ha : a < 2 ^ 63) (hc : c < 2 ^ 63) : bpdu_Good.f a b c d e f g = some (decide (Gd a b c d e f)) := by
  unfold bpdu_Good.f
  rw [bridge_is a ha, bridge_is c hc]
  simp only [Option.bind_some, ite_dec]
  congr 1
  rw [decide_eq_decide]
  exact ⟨fun ⟨h1, h2, h3, h4, h5, h6, h7, h8, h9, h10⟩ => ⟨h1, h2, h3, by omega, h5, by omega, h7, h8, h9, h10⟩, fun ⟨h1, h2, h3, h4, h5, h6, h7, h8, h9, h10⟩ => ⟨h1, h2, h3, by omega, h5, by omega, h7, h8, h9, h10⟩⟩
theorem rgood8_is (a b c d e f : Int) (g : Bool) (ha : a < 2 ^ 63) (hc : c < 2 ^ 63) : kissgateref08_Good.f a b c d e f g = some (decide (Gd a b c d e f)) := by
  unfold kissgateref08_Good.f
  rw [rbridge_is a ha, rbridge_is c hc]
  simp only [Option.bind_some, ite_dec]
  congr 1
  rw [decide_eq_decide]
  exact ⟨fun ⟨h1, h2, h3, h4, h5, h6, h7, h8, h9, h10⟩ => ⟨h1, h2, h3, by omega, h5, by omega, h7, h8, h9, h10⟩, fun ⟨h1, h2, h3, h4, h5, h6, h7, h8, h9, h10⟩ => ⟨h1, h2, h3, by omega, h5, by omega, h7, h8, h9, h10⟩⟩

theorem flag_two (x : Int) (h0 : 0 ≤ x) (h1 : x < 256) : Go.bits .and .i64 x 2 = 0 ↔ x / 2 % 2 = 0 := by
  obtain ⟨n, rfl⟩ := Int.eq_ofNat_of_zero_le h0
  have key : ∀ m : Fin 256, Go.bits .and .i64 (m.val : Int) 2 = 0 ↔ (m.val : Int) / 2 % 2 = 0 := by decide +kernel
  exact key ⟨n, by omega⟩
theorem chain {b1 b2 : Int} {i1 n : Nat} {C : Prop} (Q : Nat → Prop) (c1 : b1 = -1 ↔ C) (p1 : b1 = -1 → i1 = n) (f2 : b2 = -1 ↔ b1 = -1 ∧ Q i1) : b2 = -1 ↔ C ∧ Q n := by
  constructor
  · intro e
    obtain ⟨e1, e2⟩ := f2.1 e
    rw [p1 e1] at e2
    exact ⟨c1.1 e1, e2⟩
  · intro ⟨x, y⟩
    refine f2.2 ⟨c1.2 x, ?_⟩
    rw [p1 (c1.2 x)]; exact y
def RdC (s : ByteArray) : Prop := (((((((((True ∧ Mt s 2 0 [0]) ∧ Mt s 1 2 [2, 2]) ∧ 4 + 1 ≤ s.size) ∧ IdOk s 5) ∧ 13 + 4 ≤ s.size) ∧ IdOk s 17) ∧ 25 + 2 ≤ s.size) ∧ 27 + 2 ≤ s.size) ∧ Mt s 2 29 [2560, 512, 1024]) ∧ Mt s 1 35 [0]
def flags (s : ByteArray) : Int := val (seg s 4 1)
def cost (s : ByteArray) : Int := val (seg s 13 4)
def port (s : ByteArray) : Int := val (seg s 25 2) - 1
def age (s : ByteArray) : Int := val (seg s 27 2)
/-- The bytes are those of a BPDU. -/
def RdOk (s : ByteArray) : Prop := s.size = 36 ∧ RdC s ∧ flags s / 2 % 2 = 0 ∧ age s % 256 = 0 ∧ Gd (idOf s 5) (cost s) (idOf s 17) (port s) (age s / 256) (flags s / 4)
def RdVal (s : ByteArray) : Int × Int × Int × Int × Int × Int × Bool × Int := (idOf s 5, cost s, idOf s 17, port s, age s / 256, flags s / 4, flags s % 2 == 1, 0)
theorem idOf_lt (s : ByteArray) (i : Nat) (h : i + 8 ≤ s.size) : 0 ≤ idOf s i ∧ idOf s i < 2 ^ 62 := by
  have r1 := seg_val s i 2 (by omega)
  have r2 := seg_val s (i + 2) 6 (by omega)
  unfold idOf; omega

/-! ### The bytes of a BPDU -/
def name8 (a : Int) : List Int := putBytes (a / 281474976710656 * 4096) 2 ++ putBytes (a % 281474976710656) 6
def txt (a b c d e f : Int) (g : Bool) : List Int :=
  [0, 0, 2, 2] ++ putBytes (4 * f + (if g = true then 1 else 0)) 1 ++ name8 a ++ putBytes b 4 ++ name8 c ++ putBytes (d + 1) 2 ++ putBytes (e * 256) 2 ++ [10, 0, 2, 0, 4, 0, 0]
theorem bridge_lt {a : Int} (h : bridge a = true) : 0 < a ∧ a < 4503599627370496 := by
  unfold bridge at h; simp only [Bool.and_eq_true, decide_eq_true_eq] at h; omega
theorem Gd.lt {a b c d e f : Int} (h : Gd a b c d e f) : (0 < a ∧ a < 4503599627370496) ∧ (0 < c ∧ c < 4503599627370496) := ⟨bridge_lt h.1, bridge_lt h.2.1⟩
theorem num_str (n : Int) (m : Nat) (h : m = 1 ∨ m = 2 ∨ m = 4 ∨ m = 6) : numOf (m : Int) n = strOfNums (putBytes n m) := by
  rw [numOf_eq]
  rcases h with rfl | rfl | rfl | rfl <;> rfl
theorem name8_length (a : Int) : (name8 a).length = 8 := by unfold name8; rw [List.length_append, putBytes_length, putBytes_length]
theorem seg_split (s : ByteArray) (i m n : Nat) : seg s i (m + n) = seg s i m ++ seg s (i + m) n := by
  unfold seg
  rw [List.take_add, List.drop_drop]
theorem seg_all (s : ByteArray) : seg s 0 s.size = bytesOf s := by
  unfold seg; rw [List.drop_zero, List.take_of_length_le (by rw [bytesOf_length]; exact Nat.le_refl _)]
theorem seg_put (s : ByteArray) (i n : Nat) (h : i + n ≤ s.size) : putBytes (val (seg s i n)) n = seg s i n := by
  have := put_val (seg_small s i n)
  rwa [seg_length s i n h] at this
theorem Mt.put {s : ByteArray} {n : Nat} {x : Int} {i : Nat} {xs : List Int} (h : Mt s n i (x :: xs)) : seg s i n = putBytes x n ∧ Mt s n (i + n) xs := by
  obtain ⟨h1, h2, h3⟩ := h
  exact ⟨by rw [← h2, seg_put s i n h1], h3⟩
theorem idOf_name (s : ByteArray) (i : Nat) (h : IdOk s i) : name8 (idOf s i) = seg s i 8 := by
  obtain ⟨h1, h2⟩ := h
  have r1 := seg_val s i 2 (by omega)
  have r2 := seg_val s (i + 2) 6 (by omega)
  have e1 : idOf s i / 281474976710656 * 4096 = val (seg s i 2) := by unfold idOf; omega
  have e2 : idOf s i % 281474976710656 = val (seg s (i + 2) 6) := by unfold idOf; omega
  unfold name8
  rw [e1, e2, seg_put s i 2 (by omega), seg_put s (i + 2) 6 (by omega)]
  exact (seg_split s i 2 6).symm
theorem RdOk.text {s : ByteArray} (h : RdOk s) : strOfNums (txt (idOf s 5) (cost s) (idOf s 17) (port s) (age s / 256) (flags s / 4) (flags s % 2 == 1)) = s := by
  obtain ⟨hz, ⟨⟨⟨⟨⟨⟨⟨⟨⟨⟨-, m1⟩, m2⟩, -⟩, m4⟩, -⟩, m6⟩, -⟩, -⟩, m9⟩, m10⟩, q1, q2, -⟩ := h
  obtain ⟨s1, -⟩ := m1.put
  obtain ⟨s2, m2⟩ := m2.put
  obtain ⟨s3, -⟩ := m2.put
  obtain ⟨s4, m9⟩ := m9.put
  obtain ⟨s5, m9⟩ := m9.put
  obtain ⟨s6, -⟩ := m9.put
  obtain ⟨s7, -⟩ := m10.put
  have r3 : 0 ≤ flags s ∧ flags s < 256 := seg_val s 4 1 (by omega)
  have e3 : 4 * (flags s / 4) + (if (flags s % 2 == 1) = true then 1 else 0) = flags s := by
    by_cases h : flags s % 2 = 1
    · rw [if_pos (by simpa using h)]; omega
    · rw [if_neg (by simpa using h)]; omega
  have e7 : port s + 1 = val (seg s 25 2) := by unfold port; omega
  have e8 : age s / 256 * 256 = val (seg s 27 2) := by unfold age at q2 ⊢; omega
  unfold txt
  rw [e3, e7, e8, idOf_name s 5 m4, idOf_name s 17 m6, seg_put s 25 2 (by omega), seg_put s 27 2 (by omega)]
  rw [show putBytes (flags s) 1 = seg s 4 1 from seg_put s 4 1 (by omega), show putBytes (cost s) 4 = seg s 13 4 from seg_put s 13 4 (by omega)]
  conv => rhs; rw [← Wr.str_bytesOf s, ← seg_all s, hz]
  rw [show (36 : Nat) = 2 + (1 + (1 + (1 + (8 + (4 + (8 + (2 + (2 + (2 + (2 + (2 + 1))))))))))) from rfl]
  simp only [seg_split]
  rw [s1, s2, s3, s4, s5, s6, s7, show putBytes 0 2 = [0, 0] by decide, show putBytes 2 1 = [2] by decide, show putBytes 2560 2 = [10, 0] by decide, show putBytes 512 2 = [2, 0] by decide, show putBytes 1024 2 = [4, 0] by decide, show putBytes 0 1 = [0] by decide]
  simp only [List.append_assoc, List.cons_append, List.nil_append]


/-! ### What is read out of a BPDU's bytes -/
theorem len1 {l : List Int} (h : l.length = 1) : ∃ a, l = [a] := match l, h with | [a], _ => ⟨a, rfl⟩
theorem len2 {l : List Int} (h : l.length = 2) : ∃ a b, l = [a, b] := match l, h with | [a, b], _ => ⟨a, b, rfl⟩
theorem len4 {l : List Int} (h : l.length = 4) : ∃ a b c d, l = [a, b, c, d] := match l, h with | [a, b, c, d], _ => ⟨a, b, c, d, rfl⟩
theorem len6 {l : List Int} (h : l.length = 6) : ∃ a b c d e f, l = [a, b, c, d, e, f] := match l, h with | [a, b, c, d, e, f], _ => ⟨a, b, c, d, e, f, rfl⟩
theorem segs (s : ByteArray) {F A2 A6 B C2 C6 D E : List Int} (h : bytesOf s = [0, 0, 2, 2] ++ F ++ (A2 ++ A6) ++ B ++ (C2 ++ C6) ++ D ++ E ++ [10, 0, 2, 0, 4, 0, 0])
    (h1 : F.length = 1) (h2 : A2.length = 2) (h3 : A6.length = 6) (h4 : B.length = 4) (h5 : C2.length = 2) (h6 : C6.length = 6) (h7 : D.length = 2) (h8 : E.length = 2) :
    (s.size = 36 ∧ seg s 0 2 = [0, 0] ∧ seg s 2 1 = [2] ∧ seg s 3 1 = [2]) ∧ (seg s 4 1 = F ∧ seg s 5 2 = A2 ∧ seg s 7 6 = A6 ∧ seg s 13 4 = B) ∧ (seg s 17 2 = C2 ∧ seg s 19 6 = C6 ∧ seg s 25 2 = D ∧ seg s 27 2 = E) ∧ (seg s 29 2 = [10, 0] ∧ seg s 31 2 = [2, 0] ∧ seg s 33 2 = [4, 0] ∧ seg s 35 1 = [0]) := by
  obtain ⟨f0, rfl⟩ := len1 h1
  obtain ⟨a0, a1, rfl⟩ := len2 h2
  obtain ⟨a2, a3, a4, a5, a6, a7, rfl⟩ := len6 h3
  obtain ⟨b0, b1, b2, b3, rfl⟩ := len4 h4
  obtain ⟨c0, c1, rfl⟩ := len2 h5
  obtain ⟨c2, c3, c4, c5, c6, c7, rfl⟩ := len6 h6
  obtain ⟨d0, d1, rfl⟩ := len2 h7
  obtain ⟨e0, e1, rfl⟩ := len2 h8
  have hz : s.size = 36 := by rw [← bytesOf_length, h]; rfl
  unfold seg
  rw [h]
  exact ⟨⟨hz, rfl, rfl, rfl⟩, ⟨rfl, rfl, rfl, rfl⟩, ⟨rfl, rfl, rfl, rfl⟩, ⟨rfl, rfl, rfl, rfl⟩⟩
theorem txt_small (a b c d e f : Int) (g : Bool) : ∀ x ∈ txt a b c d e f g, 0 ≤ x ∧ x < 256 := by
  intro x hx
  unfold txt name8 at hx
  simp only [List.mem_append] at hx
  have lit4 : ∀ x ∈ ([0, 0, 2, 2] : List Int), 0 ≤ x ∧ x < 256 := by decide
  have lit7 : ∀ x ∈ ([10, 0, 2, 0, 4, 0, 0] : List Int), 0 ≤ x ∧ x < 256 := by decide
  rcases hx with ((((((hx | hx) | hx | hx) | hx) | hx | hx) | hx) | hx) | hx
  · exact lit4 x hx
  all_goals first | exact putBytes_small _ _ x hx | exact lit7 x hx
theorem id_back {a : Int} (h0 : 0 < a) (h1 : a < 4503599627370496) {s : ByteArray} {i : Nat} (e2 : seg s i 2 = putBytes (a / 281474976710656 * 4096) 2) (e6 : seg s (i + 2) 6 = putBytes (a % 281474976710656) 6) (hs : i + 8 ≤ s.size) : IdOk s i ∧ idOf s i = a := by
  have v2 : val (seg s i 2) = a / 281474976710656 * 4096 := by rw [e2, val_put, show (256 : Int) ^ 2 = 65536 by decide]; omega
  have v6 : val (seg s (i + 2) 6) = a % 281474976710656 := by rw [e6, val_put, show (256 : Int) ^ 6 = 281474976710656 by decide]; omega
  refine ⟨⟨hs, by rw [v2]; omega⟩, ?_⟩
  unfold idOf; rw [v2, v6]; omega
theorem txt_ok {a b c d e f : Int} (g : Bool) (h : Gd a b c d e f) : RdOk (strOfNums (txt a b c d e f g)) ∧ RdVal (strOfNums (txt a b c d e f g)) = (a, b, c, d, e, f, g, 0) := by
  obtain ⟨ha, hc⟩ := h.lt
  have hG := h
  obtain ⟨-, -, h3, h4, h5, h6, h7, h8, h9, h10⟩ := h
  have hb : bytesOf (strOfNums (txt a b c d e f g)) = txt a b c d e f g := Wr.bytesOf_str _ (txt_small a b c d e f g)
  generalize hs : strOfNums (txt a b c d e f g) = s at *
  unfold txt name8 at hb
  obtain ⟨⟨hz, s0, s2, s3⟩, ⟨s4, s5, s7, s13⟩, ⟨s17, s19, s25, s27⟩, ⟨s29, s31, s33, s35⟩⟩ := segs s hb (putBytes_length _ _) (putBytes_length _ _) (putBytes_length _ _) (putBytes_length _ _) (putBytes_length _ _) (putBytes_length _ _) (putBytes_length _ _) (putBytes_length _ _)
  obtain ⟨i5, j5⟩ := id_back (i := 5) ha.1 ha.2 s5 s7 (by omega)
  obtain ⟨i17, j17⟩ := id_back (i := 17) hc.1 hc.2 s17 s19 (by omega)
  have vf : flags s = 4 * f + (if g = true then 1 else 0) := by
    unfold flags
    rw [s4, val_put, show (256 : Int) ^ 1 = 256 by decide]
    cases g
    · rw [if_neg (by decide)]; omega
    · rw [if_pos rfl]; omega
  have vb : cost s = b := by unfold cost; rw [s13, val_put, show (256 : Int) ^ 4 = 4294967296 by decide]; omega
  have vd : port s = d := by unfold port; rw [s25, val_put, show (256 : Int) ^ 2 = 65536 by decide]; omega
  have ve : age s = e * 256 := by unfold age; rw [s27, val_put, show (256 : Int) ^ 2 = 65536 by decide]; omega
  have ve' : age s / 256 = e := by rw [ve]; omega
  have vf4 : flags s / 4 = f := by rw [vf]; cases g <;> simp <;> omega
  have vf2 : flags s / 2 % 2 = 0 := by
    rw [vf]
    cases g
    · rw [if_neg (by decide)]; omega
    · rw [if_pos rfl]; omega
  have vg : (flags s % 2 == 1) = g := by
    rw [vf]
    cases g
    · rw [if_neg (by decide)]; rw [beq_eq_false_iff_ne]; omega
    · rw [if_pos rfl]; rw [beq_iff_eq]; omega
  refine ⟨⟨hz, ?_, vf2, by rw [ve]; omega, by rw [j5, j17, vb, vd, ve', vf4]; exact hG⟩, by unfold RdVal; rw [j5, j17, vb, vd, ve', vf4, vg]⟩
  unfold RdC
  simp only [Mt, s0, s2, s3, s29, s31, s33, s35, hz]
  refine ⟨⟨⟨⟨⟨⟨⟨⟨⟨⟨trivial, by decide⟩, by decide⟩, by decide⟩, i5⟩, by decide⟩, i17⟩, by decide⟩, by decide⟩, by decide⟩, by decide⟩
theorem txt_length (a b c d e f : Int) (g : Bool) : (txt a b c d e f g).length = 36 := by
  unfold txt; simp only [List.length_append, putBytes_length, name8_length]; rfl
theorem txt_inj {a b c d e f a' b' c' d' e' f' : Int} {g g' : Bool} (h : Gd a b c d e f) (h' : Gd a' b' c' d' e' f') (he : strOfNums (txt a b c d e f g) = strOfNums (txt a' b' c' d' e' f' g')) : (a, b, c, d, e, f, g) = (a', b', c', d', e', f', g') := by
  have p := (txt_ok g h).2
  have p' := (txt_ok g' h').2
  rw [he, p'] at p
  simp only [Prod.mk.injEq] at p ⊢
  obtain ⟨q1, q2, q3, q4, q5, q6, q7, -⟩ := p
  exact ⟨q1.symm, q2.symm, q3.symm, q4.symm, q5.symm, q6.symm, q7.symm⟩

theorem mytext (a b c d e f : Int) (g : Bool) (h : Gd a b c d e f) : bpduText (if g = true then Go.bits .or .i64 (wrap64 (f * 4)) 1 else wrap64 (f * 4)) a b c d e = strOfNums (txt a b c d e f g) := by
  obtain ⟨ha, hc⟩ := h.lt
  obtain ⟨-, -, h3, h4, h5, h6, h7, h8, h9, h10⟩ := h
  have n1 : ∀ n, Wr.numOf 1 n = strOfNums (putBytes n 1) := fun n => num_str n 1 (by decide)
  have n2 : ∀ n, Wr.numOf 2 n = strOfNums (putBytes n 2) := fun n => num_str n 2 (by decide)
  have n4 : ∀ n, Wr.numOf 4 n = strOfNums (putBytes n 4) := fun n => num_str n 4 (by decide)
  have n6 : ∀ n, Wr.numOf 6 n = strOfNums (putBytes n 6) := fun n => num_str n 6 (by decide)
  have e0 : (if g = true then Go.bits .or .i64 (wrap64 (f * 4)) 1 else wrap64 (f * 4)) = 4 * f + (if g = true then 1 else 0) := by
    rw [wrap_id (n := f * 4) (by omega) (by omega)]
    cases g
    · rw [if_neg (by decide), if_neg (by decide)]; omega
    · rw [if_pos rfl, if_pos rfl, show Go.bits .or .i64 (f * 4) 1 = f * 4 + 1 from bits_join .i64 63 (by decide) wraps_i64 2 (f * 4) 1 (by omega) (by omega) (by omega) (by decide) (by decide) (by decide)]; omega
  have e1 : wrap64 (a / 281474976710656 * 4096) = a / 281474976710656 * 4096 := wrap_id (by omega) (by omega)
  have e2 : wrap64 (c / 281474976710656 * 4096) = c / 281474976710656 * 4096 := wrap_id (by omega) (by omega)
  have e3 : wrap64 (d + 1) = d + 1 := wrap_id (by omega) (by omega)
  have e4 : wrap64 (e * 256) = e * 256 := wrap_id (by omega) (by omega)
  have p6 : ∀ n : Int, putBytes n 6 = putBytes (n % 281474976710656) 6 := fun n => put_congr (by rw [show (256 : Int) ^ 6 = 281474976710656 by decide]; omega)
  unfold bpduText txt name8
  rw [e0, e1, e2, e3, e4, show (⟨#[]⟩ : ByteArray) = strOfNums [] from rfl]
  simp only [n1, n2, n4, n6, str_append]
  rw [p6 a, p6 c, show putBytes 0 2 = [0, 0] by decide, show putBytes 2 1 = [2] by decide, show putBytes 2560 2 = [10, 0] by decide, show putBytes 512 2 = [2, 0] by decide, show putBytes 1024 2 = [4, 0] by decide, show putBytes 0 1 = [0] by decide]
  simp only [List.append_assoc, List.cons_append, List.nil_append]
theorem mybytes (a b c d e f : Int) (g : Bool) (ha : a < 2 ^ 63) (hc : c < 2 ^ 63) : bpdu_Bytes.f a b c d e f g = some (if Gd a b c d e f then (strOfNums (txt a b c d e f g), 0) else ((⟨#[]⟩ : ByteArray), 1)) := by
  unfold bpdu_Bytes.f
  rw [bgood_is a b c d e f g ha hc]
  simp only [Option.bind_some]
  by_cases h : Gd a b c d e f
  · rw [if_pos (decide_eq_true h), if_pos h, mytext a b c d e f g h]
  · rw [if_neg (by rw [decide_eq_false h]; decide), if_neg h]

theorem BpduOne : kissgatelaw08_BpduOne.Pure := by
  intro a b c d e f g a' b' c' d' e' f' g' w0 w1 w2 w3 w4 w5 v0 v1 v2 v3 v4 v5
  refine Ev.rounds (g := fun k => kissgatelaw08_BpduOne.f k a b c d e f g a' b' c' d' e' f' g') ?_
  unfold kissgatelaw08_BpduOne.f
  refine Ev.bind alive_ev (Ev.congr (fun k => if_pos rfl) ?_)
  have ha := bounds_i64 w0
  have hc := bounds_i64 w2
  have ha' := bounds_i64 v0
  have hc' := bounds_i64 v2
  have skip : Ev (fun k => kissgatelaw08_BpduOne.j0 k true a b c d e f g a' b' c' d' e' f' g') true := by
    refine Ev.step (f := fun _ => some true) (fun k => ?_) (Ev.now _)
    simp only [kissgatelaw08_BpduOne.j0]; rw [if_pos trivial]
  rw [rgood8_is a b c d e f g (by omega) (by omega), rgood8_is a' b' c' d' e' f' g' (by omega) (by omega)]
  simp only [Option.bind_some]
  by_cases hg : Gd a b c d e f
  · refine Ev.congr (fun k => if_pos (decide_eq_true hg)) ?_
    by_cases hg' : Gd a' b' c' d' e' f'
    · rw [decide_eq_true hg']
      refine Ev.step (f := fun _ => some true) (fun k => ?_) (Ev.now _)
      simp only [kissgatelaw08_BpduOne.j0]
      rw [if_neg (by decide), mybytes a b c d e f g (by omega) (by omega), mybytes a' b' c' d' e' f' g' (by omega) (by omega), if_pos hg, if_pos hg']
      simp only [Option.bind_some]
      have hl : (strOfNums (txt a b c d e f g)).size = (strOfNums (txt a' b' c' d' e' f' g')).size := by rw [str_size, str_size, txt_length, txt_length]
      rw [hl, if_pos, beq_self_eq_true]
      rw [beq_iff_eq, Bool.eq_iff_iff, beq_iff_eq]
      simp only [Bool.and_eq_true, beq_iff_eq]
      constructor
      · intro h
        have q := txt_inj hg hg' (toList_inj h)
        simp only [Prod.mk.injEq] at q
        obtain ⟨q1, q2, q3, q4, q5, q6, q7⟩ := q
        exact ⟨⟨q1, q2, q3, q4⟩, q5, q6, q7⟩
      · rintro ⟨⟨rfl, rfl, rfl, rfl⟩, rfl, rfl, rfl⟩; rfl
    · rw [decide_eq_false hg']; exact skip
  · exact Ev.congr (fun k => if_neg (by rw [decide_eq_false hg]; decide)) skip

end Go.Proofs.Ytjebdmfhnfbomaa.Pure
