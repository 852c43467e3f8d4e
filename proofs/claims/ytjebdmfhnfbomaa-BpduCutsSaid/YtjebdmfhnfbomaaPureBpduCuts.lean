/- A BPDU cut short, or with more behind it, is not read. -/
import Derived.Test.YtjebdmfhnfbomaaPBpduCutsx4
import Derived.Test.YtjebdmfhnfbomaaWr
import Derived.Laws.BitsLemmas
import Derived.OpenShut
import Derived.Laws.Strings
namespace Go.Proofs.Ytjebdmfhnfbomaa.Pure
open Go.RowKit Go.Proofs.Ytjebdmfhnfbomaa.PBpduCuts Go.Proofs.YtjebdmfhnfbomaaW.PrintWords Go.Proofs.YtjebdmfhnfbomaaW.PrintLast Go.Proofs.YtjebdmfhnfbomaaW.PrintMore


theorem wrap_id {n : Int} (h0 : -9223372036854775808 ≤ n) (h1 : n ≤ 9223372036854775807) : wrap64 n = n := by unfold wrap64; omega
theorem wrap_one (t : Nat) (h : t ≤ 100000000) : wrap64 ((t : Int) + 1) = ((t + 1 : Nat) : Int) := by rw [wrap_id (by omega) (by omega)]; omega
theorem wraps_i64 (n : Int) (h0 : 0 ≤ n) (h1 : n < 2 ^ 63) : IntKind.i64.wrap n = n := by rw [IntKind.wrap_i64]; omega
theorem str_size (xs : List Int) : (strOfNums xs).size = xs.length := by simp [strOfNums, ByteArray.size]
theorem str_append (xs ys : List Int) : strOfNums xs ++ strOfNums ys = strOfNums (xs ++ ys) := by
  apply ByteArray.ext
  simp [strOfNums]
theorem toList_append (a b : ByteArray) : (a ++ b).toList = a.toList ++ b.toList := by
  rw [ByteArray.toList_eq, ByteArray.toList_eq, ByteArray.toList_eq]; simp
theorem toList_inj {a b : ByteArray} (h : a.toList = b.toList) : a = b := by
  rw [ByteArray.toList_eq, ByteArray.toList_eq] at h
  exact ByteArray.ext (Array.toList_inj.1 h)

/-! ### Numbers as bytes -/
open Wr (putBytes numOf)
theorem putBytes_length (a : Int) : ∀ k, (putBytes a k).length = k
  | 0 => rfl
  | k + 1 => by simp [putBytes, putBytes_length a k]
theorem putBytes_small (a : Int) : ∀ k, ∀ x ∈ putBytes a k, 0 ≤ x ∧ x < 256
  | 0 => fun x h => by simp [putBytes] at h
  | k + 1 => fun x h => by
    simp only [putBytes, List.mem_cons] at h
    rcases h with rfl | h
    · omega
    · exact putBytes_small a k x h

/-- The value of bytes, the highest first. -/
def val (xs : List Int) : Int := xs.foldl (fun n x => n * 256 + x) 0
theorem val_from (xs : List Int) : ∀ n : Int, xs.foldl (fun n x => n * 256 + x) n = n * 256 ^ xs.length + val xs := by
  induction xs with
  | nil => intro n; simp [val]
  | cons x xs ih =>
    intro n
    unfold val
    rw [List.foldl_cons, List.foldl_cons, ih, ih (0 * 256 + x), List.length_cons, Int.pow_succ, Int.zero_mul, Int.zero_add, Int.add_mul]
    rw [show n * (256 ^ xs.length * 256) = n * 256 * 256 ^ xs.length by rw [Int.mul_comm (256 ^ xs.length) 256, Int.mul_assoc]]
    omega
theorem val_cons (x : Int) (xs : List Int) : val (x :: xs) = x * 256 ^ xs.length + val xs := by
  have := val_from xs x
  unfold val at this ⊢
  rw [List.foldl_cons, Int.zero_mul, Int.zero_add]; exact this
theorem val_range {xs : List Int} (h : ∀ x ∈ xs, 0 ≤ x ∧ x < 256) : 0 ≤ val xs ∧ val xs < 256 ^ xs.length := by
  induction xs with
  | nil => simp [val]
  | cons x xs ih =>
    have ih := ih (fun y hy => h y (by simp [hy]))
    have hx := h x (by simp)
    rw [val_cons, List.length_cons, Int.pow_succ]
    have h1 : (x + 1) * 256 ^ xs.length ≤ 256 * 256 ^ xs.length := Int.mul_le_mul_of_nonneg_right (by omega) (Int.le_of_lt (Int.pow_pos (by decide)))
    have h2 : 0 ≤ x * 256 ^ xs.length := Int.mul_nonneg hx.1 (Int.le_of_lt (Int.pow_pos (by decide)))
    rw [Int.add_mul, Int.one_mul] at h1
    generalize 256 ^ xs.length = z at *
    omega
theorem pow_two_eight (k : Nat) : (2 : Int) ^ (8 * k) = 256 ^ k := by rw [Int.pow_mul]; rfl
theorem emod_step (a z : Int) (hp : 0 < z) : a / z % 256 * z + a % z = a % (z * 256) := by
  have e1 : a % z + z * (a / z) = a := Int.emod_add_mul_ediv a z
  have hr0 : 0 ≤ a % z := Int.emod_nonneg a (Int.ne_of_gt hp)
  have hr1 : a % z < z := Int.emod_lt_of_pos a hp
  have hq : a / z = a / z % 256 + 256 * (a / z / 256) := (Int.emod_add_mul_ediv (a / z) 256).symm
  have hd0 : 0 ≤ a / z % 256 := by omega
  have hd1 : a / z % 256 < 256 := by omega
  revert e1 hr0 hr1 hq hd0 hd1
  generalize a / z % 256 = d
  generalize a / z / 256 = u
  generalize a % z = r
  generalize a / z = q
  intro e1 hr0 hr1 hq hd0 hd1
  subst hq
  subst e1
  rw [Int.mul_add, ← Int.mul_assoc z 256 u, Int.mul_comm z d, ← Int.add_assoc, Int.add_mul_emod_self_left]
  have h4 : 0 ≤ d * z := Int.mul_nonneg hd0 (Int.le_of_lt hp)
  have h6 : (d + 1) * z ≤ 256 * z := Int.mul_le_mul_of_nonneg_right hd1 (Int.le_of_lt hp)
  rw [Int.add_mul, Int.one_mul, Int.mul_comm 256 z] at h6
  rw [Int.emod_eq_of_lt (by omega) (by omega)]
  omega
theorem val_put (a : Int) : ∀ k, val (putBytes a k) = a % 256 ^ k
  | 0 => by simp [putBytes, val]
  | k + 1 => by
    rw [putBytes, val_cons, val_put a k, putBytes_length, pow_two_eight, Int.pow_succ]
    exact emod_step a _ (Int.pow_pos (by decide))
theorem put_val : ∀ {xs : List Int}, (∀ x ∈ xs, 0 ≤ x ∧ x < 256) → putBytes (val xs) xs.length = xs := by
  intro xs
  induction xs with
  | nil => intro _; rfl
  | cons x xs ih =>
    intro h
    have hx := h x (by simp)
    have hr := val_range (xs := xs) (fun y hy => h y (List.mem_cons_of_mem _ hy))
    have hp : (0 : Int) < 256 ^ xs.length := Int.pow_pos (by decide)
    rw [List.length_cons, putBytes, pow_two_eight, val_cons]
    have e1 : (x * 256 ^ xs.length + val xs) / 256 ^ xs.length % 256 = x := by
      rw [Int.add_comm, Int.add_mul_ediv_right _ _ (Int.ne_of_gt hp), Int.ediv_eq_zero_of_lt hr.1 hr.2]; omega
    rw [e1]
    congr 1
    have e2 : ∀ k, k ≤ xs.length → putBytes (x * 256 ^ xs.length + val xs) k = putBytes (val xs) k := by
      intro k
      induction k with
      | zero => intro _; rfl
      | succ k ihk =>
        intro hk
        rw [putBytes, putBytes, ihk (by omega), pow_two_eight]
        congr 1
        obtain ⟨m, hm⟩ : ∃ m, xs.length = k + 1 + m := ⟨xs.length - (k + 1), by omega⟩
        have e3 : x * 256 ^ xs.length = (x * 256 ^ m * 256) * 256 ^ k := by rw [hm, Int.pow_add, Int.pow_succ]; simp only [Int.mul_assoc, Int.mul_comm, Int.mul_left_comm]
        rw [e3, Int.add_comm, Int.add_mul_ediv_right _ _ (Int.ne_of_gt (Int.pow_pos (by decide)))]
        omega
    rw [e2 _ (Nat.le_refl _)]
    exact ih (fun y hy => h y (by simp [hy]))
theorem put_inj {a b : Int} {k : Nat} (h : putBytes a k = putBytes b k) : a % 256 ^ k = b % 256 ^ k := by rw [← val_put, ← val_put, h]
theorem put_congr {a b : Int} : ∀ {k : Nat}, a % 256 ^ k = b % 256 ^ k → putBytes a k = putBytes b k := by
  intro k h
  have ha := putBytes_small a k
  have hb := putBytes_small b k
  have e1 := put_val ha
  have e2 := put_val hb
  rw [putBytes_length, val_put] at e1 e2
  rw [← e1, ← e2, h]

theorem mx_of_lt {a b : Int} (h : a < b) : mx a b = b := by unfold mx; rw [if_pos h]
theorem mx_of_ge {a b : Int} (h : b ≤ a) : mx a b = a := by unfold mx; rw [if_neg (by omega)]
theorem mn_of_gt {a b : Int} (h : b < a) : mn a b = b := by unfold mn; rw [if_pos h]
theorem mn_of_le {a b : Int} (h : a ≤ b) : mn a b = a := by unfold mn; rw [if_neg (by omega)]
def szOf (size : Int) : Nat := (mn (mx size 1) 8).toNat
theorem numOf_eq (size a : Int) : numOf size a = strOfNums (putBytes a (szOf size)) := rfl

theorem digit64 (n : Int) (i : Nat) (hi : i < 8) : n % 18446744073709551616 / 256 ^ i % 256 = n / 2 ^ (8 * i) % 256 := by
  rw [pow_two_eight]
  have hc : i = 0 ∨ i = 1 ∨ i = 2 ∨ i = 3 ∨ i = 4 ∨ i = 5 ∨ i = 6 ∨ i = 7 := by omega
  rcases hc with rfl | rfl | rfl | rfl | rfl | rfl | rfl | rfl <;> omega

theorem number_loop (n : Int) (sz : Nat) (hsz : sz ≤ 8) : ∀ d i : Nat, sz - i = d → i ≤ sz →
    Ev (fun k => kissgateref01_Number.l0 k (sz : Int) (strOfNums (putBytes n i)) (n % 18446744073709551616 / 256 ^ i) (i : Int)) (strOfNums (putBytes n sz)) := by
  intro d
  induction d with
  | zero =>
    intro i hd hi
    have : i = sz := by omega
    subst this
    refine Ev.step (f := fun _ => some (strOfNums (putBytes n i))) (fun k => ?_) (Ev.now _)
    simp only [kissgateref01_Number.l0]; rw [if_neg (by omega)]
  | succ d ih =>
    intro i hd hi
    have hlt : i < sz := by omega
    have hnx := ih (i + 1) (by omega) (by omega)
    have hp : (0 : Int) < 256 ^ i := Int.pow_pos (by decide)
    have hu0 : 0 ≤ n % 18446744073709551616 / 256 ^ i := Int.ediv_nonneg (by omega) (Int.le_of_lt hp)
    have hu1 : n % 18446744073709551616 / 256 ^ i < 18446744073709551616 := Int.lt_of_le_of_lt (Int.ediv_le_self _ (by omega)) (by omega)
    have hd := digit64 n i (by omega)
    have e1 : Int.tmod (n % 18446744073709551616 / 256 ^ i) 256 % 256 = n / 2 ^ (8 * i) % 256 := by rw [Int.tmod_eq_emod_of_nonneg hu0, hd]; omega
    have e2 : IntKind.u64.wrap (Int.tdiv (n % 18446744073709551616 / 256 ^ i) 256) = n % 18446744073709551616 / 256 ^ (i + 1) := by
      rw [Int.tdiv_eq_ediv_of_nonneg hu0, IntKind.wrap_u64, Int.pow_succ, ← Int.ediv_ediv_of_nonneg (Int.le_of_lt hp)]
      exact Int.emod_eq_of_lt (Int.ediv_nonneg hu0 (by decide)) (Int.lt_of_le_of_lt (Int.ediv_le_self _ hu0) hu1)
    have ew := wrap_one i (by omega)
    refine Ev.step (fun k => ?_) hnx
    simp only [kissgateref01_Number.l0]
    rw [if_pos (show (i : Int) < (sz : Int) by exact Int.ofNat_lt.2 hlt)]
    simp only [Option.bind_some]
    have hs : (strOfNums [Int.tmod (n % 18446744073709551616 / 256 ^ i) 256 % 256]).size + (strOfNums (putBytes n i)).size ≤ 9223372036854775807 := by
      rw [str_size, str_size, putBytes_length, List.length_cons, List.length_nil]; exact Nat.le_trans (Nat.add_le_add_left (Nat.le_trans hi hsz) _) (by decide)
    rw [if_pos hs, e1, e2, ew, str_append]
    rfl

theorem szOf_lo {size : Int} (h : size < 1) : szOf size = 1 := by unfold szOf; rw [mx_of_lt h]; rfl
theorem szOf_hi {size : Int} (h : 8 < size) : szOf size = 8 := by unfold szOf; rw [mx_of_ge (by omega), mn_of_gt h]; rfl
theorem szOf_mid {size : Int} (h : 1 ≤ size) (h8 : size ≤ 8) : ((szOf size : Nat) : Int) = size := by unfold szOf; rw [mx_of_ge h, mn_of_le h8]; omega
theorem szOf_le (size : Int) : szOf size ≤ 8 := by
  by_cases h1 : size < 1
  · rw [szOf_lo h1]; decide
  · by_cases h2 : 8 < size
    · rw [szOf_hi h2]; decide
    · have := szOf_mid (show 1 ≤ size by omega) (by omega); omega
theorem number_ev (size n : Int) : Ev (fun k => kissgateref01_Number.f k size n) (numOf size n) := by
  have h8 : szOf size ≤ 8 := szOf_le size
  have L := number_loop n (szOf size) h8 _ 0 rfl (by omega)
  have e0 : n % 18446744073709551616 / 256 ^ 0 = IntKind.u64.wrap n := by rw [IntKind.wrap_u64]; simp
  rw [e0] at L
  have J1 : Ev (fun k => kissgateref01_Number.j1 k ((szOf size : Nat) : Int) n) (numOf size n) := by
    refine Ev.step (fun k => ?_) L
    simp only [kissgateref01_Number.j1]
    rfl
  unfold kissgateref01_Number.f
  by_cases h1 : size < 1
  · have e : ((szOf size : Nat) : Int) = 1 := by rw [szOf_lo h1]; rfl
    rw [e] at J1
    refine Ev.congr (fun k => by rw [if_pos h1]) (Ev.step (fun k => ?_) J1)
    simp only [kissgateref01_Number.j0]; rw [if_neg (by decide)]
  · refine Ev.congr (fun k => by rw [if_neg h1]) ?_
    by_cases h2 : size > 8
    · have e : ((szOf size : Nat) : Int) = 8 := by rw [szOf_hi h2]; rfl
      rw [e] at J1
      refine Ev.step (fun k => ?_) J1
      simp only [kissgateref01_Number.j0]; rw [if_pos h2]
    · have e : ((szOf size : Nat) : Int) = size := szOf_mid (by omega) (by omega)
      rw [e] at J1
      refine Ev.step (fun k => ?_) J1
      simp only [kissgateref01_Number.j0]; rw [if_neg h2]

theorem take_snoc (l : List Int) (j : Nat) (h : j < l.length) : l.take (j + 1) = l.take j ++ [l.getD j 0] := by
  rw [List.take_succ_eq_append_getElem h, List.getD_eq_getElem?_getD, List.getElem?_eq_getElem h]; rfl


/-! ### The reader -/
/-- n bytes of s from place i on. -/
def seg (s : ByteArray) (i n : Nat) : List Int := ((bytesOf s).drop i).take n
theorem seg_length (s : ByteArray) (i n : Nat) (h : i + n ≤ s.size) : (seg s i n).length = n := by
  unfold seg; rw [List.length_take, List.length_drop, bytesOf_length]; omega
theorem bytesOf_small (s : ByteArray) : ∀ x ∈ bytesOf s, 0 ≤ x ∧ x < 256 := by
  intro x hx
  simp only [bytesOf, List.mem_map] at hx
  obtain ⟨b, -, rfl⟩ := hx
  have := b.toNat_lt; omega
theorem seg_small (s : ByteArray) (i n : Nat) : ∀ x ∈ seg s i n, 0 ≤ x ∧ x < 256 := fun x hx =>
  bytesOf_small s x (List.mem_of_mem_drop (List.mem_of_mem_take hx))
theorem bytesOf_cut (s : ByteArray) (i n : Nat) : bytesOf (s.extract i (i + n)) = seg s i n := by
  unfold seg bytesOf
  rw [ByteArray.data_extract, Array.toList_extract, List.extract_eq_take_drop, List.map_take, List.map_drop]
  congr 1; omega
theorem or_8 (x y : Int) (h0 : 0 ≤ x) (h1 : x < 2 ^ 55) (k0 : 0 ≤ y) (k1 : y < 256) : Go.bits .or .i64 (wrap64 (x * 256)) (wrap64 y) = x * 256 + y := by
  rw [wrap_id (by omega) (by omega), wrap_id (by omega) (by omega)]
  exact bits_join .i64 63 (by decide) wraps_i64 8 (x * 256) y (by omega) (by omega) (by omega) k0 k1 (by omega)
theorem val_snoc (xs : List Int) (x : Int) : val (xs ++ [x]) = val xs * 256 + x := by
  unfold val; rw [List.foldl_append]; rfl
theorem pow_le_55 (j : Nat) (h : j ≤ 6) : (256 : Int) ^ j ≤ 2 ^ 48 := by
  rw [← pow_two_eight]
  have : (2 : Nat) ^ (8 * j) ≤ 2 ^ 48 := Nat.pow_le_pow_right (by decide) (by omega)
  exact_mod_cast this
theorem get_loop (x5 : ByteArray) (hs : x5.size ≤ 7) (s : ByteArray) (i b : Int) : ∀ d j : Nat, x5.size - j = d → j ≤ x5.size →
    Ev (fun k => octet_Reader_Get.l0 k x5 (val ((bytesOf x5).take j)) (x5.size : Int) (j : Int) s i b) (val (bytesOf x5), s, i, b) := by
  intro d
  induction d with
  | zero =>
    intro j hd hj
    have : j = x5.size := by omega
    subst this
    refine Ev.step (f := fun _ => some (val (bytesOf x5), s, i, b)) (fun k => ?_) (Ev.now _)
    simp only [octet_Reader_Get.l0]
    rw [if_neg (by omega), List.take_of_length_le (by rw [bytesOf_length]; exact Nat.le_refl _)]
  | succ d ih =>
    intro j hd hj
    have hlt : j < x5.size := by omega
    have hnx := ih (j + 1) (by omega) (by omega)
    have hl : (bytesOf x5).length = x5.size := bytesOf_length x5
    have e1 : val ((bytesOf x5).take (j + 1)) = val ((bytesOf x5).take j) * 256 + bt x5 (j : Int) := by
      rw [take_snoc _ _ (by rw [hl]; exact hlt), val_snoc]; rw [← rd_bytesOf]; rfl
    have hr := val_range (xs := (bytesOf x5).take j) (fun x hx => bytesOf_small x5 x (List.mem_of_mem_take hx))
    rw [List.length_take, hl, Nat.min_eq_left (Nat.le_of_lt hlt)] at hr
    have hp := pow_le_55 j (by omega)
    have hb := bt_range x5 (j : Int)
    rw [e1] at hnx
    refine Ev.step (fun k => ?_) hnx
    simp only [octet_Reader_Get.l0]
    rw [if_pos (Int.ofNat_lt.2 hlt), if_pos (Int.natCast_nonneg j), if_pos (Int.ofNat_lt.2 hlt), or_8 _ _ hr.1 (Int.lt_of_lt_of_le hr.2 (Int.le_trans hp (by decide))) hb.1 (by omega), wrap_one j (by omega)]

theorem take_good (s : ByteArray) (i n : Nat) (hs : s.size ≤ 140737488351232) (h : i + n ≤ s.size) :
    octet_Reader_take.f s i (-1) n = some (s.extract i (i + n), true, s, ((i + n : Nat) : Int), -1) := by
  unfold octet_Reader_take.f
  have w1 : wrap64 ((s.size : Int) - (i : Int)) = (s.size : Int) - (i : Int) := wrap_id (by omega) (by omega)
  have w2 : wrap64 ((i : Int) + (n : Int)) = ((i + n : Nat) : Int) := by rw [wrap_id (by omega) (by omega)]; omega
  have w3 : wrap64 (((i + n : Nat) : Int) - (n : Int)) = (i : Int) := by rw [wrap_id (by omega) (by omega)]; omega
  rw [w1, w2, w3, if_neg (by decide), if_neg (by omega), if_neg (by omega), if_pos (by omega), if_pos (by omega), if_pos (by omega), Int.toNat_natCast, Int.toNat_natCast]
theorem take_short (s : ByteArray) (i n : Nat) (hs : s.size ≤ 140737488351232) (hi : i ≤ s.size) (h : ¬ i + n ≤ s.size) :
    octet_Reader_take.f s i (-1) n = some ((⟨#[]⟩ : ByteArray), false, s, (i : Int), (i : Int)) := by
  unfold octet_Reader_take.f
  have w1 : wrap64 ((s.size : Int) - (i : Int)) = (s.size : Int) - (i : Int) := wrap_id (by omega) (by omega)
  rw [w1, if_neg (by decide), if_neg (by omega), if_pos (by omega)]
theorem take_bad (s : ByteArray) (i b n : Int) (hb : 0 ≤ b) : octet_Reader_take.f s i b n = some ((⟨#[]⟩ : ByteArray), false, s, i, b) := by
  unfold octet_Reader_take.f; rw [if_pos hb]

theorem mnmx7 (n : Nat) (h1 : 1 ≤ n) (h7 : n ≤ 7) : mn (mx (n : Int) 1) 7 = (n : Int) := by rw [mx_of_ge (by omega), mn_of_le (by omega)]
theorem get_good (s : ByteArray) (i n : Nat) (hs : s.size ≤ 140737488351232) (h : i + n ≤ s.size) (h1 : 1 ≤ n) (h7 : n ≤ 7) :
    Ev (fun k => octet_Reader_Get.f k s i (-1) n) (val (seg s i n), s, ((i + n : Nat) : Int), -1) := by
  have hz : (s.extract i (i + n)).size = n := by rw [← bytesOf_length, bytesOf_cut, seg_length s i n h]
  have L := get_loop (s.extract i (i + n)) (by omega) s ((i + n : Nat) : Int) (-1) _ 0 rfl (Nat.zero_le _)
  rw [bytesOf_cut] at L
  refine Ev.congr (fun k => ?_) L
  unfold octet_Reader_Get.f
  rw [mnmx7 n h1 h7, take_good s i n hs h]
  simp only [Option.bind_some]
  rw [if_pos trivial]
  rfl
theorem get_short (s : ByteArray) (i n : Nat) (hs : s.size ≤ 140737488351232) (hi : i ≤ s.size) (h : ¬ i + n ≤ s.size) (h1 : 1 ≤ n) (h7 : n ≤ 7) :
    Ev (fun k => octet_Reader_Get.f k s i (-1) n) (0, s, (i : Int), (i : Int)) := by
  refine Ev.congr (fun k => ?_) (Ev.now _)
  unfold octet_Reader_Get.f
  rw [mnmx7 n h1 h7, take_short s i n hs hi h]
  simp
theorem get_bad (s : ByteArray) (i b n : Int) (hb : 0 ≤ b) : Ev (fun k => octet_Reader_Get.f k s i b n) (0, s, i, b) := by
  refine Ev.congr (fun k => ?_) (Ev.now _)
  unfold octet_Reader_Get.f
  rw [take_bad s i b _ hb]
  simp

/-- A reader's state: it reads from i on, or it has failed. -/
def Rs (s : ByteArray) (i : Nat) (b : Int) : Prop := i ≤ s.size ∧ (b = -1 ∨ 0 ≤ b)
theorem get_ev (s : ByteArray) (hs : s.size ≤ 140737488351232) (i : Nat) (b : Int) (n : Nat) (h1 : 1 ≤ n) (h7 : n ≤ 7) (H : Rs s i b) :
    ∃ v i' b', Ev (fun k => octet_Reader_Get.f k s i b n) (v, s, ((i' : Nat) : Int), b') ∧ Rs s i' b' ∧ (b' = -1 ↔ b = -1 ∧ i + n ≤ s.size) ∧ (b' = -1 → i' = i + n ∧ v = val (seg s i n)) := by
  obtain ⟨hi, hb | hb⟩ := H
  · subst hb
    by_cases h : i + n ≤ s.size
    · exact ⟨_, _, _, get_good s i n hs h h1 h7, ⟨h, .inl rfl⟩, ⟨fun _ => ⟨rfl, h⟩, fun _ => rfl⟩, fun _ => ⟨rfl, rfl⟩⟩
    · exact ⟨_, _, _, get_short s i n hs hi h h1 h7, ⟨hi, .inr (Int.natCast_nonneg i)⟩, ⟨fun e => by omega, fun e => absurd e.2 h⟩, fun e => by omega⟩
  · exact ⟨_, _, _, get_bad s i b n hb, ⟨hi, .inr hb⟩, ⟨fun e => by omega, fun e => by omega⟩, fun e => by omega⟩
theorem fail_ev (s : ByteArray) (i : Nat) (b : Int) (H : Rs s i b) : ∃ b', octet_Reader_Fail.f s i b = some (s, (i : Int), b') ∧ Rs s i b' ∧ 0 ≤ b' := by
  unfold octet_Reader_Fail.f
  by_cases h : b < 0
  · rw [if_pos h]; exact ⟨_, rfl, ⟨H.1, .inr (Int.natCast_nonneg i)⟩, Int.natCast_nonneg i⟩
  · rw [if_neg h]; exact ⟨_, rfl, H, by omega⟩

/-! ### The reading of a BPDU -/
/-- The numbers of n bytes each from i on are those of xs. -/
def Mt (s : ByteArray) (n : Nat) : Nat → List Int → Prop
  | _, [] => True
  | i, x :: xs => i + n ≤ s.size ∧ val (seg s i n) = x ∧ Mt s n (i + n) xs
theorem just_loop (s : ByteArray) (hs : s.size ≤ 140737488351232) (n : Nat) (h1 : 1 ≤ n) (h7 : n ≤ 7) (l : List Int) (hl : l.length ≤ 100) : ∀ d j : Nat, l.length - j = d → j ≤ l.length → ∀ (i : Nat) (b : Int), Rs s i b →
    ∃ i' b', Ev (fun k => bpdu_just.l0 k n l (l.length : Int) (j : Int) s i b) (s, ((i' : Nat) : Int), b') ∧ Rs s i' b' ∧ (b' = -1 ↔ b = -1 ∧ Mt s n i (l.drop j)) ∧ (b' = -1 → i' = i + n * (l.length - j)) := by
  intro d
  induction d with
  | zero =>
    intro j hd hj i b H
    have : j = l.length := by omega
    subst this
    refine ⟨i, b, ?_, H, ?_, fun _ => by simp⟩
    · refine Ev.step (f := fun _ => some (s, (i : Int), b)) (fun k => ?_) (Ev.now _)
      simp only [bpdu_just.l0]; rw [if_neg (by omega)]
    · rw [List.drop_length]; exact ⟨fun h => ⟨h, trivial⟩, fun h => h.1⟩
  | succ d ih =>
    intro j hd hj i b H
    have hlt : j < l.length := by omega
    obtain ⟨v, i1, b1, hget, H1, hiff, himp⟩ := get_ev s hs i b n h1 h7 H
    have hdrop : l.drop j = rd l (j : Int) :: l.drop (j + 1) := by
      rw [List.drop_eq_getElem_cons hlt]; congr 1
      unfold rd; rw [Int.toNat_natCast, List.getD_eq_getElem?_getD, List.getElem?_eq_getElem hlt]; rfl
    have ew := wrap_one j (by omega)
    have hstep : ∀ k, bpdu_just.l0 (k + 1) n l (l.length : Int) (j : Int) s i b = (octet_Reader_Get.f k s i b n).bind fun bt123 => if bt123.1 = rd l (j : Int) then bpdu_just.l0 k n l (l.length : Int) ((j + 1 : Nat) : Int) bt123.2.1 bt123.2.2.1 bt123.2.2.2 else ((octet_Reader_Fail.f bt123.2.1 bt123.2.2.1 bt123.2.2.2).bind fun bt127 => (bpdu_just.l0 k n l (l.length : Int) ((j + 1 : Nat) : Int) bt127.1 bt127.2.1 bt127.2.2)) := by
      intro k
      simp only [bpdu_just.l0]
      rw [if_pos (Int.ofNat_lt.2 hlt), if_pos (Int.natCast_nonneg j), if_pos (Int.ofNat_lt.2 hlt), ew]
    by_cases hv : v = rd l (j : Int)
    · obtain ⟨i2, b2, hev, H2, hiff2, himp2⟩ := ih (j + 1) (by omega) (by omega) i1 b1 H1
      refine ⟨i2, b2, ?_, H2, ?_, ?_⟩
      · refine Ev.step hstep (Ev.bind hget (Ev.congr (fun k => ?_) hev))
        rw [if_pos hv]
      · rw [hiff2, hdrop]
        constructor
        · intro ⟨e1, e2⟩
          obtain ⟨e3, e4⟩ := hiff.1 e1
          obtain ⟨e5, e6⟩ := himp e1
          rw [e5] at e2
          exact ⟨e3, e4, by rw [← e6]; exact hv, e2⟩
        · intro ⟨e1, e2, e3, e4⟩
          have e5 := hiff.2 ⟨e1, e2⟩
          refine ⟨e5, ?_⟩
          rw [(himp e5).1]; exact e4
      · intro e
        have e1 := (hiff2.1 e).1
        rw [himp2 e, (himp e1).1, Nat.add_assoc, show l.length - j = 1 + (l.length - (j + 1)) by omega, Nat.mul_add, Nat.mul_one]
    · obtain ⟨b', hf, Hf, hb'⟩ := fail_ev s i1 b1 H1
      obtain ⟨i2, b2, hev, H2, hiff2, himp2⟩ := ih (j + 1) (by omega) (by omega) i1 b' Hf
      refine ⟨i2, b2, ?_, H2, ?_, ?_⟩
      · refine Ev.step hstep (Ev.bind hget (Ev.congr (fun k => ?_) hev))
        rw [if_neg hv]
        simp only []
        rw [hf]; rfl
      · rw [hdrop]
        constructor
        · intro e; have := (hiff2.1 e).1; omega
        · intro ⟨e1, e2, e3, e4⟩
          exact absurd ((himp (hiff.2 ⟨e1, e2⟩)).2.trans e3) hv
      · intro e; have := (hiff2.1 e).1; omega
theorem just_ev (s : ByteArray) (hs : s.size ≤ 140737488351232) (n : Nat) (h1 : 1 ≤ n) (h7 : n ≤ 7) (l : List Int) (hl : l.length ≤ 100) (i : Nat) (b : Int) (H : Rs s i b) :
    ∃ i' b', Ev (fun k => bpdu_just.f k s i b n l) (s, ((i' : Nat) : Int), b') ∧ Rs s i' b' ∧ (b' = -1 ↔ b = -1 ∧ Mt s n i l) ∧ (b' = -1 → i' = i + n * l.length) :=
  just_loop s hs n h1 h7 l hl _ 0 rfl (Nat.zero_le _) i b H

theorem and_12 (x : Int) (h0 : 0 ≤ x) (h1 : x < 2 ^ 63) : Go.bits .and .i64 x 4095 = x % 4096 := bits_mask .i64 63 (by decide) wraps_i64 12 (by decide) x h0 h1
theorem and_8 (x : Int) (h0 : 0 ≤ x) (h1 : x < 2 ^ 63) : Go.bits .and .i64 x 255 = x % 256 := bits_mask .i64 63 (by decide) wraps_i64 8 (by decide) x h0 h1
theorem seg_val (s : ByteArray) (i n : Nat) (h : i + n ≤ s.size) : 0 ≤ val (seg s i n) ∧ val (seg s i n) < 256 ^ n := by
  have := val_range (seg_small s i n)
  rwa [seg_length s i n h] at this
/-- A bridge's name out of its eight bytes. -/
def idOf (s : ByteArray) (i : Nat) : Int := val (seg s i 2) / 4096 * 281474976710656 + val (seg s (i + 2) 6)
def IdOk (s : ByteArray) (i : Nat) : Prop := i + 8 ≤ s.size ∧ val (seg s i 2) % 4096 = 0
theorem read_ev (s : ByteArray) (hs : s.size ≤ 140737488351232) (i : Nat) (b : Int) (H : Rs s i b) :
    ∃ v i' b', Ev (fun k => bpdu_read.f k s i b) (v, s, ((i' : Nat) : Int), b') ∧ Rs s i' b' ∧ (b' = -1 ↔ b = -1 ∧ IdOk s i) ∧ (b' = -1 → i' = i + 8 ∧ v = idOf s i) := by
  obtain ⟨v1, i1, b1, g1, H1, f1, m1⟩ := get_ev s hs i b 2 (by decide) (by decide) H
  obtain ⟨v2, i2, b2, g2, H2, f2, m2⟩ := get_ev s hs i1 b1 6 (by decide) (by decide) H1
  have hm : b2 = -1 → (b = -1 ∧ i + 8 ≤ s.size) ∧ v1 = val (seg s i 2) ∧ v2 = val (seg s (i + 2) 6) ∧ i2 = i + 8 ∧ Go.bits .and .i64 v1 4095 = val (seg s i 2) % 4096 ∧ Go.bits .or .i64 (wrap64 (v1 / 4096 * 281474976710656)) v2 = idOf s i := by
    intro e
    obtain ⟨e1, e2⟩ := f2.1 e
    obtain ⟨e3, e4⟩ := f1.1 e1
    obtain ⟨e5, e6⟩ := m1 e1
    obtain ⟨e7, e8⟩ := m2 e
    subst e5 e6 e7 e8
    have r1 := seg_val s i 2 e4
    have r2 := seg_val s (i + 2) 6 e2
    refine ⟨⟨e3, by omega⟩, rfl, rfl, by omega, and_12 _ r1.1 (by omega), ?_⟩
    unfold idOf
    rw [wrap_id (by omega) (by omega)]
    exact bits_join .i64 63 (by decide) wraps_i64 48 _ _ (by omega) (by omega) (by omega) r2.1 r2.2 (by omega)
  by_cases hz : Go.bits .and .i64 v1 4095 = 0
  · refine ⟨Go.bits .or .i64 (wrap64 (v1 / 4096 * 281474976710656)) v2, i2, b2, ?_, H2, ?_, ?_⟩
    · unfold bpdu_read.f
      refine Ev.bind g1 (Ev.bind g2 (Ev.congr (fun k => ?_) (Ev.now _)))
      simp only []; rw [if_pos hz]
    · constructor
      · intro e; obtain ⟨e1, e2, e3, e4, e5, e6⟩ := hm e; exact ⟨e1.1, e1.2, by rw [← e5]; exact hz⟩
      · intro ⟨e1, e2, e3⟩
        have h1 := f1.2 ⟨e1, by omega⟩
        exact f2.2 ⟨h1, by have := (m1 h1).1; omega⟩
    · intro e; obtain ⟨e1, e2, e3, e4, e5, e6⟩ := hm e; exact ⟨e4, e6⟩
  · obtain ⟨b', hf, Hf, hb'⟩ := fail_ev s i2 b2 H2
    refine ⟨Go.bits .or .i64 (wrap64 (v1 / 4096 * 281474976710656)) v2, i2, b', ?_, Hf, ?_, ?_⟩
    · unfold bpdu_read.f
      refine Ev.bind g1 (Ev.bind g2 (Ev.congr (fun k => ?_) (Ev.now _)))
      simp only []; rw [if_neg hz, hf]; rfl
    · constructor
      · intro e; omega
      · intro ⟨e1, e2, e3⟩
        have h1 := f1.2 ⟨e1, by omega⟩
        have h2 := f2.2 ⟨h1, by have := (m1 h1).1; omega⟩
        obtain ⟨-, -, -, -, e5, -⟩ := hm h2
        exact absurd (e5.trans e3) hz
    · intro e; omega

theorem and_one (x : Int) (h0 : 0 ≤ x) (h1 : x < 2 ^ 63) : Go.bits .and .i64 x 1 = x % 2 :=
  bits_mask .i64 63 (by decide) wraps_i64 1 (by decide) x h0 h1
theorem and_48 (x : Int) (h0 : 0 ≤ x) (h1 : x < 2 ^ 63) : Go.bits .and .i64 x 281474976710655 = x % 281474976710656 :=
  bits_mask .i64 63 (by decide) wraps_i64 48 (by decide) x h0 h1
theorem or_48 (x y : Int) (h0 : 0 ≤ x) (h1 : x < 2 ^ 63) (hx : x % 281474976710656 = 0) (k0 : 0 ≤ y) (k1 : y < 281474976710656) : Go.bits .or .i64 x y = x + y :=
  bits_join .i64 63 (by decide) wraps_i64 48 x y h0 hx h1 k0 k1 (by omega)
theorem good_is (a : Int) : addr_Good.f a = some (decide (0 ≤ a ∧ a ≤ 281474976710655)) := by
  unfold addr_Good.f
  by_cases h : a ≥ 0
  · rw [if_pos h]; congr 1; rw [decide_eq_decide]; omega
  · rw [if_neg h]; congr 1; symm; rw [decide_eq_false_iff_not]; omega

theorem rgood_is (a : Int) : kissgateref02_Good.f a = some (decide (0 ≤ a ∧ a ≤ 281474976710655)) := by
  unfold kissgateref02_Good.f
  by_cases h : a ≥ 0
  · rw [if_pos h]; congr 1; rw [decide_eq_decide]; omega
  · rw [if_neg h]; congr 1; symm; rw [decide_eq_false_iff_not]; omega

def many (a : Int) : Bool := decide (0 ≤ a ∧ a ≤ 281474976710655 ∧ a / 1099511627776 % 2 = 1)

theorem many_is (a : Int) : addr_Many.f a = some (many a) := by
  unfold addr_Many.f many
  rw [good_is]; simp only [Option.bind_some]
  by_cases h : 0 ≤ a ∧ a ≤ 281474976710655
  · rw [if_pos (by simpa using h), and_one _ (by omega) (by omega)]
    congr 1
    rw [Bool.eq_iff_iff]; simp; omega
  · rw [if_neg (by simpa using h)]; congr 1; symm; rw [decide_eq_false_iff_not]; omega

theorem rmany_is (a : Int) : kissgateref02_Many.f a = some (many a) := by
  unfold kissgateref02_Many.f many
  rw [rgood_is]; simp only [Option.bind_some]
  by_cases h : 0 ≤ a ∧ a ≤ 281474976710655
  · rw [if_pos (by simpa using h)]
    have e : Int.tmod (wrap64 (Int.tdiv a 1099511627776)) 2 = a / 1099511627776 % 2 := by
      rw [Int.tdiv_eq_ediv_of_nonneg h.1]
      have : wrap64 (a / 1099511627776) = a / 1099511627776 := by unfold wrap64; omega
      rw [this, Int.tmod_eq_emod_of_nonneg (by omega)]
    rw [e]; congr 1
    rw [Bool.eq_iff_iff]; simp; omega
  · rw [if_neg (by simpa using h)]; congr 1; symm; rw [decide_eq_false_iff_not]; omega

def bridge (a : Int) : Bool := decide (0 < a ∧ a / 281474976710656 ≤ 15) && !many (a % 281474976710656)

theorem bridge_is (a : Int) (ha : a < 2 ^ 63) : bpdu_Bridge.f a = some (bridge a) := by
  unfold bpdu_Bridge.f bridge
  by_cases h : a > 0
  · rw [if_pos h]
    by_cases h2 : a / 281474976710656 ≤ 15
    · rw [if_pos h2, and_48 _ (by omega) ha, many_is]; simp [h, h2]
    · rw [if_neg h2]; simp [h2]
  · rw [if_neg h]; simp [h]

theorem rbridge_is (a : Int) (ha : a < 2 ^ 63) : kissgateref08_Bridge.f a = some (bridge a) := by
  unfold kissgateref08_Bridge.f bridge
  by_cases h : a ≤ 0
  · rw [if_pos h]; have : ¬ 0 < a := by omega
    simp [this]
  · rw [if_neg h, Int.tdiv_eq_ediv_of_nonneg (by omega), Int.tmod_eq_emod_of_nonneg (by omega)]
    have e : wrap64 (a / 281474976710656) = a / 281474976710656 := by unfold wrap64; omega
    have h' : 0 < a := by omega
    rw [e]
    by_cases h2 : a / 281474976710656 > 15
    · rw [if_pos h2]; have : ¬ a / 281474976710656 ≤ 15 := by omega
      simp [this]
    · rw [if_neg h2, rmany_is]; have : a / 281474976710656 ≤ 15 := by omega
      simp [h', this]


theorem alive_ev : Ev (fun k => kissgatelaw08_alive.f k) true := by
  unfold kissgatelaw08_alive.f
  refine Ev.bind (a := 281474976710658) ?_ (Ev.congr (fun k => ?_) (Ev.now true))
  · have e : many 2 = false := by decide
    unfold bpdu_Id.f
    refine Ev.congr (f := fun k => bpdu_Id.j0 k 1 2 false) (fun k => ?_) ?_
    · rw [if_neg (by decide), if_neg (by decide), good_is, many_is, e]; rfl
    · refine Ev.step (f := fun _ => some 281474976710658) (fun k => ?_) (Ev.now _)
      simp only [bpdu_Id.j0]
      rw [if_neg (by decide), show wrap64 (1 * 281474976710656) = 281474976710656 by decide +kernel, or_48 _ _ (by decide) (by decide) (by decide) (by decide) (by decide)]
      rfl
  · rw [if_pos rfl, bridge_is _ (by decide)]
    show some (bridge 1) = some true
    rw [show bridge 1 = true by decide]
theorem ite_dec {p q : Prop} [Decidable p] [Decidable q] : (if p then some (decide q) else some false) = some (decide (p ∧ q)) := by
  by_cases h : p
  · rw [if_pos h]; congr 1; rw [decide_eq_decide]; exact ⟨fun x => ⟨h, x⟩, fun x => x.2⟩
  · rw [if_neg h]; congr 1; symm; rw [decide_eq_false_iff_not]; exact fun x => h x.1
/-- What a BPDU's fields must be. -/
def Gd (a b c d e f : Int) : Prop := bridge a = true ∧ bridge c = true ∧ 0 ≤ b ∧ b ≤ 2147483647 ∧ 0 ≤ d ∧ d ≤ 5 ∧ 0 ≤ e ∧ e ≤ 10 ∧ 0 ≤ f ∧ f ≤ 3
instance (a b c d e f : Int) : Decidable (Gd a b c d e f) := by unfold Gd; infer_instance
theorem bgood_is (a b c d e f : Int) (g : Bool) (ha : a < 2 ^ 63) (hc : c < 2 ^ 63) : bpdu_Good.f a b c d e f g = some (decide (Gd a b c d e f)) := by
  unfold bpdu_Good.f
  rw [bridge_is a ha, bridge_is c hc]
  simp only [Option.bind_some, ite_dec]
  congr 1
  rw [decide_eq_decide]
  exact ⟨fun ⟨h1, h2, h3, h4, h5, h6, h7, h8, h9, h10⟩ => ⟨h1, h2, h3, by omega, h5, by omega, h7, h8, h9, h10⟩, fun ⟨h1, h2, h3, h4, h5, h6, h7, h8, h9, h10⟩ => ⟨h1, h2, h3, by omega, h5, by omega, h7, h8, h9, h10⟩⟩
theorem rgood8_is (a b c d e f : Int) (g : Bool) (ha : a < 2 ^ 63) (hc : c < 2 ^ 63) : kissgateref08_Good.f a b c d e f g = some (decide (Gd a b c d e f)) := by
  unfold kissgateref08_Good.f
  rw [rbridge_is a ha, rbridge_is c hc]
  simp only [Option.bind_some, ite_dec]
  congr 1
  rw [decide_eq_decide]
  exact ⟨fun ⟨h1, h2, h3, h4, h5, h6, h7, h8, h9, h10⟩ => ⟨h1, h2, h3, by omega, h5, by omega, h7, h8, h9, h10⟩, fun ⟨h1, h2, h3, h4, h5, h6, h7, h8, h9, h10⟩ => ⟨h1, h2, h3, by omega, h5, by omega, h7, h8, h9, h10⟩⟩

theorem flag_two (x : Int) (h0 : 0 ≤ x) (h1 : x < 256) : Go.bits .and .i64 x 2 = 0 ↔ x / 2 % 2 = 0 := by
  obtain ⟨n, rfl⟩ := Int.eq_ofNat_of_zero_le h0
  have key : ∀ m : Fin 256, Go.bits .and .i64 (m.val : Int) 2 = 0 ↔ (m.val : Int) / 2 % 2 = 0 := by decide +kernel
  exact key ⟨n, by omega⟩
theorem chain {b1 b2 : Int} {i1 n : Nat} {C : Prop} (Q : Nat → Prop) (c1 : b1 = -1 ↔ C) (p1 : b1 = -1 → i1 = n) (f2 : b2 = -1 ↔ b1 = -1 ∧ Q i1) : b2 = -1 ↔ C ∧ Q n := by
  constructor
  · intro e
    obtain ⟨e1, e2⟩ := f2.1 e
    rw [p1 e1] at e2
    exact ⟨c1.1 e1, e2⟩
  · intro ⟨x, y⟩
    refine f2.2 ⟨c1.2 x, ?_⟩
    rw [p1 (c1.2 x)]; exact y
def RdC (s : ByteArray) : Prop := (((((((((True ∧ Mt s 2 0 [0]) ∧ Mt s 1 2 [2, 2]) ∧ 4 + 1 ≤ s.size) ∧ IdOk s 5) ∧ 13 + 4 ≤ s.size) ∧ IdOk s 17) ∧ 25 + 2 ≤ s.size) ∧ 27 + 2 ≤ s.size) ∧ Mt s 2 29 [2560, 512, 1024]) ∧ Mt s 1 35 [0]
def flags (s : ByteArray) : Int := val (seg s 4 1)
def cost (s : ByteArray) : Int := val (seg s 13 4)
def port (s : ByteArray) : Int := val (seg s 25 2) - 1
def age (s : ByteArray) : Int := val (seg s 27 2)
/-- The bytes are those of a BPDU. -/
def RdOk (s : ByteArray) : Prop := s.size = 36 ∧ RdC s ∧ flags s / 2 % 2 = 0 ∧ age s % 256 = 0 ∧ Gd (idOf s 5) (cost s) (idOf s 17) (port s) (age s / 256) (flags s / 4)
def RdVal (s : ByteArray) : Int × Int × Int × Int × Int × Int × Bool × Int := (idOf s 5, cost s, idOf s 17, port s, age s / 256, flags s / 4, flags s % 2 == 1, 0)
theorem idOf_lt (s : ByteArray) (i : Nat) (h : i + 8 ≤ s.size) : 0 ≤ idOf s i ∧ idOf s i < 2 ^ 62 := by
  have r1 := seg_val s i 2 (by omega)
  have r2 := seg_val s (i + 2) 6 (by omega)
  unfold idOf; omega
theorem bad_end (s : ByteArray) (i : Nat) (b : Int) (H : Rs s i b) (h : ¬ (b = -1 ∧ s.size ≤ i)) : octet_Reader_End.f s i b = some (4, s, (i : Int), b) := by
  unfold octet_Reader_End.f
  obtain ⟨h1, h2⟩ := H
  by_cases hb : b ≥ 0
  · rw [if_pos hb]
  · rw [if_neg hb, if_pos (by omega)]
theorem good_end (s : ByteArray) (i : Nat) (h : s.size ≤ i) : octet_Reader_End.f s i (-1) = some (0, s, (i : Int), -1) := by
  unfold octet_Reader_End.f
  rw [if_neg (by decide), if_neg (by omega)]
theorem Read_j0 (x : Bool) (a b c d e f : Int) (g : Bool) : Ev (fun k => bpdu_Read.j0 k x a b c d e f g) (if x = true then (0, 0, 0, 0, 0, 0, false, 4) else (a, b, c, d, e, f, g, 0)) := by
  refine Ev.step (f := fun _ => some (if x = true then (0, 0, 0, 0, 0, 0, false, 4) else (a, b, c, d, e, f, g, 0))) (fun k => ?_) (Ev.now _)
  simp only [bpdu_Read.j0]
  cases x <;> rfl
def finish (k : Nat) (t159 t163 t167 t171 t175 t179 : Int) (bt192 : ByteArray × Int × Int) : Option (Int × Int × Int × Int × Int × Int × Bool × Int) := (octet_Reader_End.f bt192.1 bt192.2.1 bt192.2.2).bind fun bt195 => (if bt195.1 = 0 then (if (Go.bits .and .i64 t159 2) = 0 then (if (Go.bits .and .i64 t179 255) = 0 then ((bpdu_Good.f t163 t167 t171 (wrap64 (t175 - 1)) (t179 / 256) (t159 / 4) ((Go.bits .and .i64 t159 1) == 1)).bind fun t199 => (bpdu_Read.j0 k (!t199) t163 t167 t171 (wrap64 (t175 - 1)) (t179 / 256) (t159 / 4) ((Go.bits .and .i64 t159 1) == 1))) else (bpdu_Read.j0 k true t163 t167 t171 (wrap64 (t175 - 1)) (t179 / 256) (t159 / 4) ((Go.bits .and .i64 t159 1) == 1))) else (bpdu_Read.j0 k true t163 t167 t171 (wrap64 (t175 - 1)) (t179 / 256) (t159 / 4) ((Go.bits .and .i64 t159 1) == 1))) else (bpdu_Read.j0 k true t163 t167 t171 (wrap64 (t175 - 1)) (t179 / 256) (t159 / 4) ((Go.bits .and .i64 t159 1) == 1)))
theorem Read_spec (s : ByteArray) (hs : s.size ≤ 140737488351232) :
    (RdOk s ∧ Ev (fun k => bpdu_Read.f k s) (RdVal s)) ∨ (¬ RdOk s ∧ Ev (fun k => bpdu_Read.f k s) (0, 0, 0, 0, 0, 0, false, 4)) := by
  obtain ⟨i1, b1, g1, H1, f1, m1⟩ := just_ev s hs 2 (by decide) (by decide) [0] (by decide) 0 (-1) ⟨Nat.zero_le _, .inl rfl⟩
  obtain ⟨i2, b2, g2, H2, f2, m2⟩ := just_ev s hs 1 (by decide) (by decide) [2, 2] (by decide) i1 b1 H1
  obtain ⟨v3, i3, b3, g3, H3, f3, m3⟩ := get_ev s hs i2 b2 1 (by decide) (by decide) H2
  obtain ⟨v4, i4, b4, g4, H4, f4, m4⟩ := read_ev s hs i3 b3 H3
  obtain ⟨v5, i5, b5, g5, H5, f5, m5⟩ := get_ev s hs i4 b4 4 (by decide) (by decide) H4
  obtain ⟨v6, i6, b6, g6, H6, f6, m6⟩ := read_ev s hs i5 b5 H5
  obtain ⟨v7, i7, b7, g7, H7, f7, m7⟩ := get_ev s hs i6 b6 2 (by decide) (by decide) H6
  obtain ⟨v8, i8, b8, g8, H8, f8, m8⟩ := get_ev s hs i7 b7 2 (by decide) (by decide) H7
  obtain ⟨i9, b9, g9, H9, f9, m9⟩ := just_ev s hs 2 (by decide) (by decide) [2560, 512, 1024] (by decide) i8 b8 H8
  obtain ⟨i10, b10, g10, H10, f10, m10⟩ := just_ev s hs 1 (by decide) (by decide) [0] (by decide) i9 b9 H9
  have p1 : b1 = -1 → i1 = 2 := m1
  have p2 : b2 = -1 → i2 = 4 := fun e => by have h := m2 e; rw [p1 (f2.1 e).1] at h; exact h
  have p3 : b3 = -1 → i3 = 5 := fun e => by have h := (m3 e).1; rw [p2 (f3.1 e).1] at h; exact h
  have p4 : b4 = -1 → i4 = 13 := fun e => by have h := (m4 e).1; rw [p3 (f4.1 e).1] at h; exact h
  have p5 : b5 = -1 → i5 = 17 := fun e => by have h := (m5 e).1; rw [p4 (f5.1 e).1] at h; exact h
  have p6 : b6 = -1 → i6 = 25 := fun e => by have h := (m6 e).1; rw [p5 (f6.1 e).1] at h; exact h
  have p7 : b7 = -1 → i7 = 27 := fun e => by have h := (m7 e).1; rw [p6 (f7.1 e).1] at h; exact h
  have p8 : b8 = -1 → i8 = 29 := fun e => by have h := (m8 e).1; rw [p7 (f8.1 e).1] at h; exact h
  have p9 : b9 = -1 → i9 = 35 := fun e => by have h := m9 e; rw [p8 (f9.1 e).1] at h; exact h
  have p10 : b10 = -1 → i10 = 36 := fun e => by have h := m10 e; rw [p9 (f10.1 e).1] at h; exact h
  have c1 : b1 = -1 ↔ True ∧ Mt s 2 0 [0] := by rw [f1]; exact ⟨fun h => ⟨trivial, h.2⟩, fun h => ⟨rfl, h.2⟩⟩
  have c2 := chain (fun i => Mt s 1 i [2, 2]) c1 p1 f2
  have c3 := chain (fun i => i + 1 ≤ s.size) c2 p2 f3
  have c4 := chain (fun i => IdOk s i) c3 p3 f4
  have c5 := chain (fun i => i + 4 ≤ s.size) c4 p4 f5
  have c6 := chain (fun i => IdOk s i) c5 p5 f6
  have c7 := chain (fun i => i + 2 ≤ s.size) c6 p6 f7
  have c8 := chain (fun i => i + 2 ≤ s.size) c7 p7 f8
  have c9 := chain (fun i => Mt s 2 i [2560, 512, 1024]) c8 p8 f9
  have c10 : b10 = -1 ↔ RdC s := chain (fun i => Mt s 1 i [0]) c9 p9 f10
  have body : ∀ k, bpdu_Read.f k s = (bpdu_just.f k s 0 (-1) 2 [0]).bind fun bt150 => ((bpdu_just.f k bt150.1 bt150.2.1 bt150.2.2 1 (([2, 2] : List Int))).bind fun bt156 => ((octet_Reader_Get.f k bt156.1 bt156.2.1 bt156.2.2 1).bind fun bt159 => ((bpdu_read.f k bt159.2.1 bt159.2.2.1 bt159.2.2.2).bind fun bt163 => ((octet_Reader_Get.f k bt163.2.1 bt163.2.2.1 bt163.2.2.2 4).bind fun bt167 => ((bpdu_read.f k bt167.2.1 bt167.2.2.1 bt167.2.2.2).bind fun bt171 => ((octet_Reader_Get.f k bt171.2.1 bt171.2.2.1 bt171.2.2.2 2).bind fun bt175 => ((octet_Reader_Get.f k bt175.2.1 bt175.2.2.1 bt175.2.2.2 2).bind fun bt179 => ((bpdu_just.f k bt179.2.1 bt179.2.2.1 bt179.2.2.2 2 (([2560, 512, 1024] : List Int))).bind fun bt186 => ((bpdu_just.f k bt186.1 bt186.2.1 bt186.2.2 1 (([0] : List Int))).bind fun bt192 => (finish k bt159.1 bt163.1 bt167.1 bt171.1 bt175.1 bt179.1 bt192)))))))))) := fun _ => rfl
  have run : ∀ R, Ev (fun k => finish k v3 v4 v5 v6 v7 v8 (s, (i10 : Int), b10)) R → Ev (fun k => bpdu_Read.f k s) R := fun R h =>
    Ev.congr body (Ev.bind g1 (Ev.bind g2 (Ev.bind g3 (Ev.bind g4 (Ev.bind g5 (Ev.bind g6 (Ev.bind g7 (Ev.bind g8 (Ev.bind g9 (Ev.bind g10 h))))))))))
  by_cases hg : b10 = -1 ∧ s.size ≤ i10
  · obtain ⟨hb, hz⟩ := hg
    have hsz : s.size = 36 := by have := H10.1; have := p10 hb; omega
    have hC := c10.1 hb
    obtain ⟨e9, -⟩ := f10.1 hb
    obtain ⟨e8, -⟩ := f9.1 e9
    obtain ⟨e7, -⟩ := f8.1 e8
    obtain ⟨e6, -⟩ := f7.1 e7
    obtain ⟨e5, -⟩ := f6.1 e6
    obtain ⟨e4, -⟩ := f5.1 e5
    obtain ⟨e3, -⟩ := f4.1 e4
    obtain ⟨e2, -⟩ := f3.1 e3
    have x3 : v3 = flags s := by rw [(m3 e3).2, p2 e2]; rfl
    have x4 : v4 = idOf s 5 := by rw [(m4 e4).2, p3 e3]
    have x5 : v5 = cost s := by rw [(m5 e5).2, p4 e4]; rfl
    have x6 : v6 = idOf s 17 := by rw [(m6 e6).2, p5 e5]
    have x7 : v7 = val (seg s 25 2) := by rw [(m7 e7).2, p6 e6]
    have x8 : v8 = age s := by rw [(m8 e8).2, p7 e7]; rfl
    have r3 : 0 ≤ flags s ∧ flags s < 256 := seg_val s 4 1 (by omega)
    have r7 : 0 ≤ val (seg s 25 2) ∧ val (seg s 25 2) < 65536 := seg_val s 25 2 (by omega)
    have r8 : 0 ≤ age s ∧ age s < 65536 := seg_val s 27 2 (by omega)
    have r4 := idOf_lt s 5 (by omega)
    have r6 := idOf_lt s 17 (by omega)
    have w7 : wrap64 (v7 - 1) = port s := by rw [x7, wrap_id (by omega) (by omega)]; rfl
    have F : ∀ x : Bool, Ev (fun k => bpdu_Read.j0 k x v4 v5 v6 (wrap64 (v7 - 1)) (v8 / 256) (v3 / 4) ((Go.bits .and .i64 v3 1) == 1)) (if x = true then (0, 0, 0, 0, 0, 0, false, 4) else RdVal s) := by
      intro x
      rw [w7, x3, x4, x5, x6, x8, and_one _ r3.1 (by omega)]
      exact Read_j0 x _ _ _ _ _ _ _
    have fin : ∀ k, finish k v3 v4 v5 v6 v7 v8 (s, (i10 : Int), b10) = bpdu_Read.j0 k (!decide (flags s / 2 % 2 = 0 ∧ age s % 256 = 0 ∧ Gd (idOf s 5) (cost s) (idOf s 17) (port s) (age s / 256) (flags s / 4))) v4 v5 v6 (wrap64 (v7 - 1)) (v8 / 256) (v3 / 4) ((Go.bits .and .i64 v3 1) == 1) := by
      intro k
      unfold finish
      simp only []
      rw [hb, good_end s i10 hz]
      simp only [Option.bind_some]
      rw [if_pos trivial, bgood_is _ _ _ _ _ _ _ (by rw [x4]; omega) (by rw [x6]; omega), w7, x3, x4, x5, x6, x8, and_8 _ r8.1 (by omega)]
      simp only [Option.bind_some]
      by_cases q1 : flags s / 2 % 2 = 0
      · rw [if_pos ((flag_two _ r3.1 r3.2).2 q1)]
        by_cases q2 : age s % 256 = 0
        · rw [if_pos q2]
          by_cases q3 : Gd (idOf s 5) (cost s) (idOf s 17) (port s) (age s / 256) (flags s / 4)
          · rw [decide_eq_true q3, decide_eq_true ⟨q1, q2, q3⟩]
          · rw [decide_eq_false q3, decide_eq_false (fun h => q3 h.2.2)]
        · rw [if_neg q2, decide_eq_false (fun h => q2 h.2.1)]; rfl
      · rw [if_neg (fun h => q1 ((flag_two _ r3.1 r3.2).1 h)), decide_eq_false (fun h => q1 h.1)]; rfl
    by_cases q : flags s / 2 % 2 = 0 ∧ age s % 256 = 0 ∧ Gd (idOf s 5) (cost s) (idOf s 17) (port s) (age s / 256) (flags s / 4)
    · left
      refine ⟨⟨hsz, hC, q⟩, run _ ?_⟩
      rw [decide_eq_true q] at fin
      exact Ev.congr fin (F false)
    · right
      refine ⟨fun h => q h.2.2, run _ ?_⟩
      rw [decide_eq_false q] at fin
      exact Ev.congr fin (F true)
  · right
    refine ⟨fun h => hg ?_, run _ ?_⟩
    · have := c10.2 h.2.1
      exact ⟨this, by have := p10 this; have := h.1; omega⟩
    · have fin : ∀ k, finish k v3 v4 v5 v6 v7 v8 (s, (i10 : Int), b10) = bpdu_Read.j0 k true v4 v5 v6 (wrap64 (v7 - 1)) (v8 / 256) (v3 / 4) ((Go.bits .and .i64 v3 1) == 1) := by
        intro k
        unfold finish
        simp only []
        rw [bad_end s i10 b10 H10 hg]
        rfl
      exact Ev.congr fin (Read_j0 true _ _ _ _ _ _ _)

/-! ### The bytes of a BPDU -/
def name8 (a : Int) : List Int := putBytes (a / 281474976710656 * 4096) 2 ++ putBytes (a % 281474976710656) 6
def txt (a b c d e f : Int) (g : Bool) : List Int :=
  [0, 0, 2, 2] ++ putBytes (4 * f + (if g = true then 1 else 0)) 1 ++ name8 a ++ putBytes b 4 ++ name8 c ++ putBytes (d + 1) 2 ++ putBytes (e * 256) 2 ++ [10, 0, 2, 0, 4, 0, 0]
theorem bridge_lt {a : Int} (h : bridge a = true) : 0 < a ∧ a < 4503599627370496 := by
  unfold bridge at h; simp only [Bool.and_eq_true, decide_eq_true_eq] at h; omega
theorem Gd.lt {a b c d e f : Int} (h : Gd a b c d e f) : (0 < a ∧ a < 4503599627370496) ∧ (0 < c ∧ c < 4503599627370496) := ⟨bridge_lt h.1, bridge_lt h.2.1⟩
theorem num_str (n : Int) (m : Nat) (h : m = 1 ∨ m = 2 ∨ m = 4 ∨ m = 6) : numOf (m : Int) n = strOfNums (putBytes n m) := by
  rw [numOf_eq]
  rcases h with rfl | rfl | rfl | rfl <;> rfl
theorem num_ev (m : Nat) (h : m = 1 ∨ m = 2 ∨ m = 4 ∨ m = 6) (n : Int) : Ev (fun k => kissgateref01_Number.f k m n) (strOfNums (putBytes n m)) := by
  rw [← num_str n m h]; exact number_ev m n
theorem rname_ev (a : Int) (h0 : 0 < a) (h1 : a < 4503599627370496) : Ev (fun k => kissgateref08_name.f k a) (strOfNums (name8 a)) := by
  have e1 : wrap64 ((wrap64 (Int.tdiv a 281474976710656)) * 4096) = a / 281474976710656 * 4096 := by
    rw [Int.tdiv_eq_ediv_of_nonneg (by omega), wrap_id (n := a / 281474976710656) (by omega) (by omega), wrap_id (by omega) (by omega)]
  unfold kissgateref08_name.f
  rw [e1, Int.tmod_eq_emod_of_nonneg (by omega)]
  refine Ev.bind (num_ev 2 (by decide) _) (Ev.bind (num_ev 6 (by decide) _) (Ev.congr (fun k => ?_) (Ev.now _)))
  rw [if_pos (by rw [str_size, str_size, putBytes_length, putBytes_length]; decide), str_append]; rfl
theorem name8_length (a : Int) : (name8 a).length = 8 := by unfold name8; rw [List.length_append, putBytes_length, putBytes_length]
theorem rbytes_ev (a b c d e f : Int) (g : Bool) (h : Gd a b c d e f) : Ev (fun k => kissgateref08_Bytes.f k a b c d e f g) (strOfNums (txt a b c d e f g)) := by
  obtain ⟨ha, hc⟩ := h.lt
  obtain ⟨-, -, h3, h4, h5, h6, h7, h8, h9, h10⟩ := h
  have J : ∀ x : Int, Ev (fun k => kissgateref08_Bytes.j0 k x a b c d e f g) (strOfNums ([0, 0, 2, 2] ++ putBytes x 1 ++ name8 a ++ putBytes b 4 ++ name8 c ++ putBytes (d + 1) 2 ++ putBytes (e * 256) 2 ++ [10, 0, 2, 0, 4, 0, 0])) := by
    intro x
    have e1 : wrap64 (d + 1) = d + 1 := wrap_id (by omega) (by omega)
    have e2 : wrap64 (e * 256) = e * 256 := wrap_id (by omega) (by omega)
    have z1 : ∀ n m, (strOfNums (putBytes n m)).size = m := fun n m => by rw [str_size, putBytes_length]
    have z8 : ∀ n, (strOfNums (name8 n)).size = 8 := fun n => by rw [str_size, name8_length]
    refine Ev.step (f := fun k => (kissgateref01_Number.f k 1 x).bind fun t206 => (if 4 + t206.size ≤ 9223372036854775807 then ((kissgateref08_name.f k a).bind fun t207 => (if 4 + t206.size + t207.size ≤ 9223372036854775807 then ((kissgateref01_Number.f k 4 b).bind fun t208 => (if 4 + t206.size + t207.size + t208.size ≤ 9223372036854775807 then ((kissgateref08_name.f k c).bind fun t209 => (if 4 + t206.size + t207.size + t208.size + t209.size ≤ 9223372036854775807 then ((kissgateref01_Number.f k 2 (d + 1)).bind fun t210 => (if 4 + t206.size + t207.size + t208.size + t209.size + t210.size ≤ 9223372036854775807 then ((kissgateref01_Number.f k 2 (e * 256)).bind fun t211 => (if 4 + t206.size + t207.size + t208.size + t209.size + t210.size + t211.size ≤ 9223372036854775807 then (if 4 + t206.size + t207.size + t208.size + t209.size + t210.size + t211.size + 7 ≤ 9223372036854775807 then (some ((((((((⟨#[0, 0, 2, 2]⟩ : ByteArray) ++ t206) ++ t207) ++ t208) ++ t209) ++ t210) ++ t211) ++ (⟨#[10, 0, 2, 0, 4, 0, 0]⟩ : ByteArray))) else (none)) else (none))) else (none))) else (none))) else (none))) else (none))) else (none))) (fun k => ?_) ?_
    · simp only [kissgateref08_Bytes.j0]; rw [e1, e2]
    · refine Ev.bind (num_ev 1 (by decide) x) ?_
      refine Ev.congr (fun k => if_pos (by rw [z1]; decide)) (Ev.bind (rname_ev a ha.1 ha.2) ?_)
      refine Ev.congr (fun k => if_pos (by rw [z1, z8]; decide)) (Ev.bind (num_ev 4 (by decide) b) ?_)
      refine Ev.congr (fun k => if_pos (by rw [z1, z8, z1]; decide)) (Ev.bind (rname_ev c hc.1 hc.2) ?_)
      refine Ev.congr (fun k => if_pos (by rw [z1, z8, z1, z8]; decide)) (Ev.bind (num_ev 2 (by decide) (d + 1)) ?_)
      refine Ev.congr (fun k => if_pos (by rw [z1, z8, z1, z8, z1]; decide)) (Ev.bind (num_ev 2 (by decide) (e * 256)) ?_)
      refine Ev.congr (fun k => ?_) (Ev.now _)
      rw [if_pos (by rw [z1, z8, z1, z8, z1, z1]; decide), if_pos (by rw [z1, z8, z1, z8, z1, z1]; decide)]
      rw [show (⟨#[0, 0, 2, 2]⟩ : ByteArray) = strOfNums [0, 0, 2, 2] from rfl, show (⟨#[10, 0, 2, 0, 4, 0, 0]⟩ : ByteArray) = strOfNums [10, 0, 2, 0, 4, 0, 0] from rfl]
      simp only [str_append]
  unfold kissgateref08_Bytes.f txt
  have w1 : wrap64 (4 * f) = 4 * f := wrap_id (by omega) (by omega)
  have w2 : wrap64 (4 * f + 1) = 4 * f + 1 := wrap_id (by omega) (by omega)
  rw [w1, w2]
  cases g
  · exact Ev.congr (fun k => if_neg (by decide)) (by simpa using J (4 * f))
  · exact Ev.congr (fun k => if_pos rfl) (J (4 * f + 1))

theorem seg_split (s : ByteArray) (i m n : Nat) : seg s i (m + n) = seg s i m ++ seg s (i + m) n := by
  unfold seg
  rw [List.take_add, List.drop_drop]
theorem seg_all (s : ByteArray) : seg s 0 s.size = bytesOf s := by
  unfold seg; rw [List.drop_zero, List.take_of_length_le (by rw [bytesOf_length]; exact Nat.le_refl _)]
theorem seg_put (s : ByteArray) (i n : Nat) (h : i + n ≤ s.size) : putBytes (val (seg s i n)) n = seg s i n := by
  have := put_val (seg_small s i n)
  rwa [seg_length s i n h] at this
theorem Mt.put {s : ByteArray} {n : Nat} {x : Int} {i : Nat} {xs : List Int} (h : Mt s n i (x :: xs)) : seg s i n = putBytes x n ∧ Mt s n (i + n) xs := by
  obtain ⟨h1, h2, h3⟩ := h
  exact ⟨by rw [← h2, seg_put s i n h1], h3⟩
theorem idOf_name (s : ByteArray) (i : Nat) (h : IdOk s i) : name8 (idOf s i) = seg s i 8 := by
  obtain ⟨h1, h2⟩ := h
  have r1 := seg_val s i 2 (by omega)
  have r2 := seg_val s (i + 2) 6 (by omega)
  have e1 : idOf s i / 281474976710656 * 4096 = val (seg s i 2) := by unfold idOf; omega
  have e2 : idOf s i % 281474976710656 = val (seg s (i + 2) 6) := by unfold idOf; omega
  unfold name8
  rw [e1, e2, seg_put s i 2 (by omega), seg_put s (i + 2) 6 (by omega)]
  exact (seg_split s i 2 6).symm
theorem RdOk.text {s : ByteArray} (h : RdOk s) : strOfNums (txt (idOf s 5) (cost s) (idOf s 17) (port s) (age s / 256) (flags s / 4) (flags s % 2 == 1)) = s := by
  obtain ⟨hz, ⟨⟨⟨⟨⟨⟨⟨⟨⟨⟨-, m1⟩, m2⟩, -⟩, m4⟩, -⟩, m6⟩, -⟩, -⟩, m9⟩, m10⟩, q1, q2, -⟩ := h
  obtain ⟨s1, -⟩ := m1.put
  obtain ⟨s2, m2⟩ := m2.put
  obtain ⟨s3, -⟩ := m2.put
  obtain ⟨s4, m9⟩ := m9.put
  obtain ⟨s5, m9⟩ := m9.put
  obtain ⟨s6, -⟩ := m9.put
  obtain ⟨s7, -⟩ := m10.put
  have r3 : 0 ≤ flags s ∧ flags s < 256 := seg_val s 4 1 (by omega)
  have e3 : 4 * (flags s / 4) + (if (flags s % 2 == 1) = true then 1 else 0) = flags s := by
    by_cases h : flags s % 2 = 1
    · rw [if_pos (by simpa using h)]; omega
    · rw [if_neg (by simpa using h)]; omega
  have e7 : port s + 1 = val (seg s 25 2) := by unfold port; omega
  have e8 : age s / 256 * 256 = val (seg s 27 2) := by unfold age at q2 ⊢; omega
  unfold txt
  rw [e3, e7, e8, idOf_name s 5 m4, idOf_name s 17 m6, seg_put s 25 2 (by omega), seg_put s 27 2 (by omega)]
  rw [show putBytes (flags s) 1 = seg s 4 1 from seg_put s 4 1 (by omega), show putBytes (cost s) 4 = seg s 13 4 from seg_put s 13 4 (by omega)]
  conv => rhs; rw [← Wr.str_bytesOf s, ← seg_all s, hz]
  rw [show (36 : Nat) = 2 + (1 + (1 + (1 + (8 + (4 + (8 + (2 + (2 + (2 + (2 + (2 + 1))))))))))) from rfl]
  simp only [seg_split]
  rw [s1, s2, s3, s4, s5, s6, s7, show putBytes 0 2 = [0, 0] by decide, show putBytes 2 1 = [2] by decide, show putBytes 2560 2 = [10, 0] by decide, show putBytes 512 2 = [2, 0] by decide, show putBytes 1024 2 = [4, 0] by decide, show putBytes 0 1 = [0] by decide]
  simp only [List.append_assoc, List.cons_append, List.nil_append]


/-! ### What is read out of a BPDU's bytes -/
theorem len1 {l : List Int} (h : l.length = 1) : ∃ a, l = [a] := match l, h with | [a], _ => ⟨a, rfl⟩
theorem len2 {l : List Int} (h : l.length = 2) : ∃ a b, l = [a, b] := match l, h with | [a, b], _ => ⟨a, b, rfl⟩
theorem len4 {l : List Int} (h : l.length = 4) : ∃ a b c d, l = [a, b, c, d] := match l, h with | [a, b, c, d], _ => ⟨a, b, c, d, rfl⟩
theorem len6 {l : List Int} (h : l.length = 6) : ∃ a b c d e f, l = [a, b, c, d, e, f] := match l, h with | [a, b, c, d, e, f], _ => ⟨a, b, c, d, e, f, rfl⟩
theorem segs (s : ByteArray) {F A2 A6 B C2 C6 D E : List Int} (h : bytesOf s = [0, 0, 2, 2] ++ F ++ (A2 ++ A6) ++ B ++ (C2 ++ C6) ++ D ++ E ++ [10, 0, 2, 0, 4, 0, 0])
    (h1 : F.length = 1) (h2 : A2.length = 2) (h3 : A6.length = 6) (h4 : B.length = 4) (h5 : C2.length = 2) (h6 : C6.length = 6) (h7 : D.length = 2) (h8 : E.length = 2) :
    (s.size = 36 ∧ seg s 0 2 = [0, 0] ∧ seg s 2 1 = [2] ∧ seg s 3 1 = [2]) ∧ (seg s 4 1 = F ∧ seg s 5 2 = A2 ∧ seg s 7 6 = A6 ∧ seg s 13 4 = B) ∧ (seg s 17 2 = C2 ∧ seg s 19 6 = C6 ∧ seg s 25 2 = D ∧ seg s 27 2 = E) ∧ (seg s 29 2 = [10, 0] ∧ seg s 31 2 = [2, 0] ∧ seg s 33 2 = [4, 0] ∧ seg s 35 1 = [0]) := by
  obtain ⟨f0, rfl⟩ := len1 h1
  obtain ⟨a0, a1, rfl⟩ := len2 h2
  obtain ⟨a2, a3, a4, a5, a6, a7, rfl⟩ := len6 h3
  obtain ⟨b0, b1, b2, b3, rfl⟩ := len4 h4
  obtain ⟨c0, c1, rfl⟩ := len2 h5
  obtain ⟨c2, c3, c4, c5, c6, c7, rfl⟩ := len6 h6
  obtain ⟨d0, d1, rfl⟩ := len2 h7
  obtain ⟨e0, e1, rfl⟩ := len2 h8
  have hz : s.size = 36 := by rw [← bytesOf_length, h]; rfl
  unfold seg
  rw [h]
  exact ⟨⟨hz, rfl, rfl, rfl⟩, ⟨rfl, rfl, rfl, rfl⟩, ⟨rfl, rfl, rfl, rfl⟩, ⟨rfl, rfl, rfl, rfl⟩⟩
theorem txt_small (a b c d e f : Int) (g : Bool) : ∀ x ∈ txt a b c d e f g, 0 ≤ x ∧ x < 256 := by
  intro x hx
  unfold txt name8 at hx
  simp only [List.mem_append] at hx
  have lit4 : ∀ x ∈ ([0, 0, 2, 2] : List Int), 0 ≤ x ∧ x < 256 := by decide
  have lit7 : ∀ x ∈ ([10, 0, 2, 0, 4, 0, 0] : List Int), 0 ≤ x ∧ x < 256 := by decide
  rcases hx with ((((((hx | hx) | hx | hx) | hx) | hx | hx) | hx) | hx) | hx
  · exact lit4 x hx
  all_goals first | exact putBytes_small _ _ x hx | exact lit7 x hx
theorem id_back {a : Int} (h0 : 0 < a) (h1 : a < 4503599627370496) {s : ByteArray} {i : Nat} (e2 : seg s i 2 = putBytes (a / 281474976710656 * 4096) 2) (e6 : seg s (i + 2) 6 = putBytes (a % 281474976710656) 6) (hs : i + 8 ≤ s.size) : IdOk s i ∧ idOf s i = a := by
  have v2 : val (seg s i 2) = a / 281474976710656 * 4096 := by rw [e2, val_put, show (256 : Int) ^ 2 = 65536 by decide]; omega
  have v6 : val (seg s (i + 2) 6) = a % 281474976710656 := by rw [e6, val_put, show (256 : Int) ^ 6 = 281474976710656 by decide]; omega
  refine ⟨⟨hs, by rw [v2]; omega⟩, ?_⟩
  unfold idOf; rw [v2, v6]; omega
theorem txt_ok {a b c d e f : Int} (g : Bool) (h : Gd a b c d e f) : RdOk (strOfNums (txt a b c d e f g)) ∧ RdVal (strOfNums (txt a b c d e f g)) = (a, b, c, d, e, f, g, 0) := by
  obtain ⟨ha, hc⟩ := h.lt
  have hG := h
  obtain ⟨-, -, h3, h4, h5, h6, h7, h8, h9, h10⟩ := h
  have hb : bytesOf (strOfNums (txt a b c d e f g)) = txt a b c d e f g := Wr.bytesOf_str _ (txt_small a b c d e f g)
  generalize hs : strOfNums (txt a b c d e f g) = s at *
  unfold txt name8 at hb
  obtain ⟨⟨hz, s0, s2, s3⟩, ⟨s4, s5, s7, s13⟩, ⟨s17, s19, s25, s27⟩, ⟨s29, s31, s33, s35⟩⟩ := segs s hb (putBytes_length _ _) (putBytes_length _ _) (putBytes_length _ _) (putBytes_length _ _) (putBytes_length _ _) (putBytes_length _ _) (putBytes_length _ _) (putBytes_length _ _)
  obtain ⟨i5, j5⟩ := id_back (i := 5) ha.1 ha.2 s5 s7 (by omega)
  obtain ⟨i17, j17⟩ := id_back (i := 17) hc.1 hc.2 s17 s19 (by omega)
  have vf : flags s = 4 * f + (if g = true then 1 else 0) := by
    unfold flags
    rw [s4, val_put, show (256 : Int) ^ 1 = 256 by decide]
    cases g
    · rw [if_neg (by decide)]; omega
    · rw [if_pos rfl]; omega
  have vb : cost s = b := by unfold cost; rw [s13, val_put, show (256 : Int) ^ 4 = 4294967296 by decide]; omega
  have vd : port s = d := by unfold port; rw [s25, val_put, show (256 : Int) ^ 2 = 65536 by decide]; omega
  have ve : age s = e * 256 := by unfold age; rw [s27, val_put, show (256 : Int) ^ 2 = 65536 by decide]; omega
  have ve' : age s / 256 = e := by rw [ve]; omega
  have vf4 : flags s / 4 = f := by rw [vf]; cases g <;> simp <;> omega
  have vf2 : flags s / 2 % 2 = 0 := by
    rw [vf]
    cases g
    · rw [if_neg (by decide)]; omega
    · rw [if_pos rfl]; omega
  have vg : (flags s % 2 == 1) = g := by
    rw [vf]
    cases g
    · rw [if_neg (by decide)]; rw [beq_eq_false_iff_ne]; omega
    · rw [if_pos rfl]; rw [beq_iff_eq]; omega
  refine ⟨⟨hz, ?_, vf2, by rw [ve]; omega, by rw [j5, j17, vb, vd, ve', vf4]; exact hG⟩, by unfold RdVal; rw [j5, j17, vb, vd, ve', vf4, vg]⟩
  unfold RdC
  simp only [Mt, s0, s2, s3, s29, s31, s33, s35, hz]
  refine ⟨⟨⟨⟨⟨⟨⟨⟨⟨⟨trivial, by decide⟩, by decide⟩, by decide⟩, i5⟩, by decide⟩, i17⟩, by decide⟩, by decide⟩, by decide⟩, by decide⟩
theorem txt_length (a b c d e f : Int) (g : Bool) : (txt a b c d e f g).length = 36 := by
  unfold txt; simp only [List.length_append, putBytes_length, name8_length]; rfl
theorem txt_inj {a b c d e f a' b' c' d' e' f' : Int} {g g' : Bool} (h : Gd a b c d e f) (h' : Gd a' b' c' d' e' f') (he : strOfNums (txt a b c d e f g) = strOfNums (txt a' b' c' d' e' f' g')) : (a, b, c, d, e, f, g) = (a', b', c', d', e', f', g') := by
  have p := (txt_ok g h).2
  have p' := (txt_ok g' h').2
  rw [he, p'] at p
  simp only [Prod.mk.injEq] at p ⊢
  obtain ⟨q1, q2, q3, q4, q5, q6, q7, -⟩ := p
  exact ⟨q1.symm, q2.symm, q3.symm, q4.symm, q5.symm, q6.symm, q7.symm⟩

theorem BpduCuts : kissgatelaw08_BpduCuts.Pure := by
  intro a b c d e f g n x w0 w1 w2 w3 w4 w5 wn wx
  refine Ev.rounds (g := fun k => kissgatelaw08_BpduCuts.f k a b c d e f g n x) ?_
  unfold kissgatelaw08_BpduCuts.f
  refine Ev.bind alive_ev (Ev.congr (fun k => if_pos rfl) ?_)
  have ha := bounds_i64 w0
  have hc := bounds_i64 w2
  have skip : ∀ y : Bool, y = true → Ev (fun k => kissgatelaw08_BpduCuts.j0 k n x y a b c d e f g) true := by
    intro y hy
    refine Ev.step (f := fun _ => some true) (fun k => ?_) (Ev.now _)
    simp only [kissgatelaw08_BpduCuts.j0]; rw [if_pos hy]
  refine Ev.congr (fun k => by rw [rgood8_is a b c d e f g (by omega) (by omega), Option.bind_some]) ?_
  by_cases hg : Gd a b c d e f
  · refine Ev.congr (fun k => if_pos (decide_eq_true hg)) ?_
    by_cases hx : (x.size : Int) > 100
    · exact Ev.congr (fun k => if_pos hx) (skip true rfl)
    · refine Ev.congr (fun k => if_neg hx) ?_
      by_cases hz : (x.toList == ([] : List UInt8)) = true
      · exact skip _ hz
      · have hx0 : x.size ≠ 0 := by
          intro h0; apply hz
          rw [beq_iff_eq, ByteArray.toList_eq]
          exact List.eq_nil_of_length_eq_zero (by rw [Array.length_toList]; exact h0)
        generalize hs : strOfNums (txt a b c d e f g) = s
        have hl : s.size = 36 := by rw [← hs, str_size, txt_length]
        have hB := rbytes_ev a b c d e f g hg
        rw [hs] at hB
        have hu : 0 ≤ IntKind.u64.wrap n ∧ IntKind.u64.wrap n < 18446744073709551616 := by rw [IntKind.wrap_u64]; omega
        have hm : wrap64 (Int.tmod (IntKind.u64.wrap n) 36) = IntKind.u64.wrap n % 36 := by
          rw [Int.tmod_eq_emod_of_nonneg hu.1, wrap_id (by omega) (by omega)]
        have hq : 0 ≤ IntKind.u64.wrap n % 36 ∧ IntKind.u64.wrap n % 36 < 36 := by omega
        generalize IntKind.u64.wrap n % 36 = q at hm hq
        have z1 : (s.extract 0 q.toNat).size = q.toNat := by rw [ByteArray.size_extract]; omega
        have z2 : (s ++ x).size = 36 + x.size := by rw [ByteArray.size_append, hl]
        have r1 : Ev (fun k => bpdu_Read.f k (s.extract 0 q.toNat)) (0, 0, 0, 0, 0, 0, false, 4) := by
          rcases Read_spec (s.extract 0 q.toNat) (by omega) with h | h
          · exact absurd h.1.1 (by omega)
          · exact h.2
        have r2 : Ev (fun k => bpdu_Read.f k (s ++ x)) (0, 0, 0, 0, 0, 0, false, 4) := by
          rcases Read_spec (s ++ x) (by omega) with h | h
          · exact absurd h.1.1 (by omega)
          · exact h.2
        refine Ev.step (f := fun k => (kissgateref08_Bytes.f k a b c d e f g).bind fun t215 => (if 0 ≤ q then (if q ≤ (t215.size : Int) then ((bpdu_Read.f k (t215.extract 0 q.toNat)).bind fun bt216 => (if t215.size + x.size ≤ 9223372036854775807 then ((bpdu_Read.f k (t215 ++ x)).bind fun bt225 => (if bt216.2.2.2.2.2.2.2 = 4 then (some (bt225.2.2.2.2.2.2.2 == 4)) else (some false))) else (none))) else (none)) else (none))) (fun k => ?_) ?_
        · simp only [kissgatelaw08_BpduCuts.j0]; rw [if_neg hz, hm]
        · refine Ev.bind hB ?_
          refine Ev.congr (fun k => if_pos hq.1) (Ev.congr (fun k => if_pos (by omega)) (Ev.bind r1 ?_))
          refine Ev.congr (fun k => if_pos (by omega)) (Ev.bind r2 ?_)
          exact Ev.congr (fun k => if_pos rfl) (Ev.now _)
  · refine Ev.congr (fun k => if_neg (by rw [decide_eq_false hg]; decide)) (skip true rfl)

end Go.Proofs.Ytjebdmfhnfbomaa.Pure
