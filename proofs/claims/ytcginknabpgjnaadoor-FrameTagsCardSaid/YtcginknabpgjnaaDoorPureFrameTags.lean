/- A frame tagged and untagged is as it was without; up to 1000 bytes of data. -/
import Derived.Test.YtcginknabpgjnaaDoorPFrameTagsx0
import Derived.Test.YtcginknabpgjnaaDoorPFrameTagsx1
import Derived.Test.YtcginknabpgjnaaDoorPFrameTagsx2
import Derived.Test.YtcginknabpgjnaaDoorPFrameTagsx3
import Derived.Test.YtcginknabpgjnaaDoorPFrameTagsx4
import Derived.Test.YtcginknabpgjnaaDoorPFrameTagsx5
import Derived.Test.YtcginknabpgjnaaDoorPFrameTagsx6
import Derived.Test.YtcginknabpgjnaaDoorPFrameTagsx7
import Derived.Test.YtcginknabpgjnaaDoorPFrameTagsx8
import Derived.Test.YtcginknabpgjnaaDoorWr
import Derived.Laws.BitsAllLaws
import Derived.OpenShut
import Derived.Laws.Strings
namespace Go.Proofs.YtcginknabpgjnaaDoor.Pure
open Go.RowKit Go.Proofs.YtcginknabpgjnaaDoor.PFrameTags Go.Proofs.YtcginknabpgjnaaDoorW.PrintWords Go.Proofs.YtcginknabpgjnaaDoorW.PrintLast Go.Proofs.YtcginknabpgjnaaDoorW.PrintMore

theorem strOf_nats (l : List Nat) (h : ∀ x ∈ l, x < 256) : (Bb.strOf l).data.toList.map (·.toNat) = l := by
  unfold Bb.strOf
  simp only [List.map_map]
  conv => rhs; rw [← List.map_id l]
  apply List.map_congr_left
  intro x hx
  have := h x hx
  simp
  omega
theorem natsOf_small (s : ByteArray) : ∀ x ∈ Bb.natsOf s, x < 256 := by
  intro x hx
  unfold Bb.natsOf at hx
  obtain ⟨b, _, rfl⟩ := List.mem_map.1 hx
  exact UInt8.toNat_lt b
theorem set_small (l : List Nat) (k v : Nat) (h : ∀ x ∈ l, x < 256) (hv : v < 256) : ∀ x ∈ l.set k v, x < 256 := by
  intro x hx
  rcases List.mem_or_eq_of_mem_set hx with h1 | h1
  · exact h x h1
  · omega
theorem crc_is (s : ByteArray) : Crc.B (Crc.crcOn 65535 s.data.toList) = Crc.S (Crc.B 65535) (Bb.natsOf s) := Crc.on_is _ _ (by decide)
theorem crc_of (l : List Nat) (h : ∀ x ∈ l, x < 256) : Crc.B (Crc.crcOn 65535 (Bb.strOf l).data.toList) = Crc.S (Crc.B 65535) l := by
  rw [Crc.on_is _ _ (by decide), strOf_nats l h]
theorem crc_lt (s : ByteArray) : Crc.crcOn 65535 s.data.toList < 65536 := Crc.crcOn_lt _ _ (by decide)
theorem of_some (s : ByteArray) (hs : s.size ≤ 140737488351232) : check_Of.f s = some ((Crc.crcOn 65535 s.data.toList : Nat) : Int) := by
  unfold check_Of.f; rw [if_pos hs]
/-- A text with its sum behind it. -/
def sealOf (s : ByteArray) : ByteArray := Bb.strOf (Bb.natsOf s ++ [Crc.crcOn 65535 s.data.toList / 256, Crc.crcOn 65535 s.data.toList % 256])
theorem sealOf_small (s : ByteArray) : ∀ x ∈ Bb.natsOf s ++ [Crc.crcOn 65535 s.data.toList / 256, Crc.crcOn 65535 s.data.toList % 256], x < 256 := by
  intro x hx
  have := crc_lt s
  rcases List.mem_append.1 hx with h | h
  · exact natsOf_small s x h
  · simp at h; omega
theorem sealOf_nats (s : ByteArray) : Bb.natsOf (sealOf s) = Bb.natsOf s ++ [Crc.crcOn 65535 s.data.toList / 256, Crc.crcOn 65535 s.data.toList % 256] := strOf_nats _ (sealOf_small s)
theorem sealOf_size (s : ByteArray) : (sealOf s).size = s.size + 2 := by
  unfold sealOf; rw [Bb.strOf_size, List.length_append, Bb.natsOf_length]; rfl
theorem nums_two (s : ByteArray) (c : Nat) (hc : c < 65536) : s ++ strOfNums [(c : Int) / 256 % 256, (c : Int) % 256] = Bb.strOf (Bb.natsOf s ++ [c / 256, c % 256]) := by
  apply ByteArray.ext
  have e1 : ((c : Int) / 256 % 256).toNat = c / 256 := by omega
  have e2 : ((c : Int) % 256).toNat = c % 256 := by omega
  rw [ByteArray.data_append]
  unfold Bb.strOf
  apply Array.toList_inj.1
  rw [Array.toList_append, List.map_append]
  have e3 : (Bb.natsOf s).map UInt8.ofNat = s.data.toList := by
    unfold Bb.natsOf
    rw [List.map_map, show (UInt8.ofNat ∘ fun x : UInt8 => x.toNat) = id from by funext x; simp, List.map_id]
  show s.data.toList ++ _ = (Bb.natsOf s).map UInt8.ofNat ++ _
  rw [e3]
  congr 1
  show [UInt8.ofNat _, UInt8.ofNat _] = _
  rw [e1, e2]; rfl
theorem seal_some (s : ByteArray) (hs : s.size ≤ 140737488351232) : check_Seal.f s = some (sealOf s) := by
  unfold check_Seal.f
  rw [of_some s hs]
  simp only [Option.bind_some]
  rw [if_pos (by rw [strOfNums_size]; simp only [List.length_cons, List.length_nil]; omega), nums_two s _ (crc_lt s)]
  rfl
theorem seal_zero (s : ByteArray) : Crc.S (Crc.B 65535) (Bb.natsOf (sealOf s)) = 0#16 := by
  rw [sealOf_nats]
  exact Crc.sealed _ _ _ (crc_lt s) (crc_is s).symm
theorem wrap_id {n : Int} (h0 : -9223372036854775808 ≤ n) (h1 : n ≤ 9223372036854775807) : wrap64 n = n := by unfold wrap64; omega
theorem strip_some (t : ByteArray) (hs : t.size ≤ 140737488351232) (h2 : 2 ≤ t.size) : check_Strip.f t = if (sealOf (t.extract 0 (t.size - 2))).toList = t.toList then some (t.extract 0 (t.size - 2), true) else some (⟨#[]⟩, false) := by
  have e : ((t.size : Int) - 2).toNat = t.size - 2 := by omega
  have hx : (t.extract 0 (t.size - 2)).size ≤ 140737488351232 := by rw [ByteArray.size_extract]; omega
  unfold check_Strip.f
  rw [wrap_id (by omega) (by omega), if_neg (by omega), if_pos (by omega), if_pos (by omega), e, seal_some _ hx]
  rfl
theorem toList_inj {a b : ByteArray} (h : a.toList = b.toList) : a = b := by
  rw [ByteArray.toList_eq, ByteArray.toList_eq] at h
  exact ByteArray.ext (Array.toList_inj.1 h)
/-- What has a sum other than 0 isn't stripped. -/
theorem strip_not (t : ByteArray) (hs : t.size ≤ 140737488351232) (h2 : 2 ≤ t.size) (h : Crc.S (Crc.B 65535) (Bb.natsOf t) ≠ 0#16) : ∃ u, check_Strip.f t = some (u, false) := by
  rw [strip_some t hs h2]
  by_cases e : (sealOf (t.extract 0 (t.size - 2))).toList = t.toList
  · exact absurd (by rw [← toList_inj e]; exact seal_zero _) h
  · rw [if_neg e]; exact ⟨_, rfl⟩
theorem seal_cut (s : ByteArray) : (sealOf s).extract 0 ((sealOf s).size - 2) = s := by
  rw [sealOf_size, Nat.add_sub_cancel]
  apply ByteArray.ext
  rw [ByteArray.data_extract]
  apply Array.toList_inj.1
  unfold sealOf Bb.strOf
  rw [List.map_append]
  have e3 : (Bb.natsOf s).map UInt8.ofNat = s.data.toList := by
    unfold Bb.natsOf
    rw [List.map_map, show (UInt8.ofNat ∘ fun x : UInt8 => x.toNat) = id from by funext x; simp, List.map_id]
  rw [e3, Array.toList_extract, List.extract_eq_take_drop, List.drop_zero, Nat.sub_zero]
  exact List.take_left' (by rw [Array.length_toList]; rfl)
theorem empty_toList : (⟨#[]⟩ : ByteArray).toList = [] := by rw [ByteArray.toList_eq]
theorem wrap_one (t : Nat) (h : t ≤ 100000000) : wrap64 ((t : Int) + 1) = ((t + 1 : Nat) : Int) := by rw [wrap_id (by omega) (by omega)]; omega
theorem wraps_i64 (n : Int) (h0 : 0 ≤ n) (h1 : n < 2 ^ 63) : IntKind.i64.wrap n = n := by rw [IntKind.wrap_i64]; omega
theorem str_size (xs : List Int) : (strOfNums xs).size = xs.length := by simp [strOfNums, ByteArray.size]
theorem str_append (xs ys : List Int) : strOfNums xs ++ strOfNums ys = strOfNums (xs ++ ys) := by
  apply ByteArray.ext
  simp [strOfNums]
theorem toList_append (a b : ByteArray) : (a ++ b).toList = a.toList ++ b.toList := by
  rw [ByteArray.toList_eq, ByteArray.toList_eq, ByteArray.toList_eq]; simp
/-! ### Numbers as bytes -/
open Wr (putBytes numOf)
theorem putBytes_length (a : Int) : ∀ k, (putBytes a k).length = k
  | 0 => rfl
  | k + 1 => by simp [putBytes, putBytes_length a k]
theorem putBytes_small (a : Int) : ∀ k, ∀ x ∈ putBytes a k, 0 ≤ x ∧ x < 256
  | 0 => fun x h => by simp [putBytes] at h
  | k + 1 => fun x h => by
    simp only [putBytes, List.mem_cons] at h
    rcases h with rfl | h
    · omega
    · exact putBytes_small a k x h

/-- The value of bytes, the highest first. -/
def val (xs : List Int) : Int := xs.foldl (fun n x => n * 256 + x) 0
theorem val_from (xs : List Int) : ∀ n : Int, xs.foldl (fun n x => n * 256 + x) n = n * 256 ^ xs.length + val xs := by
  induction xs with
  | nil => intro n; simp [val]
  | cons x xs ih =>
    intro n
    unfold val
    rw [List.foldl_cons, List.foldl_cons, ih, ih (0 * 256 + x), List.length_cons, Int.pow_succ, Int.zero_mul, Int.zero_add, Int.add_mul]
    rw [show n * (256 ^ xs.length * 256) = n * 256 * 256 ^ xs.length by rw [Int.mul_comm (256 ^ xs.length) 256, Int.mul_assoc]]
    omega
theorem val_cons (x : Int) (xs : List Int) : val (x :: xs) = x * 256 ^ xs.length + val xs := by
  have := val_from xs x
  unfold val at this ⊢
  rw [List.foldl_cons, Int.zero_mul, Int.zero_add]; exact this
theorem val_range {xs : List Int} (h : ∀ x ∈ xs, 0 ≤ x ∧ x < 256) : 0 ≤ val xs ∧ val xs < 256 ^ xs.length := by
  induction xs with
  | nil => simp [val]
  | cons x xs ih =>
    have ih := ih (fun y hy => h y (by simp [hy]))
    have hx := h x (by simp)
    rw [val_cons, List.length_cons, Int.pow_succ]
    have h1 : (x + 1) * 256 ^ xs.length ≤ 256 * 256 ^ xs.length := Int.mul_le_mul_of_nonneg_right (by omega) (Int.le_of_lt (Int.pow_pos (by decide)))
    have h2 : 0 ≤ x * 256 ^ xs.length := Int.mul_nonneg hx.1 (Int.le_of_lt (Int.pow_pos (by decide)))
    rw [Int.add_mul, Int.one_mul] at h1
    generalize 256 ^ xs.length = z at *
    omega
theorem pow_two_eight (k : Nat) : (2 : Int) ^ (8 * k) = 256 ^ k := by rw [Int.pow_mul]; rfl
theorem emod_step (a z : Int) (hp : 0 < z) : a / z % 256 * z + a % z = a % (z * 256) := by
  have e1 : a % z + z * (a / z) = a := Int.emod_add_mul_ediv a z
  have hr0 : 0 ≤ a % z := Int.emod_nonneg a (Int.ne_of_gt hp)
  have hr1 : a % z < z := Int.emod_lt_of_pos a hp
  have hq : a / z = a / z % 256 + 256 * (a / z / 256) := (Int.emod_add_mul_ediv (a / z) 256).symm
  have hd0 : 0 ≤ a / z % 256 := by omega
  have hd1 : a / z % 256 < 256 := by omega
  revert e1 hr0 hr1 hq hd0 hd1
  generalize a / z % 256 = d
  generalize a / z / 256 = u
  generalize a % z = r
  generalize a / z = q
  intro e1 hr0 hr1 hq hd0 hd1
  subst hq
  subst e1
  rw [Int.mul_add, ← Int.mul_assoc z 256 u, Int.mul_comm z d, ← Int.add_assoc, Int.add_mul_emod_self_left]
  have h4 : 0 ≤ d * z := Int.mul_nonneg hd0 (Int.le_of_lt hp)
  have h6 : (d + 1) * z ≤ 256 * z := Int.mul_le_mul_of_nonneg_right hd1 (Int.le_of_lt hp)
  rw [Int.add_mul, Int.one_mul, Int.mul_comm 256 z] at h6
  rw [Int.emod_eq_of_lt (by omega) (by omega)]
  omega
theorem val_put (a : Int) : ∀ k, val (putBytes a k) = a % 256 ^ k
  | 0 => by simp [putBytes, val]
  | k + 1 => by
    rw [putBytes, val_cons, val_put a k, putBytes_length, pow_two_eight, Int.pow_succ]
    exact emod_step a _ (Int.pow_pos (by decide))
theorem put_val : ∀ {xs : List Int}, (∀ x ∈ xs, 0 ≤ x ∧ x < 256) → putBytes (val xs) xs.length = xs := by
  intro xs
  induction xs with
  | nil => intro _; rfl
  | cons x xs ih =>
    intro h
    have hx := h x (by simp)
    have hr := val_range (xs := xs) (fun y hy => h y (List.mem_cons_of_mem _ hy))
    have hp : (0 : Int) < 256 ^ xs.length := Int.pow_pos (by decide)
    rw [List.length_cons, putBytes, pow_two_eight, val_cons]
    have e1 : (x * 256 ^ xs.length + val xs) / 256 ^ xs.length % 256 = x := by
      rw [Int.add_comm, Int.add_mul_ediv_right _ _ (Int.ne_of_gt hp), Int.ediv_eq_zero_of_lt hr.1 hr.2]; omega
    rw [e1]
    congr 1
    have e2 : ∀ k, k ≤ xs.length → putBytes (x * 256 ^ xs.length + val xs) k = putBytes (val xs) k := by
      intro k
      induction k with
      | zero => intro _; rfl
      | succ k ihk =>
        intro hk
        rw [putBytes, putBytes, ihk (by omega), pow_two_eight]
        congr 1
        obtain ⟨m, hm⟩ : ∃ m, xs.length = k + 1 + m := ⟨xs.length - (k + 1), by omega⟩
        have e3 : x * 256 ^ xs.length = (x * 256 ^ m * 256) * 256 ^ k := by rw [hm, Int.pow_add, Int.pow_succ]; simp only [Int.mul_assoc, Int.mul_comm, Int.mul_left_comm]
        rw [e3, Int.add_comm, Int.add_mul_ediv_right _ _ (Int.ne_of_gt (Int.pow_pos (by decide)))]
        omega
    rw [e2 _ (Nat.le_refl _)]
    exact ih (fun y hy => h y (by simp [hy]))
theorem put_inj {a b : Int} {k : Nat} (h : putBytes a k = putBytes b k) : a % 256 ^ k = b % 256 ^ k := by rw [← val_put, ← val_put, h]
theorem put_congr {a b : Int} : ∀ {k : Nat}, a % 256 ^ k = b % 256 ^ k → putBytes a k = putBytes b k := by
  intro k h
  have ha := putBytes_small a k
  have hb := putBytes_small b k
  have e1 := put_val ha
  have e2 := put_val hb
  rw [putBytes_length, val_put] at e1 e2
  rw [← e1, ← e2, h]

theorem mx_of_lt {a b : Int} (h : a < b) : mx a b = b := by unfold mx; rw [if_pos h]
theorem mx_of_ge {a b : Int} (h : b ≤ a) : mx a b = a := by unfold mx; rw [if_neg (by omega)]
theorem mn_of_gt {a b : Int} (h : b < a) : mn a b = b := by unfold mn; rw [if_pos h]
theorem mn_of_le {a b : Int} (h : a ≤ b) : mn a b = a := by unfold mn; rw [if_neg (by omega)]
def szOf (size : Int) : Nat := (mn (mx size 1) 8).toNat
theorem numOf_eq (size a : Int) : numOf size a = strOfNums (putBytes a (szOf size)) := rfl

theorem digit64 (n : Int) (i : Nat) (hi : i < 8) : n % 18446744073709551616 / 256 ^ i % 256 = n / 2 ^ (8 * i) % 256 := by
  rw [pow_two_eight]
  have hc : i = 0 ∨ i = 1 ∨ i = 2 ∨ i = 3 ∨ i = 4 ∨ i = 5 ∨ i = 6 ∨ i = 7 := by omega
  rcases hc with rfl | rfl | rfl | rfl | rfl | rfl | rfl | rfl <;> omega

theorem szOf_lo {size : Int} (h : size < 1) : szOf size = 1 := by unfold szOf; rw [mx_of_lt h]; rfl
theorem szOf_hi {size : Int} (h : 8 < size) : szOf size = 8 := by unfold szOf; rw [mx_of_ge (by omega), mn_of_gt h]; rfl
theorem szOf_mid {size : Int} (h : 1 ≤ size) (h8 : size ≤ 8) : ((szOf size : Nat) : Int) = size := by unfold szOf; rw [mx_of_ge h, mn_of_le h8]; omega
theorem szOf_le (size : Int) : szOf size ≤ 8 := by
  by_cases h1 : size < 1
  · rw [szOf_lo h1]; decide
  · by_cases h2 : 8 < size
    · rw [szOf_hi h2]; decide
    · have := szOf_mid (show 1 ≤ size by omega) (by omega); omega
theorem take_snoc (l : List Int) (j : Nat) (h : j < l.length) : l.take (j + 1) = l.take j ++ [l.getD j 0] := by
  rw [List.take_succ_eq_append_getElem h, List.getD_eq_getElem?_getD, List.getElem?_eq_getElem h]; rfl


/-! ### The reader -/
/-- n bytes of s from place i on. -/
def seg (s : ByteArray) (i n : Nat) : List Int := ((bytesOf s).drop i).take n
theorem seg_length (s : ByteArray) (i n : Nat) (h : i + n ≤ s.size) : (seg s i n).length = n := by
  unfold seg; rw [List.length_take, List.length_drop, bytesOf_length]; omega
theorem bytesOf_small (s : ByteArray) : ∀ x ∈ bytesOf s, 0 ≤ x ∧ x < 256 := by
  intro x hx
  simp only [bytesOf, List.mem_map] at hx
  obtain ⟨b, -, rfl⟩ := hx
  have := b.toNat_lt; omega
theorem seg_small (s : ByteArray) (i n : Nat) : ∀ x ∈ seg s i n, 0 ≤ x ∧ x < 256 := fun x hx =>
  bytesOf_small s x (List.mem_of_mem_drop (List.mem_of_mem_take hx))
theorem bytesOf_cut (s : ByteArray) (i n : Nat) : bytesOf (s.extract i (i + n)) = seg s i n := by
  unfold seg bytesOf
  rw [ByteArray.data_extract, Array.toList_extract, List.extract_eq_take_drop, List.map_take, List.map_drop]
  congr 1; omega
theorem or_8 (x y : Int) (h0 : 0 ≤ x) (h1 : x < 2 ^ 55) (k0 : 0 ≤ y) (k1 : y < 256) : Go.bits .or .i64 (wrap64 (x * 256)) (wrap64 y) = x * 256 + y := by
  rw [wrap_id (by omega) (by omega), wrap_id (by omega) (by omega)]
  exact bits_join .i64 63 (by decide) wraps_i64 8 (x * 256) y (by omega) (by omega) (by omega) k0 k1 (by omega)
theorem val_snoc (xs : List Int) (x : Int) : val (xs ++ [x]) = val xs * 256 + x := by
  unfold val; rw [List.foldl_append]; rfl
theorem pow_le_55 (j : Nat) (h : j ≤ 6) : (256 : Int) ^ j ≤ 2 ^ 48 := by
  rw [← pow_two_eight]
  have : (2 : Nat) ^ (8 * j) ≤ 2 ^ 48 := Nat.pow_le_pow_right (by decide) (by omega)
  exact_mod_cast this
theorem get_loop (x5 : ByteArray) (hs : x5.size ≤ 7) (s : ByteArray) (i b : Int) : ∀ d j : Nat, x5.size - j = d → j ≤ x5.size →
    Ev (fun k => octet_Reader_Get.l0 k x5 (val ((bytesOf x5).take j)) (x5.size : Int) (j : Int) s i b) (val (bytesOf x5), s, i, b) := by
  intro d
  induction d with
  | zero =>
    intro j hd hj
    have : j = x5.size := by omega
    subst this
    refine Ev.step (f := fun _ => some (val (bytesOf x5), s, i, b)) (fun k => ?_) (Ev.now _)
    simp only [octet_Reader_Get.l0]
    rw [if_neg (by omega), List.take_of_length_le (by rw [bytesOf_length]; exact Nat.le_refl _)]
  | succ d ih =>
    intro j hd hj
    have hlt : j < x5.size := by omega
    have hnx := ih (j + 1) (by omega) (by omega)
    have hl : (bytesOf x5).length = x5.size := bytesOf_length x5
    have e1 : val ((bytesOf x5).take (j + 1)) = val ((bytesOf x5).take j) * 256 + bt x5 (j : Int) := by
      rw [take_snoc _ _ (by rw [hl]; exact hlt), val_snoc]; rw [← rd_bytesOf]; rfl
    have hr := val_range (xs := (bytesOf x5).take j) (fun x hx => bytesOf_small x5 x (List.mem_of_mem_take hx))
    rw [List.length_take, hl, Nat.min_eq_left (Nat.le_of_lt hlt)] at hr
    have hp := pow_le_55 j (by omega)
    have hb := bt_range x5 (j : Int)
    rw [e1] at hnx
    refine Ev.step (fun k => ?_) hnx
    simp only [octet_Reader_Get.l0]
    rw [if_pos (Int.ofNat_lt.2 hlt), if_pos (Int.natCast_nonneg j), if_pos (Int.ofNat_lt.2 hlt), or_8 _ _ hr.1 (Int.lt_of_lt_of_le hr.2 (Int.le_trans hp (by decide))) hb.1 (by omega), wrap_one j (by omega)]

theorem take_good (s : ByteArray) (i n : Nat) (hs : s.size ≤ 140737488351232) (h : i + n ≤ s.size) :
    octet_Reader_take.f s i (-1) n = some (s.extract i (i + n), true, s, ((i + n : Nat) : Int), -1) := by
  unfold octet_Reader_take.f
  have w1 : wrap64 ((s.size : Int) - (i : Int)) = (s.size : Int) - (i : Int) := wrap_id (by omega) (by omega)
  have w2 : wrap64 ((i : Int) + (n : Int)) = ((i + n : Nat) : Int) := by rw [wrap_id (by omega) (by omega)]; omega
  have w3 : wrap64 (((i + n : Nat) : Int) - (n : Int)) = (i : Int) := by rw [wrap_id (by omega) (by omega)]; omega
  rw [w1, w2, w3, if_neg (by decide), if_neg (by omega), if_neg (by omega), if_pos (by omega), if_pos (by omega), if_pos (by omega), Int.toNat_natCast, Int.toNat_natCast]
theorem take_short (s : ByteArray) (i n : Nat) (hs : s.size ≤ 140737488351232) (hi : i ≤ s.size) (h : ¬ i + n ≤ s.size) :
    octet_Reader_take.f s i (-1) n = some ((⟨#[]⟩ : ByteArray), false, s, (i : Int), (i : Int)) := by
  unfold octet_Reader_take.f
  have w1 : wrap64 ((s.size : Int) - (i : Int)) = (s.size : Int) - (i : Int) := wrap_id (by omega) (by omega)
  rw [w1, if_neg (by decide), if_neg (by omega), if_pos (by omega)]
theorem take_bad (s : ByteArray) (i b n : Int) (hb : 0 ≤ b) : octet_Reader_take.f s i b n = some ((⟨#[]⟩ : ByteArray), false, s, i, b) := by
  unfold octet_Reader_take.f; rw [if_pos hb]

theorem mnmx7 (n : Nat) (h1 : 1 ≤ n) (h7 : n ≤ 7) : mn (mx (n : Int) 1) 7 = (n : Int) := by rw [mx_of_ge (by omega), mn_of_le (by omega)]
theorem get_good (s : ByteArray) (i n : Nat) (hs : s.size ≤ 140737488351232) (h : i + n ≤ s.size) (h1 : 1 ≤ n) (h7 : n ≤ 7) :
    Ev (fun k => octet_Reader_Get.f k s i (-1) n) (val (seg s i n), s, ((i + n : Nat) : Int), -1) := by
  have hz : (s.extract i (i + n)).size = n := by rw [← bytesOf_length, bytesOf_cut, seg_length s i n h]
  have L := get_loop (s.extract i (i + n)) (by omega) s ((i + n : Nat) : Int) (-1) _ 0 rfl (Nat.zero_le _)
  rw [bytesOf_cut] at L
  refine Ev.congr (fun k => ?_) L
  unfold octet_Reader_Get.f
  rw [mnmx7 n h1 h7, take_good s i n hs h]
  simp only [Option.bind_some]
  rw [if_pos trivial]
  rfl
theorem get_short (s : ByteArray) (i n : Nat) (hs : s.size ≤ 140737488351232) (hi : i ≤ s.size) (h : ¬ i + n ≤ s.size) (h1 : 1 ≤ n) (h7 : n ≤ 7) :
    Ev (fun k => octet_Reader_Get.f k s i (-1) n) (0, s, (i : Int), (i : Int)) := by
  refine Ev.congr (fun k => ?_) (Ev.now _)
  unfold octet_Reader_Get.f
  rw [mnmx7 n h1 h7, take_short s i n hs hi h]
  simp
theorem get_bad (s : ByteArray) (i b n : Int) (hb : 0 ≤ b) : Ev (fun k => octet_Reader_Get.f k s i b n) (0, s, i, b) := by
  refine Ev.congr (fun k => ?_) (Ev.now _)
  unfold octet_Reader_Get.f
  rw [take_bad s i b _ hb]
  simp

/-- A reader's state: it reads from i on, or it has failed. -/
def Rs (s : ByteArray) (i : Nat) (b : Int) : Prop := i ≤ s.size ∧ (b = -1 ∨ 0 ≤ b)
theorem get_ev (s : ByteArray) (hs : s.size ≤ 140737488351232) (i : Nat) (b : Int) (n : Nat) (h1 : 1 ≤ n) (h7 : n ≤ 7) (H : Rs s i b) :
    ∃ v i' b', Ev (fun k => octet_Reader_Get.f k s i b n) (v, s, ((i' : Nat) : Int), b') ∧ Rs s i' b' ∧ (b' = -1 ↔ b = -1 ∧ i + n ≤ s.size) ∧ (b' = -1 → i' = i + n ∧ v = val (seg s i n)) := by
  obtain ⟨hi, hb | hb⟩ := H
  · subst hb
    by_cases h : i + n ≤ s.size
    · exact ⟨_, _, _, get_good s i n hs h h1 h7, ⟨h, .inl rfl⟩, ⟨fun _ => ⟨rfl, h⟩, fun _ => rfl⟩, fun _ => ⟨rfl, rfl⟩⟩
    · exact ⟨_, _, _, get_short s i n hs hi h h1 h7, ⟨hi, .inr (Int.natCast_nonneg i)⟩, ⟨fun e => by omega, fun e => absurd e.2 h⟩, fun e => by omega⟩
  · exact ⟨_, _, _, get_bad s i b n hb, ⟨hi, .inr hb⟩, ⟨fun e => by omega, fun e => by omega⟩, fun e => by omega⟩
theorem fail_ev (s : ByteArray) (i : Nat) (b : Int) (H : Rs s i b) : ∃ b', octet_Reader_Fail.f s i b = some (s, (i : Int), b') ∧ Rs s i b' ∧ 0 ≤ b' := by
  unfold octet_Reader_Fail.f
  by_cases h : b < 0
  · rw [if_pos h]; exact ⟨_, rfl, ⟨H.1, .inr (Int.natCast_nonneg i)⟩, Int.natCast_nonneg i⟩
  · rw [if_neg h]; exact ⟨_, rfl, H, by omega⟩
theorem and_one (x : Int) (h0 : 0 ≤ x) (h1 : x < 2 ^ 63) : Go.bits .and .i64 x 1 = x % 2 :=
  bits_mask .i64 63 (by decide) wraps_i64 1 (by decide) x h0 h1
theorem and_12 (x : Int) (h0 : 0 ≤ x) (h1 : x < 2 ^ 63) : Go.bits .and .i64 x 4095 = x % 4096 := bits_mask .i64 63 (by decide) wraps_i64 12 (by decide) x h0 h1
theorem good_is (a : Int) : addr_Good.f a = some (decide (0 ≤ a ∧ a ≤ 281474976710655)) := by
  unfold addr_Good.f
  by_cases h : a ≥ 0
  · rw [if_pos h]; congr 1; rw [decide_eq_decide]; omega
  · rw [if_neg h]; congr 1; symm; rw [decide_eq_false_iff_not]; omega
theorem rgood_is (a : Int) : kissgateref02_Good.f a = some (decide (0 ≤ a ∧ a ≤ 281474976710655)) := by
  unfold kissgateref02_Good.f
  by_cases h : a ≥ 0
  · rw [if_pos h]; congr 1; rw [decide_eq_decide]; omega
  · rw [if_neg h]; congr 1; symm; rw [decide_eq_false_iff_not]; omega
def many (a : Int) : Bool := decide (0 ≤ a ∧ a ≤ 281474976710655 ∧ a / 1099511627776 % 2 = 1)
theorem many_is (a : Int) : addr_Many.f a = some (many a) := by
  unfold addr_Many.f many
  rw [good_is]; simp only [Option.bind_some]
  by_cases h : 0 ≤ a ∧ a ≤ 281474976710655
  · rw [if_pos (by simpa using h), and_one _ (by omega) (by omega)]
    congr 1
    rw [Bool.eq_iff_iff]; simp; omega
  · rw [if_neg (by simpa using h)]; congr 1; symm; rw [decide_eq_false_iff_not]; omega
theorem rmany_is (a : Int) : kissgateref02_Many.f a = some (many a) := by
  unfold kissgateref02_Many.f many
  rw [rgood_is]; simp only [Option.bind_some]
  by_cases h : 0 ≤ a ∧ a ≤ 281474976710655
  · rw [if_pos (by simpa using h)]
    have e : Int.tmod (wrap64 (Int.tdiv a 1099511627776)) 2 = a / 1099511627776 % 2 := by
      rw [Int.tdiv_eq_ediv_of_nonneg h.1]
      have : wrap64 (a / 1099511627776) = a / 1099511627776 := by unfold wrap64; omega
      rw [this, Int.tmod_eq_emod_of_nonneg (by omega)]
    rw [e]; congr 1
    rw [Bool.eq_iff_iff]; simp; omega
  · rw [if_neg (by simpa using h)]; congr 1; symm; rw [decide_eq_false_iff_not]; omega
theorem type_is (a : Int) : addr_Type.f a = some (decide (1536 ≤ a ∧ a ≤ 65535)) := by
  unfold addr_Type.f
  by_cases h : a ≥ 1536
  · rw [if_pos h]; congr 1; rw [decide_eq_decide]; omega
  · rw [if_neg h]; congr 1; symm; rw [decide_eq_false_iff_not]; omega
theorem length_is (a : Int) : addr_Length.f a = some (decide (0 ≤ a ∧ a ≤ 1500)) := by
  unfold addr_Length.f
  by_cases h : a ≥ 0
  · rw [if_pos h]; congr 1; rw [decide_eq_decide]; omega
  · rw [if_neg h]; congr 1; symm; rw [decide_eq_false_iff_not]; omega
/-- Whether a frame can be. -/
def tagOk (tg : Bool) (v p : Int) : Prop := (tg = true → 0 ≤ v ∧ v ≤ 4094 ∧ 0 ≤ p ∧ p ≤ 7) ∧ (tg = false → v = 0 ∧ p = 0)
def typeOk (t : Int) : Prop := t = 0 ∨ (1536 ≤ t ∧ t ≤ 65535 ∧ t ≠ 33024)
def GdF (d s : Int) (tg : Bool) (v p t : Int) (n : Nat) : Prop := (0 ≤ d ∧ d ≤ 281474976710655) ∧ (0 ≤ s ∧ s ≤ 281474976710655) ∧ many s = false ∧ n ≤ 400 ∧ tagOk tg v p ∧ typeOk t
open Classical in
noncomputable def gdB (d s : Int) (tg : Bool) (v p t : Int) (n : Nat) : Bool := decide (GdF d s tg v p t n)
open Classical in
theorem gdB_true {d s : Int} {tg : Bool} {v p t : Int} {n : Nat} : gdB d s tg v p t n = true ↔ GdF d s tg v p t n := by unfold gdB; exact decide_eq_true_iff
open Classical in
theorem gdB_false {d s : Int} {tg : Bool} {v p t : Int} {n : Nat} : gdB d s tg v p t n = false ↔ ¬ GdF d s tg v p t n := by unfold gdB; exact decide_eq_false_iff_not
theorem j1_is (m : Nat) (tg : Bool) (d s v p t : Int) (a : ByteArray) (h : tagOk tg v p) : (typeOk t → frame_Good.j1 (m + 1) false d s tg v p t a = some true) ∧ (¬ typeOk t → frame_Good.j1 (m + 1) false d s tg v p t a = some false) := by
  have key : ∀ o : Option Bool, o = (if t = 0 then some true else (addr_Type.f t).bind fun u => if u = true then some (t != 33024) else some false) → (typeOk t → o = some true) ∧ (¬ typeOk t → o = some false) := by
    intro o ho
    subst ho
    rw [type_is]
    simp only [Option.bind_some]
    unfold typeOk
    by_cases h0 : t = 0
    · rw [if_pos h0]; exact ⟨fun _ => rfl, fun h => absurd (.inl h0) h⟩
    · rw [if_neg h0]
      by_cases h1 : 1536 ≤ t ∧ t ≤ 65535
      · rw [if_pos (by simpa using h1)]
        by_cases h2 : t = 33024
        · subst h2; exact ⟨fun h => by omega, fun _ => by decide⟩
        · exact ⟨fun _ => by rw [show (t != 33024) = true from by rw [bne_iff_ne]; exact h2], fun h => absurd (.inr ⟨h1.1, h1.2, h2⟩) h⟩
      · rw [if_neg (by simpa using h1)]; exact ⟨fun h => by omega, fun _ => rfl⟩
  apply key
  simp only [frame_Good.j1]
  rw [if_neg (by decide)]
  cases tg with
  | true => rw [if_pos rfl]
  | false => obtain ⟨rfl, rfl⟩ := h.2 rfl; rw [if_neg (by decide), if_pos rfl, if_pos rfl]
theorem j0_is (m : Nat) (tg : Bool) (d s v p t : Int) (a : ByteArray) : (tagOk tg v p ∧ typeOk t → frame_Good.j0 (m + 2) false d s tg v p t a = some true) ∧ (¬ (tagOk tg v p ∧ typeOk t) → frame_Good.j0 (m + 2) false d s tg v p t a = some false) := by
  have j1t : ∀ d s tg v p t a, frame_Good.j1 (m + 1) true d s tg v p t a = some false := fun _ _ _ _ _ _ _ => by simp only [frame_Good.j1]; rw [if_pos trivial]
  have nt : ¬ tagOk tg v p → frame_Good.j0 (m + 2) false d s tg v p t a = some false := by
    intro h
    simp only [frame_Good.j0]
    rw [if_neg (by decide)]
    unfold tagOk at h
    cases tg with
    | true =>
      rw [if_pos rfl]
      by_cases h1 : v < 0
      · rw [if_pos h1, j1t]
      · rw [if_neg h1]
        by_cases h2 : v > 4094
        · rw [if_pos h2, j1t]
        · rw [if_neg h2]
          by_cases h3 : p < 0
          · rw [if_pos h3, j1t]
          · rw [if_neg h3]
            have h4 : p > 7 := by
              apply Classical.byContradiction
              intro h4
              exact h ⟨fun _ => by omega, fun e => by cases e⟩
            rw [show decide (p > 7) = true from decide_eq_true h4, j1t]
    | false =>
      rw [if_neg (by decide)]
      simp only [frame_Good.j1]
      rw [if_neg (by decide), if_neg (by decide)]
      by_cases h1 : v = 0
      · rw [if_pos h1]
        have h2 : ¬ p = 0 := fun h2 => h ⟨(fun e => by cases e), fun _ => ⟨h1, h2⟩⟩
        rw [if_neg h2]
      · rw [if_neg h1]
  have yt : tagOk tg v p → frame_Good.j0 (m + 2) false d s tg v p t a = frame_Good.j1 (m + 1) false d s tg v p t a := by
    intro h
    simp only [frame_Good.j0]
    rw [if_neg (by decide)]
    cases tg with
    | true =>
      have := h.1 rfl
      rw [if_pos rfl, if_neg (by omega), if_neg (by omega), if_neg (by omega), show decide (p > 7) = false from decide_eq_false (by omega)]
    | false => rw [if_neg (by decide)]
  by_cases h : tagOk tg v p
  · rw [yt h]
    exact ⟨fun e => (j1_is m tg d s v p t a h).1 e.2, fun e => (j1_is m tg d s v p t a h).2 (fun h2 => e ⟨h, h2⟩)⟩
  · exact ⟨fun e => absurd e.1 h, fun _ => nt h⟩
theorem fgood_is (m : Nat) (d s : Int) (tg : Bool) (v p t : Int) (a : ByteArray) : frame_Good.f (m + 2) d s tg v p t a = some (gdB d s tg v p t a.size) := by
  have j0t : ∀ d s tg v p t a, frame_Good.j0 (m + 2) true d s tg v p t a = some false := fun _ _ _ _ _ _ _ => by simp only [frame_Good.j0]; rw [if_pos trivial]
  have no : ¬ GdF d s tg v p t a.size → some false = some (gdB d s tg v p t a.size) := fun h => by rw [gdB_false.2 h]
  unfold frame_Good.f
  rw [good_is, good_is, many_is]
  simp only [Option.bind_some]
  by_cases hA : 0 ≤ d ∧ d ≤ 281474976710655
  · rw [if_pos (by simpa using hA)]
    by_cases hB : 0 ≤ s ∧ s ≤ 281474976710655
    · rw [if_pos (by simpa using hB)]
      by_cases hC : many s = true
      · rw [if_pos hC, j0t]; exact no (fun h => by rw [h.2.2.1] at hC; cases hC)
      · rw [if_neg hC]
        have hC : many s = false := Bool.eq_false_iff.2 hC
        by_cases hD : (a.size : Int) > 400
        · rw [show decide ((a.size : Int) > 400) = true from decide_eq_true hD, j0t]; exact no (fun h => by have := h.2.2.2.1; omega)
        · rw [show decide ((a.size : Int) > 400) = false from decide_eq_false hD]
          by_cases hT : tagOk tg v p ∧ typeOk t
          · rw [(j0_is m tg d s v p t a).1 hT, gdB_true.2 ⟨hA, hB, hC, by omega, hT⟩]
          · rw [(j0_is m tg d s v p t a).2 hT]; exact no (fun h => hT h.2.2.2.2)
    · rw [if_neg (by simpa using hB), j0t]; exact no (fun h => hB h.2.1)
  · rw [if_neg (by simpa using hA), j0t]; exact no (fun h => hA h.1)
theorem fgood_ev (d s : Int) (tg : Bool) (v p t : Int) (a : ByteArray) : Ev (fun k => frame_Good.f k d s tg v p t a) (gdB d s tg v p t a.size) :=
  ⟨2, fun k hk => by obtain ⟨m, rfl⟩ : ∃ m, k = m + 2 := ⟨k - 2, by omega⟩; exact fgood_is m d s tg v p t a⟩
theorem rgood_frame (m : Nat) (d s : Int) (tg : Bool) (v p t : Int) (a : ByteArray) : kissgateref05_Good.f (m + 1) d s tg v p t a = some (gdB d s tg v p t a.size) := by
  have j0t : ∀ d s tg v p t a, kissgateref05_Good.j0 (m + 1) true d s tg v p t a = some false := fun _ _ _ _ _ _ _ => by simp only [kissgateref05_Good.j0]; rw [if_pos trivial]
  have no : ¬ GdF d s tg v p t a.size → some false = some (gdB d s tg v p t a.size) := fun h => by rw [gdB_false.2 h]
  unfold kissgateref05_Good.f
  rw [rgood_is, rgood_is, rmany_is]
  simp only [Option.bind_some]
  by_cases hA : 0 ≤ d ∧ d ≤ 281474976710655
  · rw [if_pos (by simpa using hA)]
    by_cases hB : 0 ≤ s ∧ s ≤ 281474976710655
    · rw [if_pos (by simpa using hB)]
      by_cases hC : many s = true
      · rw [if_pos hC, j0t]; exact no (fun h => by rw [h.2.2.1] at hC; cases hC)
      · rw [if_neg hC]
        have hC : many s = false := Bool.eq_false_iff.2 hC
        by_cases hD : (a.size : Int) > 400
        · rw [show decide ((a.size : Int) > 400) = true from decide_eq_true hD, j0t]; exact no (fun h => by have := h.2.2.2.1; omega)
        · rw [show decide ((a.size : Int) > 400) = false from decide_eq_false hD]
          have ty : tagOk tg v p → (if t = 0 then some true else if t ≥ 1536 then if t < 65536 then some (t != 33024) else some false else some false) = some (gdB d s tg v p t a.size) := by
            intro hT
            have mk : typeOk t → some true = some (gdB d s tg v p t a.size) := fun h => by rw [gdB_true.2 ⟨hA, hB, hC, by omega, hT, h⟩]
            have mn_ : ¬ typeOk t → some false = some (gdB d s tg v p t a.size) := fun h => no (fun g => h g.2.2.2.2.2)
            by_cases h0 : t = 0
            · rw [if_pos h0]; exact mk (.inl h0)
            · rw [if_neg h0]
              by_cases h1 : t ≥ 1536
              · rw [if_pos h1]
                by_cases h2 : t < 65536
                · rw [if_pos h2]
                  by_cases h3 : t = 33024
                  · subst h3; exact mn_ (by unfold typeOk; omega)
                  · rw [show (t != 33024) = true from by rw [bne_iff_ne]; exact h3]; exact mk (.inr ⟨h1, by omega, h3⟩)
                · rw [if_neg h2]; exact mn_ (by unfold typeOk; omega)
              · rw [if_neg h1]; exact mn_ (by unfold typeOk; omega)
          simp only [kissgateref05_Good.j0]
          rw [if_neg (by decide)]
          cases tg with
          | true =>
            have nt : ∀ h : ¬ (0 ≤ v ∧ v ≤ 4094 ∧ 0 ≤ p ∧ p ≤ 7), some false = some (gdB d s true v p t a.size) := fun h => no (fun g => h (g.2.2.2.2.1.1 rfl))
            rw [if_pos rfl]
            by_cases h1 : v < 0
            · rw [if_pos h1]; exact nt (by omega)
            · rw [if_neg h1]
              by_cases h2 : v > 4094
              · rw [if_pos h2]; exact nt (by omega)
              · rw [if_neg h2]
                by_cases h3 : p < 0
                · rw [if_pos h3]; exact nt (by omega)
                · rw [if_neg h3]
                  by_cases h4 : p > 7
                  · rw [if_pos h4]; exact nt (by omega)
                  · rw [if_neg h4]; exact ty ⟨(fun _ => by omega), (fun e => by cases e)⟩
          | false =>
            rw [if_neg (by decide)]
            by_cases h1 : v = 0
            · rw [if_pos h1]
              by_cases h2 : p = 0
              · rw [if_pos h2]; exact ty ⟨(fun e => by cases e), (fun _ => ⟨h1, h2⟩)⟩
              · rw [if_neg h2]; exact no (fun g => h2 (g.2.2.2.2.1.2 rfl).2)
            · rw [if_neg h1]; exact no (fun g => h1 (g.2.2.2.2.1.2 rfl).1)
    · rw [if_neg (by simpa using hB), j0t]; exact no (fun h => hB h.2.1)
  · rw [if_neg (by simpa using hA), j0t]; exact no (fun h => hA h.1)
theorem rgood_ev (d s : Int) (tg : Bool) (v p t : Int) (a : ByteArray) : Ev (fun k => kissgateref05_Good.f k d s tg v p t a) (gdB d s tg v p t a.size) :=
  ⟨1, fun k hk => by obtain ⟨m, rfl⟩ : ∃ m, k = m + 1 := ⟨k - 1, by omega⟩; exact rgood_frame m d s tg v p t a⟩
abbrev R8 := Int × Int × Bool × Int × Int × Int × ByteArray × Int
def zr : R8 := (0, 0, false, 0, 0, 0, ⟨#[]⟩, 4)
/-- What comes of it: v where P holds, else nothing. -/
def Res (P : Prop) (g : Nat → Option R8) (v : R8) : Prop := (P ∧ Ev g v) ∨ (¬ P ∧ Ev g zr)
theorem Res.bad {P : Prop} {g : Nat → Option R8} {v : R8} (h : ¬ P) (e : Ev g zr) : Res P g v := .inr ⟨h, e⟩
theorem Res.congr {P : Prop} {g f : Nat → Option R8} {v : R8} (h : ∀ k, g k = f k) (r : Res P f v) : Res P g v := by
  rcases r with ⟨p, e⟩ | ⟨p, e⟩
  · exact .inl ⟨p, Ev.congr h e⟩
  · exact .inr ⟨p, Ev.congr h e⟩
theorem Res.iff {P Q : Prop} {g : Nat → Option R8} {v : R8} (h : P ↔ Q) (r : Res P g v) : Res Q g v := by
  rcases r with ⟨p, e⟩ | ⟨p, e⟩
  · exact .inl ⟨h.1 p, e⟩
  · exact .inr ⟨fun q => p (h.2 q), e⟩
theorem left_good (b : ByteArray) (i : Nat) (hs : b.size ≤ 140737488351232) (hi : i ≤ b.size) : octet_Reader_Left.f b i (-1) = some (((b.size - i : Nat) : Int), b, (i : Int), -1) := by
  unfold octet_Reader_Left.f
  rw [if_neg (by decide), wrap_id (by omega) (by omega)]
  congr 2
  omega
theorem left_bad (b : ByteArray) (i x : Int) (h : 0 ≤ x) : octet_Reader_Left.f b i x = some (0, b, i, x) := by unfold octet_Reader_Left.f; rw [if_pos h]
theorem raw_good (b : ByteArray) (i n : Nat) (hs : b.size ≤ 140737488351232) (h : i + n ≤ b.size) : octet_Reader_Raw.f b i (-1) n = some (b.extract i (i + n), b, ((i + n : Nat) : Int), -1) := by
  unfold octet_Reader_Raw.f; rw [take_good b i n hs h]; rfl
theorem raw_short (b : ByteArray) (i n : Nat) (hs : b.size ≤ 140737488351232) (hi : i ≤ b.size) (h : ¬ i + n ≤ b.size) : octet_Reader_Raw.f b i (-1) n = some (⟨#[]⟩, b, (i : Int), (i : Int)) := by
  unfold octet_Reader_Raw.f; rw [take_short b i n hs hi h]; rfl
theorem raw_bad (b : ByteArray) (i x n : Int) (h : 0 ≤ x) : octet_Reader_Raw.f b i x n = some (⟨#[]⟩, b, i, x) := by
  unfold octet_Reader_Raw.f; rw [take_bad b i x n h]; rfl
theorem end_good (b : ByteArray) : octet_Reader_End.f b (b.size : Int) (-1) = some (0, b, (b.size : Int), -1) := by unfold octet_Reader_End.f; rw [if_neg (by decide), if_neg (by omega)]
theorem end_bad (b : ByteArray) (i x : Int) (h : 0 ≤ x) : octet_Reader_End.f b i x = some (4, b, i, x) := by unfold octet_Reader_End.f; rw [if_pos h]
theorem rest_bad (b : ByteArray) (i x d s : Int) (o : Option Int) (t : Int) (h : 0 ≤ x) (k : Nat) : frame_Read.rest k (b, i, x) d s o t = some zr := by
  unfold frame_Read.rest
  simp only [left_bad b i x h, raw_bad b i x _ h, end_bad b i x h, Option.bind_some]
  rfl
theorem extract_size (b : ByteArray) (i : Nat) (hi : i ≤ b.size) : (b.extract i b.size).size = b.size - i := by rw [ByteArray.size_extract]; omega
theorem rest_res (b : ByteArray) (i : Nat) (d s : Int) (o : Option Int) (t : Int) (hs : b.size ≤ 140737488351232) (hi : i ≤ b.size) :
    Res (GdF d s (tgOf false o) (vidOf 0 o) (prioOf 0 o) t (b.size - i)) (fun k => frame_Read.rest k (b, (i : Int), -1) d s o t) (d, s, tgOf false o, vidOf 0 o, prioOf 0 o, t, b.extract i b.size, 0) := by
  have e0 : i + (b.size - i) = b.size := by omega
  have r := raw_good b i (b.size - i) hs (by omega)
  rw [e0] at r
  have G := fgood_ev d s (tgOf false o) (vidOf 0 o) (prioOf 0 o) t (b.extract i b.size)
  rw [extract_size b i hi] at G
  have F : ∀ k, frame_Read.rest k (b, (i : Int), -1) d s o t = (frame_Good.f k d s (tgOf false o) (vidOf 0 o) (prioOf 0 o) t (b.extract i b.size)).bind fun gd => if gd = true then some (d, s, tgOf false o, vidOf 0 o, prioOf 0 o, t, b.extract i b.size, 0) else some zr := by
    intro k
    unfold frame_Read.rest
    simp only [left_good b i hs hi, Option.bind_some, r, end_good]
    rfl
  by_cases h : GdF d s (tgOf false o) (vidOf 0 o) (prioOf 0 o) t (b.size - i)
  · rw [gdB_true.2 h] at G
    exact .inl ⟨h, Ev.congr F (Ev.bind G (Ev.congr (fun k => by rw [if_pos rfl]) (Ev.now _)))⟩
  · rw [gdB_false.2 h] at G
    exact .inr ⟨h, Ev.congr F (Ev.bind G (Ev.congr (fun k => by rw [if_neg (by decide)]) (Ev.now _)))⟩
/-- What stands behind the tag. -/
def typ (k : Nat) (st : RS) (d s t : Int) (o : Option Int) : Option R8 :=
  (addr_Length.f t).bind fun ln => if ln = true then
      (octet_Reader_Left.f st.1 st.2.1 st.2.2).bind fun l => if (t != l.1) = true then (octet_Reader_Fail.f l.2.1 l.2.2.1 l.2.2.2).bind fun q => frame_Read.rest k q d s o 0 else
      (octet_Reader_Raw.f l.2.1 l.2.2.1 l.2.2.2 3).bind fun x => if (x.1.toList != [66, 66, 3]) = true then (octet_Reader_Fail.f x.2.1 x.2.2.1 x.2.2.2).bind fun q => frame_Read.rest k q d s o 0 else frame_Read.rest k x.2 d s o 0
    else frame_Read.rest k st d s o t
theorem read_eq (k : Nat) (a : ByteArray) : frame_Read.f k a = (check_Strip.f a).bind fun b => if b.2 = true then
    (octet_Open.f b.1).bind fun r => (octet_Reader_Get.f k r.1 r.2.1 r.2.2 6).bind fun d => (octet_Reader_Get.f k d.2.1 d.2.2.1 d.2.2.2 6).bind fun s => (frame_tag.g k s.2).bind fun t => typ k t.2.1 d.1 s.1 t.1 t.2.2
  else some zr := rfl
theorem fail_bad (b : ByteArray) (i x : Int) (h : 0 ≤ x) : octet_Reader_Fail.f b i x = some (b, i, x) := by unfold octet_Reader_Fail.f; rw [if_neg (by omega)]
theorem fail_good (b : ByteArray) (i : Nat) : octet_Reader_Fail.f b i (-1) = some (b, (i : Int), (i : Int)) := by unfold octet_Reader_Fail.f; rw [if_pos (by decide)]
theorem typ_bad (b : ByteArray) (i x d s t : Int) (o : Option Int) (h : 0 ≤ x) (k : Nat) : typ k (b, i, x) d s t o = some zr := by
  unfold typ
  rw [length_is]
  simp only [Option.bind_some, left_bad b i x h, raw_bad b i x _ h, fail_bad b i x h, rest_bad b i x _ _ _ _ h]
  have e : (((⟨#[]⟩ : ByteArray).toList != [66, 66, 3]) = true) := by rw [ByteArray.toList_eq]; rfl
  split
  · split
    · rfl
    · first | rfl | rw [if_pos e]
  · rfl
theorem link_iff (b : ByteArray) (i : Nat) : (b.extract i (i + 3)).toList = [66, 66, 3] ↔ seg b i 3 = [66, 66, 3] := by
  rw [← bytesOf_cut, ByteArray.toList_eq]
  unfold bytesOf
  constructor
  · intro h; rw [h]; rfl
  · intro h
    have inj : ∀ (l m : List UInt8), l.map (fun x => (x.toNat : Int)) = m.map (fun x => (x.toNat : Int)) → l = m := by
      intro l m h
      apply List.map_inj_right (f := fun x : UInt8 => (x.toNat : Int)) (fun x y e => UInt8.toNat_inj.1 (by exact_mod_cast e)) |>.1 h
    exact inj _ [66, 66, 3] h
def RdG (b : ByteArray) (d s : Int) (st : Nat) (ty : Int) (o : Option Int) : Prop := GdF d s (tgOf false o) (vidOf 0 o) (prioOf 0 o) ty (b.size - st)
def valG (b : ByteArray) (d s : Int) (st : Nat) (ty : Int) (o : Option Int) : R8 := (d, s, tgOf false o, vidOf 0 o, prioOf 0 o, ty, b.extract st b.size, 0)
def RdT (b : ByteArray) (d s : Int) (pos : Nat) (t : Int) (o : Option Int) : Prop := if t ≤ 1500 then t = ((b.size - pos : Nat) : Int) ∧ pos + 3 ≤ b.size ∧ seg b pos 3 = [66, 66, 3] ∧ RdG b d s (pos + 3) 0 o else RdG b d s pos t o
def valT (b : ByteArray) (d s : Int) (pos : Nat) (t : Int) (o : Option Int) : R8 := if t ≤ 1500 then valG b d s (pos + 3) 0 o else valG b d s pos t o
theorem typ_res (b : ByteArray) (i : Nat) (d s t : Int) (o : Option Int) (hs : b.size ≤ 140737488351232) (hi : i ≤ b.size) (ht : 0 ≤ t) :
    Res (RdT b d s i t o) (fun k => typ k (b, (i : Int), -1) d s t o) (valT b d s i t o) := by
  unfold RdT valT
  by_cases h : t ≤ 1500
  · rw [if_pos h, if_pos h]
    have F : ∀ k, typ k (b, (i : Int), -1) d s t o = if (t != ((b.size - i : Nat) : Int)) = true then frame_Read.rest k (b, (i : Int), (i : Int)) d s o 0 else
        (octet_Reader_Raw.f b i (-1) 3).bind fun x => if (x.1.toList != [66, 66, 3]) = true then (octet_Reader_Fail.f x.2.1 x.2.2.1 x.2.2.2).bind fun q => frame_Read.rest k q d s o 0 else frame_Read.rest k x.2 d s o 0 := by
      intro k
      unfold typ
      rw [length_is]
      simp only [Option.bind_some]
      rw [if_pos (by simp; omega), left_good b i hs hi]
      simp only [Option.bind_some, fail_good]
    refine Res.congr F ?_
    by_cases h1 : t = ((b.size - i : Nat) : Int)
    · have hb : (t != ((b.size - i : Nat) : Int)) = false := by rw [bne_eq_false_iff_eq]; exact h1
      by_cases h2 : i + 3 ≤ b.size
      · have r := raw_good b i 3 hs h2
        by_cases h3 : seg b i 3 = [66, 66, 3]
        · have hx : ((b.extract i (i + 3)).toList != [66, 66, 3]) = false := by rw [bne_eq_false_iff_eq]; exact (link_iff b i).2 h3
          refine Res.iff (P := RdG b d s (i + 3) 0 o) ⟨fun g => ⟨h1, h2, h3, g⟩, fun g => g.2.2.2⟩ ?_
          refine Res.congr (fun k => ?_) (rest_res b (i + 3) d s o 0 hs h2)
          rw [hb, if_neg (by decide), show (3 : Int) = ((3 : Nat) : Int) from rfl, r]
          simp only [Option.bind_some]
          rw [hx, if_neg (by decide)]
        · have hx : ((b.extract i (i + 3)).toList != [66, 66, 3]) = true := by rw [bne_iff_ne]; exact fun e => h3 ((link_iff b i).1 e)
          refine Res.bad (fun g => h3 g.2.2.1) (Ev.congr (fun k => ?_) (Ev.now zr))
          rw [hb, if_neg (by decide), show (3 : Int) = ((3 : Nat) : Int) from rfl, r]
          simp only [Option.bind_some]
          rw [hx, if_pos rfl, fail_good]
          simp only [Option.bind_some]
          exact rest_bad _ _ _ _ _ _ _ (by omega) k
      · refine Res.bad (fun g => h2 g.2.1) (Ev.congr (fun k => ?_) (Ev.now zr))
        rw [hb, if_neg (by decide), show (3 : Int) = ((3 : Nat) : Int) from rfl, raw_short b i 3 hs hi h2]
        simp only [Option.bind_some]
        rw [if_pos (by rw [ByteArray.toList_eq]; rfl), fail_bad _ _ _ (by omega)]
        simp only [Option.bind_some]
        exact rest_bad _ _ _ _ _ _ _ (by omega) k
    · have hb : (t != ((b.size - i : Nat) : Int)) = true := by rw [bne_iff_ne]; exact h1
      refine Res.bad (fun g => h1 g.1) (Ev.congr (fun k => ?_) (Ev.now zr))
      rw [hb, if_pos rfl]
      exact rest_bad _ _ _ _ _ _ _ (by omega) k
  · rw [if_neg h, if_neg h]
    refine Res.congr (fun k => ?_) (rest_res b i d s o t hs hi)
    unfold typ
    rw [length_is]
    simp only [Option.bind_some]
    rw [if_neg (by simp; omega)]
theorem get_val (s : ByteArray) (hs : s.size ≤ 140737488351232) (i n : Nat) (h : i + n ≤ s.size) (h1 : 1 ≤ n) (h7 : n ≤ 7) : Ev (fun k => octet_Reader_Get.f k s i (-1) n) (val (seg s i n), s, ((i + n : Nat) : Int), -1) := get_good s i n hs h h1 h7
theorem get_any (s : ByteArray) (hs : s.size ≤ 140737488351232) (i : Nat) (b : Int) (n : Nat) (h1 : 1 ≤ n) (h7 : n ≤ 7) (H : Rs s i b) (hbad : ¬ (b = -1 ∧ i + n ≤ s.size)) :
    ∃ (i' : Nat) (b' : Int), Ev (fun k => octet_Reader_Get.f k s i b n) (0, s, (i' : Int), b') ∧ Rs s i' b' ∧ 0 ≤ b' := by
  obtain ⟨hi, hb | hb⟩ := H
  · subst hb
    have h : ¬ i + n ≤ s.size := fun h => hbad ⟨rfl, h⟩
    exact ⟨i, (i : Int), get_short s i n hs hi h h1 h7, ⟨hi, .inr (by omega)⟩, by omega⟩
  · exact ⟨i, b, get_bad s i b n hb, ⟨hi, .inr hb⟩, hb⟩
theorem seg_val (s : ByteArray) (i n : Nat) (h : i + n ≤ s.size) : 0 ≤ val (seg s i n) ∧ val (seg s i n) < 256 ^ n := by
  have := val_range (seg_small s i n)
  rwa [seg_length s i n h] at this
theorem bind_at {α β : Type} {o : Option α} {a : α} {f : α → Option β} (h : o = some a) : o.bind f = f a := by rw [h]; rfl
theorem tag_no {s s1 : RS} {t : Int} (g : Ev (fun k => octet_Reader_Get.f k s.1 s.2.1 s.2.2 2) (t, s1)) (h : (t != 33024) = true) : Ev (fun k => frame_tag.g k s) (t, s1, none) := by
  obtain ⟨K1, h1⟩ := g
  refine ⟨K1, fun k hk => ?_⟩
  have e1 : octet_Reader_Get.f k s.1 s.2.1 s.2.2 2 = some (t, s1) := h1 k hk
  exact (bind_at e1).trans (if_pos h)
theorem tag_bit0 {s s1 s2 s3 : RS} {t n u : Int} (g : Ev (fun k => octet_Reader_Get.f k s.1 s.2.1 s.2.2 2) (t, s1)) (h : (t != 33024) = false) (g2 : Ev (fun k => octet_Reader_Get.f k s1.1 s1.2.1 s1.2.2 2) (n, s2)) (hb : (Go.bits .and .i64 (n / 4096) 1 == 1) = false)
    (g3 : Ev (fun k => octet_Reader_Get.f k s2.1 s2.2.1 s2.2.2 2) (u, s3)) : Ev (fun k => frame_tag.g k s) (u, s3, some n) := by
  obtain ⟨K1, h1⟩ := g
  obtain ⟨K2, h2⟩ := g2
  obtain ⟨K3, h3⟩ := g3
  refine ⟨K1 + K2 + K3, fun k hk => ?_⟩
  have e1 : octet_Reader_Get.f k s.1 s.2.1 s.2.2 2 = some (t, s1) := h1 k (by omega)
  have e2 : octet_Reader_Get.f k s1.1 s1.2.1 s1.2.2 2 = some (n, s2) := h2 k (by omega)
  have e3 : octet_Reader_Get.f k s2.1 s2.2.1 s2.2.2 2 = some (u, s3) := h3 k (by omega)
  exact (bind_at e1).trans ((if_neg (show ¬ (t != 33024) = true by rw [h]; decide)).trans ((bind_at e2).trans ((if_neg (show ¬ (Go.bits .and .i64 (n / 4096) 1 == 1) = true by rw [hb]; decide)).trans ((bind_at e3).trans rfl))))
theorem tag_bit1 {s s1 s2 s3 q : RS} {t n u : Int} (g : Ev (fun k => octet_Reader_Get.f k s.1 s.2.1 s.2.2 2) (t, s1)) (h : (t != 33024) = false) (g2 : Ev (fun k => octet_Reader_Get.f k s1.1 s1.2.1 s1.2.2 2) (n, s2)) (hb : (Go.bits .and .i64 (n / 4096) 1 == 1) = true)
    (hf : octet_Reader_Fail.f s2.1 s2.2.1 s2.2.2 = some q) (g3 : Ev (fun k => octet_Reader_Get.f k q.1 q.2.1 q.2.2 2) (u, s3)) : Ev (fun k => frame_tag.g k s) (u, s3, some n) := by
  obtain ⟨K1, h1⟩ := g
  obtain ⟨K2, h2⟩ := g2
  obtain ⟨K3, h3⟩ := g3
  refine ⟨K1 + K2 + K3, fun k hk => ?_⟩
  have e1 : octet_Reader_Get.f k s.1 s.2.1 s.2.2 2 = some (t, s1) := h1 k (by omega)
  have e2 : octet_Reader_Get.f k s1.1 s1.2.1 s1.2.2 2 = some (n, s2) := h2 k (by omega)
  have e3 : octet_Reader_Get.f k q.1 q.2.1 q.2.2 2 = some (u, s3) := h3 k (by omega)
  exact (bind_at e1).trans ((if_neg (show ¬ (t != 33024) = true by rw [h]; decide)).trans ((bind_at e2).trans ((if_pos hb).trans ((bind_at hf).trans ((bind_at e3).trans rfl)))))
/-- A tag read out of what has failed. -/
theorem tag_bad (s : ByteArray) (hs : s.size ≤ 140737488351232) (i : Nat) (b : Int) (H : Rs s i b) (hb : 0 ≤ b) : ∃ (i' : Nat) (b' : Int), Ev (fun k => frame_tag.g k (s, (i : Int), b)) (0, (s, (i' : Int), b'), none) ∧ 0 ≤ b' := by
  obtain ⟨i1, b1, g1, H1, hb1⟩ := get_any s hs i b 2 (by decide) (by decide) H (fun e => by omega)
  refine ⟨i1, b1, ?_, hb1⟩
  exact tag_no (s := (s, (i : Int), b)) g1 (by decide)
def RdC (b : ByteArray) : Prop := 14 ≤ b.size ∧ (if val (seg b 12 2) = 33024 then 18 ≤ b.size ∧ val (seg b 14 2) / 4096 % 2 = 0 ∧ RdT b (val (seg b 0 6)) (val (seg b 6 6)) 18 (val (seg b 16 2)) (some (val (seg b 14 2))) else RdT b (val (seg b 0 6)) (val (seg b 6 6)) 14 (val (seg b 12 2)) none)
def RdV (b : ByteArray) : R8 := if val (seg b 12 2) = 33024 then valT b (val (seg b 0 6)) (val (seg b 6 6)) 18 (val (seg b 16 2)) (some (val (seg b 14 2))) else valT b (val (seg b 0 6)) (val (seg b 6 6)) 14 (val (seg b 12 2)) none
def body (k : Nat) (b : ByteArray) : Option R8 := (octet_Open.f b).bind fun r => (octet_Reader_Get.f k r.1 r.2.1 r.2.2 6).bind fun d => (octet_Reader_Get.f k d.2.1 d.2.2.1 d.2.2.2 6).bind fun s => (frame_tag.g k s.2).bind fun t => typ k t.2.1 d.1 s.1 t.1 t.2.2
theorem body_ev {b : ByteArray} {v1 v2 t : Int} {s1 s2 s3 : RS} {o : Option Int} {v : R8} (g1 : Ev (fun k => octet_Reader_Get.f k b 0 (-1) 6) (v1, s1)) (g2 : Ev (fun k => octet_Reader_Get.f k s1.1 s1.2.1 s1.2.2 6) (v2, s2)) (g3 : Ev (fun k => frame_tag.g k s2) (t, s3, o))
    (g4 : Ev (fun k => typ k s3 v1 v2 t o) v) : Ev (fun k => body k b) v := by
  obtain ⟨K1, h1⟩ := g1
  obtain ⟨K2, h2⟩ := g2
  obtain ⟨K3, h3⟩ := g3
  obtain ⟨K4, h4⟩ := g4
  refine ⟨K1 + K2 + K3 + K4, fun k hk => ?_⟩
  have e1 : octet_Reader_Get.f k b 0 (-1) 6 = some (v1, s1) := h1 k (by omega)
  have e2 : octet_Reader_Get.f k s1.1 s1.2.1 s1.2.2 6 = some (v2, s2) := h2 k (by omega)
  have e3 : frame_tag.g k s2 = some (t, s3, o) := h3 k (by omega)
  have e4 : typ k s3 v1 v2 t o = some v := h4 k (by omega)
  exact (bind_at (o := octet_Open.f b) (a := (b, 0, -1)) rfl).trans ((bind_at e1).trans ((bind_at e2).trans ((bind_at e3).trans e4)))
theorem body_of {P : Prop} {b : ByteArray} {v1 v2 t : Int} {s1 s2 s3 : RS} {o : Option Int} {v : R8} (g1 : Ev (fun k => octet_Reader_Get.f k b 0 (-1) 6) (v1, s1)) (g2 : Ev (fun k => octet_Reader_Get.f k s1.1 s1.2.1 s1.2.2 6) (v2, s2)) (g3 : Ev (fun k => frame_tag.g k s2) (t, s3, o))
    (g4 : Res P (fun k => typ k s3 v1 v2 t o) v) : Res P (fun k => body k b) v := by
  rcases g4 with ⟨p, e⟩ | ⟨p, e⟩
  · exact .inl ⟨p, body_ev g1 g2 g3 e⟩
  · exact .inr ⟨p, body_ev g1 g2 g3 e⟩
theorem body_bad {P : Prop} {b : ByteArray} (hs : b.size ≤ 140737488351232) {v1 v2 : Int} {s1 : RS} {v : R8} {i : Nat} {x : Int} (hP : ¬ P) (g1 : Ev (fun k => octet_Reader_Get.f k b 0 (-1) 6) (v1, s1)) (g2 : Ev (fun k => octet_Reader_Get.f k s1.1 s1.2.1 s1.2.2 6) (v2, b, (i : Int), x)) (H : Rs b i x) (hx : 0 ≤ x) :
    Res P (fun k => body k b) v := by
  obtain ⟨i3, b3, g3, h3⟩ := tag_bad b hs i x H hx
  exact body_of g1 g2 g3 (Res.bad hP (Ev.congr (fun k => typ_bad _ _ _ _ _ _ _ h3 k) (Ev.now zr)))
theorem body_res (b : ByteArray) (hs : b.size ≤ 140737488351232) : Res (RdC b) (fun k => body k b) (RdV b) := by
  have H0 : Rs b 0 (-1) := ⟨Nat.zero_le _, .inl rfl⟩
  by_cases h6 : 0 + 6 ≤ b.size
  · have g1 := get_val b hs 0 6 h6 (by decide) (by decide)
    have H1 : Rs b (0 + 6) (-1) := ⟨h6, .inl rfl⟩
    by_cases h12 : (0 + 6) + 6 ≤ b.size
    · have g2 := get_val b hs (0 + 6) 6 h12 (by decide) (by decide)
      have H2 : Rs b (0 + 6 + 6) (-1) := ⟨h12, .inl rfl⟩
      by_cases h14 : 14 ≤ b.size
      · have g3 := get_val b hs (0 + 6 + 6) 2 (by omega) (by decide) (by decide)
        have r12 := seg_val b 12 2 (by omega)
        by_cases ht : val (seg b 12 2) = 33024
        · have q3 : (val (seg b 12 2) != 33024) = false := by rw [bne_eq_false_iff_eq]; exact ht
          by_cases h16 : 16 ≤ b.size
          · have g4 := get_val b hs 14 2 (by omega) (by decide) (by decide)
            have r14 := seg_val b 14 2 (by omega)
            have ea : Go.bits .and .i64 (val (seg b 14 2) / 4096) 1 = val (seg b 14 2) / 4096 % 2 := and_one _ (by omega) (by omega)
            by_cases hbit : val (seg b 14 2) / 4096 % 2 = 0
            · have q4 : (Go.bits .and .i64 (val (seg b 14 2) / 4096) 1 == 1) = false := by rw [ea, beq_eq_false_iff_ne]; omega
              by_cases h18 : 18 ≤ b.size
              · have g5 := get_val b hs 16 2 (by omega) (by decide) (by decide)
                have r16 := seg_val b 16 2 (by omega)
                have tg : Ev (fun k => frame_tag.g k (b, ((0 + 6 + 6 : Nat) : Int), -1)) (val (seg b 16 2), (b, ((18 : Nat) : Int), -1), some (val (seg b 14 2))) := by
                  exact tag_bit0 (s := (b, ((0 + 6 + 6 : Nat) : Int), -1)) g3 q3 g4 (by first | exact q4 | decide) g5
                refine Res.iff ?_ (Res.congr (fun _ => rfl) (body_of (P := RdT b (val (seg b 0 6)) (val (seg b 6 6)) 18 (val (seg b 16 2)) (some (val (seg b 14 2)))) g1 g2 tg ?_))
                · unfold RdC; rw [if_pos ht]; exact ⟨fun g => ⟨h14, h18, hbit, g⟩, fun g => g.2.2.2⟩
                · unfold RdV; rw [if_pos ht]
                  exact typ_res b 18 _ _ _ _ hs h18 r16.1
              · have H4 : Rs b 16 (-1) := ⟨h16, .inl rfl⟩
                obtain ⟨i5, b5, g5, H5, hb5⟩ := get_any b hs 16 (-1) 2 (by decide) (by decide) H4 (fun e => by omega)
                have tg : Ev (fun k => frame_tag.g k (b, ((0 + 6 + 6 : Nat) : Int), -1)) (0, (b, (i5 : Int), b5), some (val (seg b 14 2))) := by
                  exact tag_bit0 (s := (b, ((0 + 6 + 6 : Nat) : Int), -1)) g3 q3 g4 (by first | exact q4 | decide) g5
                refine body_of g1 g2 tg (Res.bad (fun g => ?_) (Ev.congr (fun k => typ_bad _ _ _ _ _ _ _ hb5 k) (Ev.now zr)))
                unfold RdC at g; rw [if_pos ht] at g; exact h18 g.2.1
            · have q4 : (Go.bits .and .i64 (val (seg b 14 2) / 4096) 1 == 1) = true := by rw [ea, beq_iff_eq]; omega
              obtain ⟨i5, b5, g5, H5, hb5⟩ := get_any b hs 16 (16 : Nat) 2 (by decide) (by decide) ⟨h16, .inr (by omega)⟩ (fun e => by omega)
              have tg : Ev (fun k => frame_tag.g k (b, ((0 + 6 + 6 : Nat) : Int), -1)) (0, (b, (i5 : Int), b5), some (val (seg b 14 2))) := by
                exact tag_bit1 (s := (b, ((0 + 6 + 6 : Nat) : Int), -1)) (q := (b, ((16 : Nat) : Int), ((16 : Nat) : Int))) g3 q3 g4 q4 (fail_good b 16) g5
              refine body_of g1 g2 tg (Res.bad (fun g => ?_) (Ev.congr (fun k => typ_bad _ _ _ _ _ _ _ hb5 k) (Ev.now zr)))
              unfold RdC at g; rw [if_pos ht] at g; exact hbit g.2.2.1
          · obtain ⟨i4, b4, g4, H4, hb4⟩ := get_any b hs 14 (-1) 2 (by decide) (by decide) ⟨h14, .inl rfl⟩ (fun e => by omega)
            obtain ⟨i5, b5, g5, H5, hb5⟩ := get_any b hs i4 b4 2 (by decide) (by decide) H4 (fun e => by omega)
            have tg : Ev (fun k => frame_tag.g k (b, ((0 + 6 + 6 : Nat) : Int), -1)) (0, (b, (i5 : Int), b5), some 0) := by
              exact tag_bit0 (s := (b, ((0 + 6 + 6 : Nat) : Int), -1)) g3 q3 g4 (by first | exact q4 | decide) g5
            refine body_of g1 g2 tg (Res.bad (fun g => ?_) (Ev.congr (fun k => typ_bad _ _ _ _ _ _ _ hb5 k) (Ev.now zr)))
            unfold RdC at g; rw [if_pos ht] at g; have := g.2.1; omega
        · have q3 : (val (seg b 12 2) != 33024) = true := by rw [bne_iff_ne]; exact ht
          have tg : Ev (fun k => frame_tag.g k (b, ((0 + 6 + 6 : Nat) : Int), -1)) (val (seg b 12 2), (b, ((14 : Nat) : Int), -1), none) := by
            exact tag_no (s := (b, ((0 + 6 + 6 : Nat) : Int), -1)) g3 q3
          refine Res.iff ?_ (Res.congr (fun _ => rfl) (body_of (P := RdT b (val (seg b 0 6)) (val (seg b 6 6)) 14 (val (seg b 12 2)) none) g1 g2 tg ?_))
          · unfold RdC; rw [if_neg ht]; exact ⟨fun g => ⟨h14, g⟩, fun g => g.2⟩
          · unfold RdV; rw [if_neg ht]
            exact typ_res b 14 _ _ _ _ hs h14 r12.1
      · obtain ⟨i3, b3, g3, H3, hb3⟩ := get_any b hs (0 + 6 + 6) (-1) 2 (by decide) (by decide) H2 (fun e => by omega)
        have tg : Ev (fun k => frame_tag.g k (b, ((0 + 6 + 6 : Nat) : Int), -1)) (0, (b, (i3 : Int), b3), none) := by
          exact tag_no (s := (b, ((0 + 6 + 6 : Nat) : Int), -1)) g3 (by decide)
        exact body_of g1 g2 tg (Res.bad (fun g => h14 g.1) (Ev.congr (fun k => typ_bad _ _ _ _ _ _ _ hb3 k) (Ev.now zr)))
    · obtain ⟨i2, b2, g2, H2, hb2⟩ := get_any b hs (0 + 6) (-1) 6 (by decide) (by decide) H1 (fun e => by omega)
      exact body_bad hs (fun g => by have := g.1; omega) g1 g2 H2 hb2
  · obtain ⟨i1, b1, g1, H1, hb1⟩ := get_any b hs 0 (-1) 6 (by decide) (by decide) H0 (fun e => by omega)
    obtain ⟨i2, b2, g2, H2, hb2⟩ := get_any b hs i1 b1 6 (by decide) (by decide) H1 (fun e => by omega)
    exact body_bad hs (fun g => by have := g.1; omega) g1 g2 H2 hb2
/-- Read of what isn't stripped. -/
theorem read_not (a u : ByteArray) (h : check_Strip.f a = some (u, false)) (k : Nat) : frame_Read.f k a = some zr := by
  exact (read_eq k a).trans ((bind_at h).trans (if_neg (fun e => by cases e)))
theorem read_yes (a b : ByteArray) (h : check_Strip.f a = some (b, true)) (k : Nat) : frame_Read.f k a = body k b :=
  (read_eq k a).trans ((bind_at h).trans (if_pos rfl))
open Wr (putBytes numOf)
def tagL (tg : Bool) (v p : Int) : List Int := if tg = true then [129, 0] ++ putBytes (p * 8192 + v) 2 else []
def typL (t : Int) (n : Nat) : List Int := if t = 0 then putBytes (3 + (n : Int)) 2 ++ [66, 66, 3] else putBytes t 2
/-- A frame's bytes ahead of its sum. -/
def fL (d s : Int) (tg : Bool) (v p t : Int) (a : ByteArray) : List Int := putBytes d 6 ++ (putBytes s 6 ++ (tagL tg v p ++ (typL t a.size ++ bytesOf a)))
theorem tagL_length (tg : Bool) (v p : Int) : (tagL tg v p).length = if tg = true then 4 else 0 := by
  unfold tagL; split
  · rw [List.length_append, putBytes_length]; rfl
  · rfl
theorem typL_length (t : Int) (n : Nat) : (typL t n).length = if t = 0 then 5 else 2 := by
  unfold typL; split
  · rw [List.length_append, putBytes_length]; rfl
  · rw [putBytes_length]
theorem fL_length (d s : Int) (tg : Bool) (v p t : Int) (a : ByteArray) : (fL d s tg v p t a).length = 12 + (if tg = true then 4 else 0) + (if t = 0 then 5 else 2) + a.size := by
  unfold fL
  rw [List.length_append, List.length_append, List.length_append, List.length_append, putBytes_length, putBytes_length, tagL_length, typL_length, bytesOf_length]
  omega
theorem fL_small (d s : Int) (tg : Bool) (v p t : Int) (a : ByteArray) : ∀ x ∈ fL d s tg v p t a, 0 ≤ x ∧ x < 256 := by
  intro x hx
  unfold fL tagL typL at hx
  simp only [List.mem_append] at hx
  have l1 : ∀ x ∈ ([129, 0] : List Int), 0 ≤ x ∧ x < 256 := by decide
  have l2 : ∀ x ∈ ([66, 66, 3] : List Int), 0 ≤ x ∧ x < 256 := by decide
  rcases hx with hx | hx | hx | hx | hx
  · exact putBytes_small _ _ x hx
  · exact putBytes_small _ _ x hx
  · split at hx
    · rcases List.mem_append.1 hx with hx | hx
      · exact l1 x hx
      · exact putBytes_small _ _ x hx
    · cases hx
  · split at hx
    · rcases List.mem_append.1 hx with hx | hx
      · exact putBytes_small _ _ x hx
      · exact l2 x hx
    · exact putBytes_small _ _ x hx
  · exact bytesOf_small a x hx
theorem fL_size (d s : Int) (tg : Bool) (v p t : Int) (a : ByteArray) (h : a.size ≤ 400) : (strOfNums (fL d s tg v p t a)).size ≤ 421 := by
  rw [str_size, fL_length]
  split <;> split <;> omega
theorem fL_bytes (d s : Int) (tg : Bool) (v p t : Int) (a : ByteArray) : bytesOf (strOfNums (fL d s tg v p t a)) = fL d s tg v p t a := Wr.bytesOf_str _ (fL_small d s tg v p t a)
theorem bytesOf_inj {a b : ByteArray} (h : bytesOf a = bytesOf b) : a = b := by
  have e := congrArg strOfNums h
  rwa [Wr.str_bytesOf, Wr.str_bytesOf] at e
theorem seg_mid {b : ByteArray} {X Y Z : List Int} (h : bytesOf b = X ++ (Y ++ Z)) {i n : Nat} (hi : X.length = i) (hn : Y.length = n) : seg b i n = Y := by
  subst hi; subst hn
  unfold seg; rw [h, List.drop_left' rfl, List.take_left' rfl]
theorem drop_mid {b : ByteArray} {X Z : List Int} (h : bytesOf b = X ++ Z) {i : Nat} (hi : X.length = i) : bytesOf (b.extract i b.size) = Z := by
  subst hi
  have hs : b.size = X.length + Z.length := by rw [← bytesOf_length, h, List.length_append]
  rw [hs, bytesOf_cut]
  unfold seg
  rw [h, List.drop_left' rfl, List.take_of_length_le (Nat.le_refl _)]
theorem val_two {x : Int} (h0 : 0 ≤ x) (h1 : x < 65536) : val (putBytes x 2) = x := by rw [val_put, show (256 : Int) ^ 2 = 65536 by decide]; omega
theorem val_six {x : Int} (h0 : 0 ≤ x) (h1 : x ≤ 281474976710655) : val (putBytes x 6) = x := by rw [val_put, show (256 : Int) ^ 6 = 281474976710656 by decide]; omega
theorem vid_of {n : Int} (h0 : 0 ≤ n) (h1 : n < 65536) : vidOf 0 (some n) = n % 4096 := and_12 n h0 (by omega)
theorem back (d s : Int) (tg : Bool) (v p t : Int) (a : ByteArray) (h : GdF d s tg v p t a.size) : RdC (strOfNums (fL d s tg v p t a)) ∧ RdV (strOfNums (fL d s tg v p t a)) = (d, s, tg, v, p, t, a, 0) := by
  obtain ⟨hd, hs, hm, hn, hT, hty⟩ := h
  have hb := fL_bytes d s tg v p t a
  have hz : (strOfNums (fL d s tg v p t a)).size = 12 + (if tg = true then 4 else 0) + (if t = 0 then 5 else 2) + a.size := by rw [str_size, fL_length]
  generalize strOfNums (fL d s tg v p t a) = b at *
  have e0 : seg b 0 6 = putBytes d 6 := seg_mid (X := []) hb rfl (putBytes_length _ _)
  have e6 : seg b 6 6 = putBytes s 6 := seg_mid hb (putBytes_length _ _) (putBytes_length _ _)
  have v0 : val (seg b 0 6) = d := by rw [e0, val_six hd.1 hd.2]
  have v6 : val (seg b 6 6) = s := by rw [e6, val_six hs.1 hs.2]
  -- what stands behind the addresses
  have tail : ∀ (X Z : List Int) (pos : Nat) (o : Option Int), bytesOf b = X ++ (typL t a.size ++ bytesOf a) → X.length = pos → tgOf false o = tg → vidOf 0 o = v → prioOf 0 o = p → b.size = pos + (if t = 0 then 5 else 2) + a.size →
      (∀ x, seg b pos 2 = x → (val x = if t = 0 then 3 + (a.size : Int) else t)) ∧ RdT b d s (pos + 2) (if t = 0 then 3 + (a.size : Int) else t) o ∧ valT b d s (pos + 2) (if t = 0 then 3 + (a.size : Int) else t) o = (d, s, tg, v, p, t, a, 0) := by
    intro X Z pos o hX hpos h1 h2 h3 hsz
    by_cases h0 : t = 0
    · rw [if_pos h0] at hsz
      have hl : typL t a.size = putBytes (3 + (a.size : Int)) 2 ++ [66, 66, 3] := by unfold typL; rw [if_pos h0]
      rw [hl, List.append_assoc] at hX
      have s2 : seg b pos 2 = putBytes (3 + (a.size : Int)) 2 := seg_mid hX hpos (putBytes_length _ _)
      have hX2 : bytesOf b = (X ++ putBytes (3 + (a.size : Int)) 2) ++ ([66, 66, 3] ++ bytesOf a) := by rw [hX, List.append_assoc]
      have s3 : seg b (pos + 2) 3 = [66, 66, 3] := seg_mid hX2 (by rw [List.length_append, putBytes_length, hpos]) rfl
      have hX3 : bytesOf b = ((X ++ putBytes (3 + (a.size : Int)) 2) ++ [66, 66, 3]) ++ bytesOf a := by rw [hX2, List.append_assoc (X ++ _)]
      have s4 : b.extract (pos + 5) b.size = a := bytesOf_inj (drop_mid hX3 (by rw [List.length_append, List.length_append, putBytes_length, hpos]; rfl))
      refine ⟨fun x hx => ?_, ?_, ?_⟩
      · rw [← hx, s2, if_pos h0, val_two (by omega) (by omega)]
      · unfold RdT RdG
        rw [if_pos h0, if_pos (by omega), h1, h2, h3]
        exact ⟨by omega, by omega, s3, hd, hs, hm, by omega, hT, .inl rfl⟩
      · unfold valT valG
        rw [if_pos h0, if_pos (by omega), h1, h2, h3, s4, h0]
    · rw [if_neg h0] at hsz
      have ht2 : 1536 ≤ t ∧ t ≤ 65535 ∧ t ≠ 33024 := by
        rcases hty with h | h
        · exact absurd h h0
        · exact h
      have hl : typL t a.size = putBytes t 2 := by unfold typL; rw [if_neg h0]
      rw [hl] at hX
      have s2 : seg b pos 2 = putBytes t 2 := seg_mid hX hpos (putBytes_length _ _)
      have hX3 : bytesOf b = (X ++ putBytes t 2) ++ bytesOf a := by rw [hX, List.append_assoc]
      have s4 : b.extract (pos + 2) b.size = a := bytesOf_inj (drop_mid hX3 (by rw [List.length_append, putBytes_length, hpos]))
      refine ⟨fun x hx => ?_, ?_, ?_⟩
      · rw [← hx, s2, if_neg h0, val_two (by omega) (by omega)]
      · unfold RdT RdG
        rw [if_neg h0, if_neg (by omega), h1, h2, h3]
        exact ⟨hd, hs, hm, by omega, hT, .inr ht2⟩
      · unfold valT valG
        rw [if_neg h0, if_neg (by omega), h1, h2, h3, s4]
  cases tg with
  | true =>
    have hv := hT.1 rfl
    rw [if_pos rfl] at hz
    have ht : tagL true v p = [129, 0] ++ putBytes (p * 8192 + v) 2 := by unfold tagL; rw [if_pos rfl]
    unfold fL at hb
    rw [ht] at hb
    have hb1 : bytesOf b = (putBytes d 6 ++ putBytes s 6) ++ ([129, 0] ++ (putBytes (p * 8192 + v) 2 ++ (typL t a.size ++ bytesOf a))) := by rw [hb]; simp only [List.append_assoc]
    have s12 : seg b 12 2 = [129, 0] := seg_mid hb1 (by rw [List.length_append, putBytes_length, putBytes_length]) rfl
    have hb2 : bytesOf b = (putBytes d 6 ++ putBytes s 6 ++ [129, 0]) ++ (putBytes (p * 8192 + v) 2 ++ (typL t a.size ++ bytesOf a)) := by rw [hb1]; simp only [List.append_assoc]
    have s14 : seg b 14 2 = putBytes (p * 8192 + v) 2 := seg_mid hb2 (by rw [List.length_append, List.length_append, putBytes_length, putBytes_length]; rfl) (putBytes_length _ _)
    have hb3 : bytesOf b = (putBytes d 6 ++ putBytes s 6 ++ [129, 0] ++ putBytes (p * 8192 + v) 2) ++ (typL t a.size ++ bytesOf a) := by rw [hb2]; simp only [List.append_assoc]
    have v12 : val (seg b 12 2) = 33024 := by rw [s12]; decide
    have v14 : val (seg b 14 2) = p * 8192 + v := by rw [s14, val_two (by omega) (by omega)]
    have T := tail _ [] 16 (some (p * 8192 + v)) hb3 (by rw [List.length_append, List.length_append, List.length_append, putBytes_length, putBytes_length, putBytes_length]; rfl) rfl (by rw [vid_of (by omega) (by omega)]; omega) (by show (p * 8192 + v) / 8192 = p; omega) (by rw [hz])
    have v16 := T.1 _ rfl
    unfold RdC RdV
    rw [v12, v14, v0, v6, v16]
    exact ⟨⟨by omega, by rw [if_pos rfl]; exact ⟨by split at hz <;> omega, by omega, T.2.1⟩⟩, by rw [if_pos rfl]; exact T.2.2⟩
  | false =>
    obtain ⟨rfl, rfl⟩ := hT.2 rfl
    rw [if_neg (by decide)] at hz
    have ht : tagL false 0 0 = [] := by unfold tagL; rw [if_neg (by decide)]
    unfold fL at hb
    rw [ht, List.nil_append] at hb
    have hb1 : bytesOf b = (putBytes d 6 ++ putBytes s 6) ++ (typL t a.size ++ bytesOf a) := by rw [hb, List.append_assoc]
    have T := tail _ [] 12 none hb1 (by rw [List.length_append, putBytes_length, putBytes_length]) rfl rfl rfl (by omega)
    have v12 := T.1 _ rfl
    have hne : ¬ (if t = 0 then 3 + (a.size : Int) else t) = 33024 := by
      split
      · omega
      · rcases hty with h | h
        · contradiction
        · exact h.2.2
    unfold RdC RdV
    rw [v12, v0, v6]
    exact ⟨⟨by split at hz <;> omega, by rw [if_neg hne]; exact T.2.1⟩, by rw [if_neg hne]; exact T.2.2⟩
theorem seg_put (b : ByteArray) (i n : Nat) (h : i + n ≤ b.size) : putBytes (val (seg b i n)) n = seg b i n := by
  have := put_val (seg_small b i n)
  rwa [seg_length b i n h] at this
def tl (b : ByteArray) (i : Nat) : List Int := (bytesOf b).drop i
theorem tl_cut (b : ByteArray) (i n : Nat) : tl b i = seg b i n ++ tl b (i + n) := by
  unfold tl seg
  rw [← List.drop_drop, List.take_append_drop]
theorem tl_rest (b : ByteArray) (i : Nat) (h : i ≤ b.size) : bytesOf (b.extract i b.size) = tl b i := by
  have e := bytesOf_cut b i (b.size - i)
  rw [show i + (b.size - i) = b.size from by omega] at e
  rw [e]
  unfold seg tl
  exact List.take_of_length_le (by rw [List.length_drop, bytesOf_length]; omega)
/-- What is read is what the bytes say. -/
theorem sound (b : ByteArray) (h : RdC b) : ∃ (d s : Int) (tg : Bool) (v p t : Int) (a : ByteArray), RdV b = (d, s, tg, v, p, t, a, 0) ∧ GdF d s tg v p t a.size ∧ b = strOfNums (fL d s tg v p t a) := by
  obtain ⟨h14, h⟩ := h
  have whole : ∀ (pos : Nat) (t : Int) (o : Option Int) (mid : List Int), 0 ≤ t → 14 ≤ pos → pos ≤ b.size → RdT b (val (seg b 0 6)) (val (seg b 6 6)) pos t o → bytesOf b = seg b 0 6 ++ (seg b 6 6 ++ (mid ++ (putBytes t 2 ++ tl b pos))) → tagL (tgOf false o) (vidOf 0 o) (prioOf 0 o) = mid →
      ∃ (d s : Int) (tg : Bool) (v p t' : Int) (a : ByteArray), valT b (val (seg b 0 6)) (val (seg b 6 6)) pos t o = (d, s, tg, v, p, t', a, 0) ∧ GdF d s tg v p t' a.size ∧ b = strOfNums (fL d s tg v p t' a) := by
    intro pos t o mid ht0 hp14 hp hr hw hm
    have fin : ∀ l : List Int, bytesOf b = l → b = strOfNums l := fun l e => by rw [← e, Wr.str_bytesOf]
    unfold RdT RdG at hr
    unfold valT valG
    by_cases ht : t ≤ 1500
    · rw [if_pos ht] at hr ⊢
      obtain ⟨e1, e2, e3, g⟩ := hr
      have hx := extract_size b (pos + 3) e2
      refine ⟨_, _, _, _, _, _, _, rfl, by rw [hx]; exact g, fin _ ?_⟩
      unfold fL typL
      rw [if_pos rfl, hm, seg_put b 0 6 (by omega), seg_put b 6 6 (by omega), tl_rest b _ e2, hx]
      rw [show (3 + ((b.size - (pos + 3) : Nat) : Int)) = t from by omega, hw, tl_cut b pos 3, e3]
      simp only [List.append_assoc]
    · rw [if_neg ht] at hr ⊢
      have hx := extract_size b pos hp
      refine ⟨_, _, _, _, _, _, _, rfl, by rw [hx]; exact hr, fin _ ?_⟩
      unfold fL typL
      rw [if_neg (by omega), hm, seg_put b 0 6 (by omega), seg_put b 6 6 (by omega), tl_rest b _ hp, hw]
  have c0 : bytesOf b = seg b 0 6 ++ (seg b 6 6 ++ tl b 12) := by
    have := tl_cut b 0 6
    rw [tl_cut b (0 + 6) 6] at this
    exact this
  by_cases ht : val (seg b 12 2) = 33024
  · rw [if_pos ht] at h
    obtain ⟨h18, hbit, hr⟩ := h
    have r14 := seg_val b 14 2 (by omega)
    have r16 := seg_val b 16 2 (by omega)
    have s12 : seg b 12 2 = [129, 0] := by
      rw [← seg_put b 12 2 (by omega), ht]; decide
    have e : RdV b = valT b (val (seg b 0 6)) (val (seg b 6 6)) 18 (val (seg b 16 2)) (some (val (seg b 14 2))) := by unfold RdV; rw [if_pos ht]
    rw [e]
    refine whole 18 _ _ ([129, 0] ++ seg b 14 2) r16.1 (by omega) h18 hr ?_ ?_
    · rw [c0, tl_cut b 12 2, s12, tl_cut b 14 2, tl_cut b 16 2, seg_put b 16 2 (by omega)]
      simp only [List.append_assoc]
    · unfold tagL
      rw [vid_of r14.1 (by omega)]
      show (if true = true then [129, 0] ++ putBytes (val (seg b 14 2) / 8192 * 8192 + val (seg b 14 2) % 4096) 2 else []) = _
      rw [if_pos rfl, show val (seg b 14 2) / 8192 * 8192 + val (seg b 14 2) % 4096 = val (seg b 14 2) from by omega, seg_put b 14 2 (by omega)]
  · rw [if_neg ht] at h
    have r12 := seg_val b 12 2 (by omega)
    have e : RdV b = valT b (val (seg b 0 6)) (val (seg b 6 6)) 14 (val (seg b 12 2)) none := by unfold RdV; rw [if_neg ht]
    rw [e]
    refine whole 14 _ _ [] r12.1 (by omega) h14 h ?_ ?_
    · rw [c0, tl_cut b 12 2, seg_put b 12 2 (by omega), List.nil_append]
    · unfold tagL; exact if_neg (by decide)
theorem num2 (n : Int) : numOf 2 n = strOfNums (putBytes n 2) := rfl
theorem num6 (n : Int) : numOf 6 n = strOfNums (putBytes n 6) := rfl
theorem or_13 (p v : Int) (hp : 0 ≤ p ∧ p ≤ 7) (hv : 0 ≤ v ∧ v ≤ 4094) : Go.bits .or .i64 (wrap64 (p * 8192)) v = p * 8192 + v := by
  rw [wrap_id (by omega) (by omega)]
  exact bits_join .i64 63 (by decide) wraps_i64 13 _ _ (by omega) (by omega) (by omega) hv.1 (by omega) (by omega)
theorem empty_str : (⟨#[]⟩ : ByteArray) = strOfNums [] := rfl
theorem link_str : (⟨#[66, 66, 3]⟩ : ByteArray) = strOfNums [66, 66, 3] := rfl
theorem text_is (d s : Int) (tg : Bool) (v p t : Int) (a : ByteArray) (h : GdF d s tg v p t a.size) : frameText d s tg v p t a = strOfNums (fL d s tg v p t a) := by
  obtain ⟨hd, hs, hm, hn, hT, hty⟩ := h
  have ht : frameHead d s tg v p = strOfNums (putBytes d 6 ++ (putBytes s 6 ++ tagL tg v p)) := by
    unfold frameHead tagL
    cases tg with
    | true =>
      have := hT.1 rfl
      rw [if_pos rfl, if_pos rfl, or_13 p v ⟨this.2.2.1, this.2.2.2⟩ ⟨this.1, this.2.1⟩, num6, num6, num2, num2, empty_str, str_append, str_append, str_append, str_append, List.nil_append, show putBytes 33024 2 = [129, 0] from by decide]
      simp only [List.append_assoc]
    | false =>
      rw [if_neg (by decide), if_neg (by decide), num6, num6, empty_str, str_append, str_append, List.nil_append, List.append_nil]
  have ha : a = strOfNums (bytesOf a) := (Wr.str_bytesOf a).symm
  unfold frameText fL typL
  rw [ht]
  by_cases h0 : t = 0
  · rw [if_pos (by rw [h0]; rfl), if_pos h0, num2, link_str]
    conv => lhs; rw [ha]
    rw [str_append, str_append, str_append, Wr.str_bytesOf]
    simp only [List.append_assoc]
  · rw [if_neg (by rw [beq_iff_eq]; exact h0), if_neg h0, num2]
    conv => lhs; rw [ha]
    rw [str_append, str_append]
    simp only [List.append_assoc]
theorem bytes_ev (d s : Int) (tg : Bool) (v p t : Int) (a : ByteArray) (h : GdF d s tg v p t a.size) : Ev (fun k => frame_Bytes.f k d s tg v p t a) (sealOf (strOfNums (fL d s tg v p t a)), 0) := by
  have G := fgood_ev d s tg v p t a
  rw [gdB_true.2 h] at G
  have hsz := fL_size d s tg v p t a h.2.2.2.1
  obtain ⟨K, hK⟩ := G
  refine ⟨K, fun k hk => ?_⟩
  have e1 : frame_Good.f k d s tg v p t a = some true := hK k hk
  have hn := h.2.2.2.1
  exact (bind_at e1).trans ((if_pos rfl).trans ((if_pos (by omega)).trans ((bind_at (by rw [text_is d s tg v p t a h]; exact seal_some _ (by omega))).trans rfl)))
theorem bytes_no (d s : Int) (tg : Bool) (v p t : Int) (a : ByteArray) (h : ¬ GdF d s tg v p t a.size) : Ev (fun k => frame_Bytes.f k d s tg v p t a) (⟨#[]⟩, 1) := by
  have G := fgood_ev d s tg v p t a
  rw [gdB_false.2 h] at G
  obtain ⟨K, hK⟩ := G
  refine ⟨K, fun k hk => ?_⟩
  have e1 : frame_Good.f k d s tg v p t a = some false := hK k hk
  exact (bind_at e1).trans (if_neg (fun e => by cases e))
theorem read_back (d s : Int) (tg : Bool) (v p t : Int) (a : ByteArray) (h : GdF d s tg v p t a.size) : Ev (fun k => frame_Read.f k (sealOf (strOfNums (fL d s tg v p t a)))) (d, s, tg, v, p, t, a, 0) := by
  have hsz := fL_size d s tg v p t a h.2.2.2.1
  have hz := sealOf_size (strOfNums (fL d s tg v p t a))
  have hs : check_Strip.f (sealOf (strOfNums (fL d s tg v p t a))) = some (strOfNums (fL d s tg v p t a), true) := by
    rw [strip_some _ (by omega) (by omega), seal_cut, if_pos rfl]
  obtain ⟨hc, hv⟩ := back d s tg v p t a h
  rcases body_res (strOfNums (fL d s tg v p t a)) (by omega) with ⟨_, e⟩ | ⟨n, _⟩
  · rw [hv] at e
    exact Ev.congr (fun k => read_yes _ _ hs k) e
  · exact absurd hc n
/-- Whatever is read: either nothing, or a frame whose bytes they are. -/
theorem read_any (s : ByteArray) (hs : s.size ≤ 140737488351232) : Ev (fun k => frame_Read.f k s) zr ∨ ∃ (d q : Int) (tg : Bool) (v p t : Int) (a : ByteArray), Ev (fun k => frame_Read.f k s) (d, q, tg, v, p, t, a, 0) ∧ GdF d q tg v p t a.size ∧ s = sealOf (strOfNums (fL d q tg v p t a)) := by
  have nost : ∀ u, check_Strip.f s = some (u, false) → Ev (fun k => frame_Read.f k s) zr := fun u h => Ev.congr (fun k => read_not s u h k) (Ev.now _)
  by_cases h2 : 2 ≤ s.size
  · have hst := strip_some s hs h2
    by_cases hx : (sealOf (s.extract 0 (s.size - 2))).toList = s.toList
    · rw [if_pos hx] at hst
      have hb : (s.extract 0 (s.size - 2)).size ≤ 140737488351232 := by rw [ByteArray.size_extract]; omega
      have hse := toList_inj hx
      rcases body_res (s.extract 0 (s.size - 2)) hb with ⟨c, e⟩ | ⟨c, e⟩
      · obtain ⟨d, q, tg, v, p, t, a, h1, h3, h4⟩ := sound _ c
        rw [h1] at e
        exact .inr ⟨d, q, tg, v, p, t, a, Ev.congr (fun k => read_yes _ _ hst k) e, h3, by rw [← h4, hse]⟩
      · exact .inl (Ev.congr (fun k => read_yes _ _ hst k) e)
    · rw [if_neg hx] at hst
      exact .inl (nost _ hst)
  · refine .inl (nost ⟨#[]⟩ ?_)
    unfold check_Strip.f
    rw [wrap_id (by omega) (by omega), if_pos (by omega)]
theorem seal_inj {a b : ByteArray} (h : sealOf a = sealOf b) : a = b := by rw [← seal_cut a, h, seal_cut]
theorem empty_good : GdF 0 0 false 0 0 2048 (⟨#[]⟩ : ByteArray).size := ⟨⟨by decide, by decide⟩, ⟨by decide, by decide⟩, by decide, by decide, ⟨fun e => (by cases e), fun _ => ⟨rfl, rfl⟩⟩, .inr (by decide)⟩
theorem alive_ev : Ev (fun k => kissgatelaw05_alive.f k) true := by
  have hsz := fL_length 0 0 false 0 0 2048 ⟨#[]⟩
  obtain ⟨K1, h1⟩ := bytes_ev 0 0 false 0 0 2048 ⟨#[]⟩ empty_good
  obtain ⟨K2, h2⟩ := read_back 0 0 false 0 0 2048 ⟨#[]⟩ empty_good
  refine ⟨K1 + K2, fun k hk => ?_⟩
  have e1 := h1 k (by omega)
  have e2 := h2 k (by omega)
  have hz : (sealOf (strOfNums (fL 0 0 false 0 0 2048 ⟨#[]⟩))).size = 16 := by rw [sealOf_size, str_size, hsz]; rfl
  show kissgatelaw05_alive.f k = _
  unfold kissgatelaw05_alive.f
  refine (bind_at e1).trans ((bind_at e2).trans ?_)
  rw [if_pos (by rfl), if_pos (by show ((sealOf (strOfNums (fL 0 0 false 0 0 2048 ⟨#[]⟩))).size : Int) = 16; rw [hz]; rfl), if_pos (by rfl)]
  rw [ByteArray.toList_eq]
  rfl
theorem FrameTags : kissgatelaw05_FrameTags.Pure := by
  intro d s tg v p t a x y _ _ _ _ _ _ _ _
  obtain ⟨K0, h0⟩ := alive_ev
  by_cases hbig : (a.size : Int) > 1000
  · refine ⟨K0, ?_⟩
    have e0 : kissgatelaw05_alive.f K0 = some true := h0 _ (Nat.le_refl _)
    exact (bind_at e0).trans ((if_pos rfl).trans (if_pos hbig))
  · obtain ⟨K1, h1⟩ := rgood_ev d s tg v p t a
    obtain ⟨K2, h2⟩ := rgood_ev d s false 0 0 t a
    obtain ⟨K3, h3⟩ := rgood_ev d s true x y t a
    refine ⟨K0 + K1 + K2 + K3 + 1, ?_⟩
    obtain ⟨m, em, hm⟩ : ∃ m, K0 + K1 + K2 + K3 + 1 = m + 1 ∧ K0 + K1 + K2 + K3 ≤ m := ⟨_, rfl, Nat.le_refl _⟩
    rw [em]
    have e0 : kissgatelaw05_alive.f (m + 1) = some true := h0 _ (by omega)
    have e1 : kissgateref05_Good.f m d s tg v p t a = some (gdB d s tg v p t a.size) := h1 _ (by omega)
    have e2 : kissgateref05_Good.f m d s false 0 0 t a = some (gdB d s false 0 0 t a.size) := h2 _ (by omega)
    have e3 : kissgateref05_Good.f m d s true x y t a = some (gdB d s true x y t a.size) := h3 _ (by omega)
    have j0 : kissgatelaw05_FrameTags.j0 (m + 1) x y false d s tg v p t a d s true x y t a d s false 0 0 t a = some true := by
      simp only [kissgatelaw05_FrameTags.j0]
      refine (if_neg (by decide)).trans ((bind_at e1).trans ?_)
      by_cases hG : GdF d s tg v p t a.size
      · have hU : GdF d s false 0 0 t a.size := ⟨hG.1, hG.2.1, hG.2.2.1, hG.2.2.2.1, ⟨fun e => (by cases e), fun _ => ⟨rfl, rfl⟩⟩, hG.2.2.2.2.2⟩
        refine (if_pos (gdB_true.2 hG)).trans ((bind_at e2).trans ((if_pos (gdB_true.2 hU)).trans ((bind_at e3).trans ?_)))
        have no : ¬ (0 ≤ x ∧ x ≤ 4094 ∧ 0 ≤ y ∧ y ≤ 7) → gdB d s true x y t a.size = false := fun h => gdB_false.2 (fun g => h (g.2.2.2.2.1.1 rfl))
        by_cases c1 : x ≥ 0
        · rw [if_pos c1]
          by_cases c2 : x ≤ 4094
          · rw [if_pos c2]
            by_cases c3 : y ≥ 0
            · rw [if_pos c3]
              by_cases c4 : y ≤ 7
              · rw [gdB_true.2 ⟨hG.1, hG.2.1, hG.2.2.1, hG.2.2.2.1, ⟨fun _ => ⟨c1, c2, c3, c4⟩, fun e => (by cases e)⟩, hG.2.2.2.2.2⟩, decide_eq_true c4]; rfl
              · rw [no (by omega), decide_eq_false c4]; rfl
            · rw [if_neg c3, no (by omega)]; rfl
          · rw [if_neg c2, no (by omega)]; rfl
        · rw [if_neg c1, no (by omega)]; rfl
      · exact if_neg (by rw [gdB_false.2 hG]; decide)
    refine (bind_at e0).trans ((if_pos rfl).trans ((if_neg hbig).trans ?_))
    have t1 : frame_Tag.f d s tg v p t a x y = some (d, s, true, x, y, t, a) := rfl
    have t2 : frame_Untag.f d s true x y t a = some (d, s, false, 0, 0, t, a) := rfl
    have t3 : frame_Untag.f d s tg v p t a = some (d, s, false, 0, 0, t, a) := rfl
    have q : (!(d == d) || (!(s == s) || (false || (!((0 : Int) == 0) || (!((0 : Int) == 0) || (!(t == t) || (!(a.toList == a.toList)))))))) = false := by simp
    have q' : ¬ (!(d == d) || (!(s == s) || (false || (!((0 : Int) == 0) || (!((0 : Int) == 0) || (!(t == t) || (!(a.toList == a.toList)))))))) = true := by rw [q]; decide
    refine (bind_at t1).trans ((bind_at t2).trans ((if_neg (show ¬ (true != true) = true by decide)).trans ((if_pos rfl).trans ((if_pos rfl).trans ((if_neg q').trans ((bind_at t3).trans ?_))))))
    show kissgatelaw05_FrameTags.j0 (m + 1) x y (!(d == d) || (!(s == s) || (false || (!((0 : Int) == 0) || (!((0 : Int) == 0) || (!(t == t) || (!(a.toList == a.toList)))))))) d s tg v p t a d s true x y t a d s false 0 0 t a = _
    rw [q]
    exact j0

end Go.Proofs.YtcginknabpgjnaaDoor.Pure
