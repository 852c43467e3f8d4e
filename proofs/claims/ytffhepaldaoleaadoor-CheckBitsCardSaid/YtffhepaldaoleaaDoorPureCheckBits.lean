/- With one bit, or two, turned what was sealed is not stripped; texts of up to 500 bytes. -/
import Derived.Test.YtffhepaldaoleaaDoorPCheckBitsx1
import Derived.Laws.BitsAllLaws
import Derived.OpenShut
import Derived.Laws.Strings
namespace Go.Proofs.YtffhepaldaoleaaDoor.Pure
open Go.RowKit Go.Proofs.YtffhepaldaoleaaDoor.PCheckBits Go.Proofs.YtffhepaldaoleaaDoorW.PrintWords Go.Proofs.YtffhepaldaoleaaDoorW.PrintLast Go.Proofs.YtffhepaldaoleaaDoorW.PrintMore

theorem strOf_nats (l : List Nat) (h : ∀ x ∈ l, x < 256) : (Bb.strOf l).data.toList.map (·.toNat) = l := by
  unfold Bb.strOf
  simp only [List.map_map]
  conv => rhs; rw [← List.map_id l]
  apply List.map_congr_left
  intro x hx
  have := h x hx
  simp
  omega
theorem natsOf_small (s : ByteArray) : ∀ x ∈ Bb.natsOf s, x < 256 := by
  intro x hx
  unfold Bb.natsOf at hx
  obtain ⟨b, _, rfl⟩ := List.mem_map.1 hx
  exact UInt8.toNat_lt b
theorem set_small (l : List Nat) (k v : Nat) (h : ∀ x ∈ l, x < 256) (hv : v < 256) : ∀ x ∈ l.set k v, x < 256 := by
  intro x hx
  rcases List.mem_or_eq_of_mem_set hx with h1 | h1
  · exact h x h1
  · omega
theorem crc_is (s : ByteArray) : Crc.B (Crc.crcOn 65535 s.data.toList) = Crc.S (Crc.B 65535) (Bb.natsOf s) := Crc.on_is _ _ (by decide)
theorem crc_of (l : List Nat) (h : ∀ x ∈ l, x < 256) : Crc.B (Crc.crcOn 65535 (Bb.strOf l).data.toList) = Crc.S (Crc.B 65535) l := by
  rw [Crc.on_is _ _ (by decide), strOf_nats l h]
theorem crc_lt (s : ByteArray) : Crc.crcOn 65535 s.data.toList < 65536 := Crc.crcOn_lt _ _ (by decide)
theorem of_some (s : ByteArray) (hs : s.size ≤ 140737488351232) : check_Of.f s = some ((Crc.crcOn 65535 s.data.toList : Nat) : Int) := by
  unfold check_Of.f; rw [if_pos hs]
theorem alive_is : kissgatelaw04_alive.f = some true := by
  unfold kissgatelaw04_alive.f
  rw [of_some _ (by decide)]
  decide +kernel
/-- A text with its sum behind it. -/
def sealOf (s : ByteArray) : ByteArray := Bb.strOf (Bb.natsOf s ++ [Crc.crcOn 65535 s.data.toList / 256, Crc.crcOn 65535 s.data.toList % 256])
theorem sealOf_small (s : ByteArray) : ∀ x ∈ Bb.natsOf s ++ [Crc.crcOn 65535 s.data.toList / 256, Crc.crcOn 65535 s.data.toList % 256], x < 256 := by
  intro x hx
  have := crc_lt s
  rcases List.mem_append.1 hx with h | h
  · exact natsOf_small s x h
  · simp at h; omega
theorem sealOf_nats (s : ByteArray) : Bb.natsOf (sealOf s) = Bb.natsOf s ++ [Crc.crcOn 65535 s.data.toList / 256, Crc.crcOn 65535 s.data.toList % 256] := strOf_nats _ (sealOf_small s)
theorem sealOf_size (s : ByteArray) : (sealOf s).size = s.size + 2 := by
  unfold sealOf; rw [Bb.strOf_size, List.length_append, Bb.natsOf_length]; rfl
theorem nums_two (s : ByteArray) (c : Nat) (hc : c < 65536) : s ++ strOfNums [(c : Int) / 256 % 256, (c : Int) % 256] = Bb.strOf (Bb.natsOf s ++ [c / 256, c % 256]) := by
  apply ByteArray.ext
  have e1 : ((c : Int) / 256 % 256).toNat = c / 256 := by omega
  have e2 : ((c : Int) % 256).toNat = c % 256 := by omega
  rw [ByteArray.data_append]
  unfold Bb.strOf
  apply Array.toList_inj.1
  rw [Array.toList_append, List.map_append]
  have e3 : (Bb.natsOf s).map UInt8.ofNat = s.data.toList := by
    unfold Bb.natsOf
    rw [List.map_map, show (UInt8.ofNat ∘ fun x : UInt8 => x.toNat) = id from by funext x; simp, List.map_id]
  show s.data.toList ++ _ = (Bb.natsOf s).map UInt8.ofNat ++ _
  rw [e3]
  congr 1
  show [UInt8.ofNat _, UInt8.ofNat _] = _
  rw [e1, e2]; rfl
theorem seal_some (s : ByteArray) (hs : s.size ≤ 140737488351232) : check_Seal.f s = some (sealOf s) := by
  unfold check_Seal.f
  rw [of_some s hs]
  simp only [Option.bind_some]
  rw [if_pos (by rw [strOfNums_size]; simp only [List.length_cons, List.length_nil]; omega), nums_two s _ (crc_lt s)]
  rfl
theorem seal_zero (s : ByteArray) : Crc.S (Crc.B 65535) (Bb.natsOf (sealOf s)) = 0#16 := by
  rw [sealOf_nats]
  exact Crc.sealed _ _ _ (crc_lt s) (crc_is s).symm
theorem wrap_id {n : Int} (h0 : -9223372036854775808 ≤ n) (h1 : n ≤ 9223372036854775807) : wrap64 n = n := by unfold wrap64; omega
theorem strip_some (t : ByteArray) (hs : t.size ≤ 140737488351232) (h2 : 2 ≤ t.size) : check_Strip.f t = if (sealOf (t.extract 0 (t.size - 2))).toList = t.toList then some (t.extract 0 (t.size - 2), true) else some (⟨#[]⟩, false) := by
  have e : ((t.size : Int) - 2).toNat = t.size - 2 := by omega
  have hx : (t.extract 0 (t.size - 2)).size ≤ 140737488351232 := by rw [ByteArray.size_extract]; omega
  unfold check_Strip.f
  rw [wrap_id (by omega) (by omega), if_neg (by omega), if_pos (by omega), if_pos (by omega), e, seal_some _ hx]
  rfl
theorem toList_inj {a b : ByteArray} (h : a.toList = b.toList) : a = b := by
  rw [ByteArray.toList_eq, ByteArray.toList_eq] at h
  exact ByteArray.ext (Array.toList_inj.1 h)
/-- What has a sum other than 0 isn't stripped. -/
theorem strip_not (t : ByteArray) (hs : t.size ≤ 140737488351232) (h2 : 2 ≤ t.size) (h : Crc.S (Crc.B 65535) (Bb.natsOf t) ≠ 0#16) : ∃ u, check_Strip.f t = some (u, false) := by
  rw [strip_some t hs h2]
  by_cases e : (sealOf (t.extract 0 (t.size - 2))).toList = t.toList
  · exact absurd (by rw [← toList_inj e]; exact seal_zero _) h
  · rw [if_neg e]; exact ⟨_, rfl⟩
theorem flip_small (l : List Nat) (i r : Nat) (h : ∀ x ∈ l, x < 256) (hi : i < l.length) (hr : r < 8) : ∀ x ∈ flipAt l i r, x < 256 := by
  unfold flipAt
  refine set_small _ _ _ h (Nat.xor_lt_two_pow (n := 8) (h _ ?_) (Nat.pow_lt_pow_right (by decide) hr))
  rw [List.getD_eq_getElem?_getD, List.getElem?_eq_getElem hi]
  exact List.getElem_mem hi
theorem flip_length (l : List Nat) (i r : Nat) : (flipAt l i r).length = l.length := by unfold flipAt; rw [List.length_set]
theorem flip_crc (x : BitVec 16) (l : List Nat) (i r : Nat) (hi : i < l.length) (hr : r < 8) : Crc.S x (flipAt l i r) = Crc.S x l ^^^ Crc.Rn (8 * (l.length - i) + 8 + r) 1#16 := by
  unfold flipAt
  rw [Crc.S_turn _ _ _ _ hi, Crc.bit_is _ _ hr]
theorem CheckBits : kissgatelaw04_CheckBits.Pure := by
  refine ⟨alive_is, fun s hs => ⟨sealOf s, seal_some s (by omega), sealOf_size s, fun i r hi hr => ?_, fun i r j q hi hr hj hq hne => ?_⟩⟩
  · have hsz := sealOf_size s
    have hl := Bb.natsOf_length (sealOf s)
    have hsm := flip_small _ i r (natsOf_small (sealOf s)) (by omega) hr
    refine strip_not _ (by rw [Bb.strOf_size, flip_length]; omega) (by rw [Bb.strOf_size, flip_length]; omega) ?_
    rw [show Bb.natsOf (Bb.strOf _) = _ from strOf_nats _ hsm, flip_crc _ _ _ _ (by omega) hr, seal_zero, BitVec.zero_xor]
    exact Crc.Rn_ne _ _ (by decide)
  · have hsz := sealOf_size s
    have hl := Bb.natsOf_length (sealOf s)
    have hsm1 := flip_small _ i r (natsOf_small (sealOf s)) (by omega) hr
    have hsm := flip_small _ j q hsm1 (by rw [flip_length]; omega) hq
    refine strip_not _ (by rw [Bb.strOf_size, flip_length, flip_length]; omega) (by rw [Bb.strOf_size, flip_length, flip_length]; omega) ?_
    rw [show Bb.natsOf (Bb.strOf _) = _ from strOf_nats _ hsm, flip_crc _ _ _ _ (by rw [flip_length]; omega) hq, flip_crc _ _ _ _ (by omega) hr, seal_zero, BitVec.zero_xor, flip_length]
    exact Crc.bits_ne _ _ (by omega) (by omega) (by omega)

end Go.Proofs.YtffhepaldaoleaaDoor.Pure
