/- Texts of one length that differ in one byte have unlike sums; texts of up to 2048 bytes. -/
import Derived.Test.YtffhepaldaoleaaDoorPCheckOddx1
import Derived.Laws.BitsAllLaws
import Derived.OpenShut
import Derived.Laws.Strings
namespace Go.Proofs.YtffhepaldaoleaaDoor.Pure
open Go.RowKit Go.Proofs.YtffhepaldaoleaaDoor.PCheckOdd Go.Proofs.YtffhepaldaoleaaDoorW.PrintWords Go.Proofs.YtffhepaldaoleaaDoorW.PrintLast Go.Proofs.YtffhepaldaoleaaDoorW.PrintMore

theorem strOf_nats (l : List Nat) (h : ∀ x ∈ l, x < 256) : (Bb.strOf l).data.toList.map (·.toNat) = l := by
  unfold Bb.strOf
  simp only [List.map_map]
  conv => rhs; rw [← List.map_id l]
  apply List.map_congr_left
  intro x hx
  have := h x hx
  simp
  omega
theorem natsOf_small (s : ByteArray) : ∀ x ∈ Bb.natsOf s, x < 256 := by
  intro x hx
  unfold Bb.natsOf at hx
  obtain ⟨b, _, rfl⟩ := List.mem_map.1 hx
  exact UInt8.toNat_lt b
theorem set_small (l : List Nat) (k v : Nat) (h : ∀ x ∈ l, x < 256) (hv : v < 256) : ∀ x ∈ l.set k v, x < 256 := by
  intro x hx
  rcases List.mem_or_eq_of_mem_set hx with h1 | h1
  · exact h x h1
  · omega
theorem crc_is (s : ByteArray) : Crc.B (Crc.crcOn 65535 s.data.toList) = Crc.S (Crc.B 65535) (Bb.natsOf s) := Crc.on_is _ _ (by decide)
theorem crc_of (l : List Nat) (h : ∀ x ∈ l, x < 256) : Crc.B (Crc.crcOn 65535 (Bb.strOf l).data.toList) = Crc.S (Crc.B 65535) l := by
  rw [Crc.on_is _ _ (by decide), strOf_nats l h]
theorem crc_lt (s : ByteArray) : Crc.crcOn 65535 s.data.toList < 65536 := Crc.crcOn_lt _ _ (by decide)
theorem of_some (s : ByteArray) (hs : s.size ≤ 140737488351232) : check_Of.f s = some ((Crc.crcOn 65535 s.data.toList : Nat) : Int) := by
  unfold check_Of.f; rw [if_pos hs]
theorem alive_is : kissgatelaw04_alive.f = some true := by
  unfold kissgatelaw04_alive.f
  rw [of_some _ (by decide)]
  decide +kernel
theorem CheckOdd : kissgatelaw04_CheckOdd.Pure := by
  refine ⟨alive_is, fun s k t hs hk h0 h1 e => ?_⟩
  have hsm : ∀ x ∈ (Bb.natsOf s).set k ((Bb.natsOf s).getD k 0 ^^^ t), x < 256 := set_small _ _ _ (natsOf_small s) (Nat.xor_lt_two_pow (n := 8) (Bb.natsOf_lt s k) h1)
  have e1 := congrArg Crc.B e
  rw [crc_of _ hsm, crc_is, Crc.S_turn _ _ _ _ (by rw [Bb.natsOf_length]; exact hk)] at e1
  have e2 : Crc.Rn (8 * ((Bb.natsOf s).length - k)) (Crc.B (t * 256)) = 0#16 := by
    have := congrArg (fun z => Crc.S (Crc.B 65535) (Bb.natsOf s) ^^^ z) e1
    rwa [← BitVec.xor_assoc, BitVec.xor_self, BitVec.zero_xor] at this
  exact Crc.turn_ne _ t h0 h1 e2

end Go.Proofs.YtffhepaldaoleaaDoor.Pure
