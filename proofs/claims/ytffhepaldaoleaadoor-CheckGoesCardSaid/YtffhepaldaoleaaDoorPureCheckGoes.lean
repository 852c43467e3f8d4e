/- A sum goes on from a text's sum alone; texts of up to 2048 bytes together. -/
import Derived.Test.YtffhepaldaoleaaDoorPCheckGoesx1
import Derived.Laws.BitsAllLaws
import Derived.OpenShut
import Derived.Laws.Strings
namespace Go.Proofs.YtffhepaldaoleaaDoor.Pure
open Go.RowKit Go.Proofs.YtffhepaldaoleaaDoor.PCheckGoes Go.Proofs.YtffhepaldaoleaaDoorW.PrintWords Go.Proofs.YtffhepaldaoleaaDoorW.PrintLast Go.Proofs.YtffhepaldaoleaaDoorW.PrintMore

theorem strOf_nats (l : List Nat) (h : ∀ x ∈ l, x < 256) : (Bb.strOf l).data.toList.map (·.toNat) = l := by
  unfold Bb.strOf
  simp only [List.map_map]
  conv => rhs; rw [← List.map_id l]
  apply List.map_congr_left
  intro x hx
  have := h x hx
  simp
  omega
theorem natsOf_small (s : ByteArray) : ∀ x ∈ Bb.natsOf s, x < 256 := by
  intro x hx
  unfold Bb.natsOf at hx
  obtain ⟨b, _, rfl⟩ := List.mem_map.1 hx
  exact UInt8.toNat_lt b
theorem set_small (l : List Nat) (k v : Nat) (h : ∀ x ∈ l, x < 256) (hv : v < 256) : ∀ x ∈ l.set k v, x < 256 := by
  intro x hx
  rcases List.mem_or_eq_of_mem_set hx with h1 | h1
  · exact h x h1
  · omega
theorem crc_is (s : ByteArray) : Crc.B (Crc.crcOn 65535 s.data.toList) = Crc.S (Crc.B 65535) (Bb.natsOf s) := Crc.on_is _ _ (by decide)
theorem crc_of (l : List Nat) (h : ∀ x ∈ l, x < 256) : Crc.B (Crc.crcOn 65535 (Bb.strOf l).data.toList) = Crc.S (Crc.B 65535) l := by
  rw [Crc.on_is _ _ (by decide), strOf_nats l h]
theorem crc_lt (s : ByteArray) : Crc.crcOn 65535 s.data.toList < 65536 := Crc.crcOn_lt _ _ (by decide)
theorem of_some (s : ByteArray) (hs : s.size ≤ 140737488351232) : check_Of.f s = some ((Crc.crcOn 65535 s.data.toList : Nat) : Int) := by
  unfold check_Of.f; rw [if_pos hs]
theorem alive_is : kissgatelaw04_alive.f = some true := by
  unfold kissgatelaw04_alive.f
  rw [of_some _ (by decide)]
  decide +kernel
/-- A text with its sum behind it. -/
def sealOf (s : ByteArray) : ByteArray := Bb.strOf (Bb.natsOf s ++ [Crc.crcOn 65535 s.data.toList / 256, Crc.crcOn 65535 s.data.toList % 256])
theorem sealOf_small (s : ByteArray) : ∀ x ∈ Bb.natsOf s ++ [Crc.crcOn 65535 s.data.toList / 256, Crc.crcOn 65535 s.data.toList % 256], x < 256 := by
  intro x hx
  have := crc_lt s
  rcases List.mem_append.1 hx with h | h
  · exact natsOf_small s x h
  · simp at h; omega
theorem sealOf_nats (s : ByteArray) : Bb.natsOf (sealOf s) = Bb.natsOf s ++ [Crc.crcOn 65535 s.data.toList / 256, Crc.crcOn 65535 s.data.toList % 256] := strOf_nats _ (sealOf_small s)
theorem sealOf_size (s : ByteArray) : (sealOf s).size = s.size + 2 := by
  unfold sealOf; rw [Bb.strOf_size, List.length_append, Bb.natsOf_length]; rfl
theorem nums_two (s : ByteArray) (c : Nat) (hc : c < 65536) : s ++ strOfNums [(c : Int) / 256 % 256, (c : Int) % 256] = Bb.strOf (Bb.natsOf s ++ [c / 256, c % 256]) := by
  apply ByteArray.ext
  have e1 : ((c : Int) / 256 % 256).toNat = c / 256 := by omega
  have e2 : ((c : Int) % 256).toNat = c % 256 := by omega
  rw [ByteArray.data_append]
  unfold Bb.strOf
  apply Array.toList_inj.1
  rw [Array.toList_append, List.map_append]
  have e3 : (Bb.natsOf s).map UInt8.ofNat = s.data.toList := by
    unfold Bb.natsOf
    rw [List.map_map, show (UInt8.ofNat ∘ fun x : UInt8 => x.toNat) = id from by funext x; simp, List.map_id]
  show s.data.toList ++ _ = (Bb.natsOf s).map UInt8.ofNat ++ _
  rw [e3]
  congr 1
  show [UInt8.ofNat _, UInt8.ofNat _] = _
  rw [e1, e2]; rfl
theorem seal_some (s : ByteArray) (hs : s.size ≤ 140737488351232) : check_Seal.f s = some (sealOf s) := by
  unfold check_Seal.f
  rw [of_some s hs]
  simp only [Option.bind_some]
  rw [if_pos (by rw [strOfNums_size]; simp only [List.length_cons, List.length_nil]; omega), nums_two s _ (crc_lt s)]
  rfl
theorem seal_zero (s : ByteArray) : Crc.S (Crc.B 65535) (Bb.natsOf (sealOf s)) = 0#16 := by
  rw [sealOf_nats]
  exact Crc.sealed _ _ _ (crc_lt s) (crc_is s).symm
theorem nats_append (a b : ByteArray) : Bb.natsOf (a ++ b) = Bb.natsOf a ++ Bb.natsOf b := by unfold Bb.natsOf; rw [ByteArray.data_append, Array.toList_append, List.map_append]
theorem crc_zero (s : ByteArray) : Crc.crcOn 65535 (sealOf s).data.toList = 0 := by
  apply Crc.B_inj (crc_lt _) (by decide)
  rw [crc_is, seal_zero]; rfl
theorem crc_goes (s m : ByteArray) : Crc.B (Crc.crcOn 65535 (sealOf s ++ m).data.toList) = Crc.S 0#16 (Bb.natsOf m) := by
  rw [crc_is, nats_append, Crc.S_append, seal_zero]
theorem goes_eq (s e m : ByteArray) : Crc.crcOn 65535 (sealOf s ++ m).data.toList = Crc.crcOn 65535 (sealOf e ++ m).data.toList :=
  Crc.B_inj (crc_lt _) (crc_lt _) ((crc_goes s m).trans (crc_goes e m).symm)
theorem goes_all (s m e : ByteArray) (hs : s.size ≤ 140737488351232) (hm : m.size ≤ 140737488351232) (he : e.size = 0) :
    (if (wrap64 ((s.size : Int) + (m.size : Int))) > 2048 then (some true) else ((check_Seal.f s).bind fun t107 => ((check_Of.f t107).bind fun t108 => (if t108 = 0 then ((check_Seal.f s).bind fun t109 => (if t109.size + m.size ≤ 9223372036854775807 then ((check_Of.f (t109 ++ m)).bind fun t110 => ((check_Seal.f e).bind fun t111 => (if t111.size + m.size ≤ 9223372036854775807 then ((check_Of.f (t111 ++ m)).bind fun t112 => (some (t110 == t112))) else (none)))) else (none))) else (some false))))) = some true := by
  have hz := sealOf_size s
  have h0 := sealOf_size e
  rw [show wrap64 ((s.size : Int) + (m.size : Int)) = (s.size : Int) + (m.size : Int) from by unfold wrap64; omega]
  by_cases h : (s.size : Int) + (m.size : Int) > 2048
  · rw [if_pos h]
  · rw [if_neg h, seal_some s hs, seal_some e (by omega)]
    have h1 := of_some (sealOf s) (by omega)
    rw [crc_zero] at h1
    have h2 := of_some (sealOf s ++ m) (by rw [ByteArray.size_append]; omega)
    have h3 := of_some (sealOf e ++ m) (by rw [ByteArray.size_append]; omega)
    rw [goes_eq s e m] at h2
    simp only [Option.bind_some, h1, h2, h3]
    rw [if_pos (by rfl), if_pos (by omega), if_pos (by omega)]
    simp
theorem CheckGoes : kissgatelaw04_CheckGoes.Pure := by
  intro s m hs hm
  unfold kissgatelaw04_CheckGoes.f
  rw [alive_is, Option.bind_some, if_pos rfl]
  exact goes_all s m _ hs hm rfl

end Go.Proofs.YtffhepaldaoleaaDoor.Pure
