/- What is sealed is stripped, and what is stripped was sealed; texts of up to 2048 bytes. -/
import Derived.Test.YtffhepaldaoleaaDoorPCheckStripsx1
import Derived.Laws.BitsAllLaws
import Derived.OpenShut
import Derived.Laws.Strings
namespace Go.Proofs.YtffhepaldaoleaaDoor.Pure
open Go.RowKit Go.Proofs.YtffhepaldaoleaaDoor.PCheckStrips Go.Proofs.YtffhepaldaoleaaDoorW.PrintWords Go.Proofs.YtffhepaldaoleaaDoorW.PrintLast Go.Proofs.YtffhepaldaoleaaDoorW.PrintMore

theorem strOf_nats (l : List Nat) (h : ∀ x ∈ l, x < 256) : (Bb.strOf l).data.toList.map (·.toNat) = l := by
  unfold Bb.strOf
  simp only [List.map_map]
  conv => rhs; rw [← List.map_id l]
  apply List.map_congr_left
  intro x hx
  have := h x hx
  simp
  omega
theorem natsOf_small (s : ByteArray) : ∀ x ∈ Bb.natsOf s, x < 256 := by
  intro x hx
  unfold Bb.natsOf at hx
  obtain ⟨b, _, rfl⟩ := List.mem_map.1 hx
  exact UInt8.toNat_lt b
theorem set_small (l : List Nat) (k v : Nat) (h : ∀ x ∈ l, x < 256) (hv : v < 256) : ∀ x ∈ l.set k v, x < 256 := by
  intro x hx
  rcases List.mem_or_eq_of_mem_set hx with h1 | h1
  · exact h x h1
  · omega
theorem crc_is (s : ByteArray) : Crc.B (Crc.crcOn 65535 s.data.toList) = Crc.S (Crc.B 65535) (Bb.natsOf s) := Crc.on_is _ _ (by decide)
theorem crc_of (l : List Nat) (h : ∀ x ∈ l, x < 256) : Crc.B (Crc.crcOn 65535 (Bb.strOf l).data.toList) = Crc.S (Crc.B 65535) l := by
  rw [Crc.on_is _ _ (by decide), strOf_nats l h]
theorem crc_lt (s : ByteArray) : Crc.crcOn 65535 s.data.toList < 65536 := Crc.crcOn_lt _ _ (by decide)
theorem of_some (s : ByteArray) (hs : s.size ≤ 140737488351232) : check_Of.f s = some ((Crc.crcOn 65535 s.data.toList : Nat) : Int) := by
  unfold check_Of.f; rw [if_pos hs]
theorem alive_is : kissgatelaw04_alive.f = some true := by
  unfold kissgatelaw04_alive.f
  rw [of_some _ (by decide)]
  decide +kernel
/-- A text with its sum behind it. -/
def sealOf (s : ByteArray) : ByteArray := Bb.strOf (Bb.natsOf s ++ [Crc.crcOn 65535 s.data.toList / 256, Crc.crcOn 65535 s.data.toList % 256])
theorem sealOf_small (s : ByteArray) : ∀ x ∈ Bb.natsOf s ++ [Crc.crcOn 65535 s.data.toList / 256, Crc.crcOn 65535 s.data.toList % 256], x < 256 := by
  intro x hx
  have := crc_lt s
  rcases List.mem_append.1 hx with h | h
  · exact natsOf_small s x h
  · simp at h; omega
theorem sealOf_nats (s : ByteArray) : Bb.natsOf (sealOf s) = Bb.natsOf s ++ [Crc.crcOn 65535 s.data.toList / 256, Crc.crcOn 65535 s.data.toList % 256] := strOf_nats _ (sealOf_small s)
theorem sealOf_size (s : ByteArray) : (sealOf s).size = s.size + 2 := by
  unfold sealOf; rw [Bb.strOf_size, List.length_append, Bb.natsOf_length]; rfl
theorem nums_two (s : ByteArray) (c : Nat) (hc : c < 65536) : s ++ strOfNums [(c : Int) / 256 % 256, (c : Int) % 256] = Bb.strOf (Bb.natsOf s ++ [c / 256, c % 256]) := by
  apply ByteArray.ext
  have e1 : ((c : Int) / 256 % 256).toNat = c / 256 := by omega
  have e2 : ((c : Int) % 256).toNat = c % 256 := by omega
  rw [ByteArray.data_append]
  unfold Bb.strOf
  apply Array.toList_inj.1
  rw [Array.toList_append, List.map_append]
  have e3 : (Bb.natsOf s).map UInt8.ofNat = s.data.toList := by
    unfold Bb.natsOf
    rw [List.map_map, show (UInt8.ofNat ∘ fun x : UInt8 => x.toNat) = id from by funext x; simp, List.map_id]
  show s.data.toList ++ _ = (Bb.natsOf s).map UInt8.ofNat ++ _
  rw [e3]
  congr 1
  show [UInt8.ofNat _, UInt8.ofNat _] = _
  rw [e1, e2]; rfl
theorem seal_some (s : ByteArray) (hs : s.size ≤ 140737488351232) : check_Seal.f s = some (sealOf s) := by
  unfold check_Seal.f
  rw [of_some s hs]
  simp only [Option.bind_some]
  rw [if_pos (by rw [strOfNums_size]; simp only [List.length_cons, List.length_nil]; omega), nums_two s _ (crc_lt s)]
  rfl
theorem seal_zero (s : ByteArray) : Crc.S (Crc.B 65535) (Bb.natsOf (sealOf s)) = 0#16 := by
  rw [sealOf_nats]
  exact Crc.sealed _ _ _ (crc_lt s) (crc_is s).symm
theorem wrap_id {n : Int} (h0 : -9223372036854775808 ≤ n) (h1 : n ≤ 9223372036854775807) : wrap64 n = n := by unfold wrap64; omega
theorem strip_some (t : ByteArray) (hs : t.size ≤ 140737488351232) (h2 : 2 ≤ t.size) : check_Strip.f t = if (sealOf (t.extract 0 (t.size - 2))).toList = t.toList then some (t.extract 0 (t.size - 2), true) else some (⟨#[]⟩, false) := by
  have e : ((t.size : Int) - 2).toNat = t.size - 2 := by omega
  have hx : (t.extract 0 (t.size - 2)).size ≤ 140737488351232 := by rw [ByteArray.size_extract]; omega
  unfold check_Strip.f
  rw [wrap_id (by omega) (by omega), if_neg (by omega), if_pos (by omega), if_pos (by omega), e, seal_some _ hx]
  rfl
theorem toList_inj {a b : ByteArray} (h : a.toList = b.toList) : a = b := by
  rw [ByteArray.toList_eq, ByteArray.toList_eq] at h
  exact ByteArray.ext (Array.toList_inj.1 h)
/-- What has a sum other than 0 isn't stripped. -/
theorem strip_not (t : ByteArray) (hs : t.size ≤ 140737488351232) (h2 : 2 ≤ t.size) (h : Crc.S (Crc.B 65535) (Bb.natsOf t) ≠ 0#16) : ∃ u, check_Strip.f t = some (u, false) := by
  rw [strip_some t hs h2]
  by_cases e : (sealOf (t.extract 0 (t.size - 2))).toList = t.toList
  · exact absurd (by rw [← toList_inj e]; exact seal_zero _) h
  · rw [if_neg e]; exact ⟨_, rfl⟩
theorem wrap_id' {n : Int} (h0 : -9223372036854775808 ≤ n) (h1 : n ≤ 9223372036854775807) : wrap64 n = n := by unfold wrap64; omega
theorem xor64 (a b : Nat) (ha : a < 2 ^ 32) (hb : b < 2 ^ 32) : Go.bits .xor .i64 (a : Int) (b : Int) = ((a ^^^ b : Nat) : Int) := by
  have hx : a ^^^ b < 2 ^ 32 := Nat.xor_lt_two_pow ha hb
  simp only [Go.bits, BitVec.ofInt_natCast, BitVec.toNat_xor, BitVec.toNat_ofNat]
  rw [show IntKind.i64.bits = 64 from rfl, Nat.mod_eq_of_lt (show a < 2 ^ 64 by omega), Nat.mod_eq_of_lt (show b < 2 ^ 64 by omega), IntKind.wrap_i64]
  omega
/-- One bit's step on numbers. -/
def stepN (c : Nat) : Nat := if 65536 ≤ c * 2 then (c * 2 - 65536) ^^^ 4129 else c * 2
theorem stepN_lt (c : Nat) (hc : c < 65536) : stepN c < 65536 := by
  unfold stepN
  split
  · exact Nat.xor_lt_two_pow (n := 16) (by omega) (by decide)
  · omega
theorem stepN_is (c : Nat) (hc : c < 65536) : Crc.B (stepN c) = Crc.R (Crc.B c) := by
  have e2 : Crc.B c <<< 1 = Crc.B (c * 2) := by
    apply BitVec.eq_of_toNat_eq
    simp [Crc.B, BitVec.toNat_shiftLeft, Nat.shiftLeft_eq]
  unfold stepN Crc.R
  have hb : (Crc.B c).toNat = c := by simp [Crc.B]; omega
  by_cases h : 65536 ≤ c * 2
  · have hm : (Crc.B c).msb = true := by
      rw [BitVec.msb_eq_true_iff_two_mul_ge, hb]; omega
    rw [if_pos h, hm, if_pos rfl, Crc.B_xor, e2, ← Crc.B_mod (c * 2), show c * 2 % 65536 = c * 2 - 65536 from by omega]
    rfl
  · have hm : (Crc.B c).msb = false := by
      rw [BitVec.msb_eq_false_iff_two_mul_lt, hb]; omega
    rw [if_neg h, hm, if_neg (by decide), e2]
def stepsN : Nat → Nat → Nat
  | 0, c => c
  | n + 1, c => stepsN n (stepN c)
theorem stepsN_lt (n : Nat) : ∀ c, c < 65536 → stepsN n c < 65536 := by
  induction n with
  | zero => intro c h; exact h
  | succ n ih => intro c h; exact ih _ (stepN_lt c h)
theorem stepsN_is (n : Nat) : ∀ c, c < 65536 → Crc.B (stepsN n c) = Crc.Rn n (Crc.B c) := by
  induction n with
  | zero => intro c _; rfl
  | succ n ih => intro c h; rw [stepsN, ih _ (stepN_lt c h), stepN_is c h]; rfl
theorem bt_nat (s : ByteArray) (i : Nat) (h : i < s.size) : bt s (i : Int) = ((s[i].toNat : Nat) : Int) := by
  unfold bt; rw [dif_pos (by simpa using h)]; rfl
theorem bits_step (c : Nat) (hc : c < 65536) : (if (wrap64 ((c : Int) * 2)) ≥ 65536 then Go.bits .xor .i64 (wrap64 ((wrap64 ((c : Int) * 2)) - 65536)) 4129 else wrap64 ((c : Int) * 2)) = ((stepN c : Nat) : Int) := by
  unfold stepN
  rw [wrap_id' (n := (c : Int) * 2) (by omega) (by omega)]
  by_cases h : 65536 ≤ c * 2
  · rw [if_pos (by omega), if_pos h, wrap_id' (by omega) (by omega), show (c : Int) * 2 - 65536 = ((c * 2 - 65536 : Nat) : Int) from by omega, show (4129 : Int) = ((4129 : Nat) : Int) from rfl, xor64 _ _ (by omega) (by decide)]
  · rw [if_neg (by omega), if_neg h]; omega
theorem ref_bits (s : ByteArray) (i : Nat) (n : Nat) : ∀ (m c : Nat), m ≤ 8 → c < 65536 → kissgateref04_Of.l1 (n + m + 1) s (c : Int) (i : Int) ((8 - m : Nat) : Int) = kissgateref04_Of.l0 n s ((stepsN m c : Nat) : Int) (wrap64 ((i : Int) + 1)) := by
  intro m
  induction m with
  | zero =>
    intro c _ hc
    simp only [kissgateref04_Of.l1]
    rw [if_neg (by omega)]
    rfl
  | succ m ih =>
    intro c hm hc
    have e := bits_step c hc
    rw [show n + (m + 1) + 1 = (n + m + 1) + 1 from by omega]
    simp only [kissgateref04_Of.l1]
    rw [if_pos (by omega), wrap_id' (n := ((8 - (m + 1) : Nat) : Int) + 1) (by omega) (by omega), show ((8 - (m + 1) : Nat) : Int) + 1 = ((8 - m : Nat) : Int) from by omega]
    rw [show stepsN (m + 1) c = stepsN m (stepN c) from rfl, ← ih (stepN c) (by omega) (stepN_lt c hc)]
    rw [← e]
    split <;> rfl
theorem ref_bytes (s : ByteArray) (hs : s.size ≤ 1000000) : ∀ (d i c : Nat), i + d = s.size → c < 65536 → kissgateref04_Of.l0 (10 * d + 1) s (c : Int) (i : Int) = some ((Crc.crcOn c (s.data.toList.drop i) : Nat) : Int) := by
  intro d
  induction d with
  | zero =>
    intro i c hi _
    simp only [kissgateref04_Of.l0]
    rw [if_neg (by omega), List.drop_of_length_le (by rw [Array.length_toList]; show s.size ≤ i; omega)]
    rfl
  | succ d ih =>
    intro i c hi hc
    have hlt : i < s.size := by omega
    have hb := UInt8.toNat_lt s[i]
    rw [show 10 * (d + 1) + 1 = ((10 * d + 1) + 8 + 1) + 1 from by omega]
    simp only [kissgateref04_Of.l0]
    rw [if_pos (by omega), if_pos (by omega), bt_nat s i hlt, wrap_id' (n := ((s[i].toNat : Nat) : Int)) (by omega) (by omega), wrap_id' (by omega) (by omega), show ((s[i].toNat : Nat) : Int) * 256 = ((s[i].toNat * 256 : Nat) : Int) from by omega, xor64 _ _ (by omega) (by omega)]
    have hx : c ^^^ s[i].toNat * 256 < 65536 := Nat.xor_lt_two_pow (n := 16) hc (by omega)
    have e := ref_bits s i (10 * d + 1) 8 _ (Nat.le_refl _) hx
    rw [show ((8 - 8 : Nat) : Int) = 0 from rfl] at e
    rw [e, wrap_id' (by omega) (by omega), show (i : Int) + 1 = ((i + 1 : Nat) : Int) from by omega, ih (i + 1) _ (by omega) (stepsN_lt _ _ hx)]
    have hd : s.data.toList.drop i = s[i] :: s.data.toList.drop (i + 1) := List.drop_eq_getElem_cons (by rw [Array.length_toList]; exact hlt)
    rw [hd]
    have eb : stepsN 8 (c ^^^ s[i].toNat * 256) = Crc.crcByte c s[i].toNat := by
      apply Crc.B_inj (stepsN_lt _ _ hx) (Crc.crcHalf_lt _ _)
      rw [stepsN_is _ _ hx, Crc.B_xor]
      exact (Crc.byte_is _ _ hc hb).symm
    rw [eb]; rfl
theorem ref_of (s : ByteArray) (hs : s.size ≤ 1000000) : kissgateref04_Of.f (10 * s.size + 1) s = some ((Crc.crcOn 65535 s.data.toList : Nat) : Int) := by
  unfold kissgateref04_Of.f
  exact ref_bytes s hs s.size 0 65535 (by omega) (by decide)
theorem ref_of_more (s : ByteArray) (hs : s.size ≤ 1000000) (k : Nat) (hk : 10 * s.size + 1 ≤ k) : kissgateref04_Of.f k s = some ((Crc.crcOn 65535 s.data.toList : Nat) : Int) := by
  obtain ⟨d, rfl⟩ := Nat.le.dest hk
  induction d with
  | zero => exact ref_of s hs
  | succ d ih => exact kissgateref04_Of.mono s _ _ (ih (by omega))
theorem ref_seal (s : ByteArray) (hs : s.size ≤ 1000000) (k : Nat) (hk : 10 * s.size + 1 ≤ k) : kissgateref04_Seal.f k s = some (sealOf s) := by
  have hc := crc_lt s
  unfold kissgateref04_Seal.f
  rw [ref_of_more s hs k hk]
  simp only [Option.bind_some]
  rw [Int.tdiv_eq_ediv_of_nonneg (by omega), Int.tmod_eq_emod_of_nonneg (by omega), wrap_id' (by omega) (by omega), Int.emod_emod_of_dvd _ (by decide : (256 : Int) ∣ 256), if_pos (by rw [strOfNums_size]; simp only [List.length_cons, List.length_nil]; omega), nums_two s _ hc]
  rfl
theorem seal_cut (s : ByteArray) : (sealOf s).extract 0 ((sealOf s).size - 2) = s := by
  rw [sealOf_size, Nat.add_sub_cancel]
  apply ByteArray.ext
  rw [ByteArray.data_extract]
  apply Array.toList_inj.1
  unfold sealOf Bb.strOf
  rw [List.map_append]
  have e3 : (Bb.natsOf s).map UInt8.ofNat = s.data.toList := by
    unfold Bb.natsOf
    rw [List.map_map, show (UInt8.ofNat ∘ fun x : UInt8 => x.toNat) = id from by funext x; simp, List.map_id]
  rw [e3, Array.toList_extract, List.extract_eq_take_drop, List.drop_zero, Nat.sub_zero]
  exact List.take_left' (by rw [Array.length_toList]; rfl)
theorem empty_toList : (⟨#[]⟩ : ByteArray).toList = [] := by rw [ByteArray.toList_eq]
theorem CheckStrips : kissgatelaw04_CheckStrips.Pure := by
  intro s hs
  by_cases h : (s.size : Int) > 2048
  · refine ⟨0, ?_⟩
    unfold kissgatelaw04_CheckStrips.f
    rw [alive_is]
    simp only [Option.bind_some, if_true]
    rw [if_pos h]
  · have hz := sealOf_size s
    refine ⟨10 * s.size + 2, ?_⟩
    unfold kissgatelaw04_CheckStrips.f
    rw [alive_is]
    simp only [Option.bind_some, if_true]
    rw [if_neg h, ref_seal s (by omega) _ (by omega)]
    simp only [Option.bind_some]
    rw [strip_some _ (by omega) (by omega), seal_cut, if_pos rfl]
    simp only [Option.bind_some, if_true, Bool.not_true]
    simp only [kissgatelaw04_CheckStrips.j0]
    rw [if_neg (by decide), wrap_id (by omega) (by omega)]
    by_cases h2 : (s.size : Int) - 2 ≥ 0
    · have em : mx ((s.size : Int) - 2) 0 = (s.size : Int) - 2 := by unfold mx; rw [if_neg (by omega)]
      have et : ((s.size : Int) - 2).toNat = s.size - 2 := by omega
      rw [if_pos h2, em, if_pos (by omega), if_pos (by omega), et, ref_seal _ (by rw [ByteArray.size_extract]; omega) _ (by rw [ByteArray.size_extract]; omega)]
      simp only [Option.bind_some]
      rw [strip_some s hs (by omega)]
      by_cases e : (sealOf (s.extract 0 (s.size - 2))).toList = s.toList
      · rw [if_pos e]
        simp only [Option.bind_some]
        rw [if_pos (by rw [e]; simp), if_pos e]; simp
      · rw [if_neg e]
        simp only [Option.bind_some]
        rw [if_pos (by simpa using e), if_neg e, empty_toList]
        rfl
    · rw [if_neg h2]
      have es : check_Strip.f s = some (⟨#[]⟩, false) := by
        unfold check_Strip.f
        rw [wrap_id (by omega) (by omega), if_pos (by omega)]
      rw [es]
      simp only [Option.bind_some]
      rw [empty_toList]
      rfl

end Go.Proofs.YtffhepaldaoleaaDoor.Pure
