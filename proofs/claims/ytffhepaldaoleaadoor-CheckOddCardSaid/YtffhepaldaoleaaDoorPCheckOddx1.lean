-- Written by a program of this session (see NOTES.md), which reads the translation's print; Lean checks it.
import Derived.Test.YtffhepaldaoleaaDoorPCheckOddx0
namespace Go.Proofs.YtffhepaldaoleaaDoor.PCheckOdd
open Go.RowKit Go.Proofs.YtffhepaldaoleaaDoorW.PrintWords Go.Proofs.YtffhepaldaoleaaDoorW.PrintLast Go.Proofs.YtffhepaldaoleaaDoorW.PrintMore
attribute [local go_sem] max2_int min2_int max_two min_two max_three min_three max_four min_four   -- for this text's walks alone
set_option linter.unusedVariables false
set_option linter.unusedSimpArgs false

/-! ### check_Of: function 10 -/
/-- The table lies in the world. -/
def LaidG (w : World) : Prop := ∀ k : Nat, k < 16 → w.cell? ⟨0, k, none⟩ = some (.int .u16 ((Crc.crcTab k : Nat) : Int))
theorem LaidG.far {w W : World} (h : LaidG w) (hb : Below w.heap.size w W) : LaidG W := fun k hk => (hb.cell (World.block_lt_of_cell? w _ (h k hk))).trans (h k hk)
theorem LaidG.drewN {w : World} (h : LaidG w) (n : Nat) : LaidG (w.drewN n) := h
theorem half_ix (c h : Nat) (hc : c < 65536) (hh : h < 16) : ∃ ix : Nat, Go.bits .xor .u8 (((c : Nat) : Int) / 4096) ((h : Nat) : Int) = (ix : Int) ∧ ix < 16 ∧
    Go.bits .xor .u16 (IntKind.u16.wrap (((c : Nat) : Int) * 16)) ((Crc.crcTab ix : Nat) : Int) = ((Crc.crcHalf c h : Nat) : Int) := by
  refine ⟨c / 4096 ^^^ h, ?_, Nat.xor_lt_two_pow (n := 4) (by omega) (by omega), ?_⟩
  · rw [show ((c : Nat) : Int) / 4096 = ((c / 4096 : Nat) : Int) from by omega, Go.u8_xor_nat _ _ (by omega) (by omega)]
  · rw [show IntKind.u16.wrap (((c : Nat) : Int) * 16) = ((c * 16 % 65536 : Nat) : Int) from by rw [IntKind.wrap_u16]; omega, Go.u16_xor_nat _ _ (by omega) (Crc.crcTab_lt _)]
    rfl
def check_Of.f (a0 : ByteArray) : Option Int := if a0.size ≤ 140737488351232 then some ((Crc.crcOn 65535 a0.data.toList : Nat) : Int) else none
set_option maxHeartbeats 2000000 in
set_option maxRecDepth 100000 in
theorem check_Of.calls (a0 : ByteArray) (r : Int) (w : World) (hG : LaidG w) (h : check_Of.f a0 = some r) :
    Calls Tryd.prog 10 #[.string a0] w fun e w' => e = .returned (.int .i64 r) ∧ Drawn0 w w' := by
  unfold check_Of.f at h
  have hs : a0.size ≤ 140737488351232 := by
    by_cases hs : a0.size ≤ 140737488351232
    · exact hs
    · rw [if_neg hs] at h; cases h
  rw [if_pos hs] at h
  obtain rfl := Option.some.inj h
  clear h
  have HG := Aside0.mk hG
  clear hG
  go_enter Tryd.func10, Tryd.ntmps10
  go_wp2
  go_loopw [3, 9] (fun v3 v9 wr => ∃ (k c : Nat), k ≤ a0.size ∧ v9 = .int .i64 (k : Nat) ∧ v3 = .int .u16 (c : Nat) ∧ c < 65536 ∧ Aside0 (c = Crc.crcOn 65535 (a0.data.toList.take k)) ∧ Aside0 (Drawn0 w wr)) (fun _ v9 _ => a0.size - (intOf v9).toNat)
  case atStart => exact ⟨0, 65535, Nat.zero_le _, rfl, rfl, by decide, ⟨rfl⟩, ⟨Drawn0.refl _⟩⟩
  case round =>
    obtain ⟨k, c, hk, rfl, rfl, hc, HC, HD⟩ := hrel
    by_cases hlt : k < a0.size
    · go_wp2
      have hand : Go.bits .and .u8 ((a0[k].toNat : Nat) : Int) 15 = ((a0[k].toNat % 16 : Nat) : Int) := by
        have e := Go.u8_and_nat a0[k].toNat 15 (UInt8.toNat_lt _) (by decide)
        rw [show ((15 : Nat) : Int) = 15 from rfl] at e
        rw [e, Nat.and_two_pow_sub_one_eq_mod _ 4]
      go_quiet (fail)
      obtain ⟨b, hb, HB⟩ : ∃ b : Nat, b = a0[k].toNat ∧ b < 256 := ⟨_, rfl, UInt8.toNat_lt _⟩
      rw [← hb]
      obtain ⟨x, hx, HX⟩ : ∃ x : Nat, ((b : Nat) : Int) / 16 = (x : Int) ∧ x = b / 16 := ⟨b / 16, by omega, rfl⟩
      obtain ⟨y, hy, HY⟩ : ∃ y : Nat, ((b : Nat) : Int) % 16 = (y : Int) ∧ y = b % 16 := ⟨b % 16, by omega, rfl⟩
      rw [hx, hy]
      have HL := Aside0.mk (show Crc.crcOn 65535 (a0.data.toList.take (k + 1)) = Crc.crcHalf (Crc.crcHalf c x) y by
        rw [List.take_succ_eq_append_getElem (by simpa using hlt), Crc.crcOn_snoc, ← HC.out, HX, HY, hb]; rfl)
      have hx16 : x < 16 := by omega
      have hy16 : y < 16 := by omega
      clear hand hb hx hy HX HY HB HC
      have i0 : ∀ w, (Instr.index 34 (.agg #[.int .u8 (x : Int), .int .u8 (y : Int)]) (.int .i64 0)).run Tryd.prog w = .ok (.int .u8 (x : Int)) w := fun _ => by kernel_rfl
      have i1 : ∀ w, (Instr.index 34 (.agg #[.int .u8 (x : Int), .int .u8 (y : Int)]) (.int .i64 1)).run Tryd.prog w = .ok (.int .u8 (y : Int)) w := fun _ => by kernel_rfl
      have HG1 := Aside0.mk (LaidG.far HG.out (HD.out.below))
      have HD1 : Aside0 (Drawn0 w (wr.drewN nq)) := ⟨by first | exact Drawn0.step HD.out | (obtain ⟨⟨n, hn⟩⟩ := HD.out; subst hn; exact ⟨⟨_, World.drewN_drewN _ _ _⟩⟩)⟩
      go_wp2
      go_loop [3, 21] (fun v3 v21 => ∃ (j c1 : Nat), (j = 0 ∧ c1 = c ∨ j = 1 ∧ c1 = Crc.crcHalf c x ∨ j = 2 ∧ c1 = Crc.crcHalf (Crc.crcHalf c x) y) ∧ v21 = .int .i64 (j : Nat) ∧ v3 = .int .u16 (c1 : Nat)) (fun _ v21 => 2 - (intOf v21).toNat)
      case atStart => exact ⟨0, c, .inl ⟨rfl, rfl⟩, rfl, rfl⟩
      case round =>
        obtain ⟨j, c1, hj, rfl, rfl⟩ := hrel
        rcases hj with ⟨rfl, rfl⟩ | ⟨rfl, hc1⟩ | ⟨rfl, hc1⟩
        · obtain ⟨ix, hix, hix2, hixe⟩ := half_ix c1 x (by first | exact hc | exact Crc.crcHalf_lt _ _) hx16
          have hcell := HG1.out ix hix2
          go_wp2
          go_round
          case rel => exact ⟨1, _, .inr (.inl ⟨rfl, rfl⟩), rfl, rfl⟩
          case measure => simp [intOf]
        · have hc1l : c1 < 65536 := by rw [hc1]; exact Crc.crcHalf_lt _ _
          obtain ⟨ix, hix, hix2, hixe⟩ := half_ix c1 y hc1l hy16
          have HC1 := Aside0.mk hc1
          clear hc1
          have hcell := HG1.out ix hix2
          go_wp2
          go_round
          case rel => exact ⟨2, _, .inr (.inr ⟨rfl, by rw [HC1.out]⟩), rfl, rfl⟩
          case measure => simp [intOf]
        · have HC1 := Aside0.mk hc1
          have hc1l : c1 < 65536 := by rw [hc1]; exact Crc.crcHalf_lt _ _
          clear hc1
          go_wp2
          go_roundw
          case rel => exact ⟨k + 1, c1, by omega, by go_num, rfl, hc1l, ⟨by rw [HL.out, HC1.out]⟩, HD1⟩
          case measure => simp [intOf]; omega
    · go_wp2
      go_ret
      have hk2 : a0.data.toList.take k = a0.data.toList := List.take_of_length_le (by simp; omega)
      exact ⟨congrArg (fun n : Nat => Ending.returned (Value.int IntKind.i64 (n : Int))) (by have e := HC.out; rw [hk2] at e; first | exact e | rfl), HD.out⟩


/-! ### kissgatelaw04_alive: function 9 -/
def kissgatelaw04_alive.f  : Option (Bool) := (check_Of.f (⟨#[49, 50, 51, 52, 53, 54, 55, 56, 57]⟩ : ByteArray)).bind fun t101 => (some (t101 == 10673))
set_option maxHeartbeats 8000000 in
set_option maxRecDepth 100000 in
theorem kissgatelaw04_alive.calls  (r : Bool) (w : World) (hG : LaidG w) (h : kissgatelaw04_alive.f  = some r) :
    Calls Tryd.prog 9 #[] w fun e w' => e = .returned (.bool r) ∧ Drawn0 w w' := by
  have HG := Aside0.mk hG
  clear hG
  have H : ((check_Of.f (⟨#[49, 50, 51, 52, 53, 54, 55, 56, 57]⟩ : ByteArray)).bind fun t101 => (some (t101 == 10673))) = some r := h
  clear h
  replace H := Option.bind_eq_some_iff.mp H
  obtain ⟨t101, A10, H⟩ := H
  replace H : (some (t101 == 10673)) = some r := H
  have A1 := Aside0.mk A10
  clear A10
  obtain rfl := Option.some.inj H
  go_enter Tryd.func9, Tryd.ntmps9
  go_wp2_with (first | ((with_reducible refine gate_callee (f := 10) rfl ?_); refine goesL_ (some 1) rfl rfl Tryd.func10 (by kernel_rfl) rfl #[.string (⟨#[49, 50, 51, 52, 53, 54, 55, 56, 57]⟩ : ByteArray)] rfl (by (try simp only [List.map_toArray, List.map_cons, List.map_nil]); first | done | rfl | (simp only [List.length_drop, List.length_take]; rfl)) ?_; (with_reducible refine (check_Of.calls (⟨#[49, 50, 51, 52, 53, 54, 55, 56, 57]⟩ : ByteArray) t101 _ (LaidG.far HG.out ?side1) A1.out).mono ?_); (case side1 => first | ((repeat (first | (with_reducible first | exact HB.out | apply below_alloc | apply pw_below_drewN | apply below_drew1) | exact HB.out)); done) | ((repeat (first | exact HB.out | exact Below.refl _ _ | apply below_alloc | apply pw_below_drewN | apply below_drew1)); done)); rintro e w' ⟨rfl, ⟨nd, rfl⟩⟩; refine ⟨_, rfl, ?_⟩))
  go_ret
  exact ⟨by first | rfl | (simp; done) | (simp [show ∀ l_ : List UInt8, (l_ != []) = !l_.isEmpty from fun l_ => by cases l_ <;> rfl]; done) | (simp [*]; done), by repeat (first | exact Drawn0.refl _ | apply Drawn0.step)⟩

/-! ### kissgatelaw04_CheckOdd: function 3 -/
def kissgatelaw04_CheckOdd.Pure : Prop := kissgatelaw04_alive.f = some true ∧ ∀ (s : ByteArray) (k t : Nat), s.size ≤ 2048 → k < s.size → 0 < t → t < 256 → Crc.crcOn 65535 (Bb.strOf ((Bb.natsOf s).set k ((Bb.natsOf s).getD k 0 ^^^ t))).data.toList ≠ Crc.crcOn 65535 s.data.toList
set_option maxHeartbeats 4000000 in
set_option maxRecDepth 100000 in
theorem kissgatelaw04_CheckOdd.walk (P : kissgatelaw04_CheckOdd.Pure) (a0 : ByteArray) (a1 a2 : Int) (w : World) (w0 : a0.size ≤ 140737488351232) (w1 : (Lit.int .i64 a1).wf = true) (w2 : (Lit.int .u8 a2).wf = true) (hG : LaidG w) :
    Calls Tryd.prog 3 #[.string a0, .int .i64 a1, .int .u8 a2] w fun e w' => e = .returned (.bool true) ∧ Below w.heap.size w w' := by
  obtain ⟨Pa, Pm⟩ := P
  have HG := Aside0.mk hG
  clear hG
  have HP := Aside0.mk Pm
  have HA := Aside0.mk Pa
  clear Pm Pa
  obtain ⟨t, rfl, ht⟩ : ∃ t : Nat, a2 = (t : Int) ∧ t < 256 := by
    have : 0 ≤ a2 ∧ a2 ≤ 255 := by simpa [Lit.wf, IntKind.min, IntKind.max, IntKind.signed, IntKind.bits] using w2
    exact ⟨a2.toNat, by omega, by omega⟩
  clear w2
  by_cases h1 : 2048 < a0.size
  · go_enter Tryd.func3, Tryd.ntmps3
    go_wp2_with (go_at_call 9; refine (kissgatelaw04_alive.calls true _ HG.out HA.out).mono ?_; rintro e w' ⟨rfl, ⟨nd, rfl⟩⟩)
    go_ret
    exact ⟨rfl, (Drawn0.mk ⟨_, rfl⟩).below⟩
  by_cases h2 : a0.size = 0
  · have h2b : ((a0.size : Int) == 0) = true := by simp [h2]
    go_enter Tryd.func3, Tryd.ntmps3
    go_wp2_with (go_at_call 9; refine (kissgatelaw04_alive.calls true _ HG.out HA.out).mono ?_; rintro e w' ⟨rfl, ⟨nd, rfl⟩⟩)
    go_ret
    exact ⟨rfl, (Drawn0.mk ⟨_, rfl⟩).below⟩
  have h2b : ((a0.size : Int) == 0) = false := by rw [beq_eq_false_iff_ne]; omega
  by_cases h3 : t = 0
  · have h3b : ((t : Int) == 0) = true := by simp [h3]
    go_enter Tryd.func3, Tryd.ntmps3
    go_wp2_with (go_at_call 9; refine (kissgatelaw04_alive.calls true _ HG.out HA.out).mono ?_; rintro e w' ⟨rfl, ⟨nd, rfl⟩⟩)
    go_ret
    exact ⟨rfl, (Drawn0.mk ⟨_, rfl⟩).below⟩
  have h3b : ((t : Int) == 0) = false := by rw [beq_eq_false_iff_ne]; omega
  obtain ⟨k, hk, e1, e2, e3⟩ := Bb.rem_place a1 a0.size (by omega) (by omega)
  have HK := Aside0.mk hk
  have h1b : decide (2048 < (a0.size : Int)) = false := by rw [decide_eq_false_iff_not]; omega
  have kb := fun W => print_bytes (P := Tryd.prog) 9 23 5 Tryd.underlying9 Tryd.underlying23 Tryd.underlying5 a0 W
  obtain ⟨b, hb, hb2⟩ : ∃ b : Nat, (Bb.natsOf a0).getD k 0 = b ∧ b < 256 := ⟨_, rfl, Bb.natsOf_lt _ _⟩
  have hx := Go.u8_xor_nat b t hb2 ht
  have hkl : k < (Bb.natsOf a0).length := by rw [Bb.natsOf_length]; exact hk
  have HR := Aside0.mk hb
  clear hb
  go_enter Tryd.func3, Tryd.ntmps3
  go_wp2_with (go_at_call 9; refine (kissgatelaw04_alive.calls true _ HG.out HA.out).mono ?_; rintro e w' ⟨rfl, ⟨nd, rfl⟩⟩; have hcell : (Lib.bytesWorld (w.drewN nd) 5 a0).cell? ⟨w.heap.size, k, none⟩ = some (.int .u8 ((b : Nat) : Int)) := (((Bb.BB.new (w.drewN nd) a0).cell k hkl).trans (by rw [HR.out])); have hfro : (Lib.bytesWorld (w.drewN nd) 5 a0).frozen? ⟨w.heap.size, k, none⟩ = false := (Bb.BB.new (w.drewN nd) a0).frozen k hkl; have HB2 := Aside0.mk ((Bb.BB.new (w.drewN nd) a0).set k (b ^^^ t)); have kt : ∀ c, (convert 23 9 (.slice (some ⟨w.heap.size, 0, none⟩) a0.size c)).run Tryd.prog ((Lib.bytesWorld (w.drewN nd) 5 a0).setCell ⟨w.heap.size, k, none⟩ (.int .u8 ((b ^^^ t : Nat) : Int))) = .ok (.string (Bb.strOf ((Bb.natsOf a0).set k (b ^^^ t)))) ((Lib.bytesWorld (w.drewN nd) 5 a0).setCell ⟨w.heap.size, k, none⟩ (.int .u8 ((b ^^^ t : Nat) : Int))) := (fun c => (by have e := HB2.out.text c; rw [List.length_set, Bb.natsOf_length] at e; exact e)))
  have hne := HP.out a0 k t (by omega) hk (by omega) ht
  rw [HR.out] at hne
  have hne2 : (((Crc.crcOn 65535 (Bb.strOf ((Bb.natsOf a0).set k (b ^^^ t))).data.toList : Nat) : Int) != ((Crc.crcOn 65535 a0.data.toList : Nat) : Int)) = true := by rw [bne_iff_ne]; intro e; exact hne (by omega)
  clear hne hcell hfro kt kb
  have hbl : Below w.heap.size w ((Lib.bytesWorld (w.drewN nd) 5 a0).setCell ⟨w.heap.size, k, none⟩ (.int .u8 ((b ^^^ t : Nat) : Int))) := below_set (bytes_below (pw_below_drewN (Below.refl _ _) nd) (Nat.le_refl _) 5 a0) (Nat.le_refl _)
  have HBL := Aside0.mk hbl
  clear hbl
  refine (check_Of.calls _ _ _ (LaidG.far HG.out HBL.out) (by unfold check_Of.f; rw [if_pos (by rw [Bb.strOf_size, List.length_set, Bb.natsOf_length]; omega)])).mono ?_
  rintro e w' ⟨rfl, ⟨nd2, rfl⟩⟩
  go_wp2_with fail
  refine (check_Of.calls a0 _ _ (LaidG.far HG.out (pw_below_drewN HBL.out nd2)) (by unfold check_Of.f; rw [if_pos (by omega)])).mono ?_
  rintro e w' ⟨rfl, ⟨nd3, rfl⟩⟩
  go_wp2
  go_ret
  exact ⟨rfl, pw_below_drewN HBL.out _⟩


end Go.Proofs.YtffhepaldaoleaaDoor.PCheckOdd
