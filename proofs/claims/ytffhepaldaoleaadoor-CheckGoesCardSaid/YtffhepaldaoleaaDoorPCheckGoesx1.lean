-- Written by a program of this session (see NOTES.md), which reads the translation's print; Lean checks it.
import Derived.Test.YtffhepaldaoleaaDoorPCheckGoesx0
namespace Go.Proofs.YtffhepaldaoleaaDoor.PCheckGoes
open Go.RowKit Go.Proofs.YtffhepaldaoleaaDoorW.PrintWords Go.Proofs.YtffhepaldaoleaaDoorW.PrintLast Go.Proofs.YtffhepaldaoleaaDoorW.PrintMore
attribute [local go_sem] max2_int min2_int max_two min_two max_three min_three max_four min_four   -- for this text's walks alone
set_option linter.unusedVariables false
set_option linter.unusedSimpArgs false

/-! ### check_Of: function 10 -/
/-- The table lies in the world. -/
def LaidG (w : World) : Prop := ∀ k : Nat, k < 16 → w.cell? ⟨0, k, none⟩ = some (.int .u16 ((Crc.crcTab k : Nat) : Int))
theorem LaidG.far {w W : World} (h : LaidG w) (hb : Below w.heap.size w W) : LaidG W := fun k hk => (hb.cell (World.block_lt_of_cell? w _ (h k hk))).trans (h k hk)
theorem LaidG.drewN {w : World} (h : LaidG w) (n : Nat) : LaidG (w.drewN n) := h
theorem half_ix (c h : Nat) (hc : c < 65536) (hh : h < 16) : ∃ ix : Nat, Go.bits .xor .u8 (((c : Nat) : Int) / 4096) ((h : Nat) : Int) = (ix : Int) ∧ ix < 16 ∧
    Go.bits .xor .u16 (IntKind.u16.wrap (((c : Nat) : Int) * 16)) ((Crc.crcTab ix : Nat) : Int) = ((Crc.crcHalf c h : Nat) : Int) := by
  refine ⟨c / 4096 ^^^ h, ?_, Nat.xor_lt_two_pow (n := 4) (by omega) (by omega), ?_⟩
  · rw [show ((c : Nat) : Int) / 4096 = ((c / 4096 : Nat) : Int) from by omega, Go.u8_xor_nat _ _ (by omega) (by omega)]
  · rw [show IntKind.u16.wrap (((c : Nat) : Int) * 16) = ((c * 16 % 65536 : Nat) : Int) from by rw [IntKind.wrap_u16]; omega, Go.u16_xor_nat _ _ (by omega) (Crc.crcTab_lt _)]
    rfl
def check_Of.f (a0 : ByteArray) : Option Int := if a0.size ≤ 140737488351232 then some ((Crc.crcOn 65535 a0.data.toList : Nat) : Int) else none
set_option maxHeartbeats 2000000 in
set_option maxRecDepth 100000 in
theorem check_Of.calls (a0 : ByteArray) (r : Int) (w : World) (hG : LaidG w) (h : check_Of.f a0 = some r) :
    Calls Tryd.prog 10 #[.string a0] w fun e w' => e = .returned (.int .i64 r) ∧ Drawn0 w w' := by
  unfold check_Of.f at h
  have hs : a0.size ≤ 140737488351232 := by
    by_cases hs : a0.size ≤ 140737488351232
    · exact hs
    · rw [if_neg hs] at h; cases h
  rw [if_pos hs] at h
  obtain rfl := Option.some.inj h
  clear h
  have HG := Aside0.mk hG
  clear hG
  go_enter Tryd.func10, Tryd.ntmps10
  go_wp2
  go_loopw [3, 9] (fun v3 v9 wr => ∃ (k c : Nat), k ≤ a0.size ∧ v9 = .int .i64 (k : Nat) ∧ v3 = .int .u16 (c : Nat) ∧ c < 65536 ∧ Aside0 (c = Crc.crcOn 65535 (a0.data.toList.take k)) ∧ Aside0 (Drawn0 w wr)) (fun _ v9 _ => a0.size - (intOf v9).toNat)
  case atStart => exact ⟨0, 65535, Nat.zero_le _, rfl, rfl, by decide, ⟨rfl⟩, ⟨Drawn0.refl _⟩⟩
  case round =>
    obtain ⟨k, c, hk, rfl, rfl, hc, HC, HD⟩ := hrel
    by_cases hlt : k < a0.size
    · go_wp2
      have hand : Go.bits .and .u8 ((a0[k].toNat : Nat) : Int) 15 = ((a0[k].toNat % 16 : Nat) : Int) := by
        have e := Go.u8_and_nat a0[k].toNat 15 (UInt8.toNat_lt _) (by decide)
        rw [show ((15 : Nat) : Int) = 15 from rfl] at e
        rw [e, Nat.and_two_pow_sub_one_eq_mod _ 4]
      go_quiet (fail)
      obtain ⟨b, hb, HB⟩ : ∃ b : Nat, b = a0[k].toNat ∧ b < 256 := ⟨_, rfl, UInt8.toNat_lt _⟩
      rw [← hb]
      obtain ⟨x, hx, HX⟩ : ∃ x : Nat, ((b : Nat) : Int) / 16 = (x : Int) ∧ x = b / 16 := ⟨b / 16, by omega, rfl⟩
      obtain ⟨y, hy, HY⟩ : ∃ y : Nat, ((b : Nat) : Int) % 16 = (y : Int) ∧ y = b % 16 := ⟨b % 16, by omega, rfl⟩
      rw [hx, hy]
      have HL := Aside0.mk (show Crc.crcOn 65535 (a0.data.toList.take (k + 1)) = Crc.crcHalf (Crc.crcHalf c x) y by
        rw [List.take_succ_eq_append_getElem (by simpa using hlt), Crc.crcOn_snoc, ← HC.out, HX, HY, hb]; rfl)
      have hx16 : x < 16 := by omega
      have hy16 : y < 16 := by omega
      clear hand hb hx hy HX HY HB HC
      have i0 : ∀ w, (Instr.index 34 (.agg #[.int .u8 (x : Int), .int .u8 (y : Int)]) (.int .i64 0)).run Tryd.prog w = .ok (.int .u8 (x : Int)) w := fun _ => by kernel_rfl
      have i1 : ∀ w, (Instr.index 34 (.agg #[.int .u8 (x : Int), .int .u8 (y : Int)]) (.int .i64 1)).run Tryd.prog w = .ok (.int .u8 (y : Int)) w := fun _ => by kernel_rfl
      have HG1 := Aside0.mk (LaidG.far HG.out (HD.out.below))
      have HD1 : Aside0 (Drawn0 w (wr.drewN nq)) := ⟨by first | exact Drawn0.step HD.out | (obtain ⟨⟨n, hn⟩⟩ := HD.out; subst hn; exact ⟨⟨_, World.drewN_drewN _ _ _⟩⟩)⟩
      go_wp2
      go_loop [3, 21] (fun v3 v21 => ∃ (j c1 : Nat), (j = 0 ∧ c1 = c ∨ j = 1 ∧ c1 = Crc.crcHalf c x ∨ j = 2 ∧ c1 = Crc.crcHalf (Crc.crcHalf c x) y) ∧ v21 = .int .i64 (j : Nat) ∧ v3 = .int .u16 (c1 : Nat)) (fun _ v21 => 2 - (intOf v21).toNat)
      case atStart => exact ⟨0, c, .inl ⟨rfl, rfl⟩, rfl, rfl⟩
      case round =>
        obtain ⟨j, c1, hj, rfl, rfl⟩ := hrel
        rcases hj with ⟨rfl, rfl⟩ | ⟨rfl, hc1⟩ | ⟨rfl, hc1⟩
        · obtain ⟨ix, hix, hix2, hixe⟩ := half_ix c1 x (by first | exact hc | exact Crc.crcHalf_lt _ _) hx16
          have hcell := HG1.out ix hix2
          go_wp2
          go_round
          case rel => exact ⟨1, _, .inr (.inl ⟨rfl, rfl⟩), rfl, rfl⟩
          case measure => simp [intOf]
        · have hc1l : c1 < 65536 := by rw [hc1]; exact Crc.crcHalf_lt _ _
          obtain ⟨ix, hix, hix2, hixe⟩ := half_ix c1 y hc1l hy16
          have HC1 := Aside0.mk hc1
          clear hc1
          have hcell := HG1.out ix hix2
          go_wp2
          go_round
          case rel => exact ⟨2, _, .inr (.inr ⟨rfl, by rw [HC1.out]⟩), rfl, rfl⟩
          case measure => simp [intOf]
        · have HC1 := Aside0.mk hc1
          have hc1l : c1 < 65536 := by rw [hc1]; exact Crc.crcHalf_lt _ _
          clear hc1
          go_wp2
          go_roundw
          case rel => exact ⟨k + 1, c1, by omega, by go_num, rfl, hc1l, ⟨by rw [HL.out, HC1.out]⟩, HD1⟩
          case measure => simp [intOf]; omega
    · go_wp2
      go_ret
      have hk2 : a0.data.toList.take k = a0.data.toList := List.take_of_length_le (by simp; omega)
      exact ⟨congrArg (fun n : Nat => Ending.returned (Value.int IntKind.i64 (n : Int))) (by have e := HC.out; rw [hk2] at e; first | exact e | rfl), HD.out⟩


/-! ### kissgatelaw04_alive: function 9 -/
def kissgatelaw04_alive.f  : Option (Bool) := (check_Of.f (⟨#[49, 50, 51, 52, 53, 54, 55, 56, 57]⟩ : ByteArray)).bind fun t101 => (some (t101 == 10673))
set_option maxHeartbeats 8000000 in
set_option maxRecDepth 100000 in
theorem kissgatelaw04_alive.calls  (r : Bool) (w : World) (hG : LaidG w) (h : kissgatelaw04_alive.f  = some r) :
    Calls Tryd.prog 9 #[] w fun e w' => e = .returned (.bool r) ∧ Drawn0 w w' := by
  have HG := Aside0.mk hG
  clear hG
  have H : ((check_Of.f (⟨#[49, 50, 51, 52, 53, 54, 55, 56, 57]⟩ : ByteArray)).bind fun t101 => (some (t101 == 10673))) = some r := h
  clear h
  replace H := Option.bind_eq_some_iff.mp H
  obtain ⟨t101, A10, H⟩ := H
  replace H : (some (t101 == 10673)) = some r := H
  have A1 := Aside0.mk A10
  clear A10
  obtain rfl := Option.some.inj H
  go_enter Tryd.func9, Tryd.ntmps9
  go_wp2_with (first | ((with_reducible refine gate_callee (f := 10) rfl ?_); refine goesL_ (some 1) rfl rfl Tryd.func10 (by kernel_rfl) rfl #[.string (⟨#[49, 50, 51, 52, 53, 54, 55, 56, 57]⟩ : ByteArray)] rfl (by (try simp only [List.map_toArray, List.map_cons, List.map_nil]); first | done | rfl | (simp only [List.length_drop, List.length_take]; rfl)) ?_; (with_reducible refine (check_Of.calls (⟨#[49, 50, 51, 52, 53, 54, 55, 56, 57]⟩ : ByteArray) t101 _ (LaidG.far HG.out ?side1) A1.out).mono ?_); (case side1 => first | ((repeat (first | (with_reducible first | exact HB.out | apply below_alloc | apply pw_below_drewN | apply below_drew1) | exact HB.out)); done) | ((repeat (first | exact HB.out | exact Below.refl _ _ | apply below_alloc | apply pw_below_drewN | apply below_drew1)); done)); rintro e w' ⟨rfl, ⟨nd, rfl⟩⟩; refine ⟨_, rfl, ?_⟩))
  go_ret
  exact ⟨by first | rfl | (simp; done) | (simp [show ∀ l_ : List UInt8, (l_ != []) = !l_.isEmpty from fun l_ => by cases l_ <;> rfl]; done) | (simp [*]; done), by repeat (first | exact Drawn0.refl _ | apply Drawn0.step)⟩

/-! ### check_Seal: function 12 -/
def check_Seal.f (a0 : ByteArray) : Option (ByteArray) := (check_Of.f a0).bind fun t102 => ((some (([(t102 / 256) % 256, (t102) % 256] : List Int) : List Int)).bind fun y103 => (if a0.size + (strOfNums y103).size ≤ 9223372036854775807 then (some (a0 ++ (strOfNums y103))) else (none)))
set_option maxHeartbeats 8000000 in
set_option maxRecDepth 100000 in
theorem check_Seal.calls (a0 : ByteArray) (r : ByteArray) (w : World) (hG : LaidG w) (h : check_Seal.f a0 = some r) :
    Calls Tryd.prog 12 #[.string a0] w fun e w' => e = .returned (.string r) ∧ Below w.heap.size w w' := by
  have HB := Aside0.mk (Below.refl w.heap.size w)
  have HG := Aside0.mk hG
  clear hG
  have H : ((check_Of.f a0).bind fun t102 => ((some (([(t102 / 256) % 256, (t102) % 256] : List Int) : List Int)).bind fun y103 => (if a0.size + (strOfNums y103).size ≤ 9223372036854775807 then (some (a0 ++ (strOfNums y103))) else (none)))) = some r := h
  clear h
  replace H := Option.bind_eq_some_iff.mp H
  obtain ⟨t102, A20, H⟩ := H
  replace H : ((some (([(t102 / 256) % 256, (t102) % 256] : List Int) : List Int)).bind fun y103 => (if a0.size + (strOfNums y103).size ≤ 9223372036854775807 then (some (a0 ++ (strOfNums y103))) else (none))) = some r := H
  have A2 := Aside0.mk A20
  clear A20
  obtain ⟨y103, hy103⟩ : ∃ y_ : List Int, y_ = (([(t102 / 256) % 256, (t102) % 256] : List Int)) := ⟨_, rfl⟩
  replace H : (if a0.size + (strOfNums y103).size ≤ 9223372036854775807 then (some (a0 ++ (strOfNums y103))) else (none)) = some r := by first | (rw [hy103]; with_reducible exact H) | (have H2_ := (Option.bind_some _ _).symm.trans H; rw [hy103]; with_reducible exact H2_) | (have H2_ := (Option.bind_some _ _).symm.trans H; with_reducible exact H2_) | with_reducible exact H | (rw [hy103]; exact H) | exact H
  have Ny103 := Aside0.mk hy103
  clear hy103
  by_cases c3 : a0.size + (strOfNums y103).size ≤ 9223372036854775807
  · rw [if_pos c3] at H
    have c3b0 := eq_true c3
    have c3b1 : decide (a0.size + (strOfNums y103).size ≤ 9223372036854775807) = true := decide_eq_true c3
    try have c3b2 : (9223372036854775807 < a0.size + (strOfNums y103).size) = False := eq_false (Nat.not_lt.2 c3)
    obtain rfl := Option.some.inj H
    go_enter Tryd.func12, Tryd.ntmps12
    go_wp2_with (first | ((with_reducible refine gate_callee (f := 10) rfl ?_); refine goesL_ (some 5) rfl rfl Tryd.func10 (by kernel_rfl) rfl #[.string a0] rfl (by (try simp only [List.map_toArray, List.map_cons, List.map_nil]); first | done | rfl | (simp only [List.length_drop, List.length_take]; rfl)) ?_; (with_reducible refine (check_Of.calls a0 t102 _ (LaidG.far HG.out ?side1) A2.out).mono ?_); (case side1 => first | ((repeat (first | (with_reducible first | exact HB.out | apply below_alloc | apply pw_below_drewN | apply below_drew1) | exact HB.out)); done) | ((repeat (first | exact HB.out | exact Below.refl _ _ | apply below_alloc | apply pw_below_drewN | apply below_drew1)); done)); rintro e w' ⟨rfl, ⟨nd, rfl⟩⟩; refine ⟨_, rfl, ?_⟩) | ((with_reducible refine gate_dst (N := 12) rfl ?_); refine Kd.R_lit (Kd.int .u8) _ 5 ?hg (N := 12) ?hd (xs := ([(t102 / 256) % 256, (t102) % 256] : List Int)) (inner := [.int .u8 ((t102 / 256) % 256), .int .u8 ((t102) % 256)]) (ok := fun _ => True) (okp := fun _ => True) ?hr ?hp (fun _ hk => hk) trivial (Below.refl _ _) (Nat.le_refl _) (by simp) ?_; (case hd => rfl); (case hg => rfl); (case hr => first | (go_simp; done) | (go_simp; rfl)); (case hp => exact (Reps.one (show Kd.M (Kd.int .u8) _ _ _ ((t102 / 256) % 256) [.int .u8 ((t102 / 256) % 256)] from rfl) (Reps.one (show Kd.M (Kd.int .u8) _ _ _ ((t102) % 256) [.int .u8 ((t102) % 256)] from rfl) (Reps.none _ _)))); intro v104 w4 ho5 hb hg_ hnew_; clear hg_ hnew_; (first | rw [← Ny103.out] at ho5 | (simp only [Int.reduceToNat] at ho5; rw [← Ny103.out] at ho5)); have n0_ := Aside0.mk (Kd.R_lower ho5 (below_size (by repeat (first | (with_reducible first | exact HB.out | apply below_alloc | apply pw_below_drewN | apply below_drew1) | exact HB.out)))); have n1_ := Aside0.mk (below_step (by repeat (first | (with_reducible first | exact HB.out | apply below_alloc | apply pw_below_drewN | apply below_drew1) | exact HB.out)) hb); clear HB; have HO105 := n0_; have HB := n1_; clear n0_ n1_; clear hb ho5; have hcv6 := own_string (P := Tryd.prog) Tryd.underlying23 Tryd.underlying5 Tryd.underlying9 (Kd.own_of_R HO105.out)))
    go_ret
    exact ⟨by first | rfl | (simp [show ∀ l_ : List UInt8, (l_ == []) = l_.isEmpty from fun l_ => by cases l_ <;> rfl]; done) | (simp [errW_none, errW_some] <;> rfl) | ((repeat rw [Int.tdiv_eq_ediv_of_nonneg (by omega)]); (repeat rw [Int.tmod_eq_emod_of_nonneg (by omega)]); first | rfl | (simp [errW_none, errW_some] <;> rfl)) | (simp [*, errW_none, errW_some] <;> rfl), by repeat (first | (with_reducible first | exact HB.out | apply below_alloc | apply pw_below_drewN | apply below_drew1) | exact HB.out)⟩
  · rw [if_neg c3] at H
    exact absurd H (by simp)

/-! ### kissgatelaw04_CheckGoes: function 5 -/
def kissgatelaw04_CheckGoes.f (a0 : ByteArray) (a1 : ByteArray) : Option (Bool) := (kissgatelaw04_alive.f).bind fun t106 => (if t106 = true then (if (wrap64 ((a0.size : Int) + (a1.size : Int))) > 2048 then (some true) else ((check_Seal.f a0).bind fun t107 => ((check_Of.f t107).bind fun t108 => (if t108 = 0 then ((check_Seal.f a0).bind fun t109 => (if t109.size + a1.size ≤ 9223372036854775807 then ((check_Of.f (t109 ++ a1)).bind fun t110 => ((check_Seal.f (⟨#[]⟩ : ByteArray)).bind fun t111 => (if t111.size + a1.size ≤ 9223372036854775807 then ((check_Of.f (t111 ++ a1)).bind fun t112 => (some (t110 == t112))) else (none)))) else (none))) else (some false))))) else (some false))
set_option maxHeartbeats 8000000 in
set_option maxRecDepth 100000 in
theorem kissgatelaw04_CheckGoes.calls (a0 : ByteArray) (a1 : ByteArray) (r : Bool) (w : World) (hG : LaidG w) (h : kissgatelaw04_CheckGoes.f a0 a1 = some r) :
    Calls Tryd.prog 5 #[.string a0, .string a1] w fun e w' => e = .returned (.bool r) ∧ Below w.heap.size w w' := by
  have HB := Aside0.mk (Below.refl w.heap.size w)
  have HG := Aside0.mk hG
  clear hG
  have H : ((kissgatelaw04_alive.f).bind fun t106 => (if t106 = true then (if (wrap64 ((a0.size : Int) + (a1.size : Int))) > 2048 then (some true) else ((check_Seal.f a0).bind fun t107 => ((check_Of.f t107).bind fun t108 => (if t108 = 0 then ((check_Seal.f a0).bind fun t109 => (if t109.size + a1.size ≤ 9223372036854775807 then ((check_Of.f (t109 ++ a1)).bind fun t110 => ((check_Seal.f (⟨#[]⟩ : ByteArray)).bind fun t111 => (if t111.size + a1.size ≤ 9223372036854775807 then ((check_Of.f (t111 ++ a1)).bind fun t112 => (some (t110 == t112))) else (none)))) else (none))) else (some false))))) else (some false))) = some r := h
  clear h
  replace H := Option.bind_eq_some_iff.mp H
  obtain ⟨t106, A30, H⟩ := H
  replace H : (if t106 = true then (if (wrap64 ((a0.size : Int) + (a1.size : Int))) > 2048 then (some true) else ((check_Seal.f a0).bind fun t107 => ((check_Of.f t107).bind fun t108 => (if t108 = 0 then ((check_Seal.f a0).bind fun t109 => (if t109.size + a1.size ≤ 9223372036854775807 then ((check_Of.f (t109 ++ a1)).bind fun t110 => ((check_Seal.f (⟨#[]⟩ : ByteArray)).bind fun t111 => (if t111.size + a1.size ≤ 9223372036854775807 then ((check_Of.f (t111 ++ a1)).bind fun t112 => (some (t110 == t112))) else (none)))) else (none))) else (some false))))) else (some false)) = some r := H
  have A3 := Aside0.mk A30
  clear A30
  by_cases c4 : t106 = true
  · subst c4
    have H1 : (if (wrap64 ((a0.size : Int) + (a1.size : Int))) > 2048 then (some true) else ((check_Seal.f a0).bind fun t107 => ((check_Of.f t107).bind fun t108 => (if t108 = 0 then ((check_Seal.f a0).bind fun t109 => (if t109.size + a1.size ≤ 9223372036854775807 then ((check_Of.f (t109 ++ a1)).bind fun t110 => ((check_Seal.f (⟨#[]⟩ : ByteArray)).bind fun t111 => (if t111.size + a1.size ≤ 9223372036854775807 then ((check_Of.f (t111 ++ a1)).bind fun t112 => (some (t110 == t112))) else (none)))) else (none))) else (some false))))) = some r := by rw [if_pos rfl] at H; exact H
    clear H
    have H := H1
    clear H1
    by_cases c5 : (wrap64 ((a0.size : Int) + (a1.size : Int))) > 2048
    · rw [if_pos c5] at H
      have c5b0 : decide (2048 < (wrap64 ((a0.size : Int) + (a1.size : Int)))) = true := decide_eq_true c5
      clear c5
      obtain rfl := Option.some.inj H
      go_enter Tryd.func5, Tryd.ntmps5
      go_wp2_with (first | ((with_reducible refine gate_callee (f := 9) rfl ?_); refine goesL_ (some 5) rfl rfl Tryd.func9 (by kernel_rfl) rfl #[] rfl (by (try simp only [List.map_toArray, List.map_cons, List.map_nil]); first | done | rfl | (simp only [List.length_drop, List.length_take]; rfl)) ?_; (with_reducible refine (kissgatelaw04_alive.calls  true _ (LaidG.far HG.out ?side1) A3.out).mono ?_); (case side1 => first | ((repeat (first | (with_reducible first | exact HB.out | apply below_alloc | apply pw_below_drewN | apply below_drew1) | exact HB.out)); done) | ((repeat (first | exact HB.out | exact Below.refl _ _ | apply below_alloc | apply pw_below_drewN | apply below_drew1)); done)); rintro e w' ⟨rfl, ⟨nd, rfl⟩⟩; refine ⟨_, rfl, ?_⟩))
      go_ret
      exact ⟨by first | rfl | (simp [show ∀ l_ : List UInt8, (l_ == []) = l_.isEmpty from fun l_ => by cases l_ <;> rfl]; done) | (simp [errW_none, errW_some] <;> rfl) | ((repeat rw [Int.tdiv_eq_ediv_of_nonneg (by omega)]); (repeat rw [Int.tmod_eq_emod_of_nonneg (by omega)]); first | rfl | (simp [errW_none, errW_some] <;> rfl)) | (simp [*, errW_none, errW_some] <;> rfl), by repeat (first | (with_reducible first | exact HB.out | apply below_alloc | apply pw_below_drewN | apply below_drew1) | exact HB.out)⟩
    · rw [if_neg c5] at H
      have c5b0 : decide (2048 < (wrap64 ((a0.size : Int) + (a1.size : Int)))) = false := decide_eq_false c5
      clear c5
      replace H := Option.bind_eq_some_iff.mp H
      obtain ⟨t107, A60, H⟩ := H
      replace H : ((check_Of.f t107).bind fun t108 => (if t108 = 0 then ((check_Seal.f a0).bind fun t109 => (if t109.size + a1.size ≤ 9223372036854775807 then ((check_Of.f (t109 ++ a1)).bind fun t110 => ((check_Seal.f (⟨#[]⟩ : ByteArray)).bind fun t111 => (if t111.size + a1.size ≤ 9223372036854775807 then ((check_Of.f (t111 ++ a1)).bind fun t112 => (some (t110 == t112))) else (none)))) else (none))) else (some false))) = some r := H
      have A6 := Aside0.mk A60
      clear A60
      replace H := Option.bind_eq_some_iff.mp H
      obtain ⟨t108, A70, H⟩ := H
      replace H : (if t108 = 0 then ((check_Seal.f a0).bind fun t109 => (if t109.size + a1.size ≤ 9223372036854775807 then ((check_Of.f (t109 ++ a1)).bind fun t110 => ((check_Seal.f (⟨#[]⟩ : ByteArray)).bind fun t111 => (if t111.size + a1.size ≤ 9223372036854775807 then ((check_Of.f (t111 ++ a1)).bind fun t112 => (some (t110 == t112))) else (none)))) else (none))) else (some false)) = some r := H
      have A7 := Aside0.mk A70
      clear A70
      by_cases c8 : t108 = 0
      · rw [if_pos c8] at H
        have c8b0 : (t108 == 0) = true := beq_iff_eq.mpr c8
        have c8b1 : (t108 != 0) = false := bne_eq_false_iff_eq.mpr c8
        clear c8
        replace H := Option.bind_eq_some_iff.mp H
        obtain ⟨t109, A90, H⟩ := H
        replace H : (if t109.size + a1.size ≤ 9223372036854775807 then ((check_Of.f (t109 ++ a1)).bind fun t110 => ((check_Seal.f (⟨#[]⟩ : ByteArray)).bind fun t111 => (if t111.size + a1.size ≤ 9223372036854775807 then ((check_Of.f (t111 ++ a1)).bind fun t112 => (some (t110 == t112))) else (none)))) else (none)) = some r := H
        have A9 := Aside0.mk A90
        clear A90
        by_cases c10 : t109.size + a1.size ≤ 9223372036854775807
        · rw [if_pos c10] at H
          have c10b0 := eq_true c10
          have c10b1 : decide (t109.size + a1.size ≤ 9223372036854775807) = true := decide_eq_true c10
          try have c10b2 : (9223372036854775807 < t109.size + a1.size) = False := eq_false (Nat.not_lt.2 c10)
          replace H := Option.bind_eq_some_iff.mp H
          obtain ⟨t110, A110, H⟩ := H
          replace H : ((check_Seal.f (⟨#[]⟩ : ByteArray)).bind fun t111 => (if t111.size + a1.size ≤ 9223372036854775807 then ((check_Of.f (t111 ++ a1)).bind fun t112 => (some (t110 == t112))) else (none))) = some r := H
          have A11 := Aside0.mk A110
          clear A110
          replace H := Option.bind_eq_some_iff.mp H
          obtain ⟨t111, A120, H⟩ := H
          replace H : (if t111.size + a1.size ≤ 9223372036854775807 then ((check_Of.f (t111 ++ a1)).bind fun t112 => (some (t110 == t112))) else (none)) = some r := H
          have A12 := Aside0.mk A120
          clear A120
          by_cases c13 : t111.size + a1.size ≤ 9223372036854775807
          · rw [if_pos c13] at H
            have c13b0 := eq_true c13
            have c13b1 : decide (t111.size + a1.size ≤ 9223372036854775807) = true := decide_eq_true c13
            try have c13b2 : (9223372036854775807 < t111.size + a1.size) = False := eq_false (Nat.not_lt.2 c13)
            replace H := Option.bind_eq_some_iff.mp H
            obtain ⟨t112, A140, H⟩ := H
            replace H : (some (t110 == t112)) = some r := H
            have A14 := Aside0.mk A140
            clear A140
            obtain rfl := Option.some.inj H
            go_enter Tryd.func5, Tryd.ntmps5
            go_wp2_with (first | ((with_reducible refine gate_callee (f := 9) rfl ?_); refine goesL_ (some 5) rfl rfl Tryd.func9 (by kernel_rfl) rfl #[] rfl (by (try simp only [List.map_toArray, List.map_cons, List.map_nil]); first | done | rfl | (simp only [List.length_drop, List.length_take]; rfl)) ?_; (with_reducible refine (kissgatelaw04_alive.calls  true _ (LaidG.far HG.out ?side1) A3.out).mono ?_); (case side1 => first | ((repeat (first | (with_reducible first | exact HB.out | apply below_alloc | apply pw_below_drewN | apply below_drew1) | exact HB.out)); done) | ((repeat (first | exact HB.out | exact Below.refl _ _ | apply below_alloc | apply pw_below_drewN | apply below_drew1)); done)); rintro e w' ⟨rfl, ⟨nd, rfl⟩⟩; refine ⟨_, rfl, ?_⟩) | ((with_reducible refine gate_callee (f := 12) rfl ?_); refine goesL_ (some 14) rfl rfl Tryd.func12 (by kernel_rfl) rfl #[.string a0] rfl (by (try simp only [List.map_toArray, List.map_cons, List.map_nil]); first | done | rfl | (simp only [List.length_drop, List.length_take]; rfl)) ?_; (with_reducible refine (check_Seal.calls a0 t107 _ (LaidG.far HG.out ?side1) A6.out).mono ?_); (case side1 => first | ((repeat (first | (with_reducible first | exact HB.out | apply below_alloc | apply pw_below_drewN | apply below_drew1) | exact HB.out)); done) | ((repeat (first | exact HB.out | exact Below.refl _ _ | apply below_alloc | apply pw_below_drewN | apply below_drew1)); done)); rintro e w15 ⟨rfl, hb⟩; refine ⟨_, rfl, ?_⟩; have n0_ := Aside0.mk (below_step (by repeat (first | (with_reducible first | exact HB.out | apply below_alloc | apply pw_below_drewN | apply below_drew1) | exact HB.out)) hb); clear HB; have HB := n0_; clear n0_; (try clear hb); (try clear hb2); (try clear hk); (try clear hi)) | ((with_reducible refine gate_callee (f := 10) rfl ?_); refine goesL_ (some 15) rfl rfl Tryd.func10 (by kernel_rfl) rfl #[.string t107] rfl (by (try simp only [List.map_toArray, List.map_cons, List.map_nil]); first | done | rfl | (simp only [List.length_drop, List.length_take]; rfl)) ?_; (with_reducible refine (check_Of.calls t107 t108 _ (LaidG.far HG.out ?side1) A7.out).mono ?_); (case side1 => first | ((repeat (first | (with_reducible first | exact HB.out | apply below_alloc | apply pw_below_drewN | apply below_drew1) | exact HB.out)); done) | ((repeat (first | exact HB.out | exact Below.refl _ _ | apply below_alloc | apply pw_below_drewN | apply below_drew1)); done)); rintro e w' ⟨rfl, ⟨nd, rfl⟩⟩; refine ⟨_, rfl, ?_⟩) | (go_at_call 12; (with_reducible refine (check_Seal.calls a0 t109 _ (LaidG.far HG.out ?side1) A9.out).mono ?_); (case side1 => first | ((repeat (first | (with_reducible first | exact HB.out | apply below_alloc | apply pw_below_drewN | apply below_drew1) | exact HB.out)); done) | ((repeat (first | exact HB.out | exact Below.refl _ _ | apply below_alloc | apply pw_below_drewN | apply below_drew1)); done)); rintro e w16 ⟨rfl, hb⟩; have n0_ := Aside0.mk (below_step (by repeat (first | (with_reducible first | exact HB.out | apply below_alloc | apply pw_below_drewN | apply below_drew1) | exact HB.out)) hb); clear HB; have HB := n0_; clear n0_; (try clear hb); (try clear hb2); (try clear hk); (try clear hi)) | (go_at_call 10; (with_reducible refine (check_Of.calls (t109 ++ a1) t110 _ (LaidG.far HG.out ?side1) A11.out).mono ?_); (case side1 => first | ((repeat (first | (with_reducible first | exact HB.out | apply below_alloc | apply pw_below_drewN | apply below_drew1) | exact HB.out)); done) | ((repeat (first | exact HB.out | exact Below.refl _ _ | apply below_alloc | apply pw_below_drewN | apply below_drew1)); done)); rintro e w' ⟨rfl, ⟨nd, rfl⟩⟩) | (go_at_call 12; (with_reducible refine (check_Seal.calls (⟨#[]⟩ : ByteArray) t111 _ (LaidG.far HG.out ?side1) A12.out).mono ?_); (case side1 => first | ((repeat (first | (with_reducible first | exact HB.out | apply below_alloc | apply pw_below_drewN | apply below_drew1) | exact HB.out)); done) | ((repeat (first | exact HB.out | exact Below.refl _ _ | apply below_alloc | apply pw_below_drewN | apply below_drew1)); done)); rintro e w17 ⟨rfl, hb⟩; have n0_ := Aside0.mk (below_step (by repeat (first | (with_reducible first | exact HB.out | apply below_alloc | apply pw_below_drewN | apply below_drew1) | exact HB.out)) hb); clear HB; have HB := n0_; clear n0_; (try clear hb); (try clear hb2); (try clear hk); (try clear hi)) | (go_at_call 10; (with_reducible refine (check_Of.calls (t111 ++ a1) t112 _ (LaidG.far HG.out ?side1) A14.out).mono ?_); (case side1 => first | ((repeat (first | (with_reducible first | exact HB.out | apply below_alloc | apply pw_below_drewN | apply below_drew1) | exact HB.out)); done) | ((repeat (first | exact HB.out | exact Below.refl _ _ | apply below_alloc | apply pw_below_drewN | apply below_drew1)); done)); rintro e w' ⟨rfl, ⟨nd, rfl⟩⟩))
            go_ret
            exact ⟨by first | rfl | (simp [show ∀ l_ : List UInt8, (l_ == []) = l_.isEmpty from fun l_ => by cases l_ <;> rfl]; done) | (simp [errW_none, errW_some] <;> rfl) | ((repeat rw [Int.tdiv_eq_ediv_of_nonneg (by omega)]); (repeat rw [Int.tmod_eq_emod_of_nonneg (by omega)]); first | rfl | (simp [errW_none, errW_some] <;> rfl)) | (simp [*, errW_none, errW_some] <;> rfl), by repeat (first | (with_reducible first | exact HB.out | apply below_alloc | apply pw_below_drewN | apply below_drew1) | exact HB.out)⟩
          · rw [if_neg c13] at H
            exact absurd H (by simp)
        · rw [if_neg c10] at H
          exact absurd H (by simp)
      · rw [if_neg c8] at H
        have c8b0 : (t108 == 0) = false := beq_eq_false_iff_ne.mpr c8
        have c8b1 : (t108 != 0) = true := bne_iff_ne.mpr c8
        obtain rfl := Option.some.inj H
        go_enter Tryd.func5, Tryd.ntmps5
        go_wp2_with (first | ((with_reducible refine gate_callee (f := 9) rfl ?_); refine goesL_ (some 5) rfl rfl Tryd.func9 (by kernel_rfl) rfl #[] rfl (by (try simp only [List.map_toArray, List.map_cons, List.map_nil]); first | done | rfl | (simp only [List.length_drop, List.length_take]; rfl)) ?_; (with_reducible refine (kissgatelaw04_alive.calls  true _ (LaidG.far HG.out ?side1) A3.out).mono ?_); (case side1 => first | ((repeat (first | (with_reducible first | exact HB.out | apply below_alloc | apply pw_below_drewN | apply below_drew1) | exact HB.out)); done) | ((repeat (first | exact HB.out | exact Below.refl _ _ | apply below_alloc | apply pw_below_drewN | apply below_drew1)); done)); rintro e w' ⟨rfl, ⟨nd, rfl⟩⟩; refine ⟨_, rfl, ?_⟩) | ((with_reducible refine gate_callee (f := 12) rfl ?_); refine goesL_ (some 14) rfl rfl Tryd.func12 (by kernel_rfl) rfl #[.string a0] rfl (by (try simp only [List.map_toArray, List.map_cons, List.map_nil]); first | done | rfl | (simp only [List.length_drop, List.length_take]; rfl)) ?_; (with_reducible refine (check_Seal.calls a0 t107 _ (LaidG.far HG.out ?side1) A6.out).mono ?_); (case side1 => first | ((repeat (first | (with_reducible first | exact HB.out | apply below_alloc | apply pw_below_drewN | apply below_drew1) | exact HB.out)); done) | ((repeat (first | exact HB.out | exact Below.refl _ _ | apply below_alloc | apply pw_below_drewN | apply below_drew1)); done)); rintro e w18 ⟨rfl, hb⟩; refine ⟨_, rfl, ?_⟩; have n0_ := Aside0.mk (below_step (by repeat (first | (with_reducible first | exact HB.out | apply below_alloc | apply pw_below_drewN | apply below_drew1) | exact HB.out)) hb); clear HB; have HB := n0_; clear n0_; (try clear hb); (try clear hb2); (try clear hk); (try clear hi)) | ((with_reducible refine gate_callee (f := 10) rfl ?_); refine goesL_ (some 15) rfl rfl Tryd.func10 (by kernel_rfl) rfl #[.string t107] rfl (by (try simp only [List.map_toArray, List.map_cons, List.map_nil]); first | done | rfl | (simp only [List.length_drop, List.length_take]; rfl)) ?_; (with_reducible refine (check_Of.calls t107 t108 _ (LaidG.far HG.out ?side1) A7.out).mono ?_); (case side1 => first | ((repeat (first | (with_reducible first | exact HB.out | apply below_alloc | apply pw_below_drewN | apply below_drew1) | exact HB.out)); done) | ((repeat (first | exact HB.out | exact Below.refl _ _ | apply below_alloc | apply pw_below_drewN | apply below_drew1)); done)); rintro e w' ⟨rfl, ⟨nd, rfl⟩⟩; refine ⟨_, rfl, ?_⟩))
        go_ret
        exact ⟨by first | rfl | (simp [show ∀ l_ : List UInt8, (l_ == []) = l_.isEmpty from fun l_ => by cases l_ <;> rfl]; done) | (simp [errW_none, errW_some] <;> rfl) | ((repeat rw [Int.tdiv_eq_ediv_of_nonneg (by omega)]); (repeat rw [Int.tmod_eq_emod_of_nonneg (by omega)]); first | rfl | (simp [errW_none, errW_some] <;> rfl)) | (simp [*, errW_none, errW_some] <;> rfl), by repeat (first | (with_reducible first | exact HB.out | apply below_alloc | apply pw_below_drewN | apply below_drew1) | exact HB.out)⟩
  · replace c4 := Bool.eq_false_iff.mpr c4
    subst c4
    have H1 : (some false) = some r := by rw [if_neg (show ¬ (false = true) by decide)] at H; exact H
    clear H
    have H := H1
    clear H1
    obtain rfl := Option.some.inj H
    go_enter Tryd.func5, Tryd.ntmps5
    go_wp2_with (first | ((with_reducible refine gate_callee (f := 9) rfl ?_); refine goesL_ (some 5) rfl rfl Tryd.func9 (by kernel_rfl) rfl #[] rfl (by (try simp only [List.map_toArray, List.map_cons, List.map_nil]); first | done | rfl | (simp only [List.length_drop, List.length_take]; rfl)) ?_; (with_reducible refine (kissgatelaw04_alive.calls  false _ (LaidG.far HG.out ?side1) A3.out).mono ?_); (case side1 => first | ((repeat (first | (with_reducible first | exact HB.out | apply below_alloc | apply pw_below_drewN | apply below_drew1) | exact HB.out)); done) | ((repeat (first | exact HB.out | exact Below.refl _ _ | apply below_alloc | apply pw_below_drewN | apply below_drew1)); done)); rintro e w' ⟨rfl, ⟨nd, rfl⟩⟩; refine ⟨_, rfl, ?_⟩))
    go_ret
    exact ⟨by first | rfl | (simp [show ∀ l_ : List UInt8, (l_ == []) = l_.isEmpty from fun l_ => by cases l_ <;> rfl]; done) | (simp [errW_none, errW_some] <;> rfl) | ((repeat rw [Int.tdiv_eq_ediv_of_nonneg (by omega)]); (repeat rw [Int.tmod_eq_emod_of_nonneg (by omega)]); first | rfl | (simp [errW_none, errW_some] <;> rfl)) | (simp [*, errW_none, errW_some] <;> rfl), by repeat (first | (with_reducible first | exact HB.out | apply below_alloc | apply pw_below_drewN | apply below_drew1) | exact HB.out)⟩

/-- THE ONE PURE STATEMENT of kissgatelaw04_CheckGoes: yours. -/
def kissgatelaw04_CheckGoes.Pure : Prop := ∀ (a0 : ByteArray) (a1 : ByteArray), a0.size ≤ 140737488351232 → a1.size ≤ 140737488351232 → kissgatelaw04_CheckGoes.f a0 a1 = some true
theorem kissgatelaw04_CheckGoes.walk (P : kissgatelaw04_CheckGoes.Pure) (a0 : ByteArray) (a1 : ByteArray) (w : World) (w0 : a0.size ≤ 140737488351232) (w1 : a1.size ≤ 140737488351232) (hG : LaidG w) :
    Calls Tryd.prog 5 #[.string a0, .string a1] w fun e w' => e = .returned (.bool true) ∧ Below w.heap.size w w' := by
  have h := P a0 a1 w0 w1
  refine (kissgatelaw04_CheckGoes.calls a0 a1 true w hG h).mono ?_
  rintro e w' ⟨rfl, hd⟩
  exact ⟨rfl, hd⟩

end Go.Proofs.YtffhepaldaoleaaDoor.PCheckGoes
