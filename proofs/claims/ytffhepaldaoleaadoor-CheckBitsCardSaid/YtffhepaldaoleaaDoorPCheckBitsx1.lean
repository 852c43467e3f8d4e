-- Written by a program of this session (see NOTES.md), which reads the translation's print; Lean checks it.
import Derived.Test.YtffhepaldaoleaaDoorPCheckBitsx0
namespace Go.Proofs.YtffhepaldaoleaaDoor.PCheckBits
open Go.RowKit Go.Proofs.YtffhepaldaoleaaDoorW.PrintWords Go.Proofs.YtffhepaldaoleaaDoorW.PrintLast Go.Proofs.YtffhepaldaoleaaDoorW.PrintMore
attribute [local go_sem] max2_int min2_int max_two min_two max_three min_three max_four min_four   -- for this text's walks alone
set_option linter.unusedVariables false
set_option linter.unusedSimpArgs false

/-! ### check_Of: function 10 -/
/-- The table lies in the world. -/
def LaidG (w : World) : Prop := ∀ k : Nat, k < 16 → w.cell? ⟨0, k, none⟩ = some (.int .u16 ((Crc.crcTab k : Nat) : Int))
theorem LaidG.far {w W : World} (h : LaidG w) (hb : Below w.heap.size w W) : LaidG W := fun k hk => (hb.cell (World.block_lt_of_cell? w _ (h k hk))).trans (h k hk)
theorem LaidG.drewN {w : World} (h : LaidG w) (n : Nat) : LaidG (w.drewN n) := h
theorem half_ix (c h : Nat) (hc : c < 65536) (hh : h < 16) : ∃ ix : Nat, Go.bits .xor .u8 (((c : Nat) : Int) / 4096) ((h : Nat) : Int) = (ix : Int) ∧ ix < 16 ∧
    Go.bits .xor .u16 (IntKind.u16.wrap (((c : Nat) : Int) * 16)) ((Crc.crcTab ix : Nat) : Int) = ((Crc.crcHalf c h : Nat) : Int) := by
  refine ⟨c / 4096 ^^^ h, ?_, Nat.xor_lt_two_pow (n := 4) (by omega) (by omega), ?_⟩
  · rw [show ((c : Nat) : Int) / 4096 = ((c / 4096 : Nat) : Int) from by omega, Go.u8_xor_nat _ _ (by omega) (by omega)]
  · rw [show IntKind.u16.wrap (((c : Nat) : Int) * 16) = ((c * 16 % 65536 : Nat) : Int) from by rw [IntKind.wrap_u16]; omega, Go.u16_xor_nat _ _ (by omega) (Crc.crcTab_lt _)]
    rfl
def check_Of.f (a0 : ByteArray) : Option Int := if a0.size ≤ 140737488351232 then some ((Crc.crcOn 65535 a0.data.toList : Nat) : Int) else none
set_option maxHeartbeats 2000000 in
set_option maxRecDepth 100000 in
theorem check_Of.calls (a0 : ByteArray) (r : Int) (w : World) (hG : LaidG w) (h : check_Of.f a0 = some r) :
    Calls Tryd.prog 10 #[.string a0] w fun e w' => e = .returned (.int .i64 r) ∧ Drawn0 w w' := by
  unfold check_Of.f at h
  have hs : a0.size ≤ 140737488351232 := by
    by_cases hs : a0.size ≤ 140737488351232
    · exact hs
    · rw [if_neg hs] at h; cases h
  rw [if_pos hs] at h
  obtain rfl := Option.some.inj h
  clear h
  have HG := Aside0.mk hG
  clear hG
  go_enter Tryd.func10, Tryd.ntmps10
  go_wp2
  go_loopw [3, 9] (fun v3 v9 wr => ∃ (k c : Nat), k ≤ a0.size ∧ v9 = .int .i64 (k : Nat) ∧ v3 = .int .u16 (c : Nat) ∧ c < 65536 ∧ Aside0 (c = Crc.crcOn 65535 (a0.data.toList.take k)) ∧ Aside0 (Drawn0 w wr)) (fun _ v9 _ => a0.size - (intOf v9).toNat)
  case atStart => exact ⟨0, 65535, Nat.zero_le _, rfl, rfl, by decide, ⟨rfl⟩, ⟨Drawn0.refl _⟩⟩
  case round =>
    obtain ⟨k, c, hk, rfl, rfl, hc, HC, HD⟩ := hrel
    by_cases hlt : k < a0.size
    · go_wp2
      have hand : Go.bits .and .u8 ((a0[k].toNat : Nat) : Int) 15 = ((a0[k].toNat % 16 : Nat) : Int) := by
        have e := Go.u8_and_nat a0[k].toNat 15 (UInt8.toNat_lt _) (by decide)
        rw [show ((15 : Nat) : Int) = 15 from rfl] at e
        rw [e, Nat.and_two_pow_sub_one_eq_mod _ 4]
      go_quiet (fail)
      obtain ⟨b, hb, HB⟩ : ∃ b : Nat, b = a0[k].toNat ∧ b < 256 := ⟨_, rfl, UInt8.toNat_lt _⟩
      rw [← hb]
      obtain ⟨x, hx, HX⟩ : ∃ x : Nat, ((b : Nat) : Int) / 16 = (x : Int) ∧ x = b / 16 := ⟨b / 16, by omega, rfl⟩
      obtain ⟨y, hy, HY⟩ : ∃ y : Nat, ((b : Nat) : Int) % 16 = (y : Int) ∧ y = b % 16 := ⟨b % 16, by omega, rfl⟩
      rw [hx, hy]
      have HL := Aside0.mk (show Crc.crcOn 65535 (a0.data.toList.take (k + 1)) = Crc.crcHalf (Crc.crcHalf c x) y by
        rw [List.take_succ_eq_append_getElem (by simpa using hlt), Crc.crcOn_snoc, ← HC.out, HX, HY, hb]; rfl)
      have hx16 : x < 16 := by omega
      have hy16 : y < 16 := by omega
      clear hand hb hx hy HX HY HB HC
      have i0 : ∀ w, (Instr.index 34 (.agg #[.int .u8 (x : Int), .int .u8 (y : Int)]) (.int .i64 0)).run Tryd.prog w = .ok (.int .u8 (x : Int)) w := fun _ => by kernel_rfl
      have i1 : ∀ w, (Instr.index 34 (.agg #[.int .u8 (x : Int), .int .u8 (y : Int)]) (.int .i64 1)).run Tryd.prog w = .ok (.int .u8 (y : Int)) w := fun _ => by kernel_rfl
      have HG1 := Aside0.mk (LaidG.far HG.out (HD.out.below))
      have HD1 : Aside0 (Drawn0 w (wr.drewN nq)) := ⟨by first | exact Drawn0.step HD.out | (obtain ⟨⟨n, hn⟩⟩ := HD.out; subst hn; exact ⟨⟨_, World.drewN_drewN _ _ _⟩⟩)⟩
      go_wp2
      go_loop [3, 21] (fun v3 v21 => ∃ (j c1 : Nat), (j = 0 ∧ c1 = c ∨ j = 1 ∧ c1 = Crc.crcHalf c x ∨ j = 2 ∧ c1 = Crc.crcHalf (Crc.crcHalf c x) y) ∧ v21 = .int .i64 (j : Nat) ∧ v3 = .int .u16 (c1 : Nat)) (fun _ v21 => 2 - (intOf v21).toNat)
      case atStart => exact ⟨0, c, .inl ⟨rfl, rfl⟩, rfl, rfl⟩
      case round =>
        obtain ⟨j, c1, hj, rfl, rfl⟩ := hrel
        rcases hj with ⟨rfl, rfl⟩ | ⟨rfl, hc1⟩ | ⟨rfl, hc1⟩
        · obtain ⟨ix, hix, hix2, hixe⟩ := half_ix c1 x (by first | exact hc | exact Crc.crcHalf_lt _ _) hx16
          have hcell := HG1.out ix hix2
          go_wp2
          go_round
          case rel => exact ⟨1, _, .inr (.inl ⟨rfl, rfl⟩), rfl, rfl⟩
          case measure => simp [intOf]
        · have hc1l : c1 < 65536 := by rw [hc1]; exact Crc.crcHalf_lt _ _
          obtain ⟨ix, hix, hix2, hixe⟩ := half_ix c1 y hc1l hy16
          have HC1 := Aside0.mk hc1
          clear hc1
          have hcell := HG1.out ix hix2
          go_wp2
          go_round
          case rel => exact ⟨2, _, .inr (.inr ⟨rfl, by rw [HC1.out]⟩), rfl, rfl⟩
          case measure => simp [intOf]
        · have HC1 := Aside0.mk hc1
          have hc1l : c1 < 65536 := by rw [hc1]; exact Crc.crcHalf_lt _ _
          clear hc1
          go_wp2
          go_roundw
          case rel => exact ⟨k + 1, c1, by omega, by go_num, rfl, hc1l, ⟨by rw [HL.out, HC1.out]⟩, HD1⟩
          case measure => simp [intOf]; omega
    · go_wp2
      go_ret
      have hk2 : a0.data.toList.take k = a0.data.toList := List.take_of_length_le (by simp; omega)
      exact ⟨congrArg (fun n : Nat => Ending.returned (Value.int IntKind.i64 (n : Int))) (by have e := HC.out; rw [hk2] at e; first | exact e | rfl), HD.out⟩


/-! ### kissgatelaw04_alive: function 9 -/
def kissgatelaw04_alive.f  : Option (Bool) := (check_Of.f (⟨#[49, 50, 51, 52, 53, 54, 55, 56, 57]⟩ : ByteArray)).bind fun t101 => (some (t101 == 10673))
set_option maxHeartbeats 8000000 in
set_option maxRecDepth 100000 in
theorem kissgatelaw04_alive.calls  (r : Bool) (w : World) (hG : LaidG w) (h : kissgatelaw04_alive.f  = some r) :
    Calls Tryd.prog 9 #[] w fun e w' => e = .returned (.bool r) ∧ Drawn0 w w' := by
  have HG := Aside0.mk hG
  clear hG
  have H : ((check_Of.f (⟨#[49, 50, 51, 52, 53, 54, 55, 56, 57]⟩ : ByteArray)).bind fun t101 => (some (t101 == 10673))) = some r := h
  clear h
  replace H := Option.bind_eq_some_iff.mp H
  obtain ⟨t101, A10, H⟩ := H
  replace H : (some (t101 == 10673)) = some r := H
  have A1 := Aside0.mk A10
  clear A10
  obtain rfl := Option.some.inj H
  go_enter Tryd.func9, Tryd.ntmps9
  go_wp2_with (first | ((with_reducible refine gate_callee (f := 10) rfl ?_); refine goesL_ (some 1) rfl rfl Tryd.func10 (by kernel_rfl) rfl #[.string (⟨#[49, 50, 51, 52, 53, 54, 55, 56, 57]⟩ : ByteArray)] rfl (by (try simp only [List.map_toArray, List.map_cons, List.map_nil]); first | done | rfl | (simp only [List.length_drop, List.length_take]; rfl)) ?_; (with_reducible refine (check_Of.calls (⟨#[49, 50, 51, 52, 53, 54, 55, 56, 57]⟩ : ByteArray) t101 _ (LaidG.far HG.out ?side1) A1.out).mono ?_); (case side1 => first | ((repeat (first | (with_reducible first | exact HB.out | apply below_alloc | apply pw_below_drewN | apply below_drew1) | exact HB.out)); done) | ((repeat (first | exact HB.out | exact Below.refl _ _ | apply below_alloc | apply pw_below_drewN | apply below_drew1)); done)); rintro e w' ⟨rfl, ⟨nd, rfl⟩⟩; refine ⟨_, rfl, ?_⟩))
  go_ret
  exact ⟨by first | rfl | (simp; done) | (simp [show ∀ l_ : List UInt8, (l_ != []) = !l_.isEmpty from fun l_ => by cases l_ <;> rfl]; done) | (simp [*]; done), by repeat (first | exact Drawn0.refl _ | apply Drawn0.step)⟩

/-! ### check_Seal: function 12 -/
def check_Seal.f (a0 : ByteArray) : Option (ByteArray) := (check_Of.f a0).bind fun t102 => ((some (([(t102 / 256) % 256, (t102) % 256] : List Int) : List Int)).bind fun y103 => (if a0.size + (strOfNums y103).size ≤ 9223372036854775807 then (some (a0 ++ (strOfNums y103))) else (none)))
set_option maxHeartbeats 8000000 in
set_option maxRecDepth 100000 in
theorem check_Seal.calls (a0 : ByteArray) (r : ByteArray) (w : World) (hG : LaidG w) (h : check_Seal.f a0 = some r) :
    Calls Tryd.prog 12 #[.string a0] w fun e w' => e = .returned (.string r) ∧ Below w.heap.size w w' := by
  have HB := Aside0.mk (Below.refl w.heap.size w)
  have HG := Aside0.mk hG
  clear hG
  have H : ((check_Of.f a0).bind fun t102 => ((some (([(t102 / 256) % 256, (t102) % 256] : List Int) : List Int)).bind fun y103 => (if a0.size + (strOfNums y103).size ≤ 9223372036854775807 then (some (a0 ++ (strOfNums y103))) else (none)))) = some r := h
  clear h
  replace H := Option.bind_eq_some_iff.mp H
  obtain ⟨t102, A20, H⟩ := H
  replace H : ((some (([(t102 / 256) % 256, (t102) % 256] : List Int) : List Int)).bind fun y103 => (if a0.size + (strOfNums y103).size ≤ 9223372036854775807 then (some (a0 ++ (strOfNums y103))) else (none))) = some r := H
  have A2 := Aside0.mk A20
  clear A20
  obtain ⟨y103, hy103⟩ : ∃ y_ : List Int, y_ = (([(t102 / 256) % 256, (t102) % 256] : List Int)) := ⟨_, rfl⟩
  replace H : (if a0.size + (strOfNums y103).size ≤ 9223372036854775807 then (some (a0 ++ (strOfNums y103))) else (none)) = some r := by first | (rw [hy103]; with_reducible exact H) | (have H2_ := (Option.bind_some _ _).symm.trans H; rw [hy103]; with_reducible exact H2_) | (have H2_ := (Option.bind_some _ _).symm.trans H; with_reducible exact H2_) | with_reducible exact H | (rw [hy103]; exact H) | exact H
  have Ny103 := Aside0.mk hy103
  clear hy103
  by_cases c3 : a0.size + (strOfNums y103).size ≤ 9223372036854775807
  · rw [if_pos c3] at H
    have c3b0 := eq_true c3
    have c3b1 : decide (a0.size + (strOfNums y103).size ≤ 9223372036854775807) = true := decide_eq_true c3
    try have c3b2 : (9223372036854775807 < a0.size + (strOfNums y103).size) = False := eq_false (Nat.not_lt.2 c3)
    obtain rfl := Option.some.inj H
    go_enter Tryd.func12, Tryd.ntmps12
    go_wp2_with (first | ((with_reducible refine gate_callee (f := 10) rfl ?_); refine goesL_ (some 5) rfl rfl Tryd.func10 (by kernel_rfl) rfl #[.string a0] rfl (by (try simp only [List.map_toArray, List.map_cons, List.map_nil]); first | done | rfl | (simp only [List.length_drop, List.length_take]; rfl)) ?_; (with_reducible refine (check_Of.calls a0 t102 _ (LaidG.far HG.out ?side1) A2.out).mono ?_); (case side1 => first | ((repeat (first | (with_reducible first | exact HB.out | apply below_alloc | apply pw_below_drewN | apply below_drew1) | exact HB.out)); done) | ((repeat (first | exact HB.out | exact Below.refl _ _ | apply below_alloc | apply pw_below_drewN | apply below_drew1)); done)); rintro e w' ⟨rfl, ⟨nd, rfl⟩⟩; refine ⟨_, rfl, ?_⟩) | ((with_reducible refine gate_dst (N := 12) rfl ?_); refine Kd.R_lit (Kd.int .u8) _ 5 ?hg (N := 12) ?hd (xs := ([(t102 / 256) % 256, (t102) % 256] : List Int)) (inner := [.int .u8 ((t102 / 256) % 256), .int .u8 ((t102) % 256)]) (ok := fun _ => True) (okp := fun _ => True) ?hr ?hp (fun _ hk => hk) trivial (Below.refl _ _) (Nat.le_refl _) (by simp) ?_; (case hd => rfl); (case hg => rfl); (case hr => first | (go_simp; done) | (go_simp; rfl)); (case hp => exact (Reps.one (show Kd.M (Kd.int .u8) _ _ _ ((t102 / 256) % 256) [.int .u8 ((t102 / 256) % 256)] from rfl) (Reps.one (show Kd.M (Kd.int .u8) _ _ _ ((t102) % 256) [.int .u8 ((t102) % 256)] from rfl) (Reps.none _ _)))); intro v104 w4 ho5 hb hg_ hnew_; clear hg_ hnew_; (first | rw [← Ny103.out] at ho5 | (simp only [Int.reduceToNat] at ho5; rw [← Ny103.out] at ho5)); have n0_ := Aside0.mk (Kd.R_lower ho5 (below_size (by repeat (first | (with_reducible first | exact HB.out | apply below_alloc | apply pw_below_drewN | apply below_drew1) | exact HB.out)))); have n1_ := Aside0.mk (below_step (by repeat (first | (with_reducible first | exact HB.out | apply below_alloc | apply pw_below_drewN | apply below_drew1) | exact HB.out)) hb); clear HB; have HO105 := n0_; have HB := n1_; clear n0_ n1_; clear hb ho5; have hcv6 := own_string (P := Tryd.prog) Tryd.underlying23 Tryd.underlying5 Tryd.underlying9 (Kd.own_of_R HO105.out)))
    go_ret
    exact ⟨by first | rfl | (simp [show ∀ l_ : List UInt8, (l_ == []) = l_.isEmpty from fun l_ => by cases l_ <;> rfl]; done) | (simp [errW_none, errW_some] <;> rfl) | ((repeat rw [Int.tdiv_eq_ediv_of_nonneg (by omega)]); (repeat rw [Int.tmod_eq_emod_of_nonneg (by omega)]); first | rfl | (simp [errW_none, errW_some] <;> rfl)) | (simp [*, errW_none, errW_some] <;> rfl), by repeat (first | (with_reducible first | exact HB.out | apply below_alloc | apply pw_below_drewN | apply below_drew1) | exact HB.out)⟩
  · rw [if_neg c3] at H
    exact absurd H (by simp)

/-! ### check_Strip: function 14 -/
def check_Strip.f (a0 : ByteArray) : Option (ByteArray × Bool) := if (wrap64 ((a0.size : Int) - 2)) < 0 then (some ((⟨#[]⟩ : ByteArray), false)) else (if 0 ≤ (wrap64 ((a0.size : Int) - 2)) then (if (wrap64 ((a0.size : Int) - 2)) ≤ (a0.size : Int) then ((check_Seal.f (a0.extract 0 ((wrap64 ((a0.size : Int) - 2)) : Int).toNat)).bind fun t106 => (if t106.toList = a0.toList then (some (a0.extract 0 ((wrap64 ((a0.size : Int) - 2)) : Int).toNat, true)) else (some ((⟨#[]⟩ : ByteArray), false)))) else (none)) else (none))
set_option maxHeartbeats 8000000 in
set_option maxRecDepth 100000 in
theorem check_Strip.calls (a0 : ByteArray) (r1 : ByteArray) (r2 : Bool) (w : World) (hG : LaidG w) (h : check_Strip.f a0 = some (r1, r2)) :
    Calls Tryd.prog 14 #[.string a0] w fun e w' => e = .returned (.tuple #[.string r1, .bool r2]) ∧ Below w.heap.size w w' := by
  have HB := Aside0.mk (Below.refl w.heap.size w)
  have HG := Aside0.mk hG
  clear hG
  have H : (if (wrap64 ((a0.size : Int) - 2)) < 0 then (some ((⟨#[]⟩ : ByteArray), false)) else (if 0 ≤ (wrap64 ((a0.size : Int) - 2)) then (if (wrap64 ((a0.size : Int) - 2)) ≤ (a0.size : Int) then ((check_Seal.f (a0.extract 0 ((wrap64 ((a0.size : Int) - 2)) : Int).toNat)).bind fun t106 => (if t106.toList = a0.toList then (some (a0.extract 0 ((wrap64 ((a0.size : Int) - 2)) : Int).toNat, true)) else (some ((⟨#[]⟩ : ByteArray), false)))) else (none)) else (none))) = some (r1, r2) := h
  clear h
  by_cases c2 : (wrap64 ((a0.size : Int) - 2)) < 0
  · rw [if_pos c2] at H
    have c2b0 : decide ((wrap64 ((a0.size : Int) - 2)) < 0) = true := decide_eq_true c2
    clear c2
    simp only [Option.some.injEq, Prod.mk.injEq] at H
    obtain ⟨rfl, rfl⟩ := H
    go_enter Tryd.func14, Tryd.ntmps14
    go_wp2
    go_ret2
    exact ⟨by first | rfl | (simp [show ∀ l_ : List UInt8, (l_ == []) = l_.isEmpty from fun l_ => by cases l_ <;> rfl]; done) | (simp [errW_none, errW_some] <;> rfl) | ((repeat rw [Int.tdiv_eq_ediv_of_nonneg (by omega)]); (repeat rw [Int.tmod_eq_emod_of_nonneg (by omega)]); first | rfl | (simp [errW_none, errW_some] <;> rfl)) | (simp [*, errW_none, errW_some] <;> rfl), by repeat (first | (with_reducible first | exact HB.out | apply below_alloc | apply pw_below_drewN | apply below_drew1) | exact HB.out)⟩
  · rw [if_neg c2] at H
    have c2b0 : decide ((wrap64 ((a0.size : Int) - 2)) < 0) = false := decide_eq_false c2
    clear c2
    obtain ⟨ji3, hji3⟩ : ∃ j_ : Int, (wrap64 ((a0.size : Int) - 2)) = j_ := ⟨_, rfl⟩
    replace H : (if 0 ≤ (ji3) then (if (ji3) ≤ (a0.size : Int) then ((check_Seal.f (a0.extract 0 ((ji3) : Int).toNat)).bind fun t106 => (if t106.toList = a0.toList then (some (a0.extract 0 ((ji3) : Int).toNat, true)) else (some ((⟨#[]⟩ : ByteArray), false)))) else (none)) else (none)) = some (r1, r2) := by first | (rw [hji3] at H; exact H) | (simp only [hji3] at H ⊢; exact H)
    (try rw [hji3] at c2b0)
    have hji3w : (IntKind.i64.wrap ((a0.size : Int) - 2)) = ji3 := (i64_w _).trans hji3
    by_cases c4 : 0 ≤ (ji3)
    · rw [if_pos c4] at H
      have c4b0 := eq_true c4
      have c4b1 : decide (0 ≤ (ji3)) = true := decide_eq_true c4
      clear c4
      by_cases c5 : (ji3) ≤ (a0.size : Int)
      · rw [if_pos c5] at H
        have c5b0 := eq_true c5
        have c5b1 : decide ((ji3) ≤ (a0.size : Int)) = true := decide_eq_true c5
        clear c5
        replace H := Option.bind_eq_some_iff.mp H
        obtain ⟨t106, A60, H⟩ := H
        replace H : (if t106.toList = a0.toList then (some (a0.extract 0 ((ji3) : Int).toNat, true)) else (some ((⟨#[]⟩ : ByteArray), false))) = some (r1, r2) := H
        have A6 := Aside0.mk A60
        clear A60
        by_cases c7 : t106.toList = a0.toList
        · rw [if_pos c7] at H
          have c7b0 : (t106.toList == a0.toList) = true := beq_iff_eq.mpr c7
          have c7b1 : (t106.toList != a0.toList) = false := bne_eq_false_iff_eq.mpr c7
          clear c7
          have c8b0 := eq_true (of_decide_eq_true (by first | (with_reducible assumption) | assumption) : 0 ≤ (ji3))
          have c9b0 := eq_true (of_decide_eq_true (by first | (with_reducible assumption) | assumption) : (ji3) ≤ (a0.size : Int))
          simp only [Option.some.injEq, Prod.mk.injEq] at H
          obtain ⟨rfl, rfl⟩ := H
          go_enter Tryd.func14, Tryd.ntmps14
          go_wp2_with (first | (go_at_call 12; (with_reducible refine (check_Seal.calls (a0.extract 0 ((ji3) : Int).toNat) t106 _ (LaidG.far HG.out ?side1) A6.out).mono ?_); (case side1 => first | ((repeat (first | (with_reducible first | exact HB.out | apply below_alloc | apply pw_below_drewN | apply below_drew1) | exact HB.out)); done) | ((repeat (first | exact HB.out | exact Below.refl _ _ | apply below_alloc | apply pw_below_drewN | apply below_drew1)); done)); rintro e w10 ⟨rfl, hb⟩; have n0_ := Aside0.mk (below_step (by repeat (first | (with_reducible first | exact HB.out | apply below_alloc | apply pw_below_drewN | apply below_drew1) | exact HB.out)) hb); clear HB; have HB := n0_; clear n0_; (try clear hb); (try clear hb2); (try clear hk); (try clear hi)))
          go_ret2
          exact ⟨by first | rfl | (simp [show ∀ l_ : List UInt8, (l_ == []) = l_.isEmpty from fun l_ => by cases l_ <;> rfl]; done) | (simp [errW_none, errW_some] <;> rfl) | (simp only [← hji3]; first | rfl | (simp [errW_none, errW_some] <;> rfl)) | ((repeat rw [Int.tdiv_eq_ediv_of_nonneg (by omega)]); (repeat rw [Int.tmod_eq_emod_of_nonneg (by omega)]); first | rfl | (simp [errW_none, errW_some] <;> rfl)) | (simp [*, errW_none, errW_some] <;> rfl), by repeat (first | (with_reducible first | exact HB.out | apply below_alloc | apply pw_below_drewN | apply below_drew1) | exact HB.out)⟩
        · rw [if_neg c7] at H
          have c7b0 : (t106.toList == a0.toList) = false := beq_eq_false_iff_ne.mpr c7
          have c7b1 : (t106.toList != a0.toList) = true := bne_iff_ne.mpr c7
          simp only [Option.some.injEq, Prod.mk.injEq] at H
          obtain ⟨rfl, rfl⟩ := H
          go_enter Tryd.func14, Tryd.ntmps14
          go_wp2_with (first | (go_at_call 12; (with_reducible refine (check_Seal.calls (a0.extract 0 ((ji3) : Int).toNat) t106 _ (LaidG.far HG.out ?side1) A6.out).mono ?_); (case side1 => first | ((repeat (first | (with_reducible first | exact HB.out | apply below_alloc | apply pw_below_drewN | apply below_drew1) | exact HB.out)); done) | ((repeat (first | exact HB.out | exact Below.refl _ _ | apply below_alloc | apply pw_below_drewN | apply below_drew1)); done)); rintro e w11 ⟨rfl, hb⟩; have n0_ := Aside0.mk (below_step (by repeat (first | (with_reducible first | exact HB.out | apply below_alloc | apply pw_below_drewN | apply below_drew1) | exact HB.out)) hb); clear HB; have HB := n0_; clear n0_; (try clear hb); (try clear hb2); (try clear hk); (try clear hi)))
          go_ret2
          exact ⟨by first | rfl | (simp [show ∀ l_ : List UInt8, (l_ == []) = l_.isEmpty from fun l_ => by cases l_ <;> rfl]; done) | (simp [errW_none, errW_some] <;> rfl) | (simp only [← hji3]; first | rfl | (simp [errW_none, errW_some] <;> rfl)) | ((repeat rw [Int.tdiv_eq_ediv_of_nonneg (by omega)]); (repeat rw [Int.tmod_eq_emod_of_nonneg (by omega)]); first | rfl | (simp [errW_none, errW_some] <;> rfl)) | (simp [*, errW_none, errW_some] <;> rfl), by repeat (first | (with_reducible first | exact HB.out | apply below_alloc | apply pw_below_drewN | apply below_drew1) | exact HB.out)⟩
      · rw [if_neg c5] at H
        exact absurd H (by simp)
    · rw [if_neg c4] at H
      exact absurd H (by simp)

/-! ### kissgatelaw04_CheckBits: function 8 -/
/-- A bit turned. -/
def flipAt (l : List Nat) (i r : Nat) : List Nat := l.set i (l.getD i 0 ^^^ 2 ^ r)
def kissgatelaw04_CheckBits.Pure : Prop := kissgatelaw04_alive.f = some true ∧ ∀ (s : ByteArray), s.size ≤ 500 → ∃ z, check_Seal.f s = some z ∧ z.size = s.size + 2 ∧
  (∀ (i r : Nat), i < z.size → r < 8 → ∃ u, check_Strip.f (Bb.strOf (flipAt (Bb.natsOf z) i r)) = some (u, false)) ∧
  (∀ (i r j q : Nat), i < z.size → r < 8 → j < z.size → q < 8 → ¬ (i = j ∧ r = q) → ∃ u, check_Strip.f (Bb.strOf (flipAt (flipAt (Bb.natsOf z) i r) j q)) = some (u, false))
set_option maxHeartbeats 4000000 in
set_option maxRecDepth 100000 in
theorem kissgatelaw04_CheckBits.walk (P : kissgatelaw04_CheckBits.Pure) (a0 : ByteArray) (a1 a2 : Int) (w : World) (w0 : a0.size ≤ 140737488351232) (w1 : (Lit.int .i64 a1).wf = true) (w2 : (Lit.int .i64 a2).wf = true) (hG : LaidG w) :
    Calls Tryd.prog 8 #[.string a0, .int .i64 a1, .int .i64 a2] w fun e w' => e = .returned (.bool true) ∧ Below w.heap.size w w' := by
  obtain ⟨Pa, Pm⟩ := P
  have HG := Aside0.mk hG
  clear hG
  have HP := Aside0.mk Pm
  have HA := Aside0.mk Pa
  clear Pm Pa
  by_cases h1 : 500 < a0.size
  · go_enter Tryd.func8, Tryd.ntmps8
    go_wp2_with (go_at_call 9; refine (kissgatelaw04_alive.calls true _ HG.out HA.out).mono ?_; rintro e w' ⟨rfl, ⟨nd, rfl⟩⟩)
    go_ret
    exact ⟨rfl, (Drawn0.mk ⟨_, rfl⟩).below⟩
  have h1b : decide (500 < (a0.size : Int)) = false := by rw [decide_eq_false_iff_not]; omega
  obtain ⟨z, hz, hzs, hP1, hP2⟩ := HP.out a0 (by omega)
  have HZ := Aside0.mk hz
  have HP1 := Aside0.mk hP1
  have HP2 := Aside0.mk hP2
  clear hz hP1 hP2
  obtain ⟨m, hm⟩ : ∃ m, m = 8 * z.size := ⟨_, rfl⟩
  obtain ⟨x, hx, e1, e2, e3⟩ := Bb.rem_place a1 m (by omega) (by omega)
  obtain ⟨y, hy, d1, d2, d3⟩ := Bb.rem_place a2 m (by omega) (by omega)
  have hm0 : wrap64 (8 * (z.size : Int)) = (m : Int) := by unfold wrap64; omega
  have hm2 : m ≤ 10000 := by omega
  have hm3 : 0 < m := by omega
  have kb := fun W => print_bytes (P := Tryd.prog) 9 23 5 Tryd.underlying9 Tryd.underlying23 Tryd.underlying5 z W
  have HM := Aside0.mk hm
  clear hm hzs e1 e3 d1 d3
  go_enter Tryd.func8, Tryd.ntmps8
  go_wp2_with (first | (go_at_call 9; refine (kissgatelaw04_alive.calls true _ HG.out HA.out).mono ?_; rintro e w' ⟨rfl, ⟨nd, rfl⟩⟩) | (go_at_call 12; refine (check_Seal.calls _ z _ (LaidG.far HG.out (pw_below_drewN (Below.refl _ _) _)) HZ.out).mono ?_; rintro e w5 ⟨rfl, hb5⟩; have HB5 := Aside0.mk hb5; clear hb5))
  go_quiet (fail)
  have hB5 : Below w.heap.size w w5 := below_step (pw_below_drewN (Below.refl _ _) _) HB5.out
  obtain ⟨g, hg⟩ : ∃ g, g = w5.heap.size := ⟨_, rfl⟩
  have HGE := Aside0.mk (show w.heap.size ≤ g by rw [hg]; exact hB5.size)
  have HBL := Aside0.mk (pw_below_drewN (bytes_below hB5 hB5.size 5 z) nq)
  have HBB := Aside0.mk (show Bb.BB ((Lib.bytesWorld w5 5 z).drewN nq) g (Bb.natsOf z) by rw [hg]; exact Bb.BB.new w5 z)
  obtain ⟨cap, hcap⟩ : ∃ c, c = grownCap w5 z.size 0 5 := ⟨_, rfl⟩
  obtain ⟨W2, hW2⟩ : ∃ W2, W2 = (Lib.bytesWorld w5 5 z).drewN nq := ⟨_, rfl⟩
  rw [← hW2] at HBL HBB
  rw [← hW2, ← hg, ← hcap]
  clear hW2 hg hcap hB5 kb HB5 hm0 e2 d2
  obtain ⟨i, r, hxi, hr8⟩ : ∃ i r : Nat, x = 8 * i + r ∧ r < 8 := ⟨x / 8, x % 8, by omega, by omega⟩
  obtain ⟨j, q, hyj, hq8⟩ : ∃ j q : Nat, y = 8 * j + q ∧ q < 8 := ⟨y / 8, y % 8, by omega, by omega⟩
  have hiz : i < z.size := by have := HM.out; omega
  have hjz : j < z.size := by have := HM.out; omega
  have ei : (x : Int) / 8 = (i : Int) := by omega
  have er : (x : Int) % 8 = (r : Int) := by omega
  have ej : (y : Int) / 8 = (j : Int) := by omega
  have eq_ : (y : Int) % 8 = (q : Int) := by omega
  have pr : ∀ r : Nat, r < 8 → IntKind.u8.wrap ((2 : Int) ^ r) = ((2 ^ r : Nat) : Int) ∧ 2 ^ r < 256 := by
    intro r hr
    have : r = 0 ∨ r = 1 ∨ r = 2 ∨ r = 3 ∨ r = 4 ∨ r = 5 ∨ r = 6 ∨ r = 7 := by omega
    rcases this with rfl | rfl | rfl | rfl | rfl | rfl | rfl | rfl <;> decide
  obtain ⟨pr1, pr2⟩ := pr r hr8
  obtain ⟨pq1, pq2⟩ := pr q hq8
  clear pr
  have hkl : i < (Bb.natsOf z).length := by rw [Bb.natsOf_length]; exact hiz
  obtain ⟨b, hb, hb2⟩ : ∃ b : Nat, (Bb.natsOf z).getD i 0 = b ∧ b < 256 := ⟨_, rfl, Bb.natsOf_lt _ _⟩
  have hcell := (HBB.out.cell i hkl).trans (by rw [hb] : _ = some (Value.int .u8 ((b : Nat) : Int)))
  have hfro := HBB.out.frozen i hkl
  have hx3 : Go.bits .xor .u8 ((b : Nat) : Int) ((2 : Int) ^ r) = ((b ^^^ 2 ^ r : Nat) : Int) := by have e := Go.u8_xor_nat b (2 ^ r) hb2 pr2; rw [Int.natCast_pow] at e; exact e
  have HR := Aside0.mk hb
  have HXI := Aside0.mk hxi
  have HYJ := Aside0.mk hyj
  clear hb hxi hyj
  have HBB1 := Aside0.mk (show Bb.BB (W2.setCell ⟨g, i, none⟩ (.int .u8 ((b ^^^ 2 ^ r : Nat) : Int))) g (flipAt (Bb.natsOf z) i r) by unfold flipAt; rw [HR.out]; exact HBB.out.set i (b ^^^ 2 ^ r))
  have HBL1 := Aside0.mk (below_set (j := i) (v := .int .u8 ((b ^^^ 2 ^ r : Nat) : Int)) HBL.out HGE.out)
  have hfl : ∀ (l : List Nat) (i r : Nat), (flipAt l i r).length = l.length := fun l i r => by unfold flipAt; rw [List.length_set]
  have HFL := Aside0.mk hfl
  clear hfl
  by_cases hxy : x = y
  · have hxyb : ((x : Int) != (y : Int)) = false := by rw [bne_eq_false_iff_eq]; omega
    have kt := fun n => HBB1.out.text n
    rw [HFL.out, Bb.natsOf_length] at kt
    obtain ⟨u, hu⟩ := HP1.out i r hiz hr8
    have HU := Aside0.mk hu
    clear hu hxy
    go_wp2_with fail
    clear kt
    refine (check_Strip.calls _ u false _ (LaidG.far HG.out HBL1.out) HU.out).mono ?_
    rintro e w6 ⟨rfl, hb6⟩
    have HB6 := Aside0.mk (below_step HBL1.out hb6)
    clear hb6
    go_wp2
    go_ret
    exact ⟨rfl, HB6.out⟩
  · have hxyb : ((x : Int) != (y : Int)) = true := by rw [bne_iff_ne]; intro e; exact hxy (by omega)
    obtain ⟨u, hu⟩ := HP2.out i r j q hiz hr8 hjz hq8 (by have := HXI.out; have := HYJ.out; omega)
    have HU := Aside0.mk hu
    clear hu hxy
    have hkl2 : j < (flipAt (Bb.natsOf z) i r).length := by rw [HFL.out, Bb.natsOf_length]; exact hjz
    obtain ⟨c, hc, hc2⟩ : ∃ c : Nat, (flipAt (Bb.natsOf z) i r).getD j 0 = c ∧ c < 256 := by
      refine ⟨_, rfl, ?_⟩
      unfold flipAt
      rw [List.getD_eq_getElem?_getD, List.getElem?_set]
      by_cases hij : i = j
      · subst hij
        rw [if_pos rfl]
        rw [HR.out]
        simp only [hkl, if_true, Option.getD_some]
        exact Nat.xor_lt_two_pow (n := 8) hb2 pr2
      · rw [if_neg hij, ← List.getD_eq_getElem?_getD]
        exact Bb.natsOf_lt _ _
    have hcell2 := (HBB1.out.cell j hkl2).trans (by rw [hc] : _ = some (Value.int .u8 ((c : Nat) : Int)))
    have hfro2 := HBB1.out.frozen j hkl2
    have hx4 : Go.bits .xor .u8 ((c : Nat) : Int) ((2 : Int) ^ q) = ((c ^^^ 2 ^ q : Nat) : Int) := by have e := Go.u8_xor_nat c (2 ^ q) hc2 pq2; rw [Int.natCast_pow] at e; exact e
    have HBB2 := Aside0.mk (show Bb.BB ((W2.setCell ⟨g, i, none⟩ (.int .u8 ((b ^^^ 2 ^ r : Nat) : Int))).setCell ⟨g, j, none⟩ (.int .u8 ((c ^^^ 2 ^ q : Nat) : Int))) g (flipAt (flipAt (Bb.natsOf z) i r) j q) by
      conv => arg 3; unfold flipAt
      rw [show (List.set (Bb.natsOf z) i ((Bb.natsOf z).getD i 0 ^^^ 2 ^ r)) = flipAt (Bb.natsOf z) i r from rfl, hc]
      exact HBB1.out.set j (c ^^^ 2 ^ q))
    have HBL2 := Aside0.mk (below_set (j := j) (v := .int .u8 ((c ^^^ 2 ^ q : Nat) : Int)) HBL1.out HGE.out)
    have kt := fun n => HBB2.out.text n
    rw [HFL.out, HFL.out, Bb.natsOf_length] at kt
    clear hc
    go_wp2_with fail
    clear kt
    refine (check_Strip.calls _ u false _ (LaidG.far HG.out HBL2.out) HU.out).mono ?_
    rintro e w6 ⟨rfl, hb6⟩
    have HB6 := Aside0.mk (below_step HBL2.out hb6)
    clear hb6
    go_wp2
    go_ret
    exact ⟨rfl, HB6.out⟩


end Go.Proofs.YtffhepaldaoleaaDoor.PCheckBits
