-- Written by a program of this session (see NOTES.md), which reads the translation's print; Lean checks it.
import Derived.Test.YtcginknabpgjnaaDoorPFrameTagsx0
import Derived.Test.YtcginknabpgjnaaDoorPFrameTagsx3
namespace Go.Proofs.YtcginknabpgjnaaDoor.PFrameTags
open Go.RowKit Go.Proofs.YtcginknabpgjnaaDoorW.PrintWords Go.Proofs.YtcginknabpgjnaaDoorW.PrintLast Go.Proofs.YtcginknabpgjnaaDoorW.PrintMore
attribute [local go_sem] max2_int min2_int max_two min_two max_three min_three max_four min_four   -- for this text's walks alone
set_option linter.unusedVariables false
set_option linter.unusedSimpArgs false

/-! ### check_Of: function 36 -/
/-- The table lies in the world. -/
def LaidG (w : World) : Prop := ∀ k : Nat, k < 16 → w.cell? ⟨0, k, none⟩ = some (.int .u16 ((Crc.crcTab k : Nat) : Int))
theorem LaidG.far {w W : World} (h : LaidG w) (hb : Below w.heap.size w W) : LaidG W := fun k hk => (hb.cell (World.block_lt_of_cell? w _ (h k hk))).trans (h k hk)
theorem LaidG.drewN {w : World} (h : LaidG w) (n : Nat) : LaidG (w.drewN n) := h
theorem half_ix (c h : Nat) (hc : c < 65536) (hh : h < 16) : ∃ ix : Nat, Go.bits .xor .u8 (((c : Nat) : Int) / 4096) ((h : Nat) : Int) = (ix : Int) ∧ ix < 16 ∧
    Go.bits .xor .u16 (IntKind.u16.wrap (((c : Nat) : Int) * 16)) ((Crc.crcTab ix : Nat) : Int) = ((Crc.crcHalf c h : Nat) : Int) := by
  refine ⟨c / 4096 ^^^ h, ?_, Nat.xor_lt_two_pow (n := 4) (by omega) (by omega), ?_⟩
  · rw [show ((c : Nat) : Int) / 4096 = ((c / 4096 : Nat) : Int) from by omega, Go.u8_xor_nat _ _ (by omega) (by omega)]
  · rw [show IntKind.u16.wrap (((c : Nat) : Int) * 16) = ((c * 16 % 65536 : Nat) : Int) from by rw [IntKind.wrap_u16]; omega, Go.u16_xor_nat _ _ (by omega) (Crc.crcTab_lt _)]
    rfl
def check_Of.f (a0 : ByteArray) : Option Int := if a0.size ≤ 140737488351232 then some ((Crc.crcOn 65535 a0.data.toList : Nat) : Int) else none
set_option maxHeartbeats 2000000 in
set_option maxRecDepth 100000 in
theorem check_Of.calls (a0 : ByteArray) (r : Int) (w : World) (hG : LaidG w) (h : check_Of.f a0 = some r) :
    Calls Tryd.prog 36 #[.string a0] w fun e w' => e = .returned (.int .i64 r) ∧ Drawn0 w w' := by
  unfold check_Of.f at h
  have hs : a0.size ≤ 140737488351232 := by
    by_cases hs : a0.size ≤ 140737488351232
    · exact hs
    · rw [if_neg hs] at h; cases h
  rw [if_pos hs] at h
  obtain rfl := Option.some.inj h
  clear h
  have HG := Aside0.mk hG
  clear hG
  go_enter Tryd.func36, Tryd.ntmps36
  go_wp2
  go_loopw [3, 9] (fun v3 v9 wr => ∃ (k c : Nat), k ≤ a0.size ∧ v9 = .int .i64 (k : Nat) ∧ v3 = .int .u16 (c : Nat) ∧ c < 65536 ∧ Aside0 (c = Crc.crcOn 65535 (a0.data.toList.take k)) ∧ Aside0 (Drawn0 w wr)) (fun _ v9 _ => a0.size - (intOf v9).toNat)
  case atStart => exact ⟨0, 65535, Nat.zero_le _, rfl, rfl, by decide, ⟨rfl⟩, ⟨Drawn0.refl _⟩⟩
  case round =>
    obtain ⟨k, c, hk, rfl, rfl, hc, HC, HD⟩ := hrel
    by_cases hlt : k < a0.size
    · go_wp2
      have hand : Go.bits .and .u8 ((a0[k].toNat : Nat) : Int) 15 = ((a0[k].toNat % 16 : Nat) : Int) := by
        have e := Go.u8_and_nat a0[k].toNat 15 (UInt8.toNat_lt _) (by decide)
        rw [show ((15 : Nat) : Int) = 15 from rfl] at e
        rw [e, Nat.and_two_pow_sub_one_eq_mod _ 4]
      go_quiet (fail)
      obtain ⟨b, hb, HB⟩ : ∃ b : Nat, b = a0[k].toNat ∧ b < 256 := ⟨_, rfl, UInt8.toNat_lt _⟩
      rw [← hb]
      obtain ⟨x, hx, HX⟩ : ∃ x : Nat, ((b : Nat) : Int) / 16 = (x : Int) ∧ x = b / 16 := ⟨b / 16, by omega, rfl⟩
      obtain ⟨y, hy, HY⟩ : ∃ y : Nat, ((b : Nat) : Int) % 16 = (y : Int) ∧ y = b % 16 := ⟨b % 16, by omega, rfl⟩
      rw [hx, hy]
      have HL := Aside0.mk (show Crc.crcOn 65535 (a0.data.toList.take (k + 1)) = Crc.crcHalf (Crc.crcHalf c x) y by
        rw [List.take_succ_eq_append_getElem (by simpa using hlt), Crc.crcOn_snoc, ← HC.out, HX, HY, hb]; rfl)
      have hx16 : x < 16 := by omega
      have hy16 : y < 16 := by omega
      clear hand hb hx hy HX HY HB HC
      have i0 : ∀ w, (Instr.index 65 (.agg #[.int .u8 (x : Int), .int .u8 (y : Int)]) (.int .i64 0)).run Tryd.prog w = .ok (.int .u8 (x : Int)) w := fun _ => by kernel_rfl
      have i1 : ∀ w, (Instr.index 65 (.agg #[.int .u8 (x : Int), .int .u8 (y : Int)]) (.int .i64 1)).run Tryd.prog w = .ok (.int .u8 (y : Int)) w := fun _ => by kernel_rfl
      have HG1 := Aside0.mk (LaidG.far HG.out (HD.out.below))
      have HD1 : Aside0 (Drawn0 w (wr.drewN nq)) := ⟨by first | exact Drawn0.step HD.out | (obtain ⟨⟨n, hn⟩⟩ := HD.out; subst hn; exact ⟨⟨_, World.drewN_drewN _ _ _⟩⟩)⟩
      go_wp2
      go_loop [3, 21] (fun v3 v21 => ∃ (j c1 : Nat), (j = 0 ∧ c1 = c ∨ j = 1 ∧ c1 = Crc.crcHalf c x ∨ j = 2 ∧ c1 = Crc.crcHalf (Crc.crcHalf c x) y) ∧ v21 = .int .i64 (j : Nat) ∧ v3 = .int .u16 (c1 : Nat)) (fun _ v21 => 2 - (intOf v21).toNat)
      case atStart => exact ⟨0, c, .inl ⟨rfl, rfl⟩, rfl, rfl⟩
      case round =>
        obtain ⟨j, c1, hj, rfl, rfl⟩ := hrel
        rcases hj with ⟨rfl, rfl⟩ | ⟨rfl, hc1⟩ | ⟨rfl, hc1⟩
        · obtain ⟨ix, hix, hix2, hixe⟩ := half_ix c1 x (by first | exact hc | exact Crc.crcHalf_lt _ _) hx16
          have hcell := HG1.out ix hix2
          go_wp2
          go_round
          case rel => exact ⟨1, _, .inr (.inl ⟨rfl, rfl⟩), rfl, rfl⟩
          case measure => simp [intOf]
        · have hc1l : c1 < 65536 := by rw [hc1]; exact Crc.crcHalf_lt _ _
          obtain ⟨ix, hix, hix2, hixe⟩ := half_ix c1 y hc1l hy16
          have HC1 := Aside0.mk hc1
          clear hc1
          have hcell := HG1.out ix hix2
          go_wp2
          go_round
          case rel => exact ⟨2, _, .inr (.inr ⟨rfl, by rw [HC1.out]⟩), rfl, rfl⟩
          case measure => simp [intOf]
        · have HC1 := Aside0.mk hc1
          have hc1l : c1 < 65536 := by rw [hc1]; exact Crc.crcHalf_lt _ _
          clear hc1
          go_wp2
          go_roundw
          case rel => exact ⟨k + 1, c1, by omega, by go_num, rfl, hc1l, ⟨by rw [HL.out, HC1.out]⟩, HD1⟩
          case measure => simp [intOf]; omega
    · go_wp2
      go_ret
      have hk2 : a0.data.toList.take k = a0.data.toList := List.take_of_length_le (by simp; omega)
      exact ⟨congrArg (fun n : Nat => Ending.returned (Value.int IntKind.i64 (n : Int))) (by have e := HC.out; rw [hk2] at e; first | exact e | rfl), HD.out⟩


/-! ### check_Seal: function 20 -/
def check_Seal.f (a0 : ByteArray) : Option (ByteArray) := (check_Of.f a0).bind fun t108 => ((some (([(t108 / 256) % 256, (t108) % 256] : List Int) : List Int)).bind fun y109 => (if a0.size + (strOfNums y109).size ≤ 9223372036854775807 then (some (a0 ++ (strOfNums y109))) else (none)))
set_option maxHeartbeats 8000000 in
set_option maxRecDepth 100000 in
theorem check_Seal.calls (a0 : ByteArray) (r : ByteArray) (w : World) (hG : LaidG w) (h : check_Seal.f a0 = some r) :
    Calls Tryd.prog 20 #[.string a0] w fun e w' => e = .returned (.string r) ∧ Below w.heap.size w w' := by
  have HB := Aside0.mk (Below.refl w.heap.size w)
  have HG := Aside0.mk hG
  clear hG
  have H : ((check_Of.f a0).bind fun t108 => ((some (([(t108 / 256) % 256, (t108) % 256] : List Int) : List Int)).bind fun y109 => (if a0.size + (strOfNums y109).size ≤ 9223372036854775807 then (some (a0 ++ (strOfNums y109))) else (none)))) = some r := h
  clear h
  replace H := Option.bind_eq_some_iff.mp H
  obtain ⟨t108, A20, H⟩ := H
  replace H : ((some (([(t108 / 256) % 256, (t108) % 256] : List Int) : List Int)).bind fun y109 => (if a0.size + (strOfNums y109).size ≤ 9223372036854775807 then (some (a0 ++ (strOfNums y109))) else (none))) = some r := H
  have A2 := Aside0.mk A20
  clear A20
  obtain ⟨y109, hy109⟩ : ∃ y_ : List Int, y_ = (([(t108 / 256) % 256, (t108) % 256] : List Int)) := ⟨_, rfl⟩
  replace H : (if a0.size + (strOfNums y109).size ≤ 9223372036854775807 then (some (a0 ++ (strOfNums y109))) else (none)) = some r := by first | (rw [hy109]; with_reducible exact H) | (have H2_ := (Option.bind_some _ _).symm.trans H; rw [hy109]; with_reducible exact H2_) | (have H2_ := (Option.bind_some _ _).symm.trans H; with_reducible exact H2_) | with_reducible exact H | (rw [hy109]; exact H) | exact H
  have Ny109 := Aside0.mk hy109
  clear hy109
  by_cases c3 : a0.size + (strOfNums y109).size ≤ 9223372036854775807
  · rw [if_pos c3] at H
    have c3b0 := eq_true c3
    have c3b1 : decide (a0.size + (strOfNums y109).size ≤ 9223372036854775807) = true := decide_eq_true c3
    try have c3b2 : (9223372036854775807 < a0.size + (strOfNums y109).size) = False := eq_false (Nat.not_lt.2 c3)
    obtain rfl := Option.some.inj H
    go_enter Tryd.func20, Tryd.ntmps20
    go_wp2_with (first | ((with_reducible refine gate_callee (f := 36) rfl ?_); refine goesL_ (some 5) rfl rfl Tryd.func36 (by kernel_rfl) rfl #[.string a0] rfl (by (try simp only [List.map_toArray, List.map_cons, List.map_nil]); first | done | rfl | (simp only [List.length_drop, List.length_take]; rfl)) ?_; (with_reducible refine (check_Of.calls a0 t108 _ (LaidG.far HG.out ?side1) A2.out).mono ?_); (case side1 => first | ((repeat (first | (with_reducible first | exact HB.out | apply below_alloc | apply pw_below_drewN | apply below_drew1) | exact HB.out)); done) | ((repeat (first | exact HB.out | exact Below.refl _ _ | apply below_alloc | apply pw_below_drewN | apply below_drew1)); done)); rintro e w' ⟨rfl, ⟨nd, rfl⟩⟩; refine ⟨_, rfl, ?_⟩) | ((with_reducible refine gate_dst (N := 12) rfl ?_); refine Kd.R_lit (Kd.int .u8) _ 5 ?hg (N := 12) ?hd (xs := ([(t108 / 256) % 256, (t108) % 256] : List Int)) (inner := [.int .u8 ((t108 / 256) % 256), .int .u8 ((t108) % 256)]) (ok := fun _ => True) (okp := fun _ => True) ?hr ?hp (fun _ hk => hk) trivial (Below.refl _ _) (Nat.le_refl _) (by simp) ?_; (case hd => rfl); (case hg => rfl); (case hr => first | (go_simp; done) | (go_simp; rfl)); (case hp => exact (Reps.one (show Kd.M (Kd.int .u8) _ _ _ ((t108 / 256) % 256) [.int .u8 ((t108 / 256) % 256)] from rfl) (Reps.one (show Kd.M (Kd.int .u8) _ _ _ ((t108) % 256) [.int .u8 ((t108) % 256)] from rfl) (Reps.none _ _)))); intro v110 w4 ho5 hb hg_ hnew_; clear hg_ hnew_; (first | rw [← Ny109.out] at ho5 | (simp only [Int.reduceToNat] at ho5; rw [← Ny109.out] at ho5)); have n0_ := Aside0.mk (Kd.R_lower ho5 (below_size (by repeat (first | (with_reducible first | exact HB.out | apply below_alloc | apply pw_below_drewN | apply below_drew1) | exact HB.out)))); have n1_ := Aside0.mk (below_step (by repeat (first | (with_reducible first | exact HB.out | apply below_alloc | apply pw_below_drewN | apply below_drew1) | exact HB.out)) hb); clear HB; have HO111 := n0_; have HB := n1_; clear n0_ n1_; clear hb ho5; have hcv6 := own_string (P := Tryd.prog) Tryd.underlying34 Tryd.underlying5 Tryd.underlying9 (Kd.own_of_R HO111.out)))
    go_ret
    exact ⟨by first | rfl | (simp [show ∀ l_ : List UInt8, (l_ == []) = l_.isEmpty from fun l_ => by cases l_ <;> rfl]; done) | (simp [errW_none, errW_some] <;> rfl) | ((repeat rw [Int.tdiv_eq_ediv_of_nonneg (by omega)]); (repeat rw [Int.tmod_eq_emod_of_nonneg (by omega)]); first | rfl | (simp [errW_none, errW_some] <;> rfl)) | (simp [*, errW_none, errW_some] <;> rfl), by repeat (first | (with_reducible first | exact HB.out | apply below_alloc | apply pw_below_drewN | apply below_drew1) | exact HB.out)⟩
  · rw [if_neg c3] at H
    exact absurd H (by simp)

-- NOT PRINTED: function 21 (octet_Writer_Text)

/-! ### frame_Bytes: function 10 -/
/-- A frame's bytes ahead of the sum. -/
def frameHead (a0_0 a0_1 : Int) (a0_2 : Bool) (a0_3 a0_4 : Int) : ByteArray :=
  if a0_2 = true then ((((⟨#[]⟩ : ByteArray) ++ Wr.numOf 6 a0_0) ++ Wr.numOf 6 a0_1) ++ Wr.numOf 2 33024) ++ Wr.numOf 2 (Go.bits .or .i64 (wrap64 (a0_4 * 8192)) a0_3) else ((⟨#[]⟩ : ByteArray) ++ Wr.numOf 6 a0_0) ++ Wr.numOf 6 a0_1
def frameText (a0_0 a0_1 : Int) (a0_2 : Bool) (a0_3 a0_4 a0_5 : Int) (a0_6 : ByteArray) : ByteArray :=
  (if (a0_5 == 0) = true then (frameHead a0_0 a0_1 a0_2 a0_3 a0_4 ++ Wr.numOf 2 (3 + (a0_6.size : Int))) ++ (⟨#[66, 66, 3]⟩ : ByteArray) else frameHead a0_0 a0_1 a0_2 a0_3 a0_4 ++ Wr.numOf 2 a0_5) ++ a0_6
def frame_Bytes.f (k : Nat) (a0_0 a0_1 : Int) (a0_2 : Bool) (a0_3 a0_4 a0_5 : Int) (a0_6 : ByteArray) : Option (ByteArray × Int) :=
  (frame_Good.f k a0_0 a0_1 a0_2 a0_3 a0_4 a0_5 a0_6).bind fun t => if t = true then (if a0_6.size ≤ 1000000 then (check_Seal.f (frameText a0_0 a0_1 a0_2 a0_3 a0_4 a0_5 a0_6)).bind fun z => some (z, 0) else none) else some ((⟨#[]⟩ : ByteArray), 1)
theorem LeO_of {α : Type} {o o' : Option α} (h : LeO o o') {r : α} (e : o = some r) : o' = some r := h r e
theorem frame_Bytes.mono : ∀ a0 a1 a2 a3 a4 a5 a6 k, LeO (frame_Bytes.f k a0 a1 a2 a3 a4 a5 a6) (frame_Bytes.f (k + 1) a0 a1 a2 a3 a4 a5 a6) := by
  intro a0 a1 a2 a3 a4 a5 a6 k
  unfold frame_Bytes.f
  exact LeO.bind (frame_Good.mono _ _ _ _ _ _ _ _) (fun _ => LeO.refl _)
set_option maxHeartbeats 8000000 in
set_option maxRecDepth 100000 in
theorem frame_Bytes.calls (k : Nat) (a0_0 : Int) (a0_1 : Int) (a0_2 : Bool) (a0_3 : Int) (a0_4 : Int) (a0_5 : Int) (a0_6 : ByteArray) (r1 : ByteArray) (r2 : Int) (w : World) (hG : LaidG w) (h : frame_Bytes.f k a0_0 a0_1 a0_2 a0_3 a0_4 a0_5 a0_6 = some (r1, r2)) :
    Calls Tryd.prog 10 #[.agg #[.int .i64 a0_0, .int .i64 a0_1, .bool a0_2, .int .i64 a0_3, .int .i64 a0_4, .int .i64 a0_5, .string a0_6]] w fun e w' => e = .returned (.tuple #[.string r1, .int .i64 r2]) ∧ Below w.heap.size w w' := by
  have HG := Aside0.mk hG
  clear hG
  unfold frame_Bytes.f at h
  obtain ⟨t, ht, h⟩ := Option.bind_eq_some_iff.mp h
  have hu := Tryd.underlying23
  have HT := Aside0.mk ht
  clear ht
  cases t with
  | false =>
    rw [if_neg (by decide)] at h
    simp only [Option.some.injEq, Prod.mk.injEq] at h
    obtain ⟨rfl, rfl⟩ := h
    go_enter Tryd.func10, Tryd.ntmps10
    go_wp2_with fail
    refine (frame_Good.calls k _ _ _ _ _ _ _ false _ HT.out).mono ?_
    rintro e w1 ⟨rfl, hb⟩
    go_wp2
    go_ret2
    exact ⟨rfl, below_then (below_alloc (Below.refl _ _) _) (by simp) hb⟩
  | true =>
    rw [if_pos rfl] at h
    have hsz : a0_6.size ≤ 1000000 := by
      by_cases hs : a0_6.size ≤ 1000000
      · exact hs
      · rw [if_neg hs] at h; cases h
    rw [if_pos hsz] at h
    obtain ⟨z, hz, h⟩ := Option.bind_eq_some_iff.mp h
    simp only [Option.some.injEq, Prod.mk.injEq] at h
    obtain ⟨rfl, rfl⟩ := h
    have HZ := Aside0.mk hz
    clear hz
    have hw3 : wrap64 (3 + (a0_6.size : Int)) = 3 + (a0_6.size : Int) := by unfold wrap64; omega
    by_cases hty : (a0_5 == 0) = true
    · cases a0_2 with
      | false =>
        go_enter Tryd.func10, Tryd.ntmps10
        go_wp2_with fail
        refine (frame_Good.calls k _ _ _ _ _ _ _ true _ HT.out).mono ?_
        rintro e w1 ⟨rfl, hb⟩
        have hX : w1.heap[w.heap.size]? = some (.cells #[.int .i64 a0_0, .int .i64 a0_1, .bool false, .int .i64 a0_3, .int .i64 a0_4, .int .i64 a0_5, .string a0_6] 23 (0, 0)) := blk_below (heap_alloc_new w _) hb
        have hB : Below w.heap.size w w1 := below_then (below_alloc (Below.refl _ _) _) (by simp) hb
        have hlt := blk_lt hX
        have q0 := (blk_cell hX 0).trans rfl
        have q1 := (blk_cell hX 1).trans rfl
        have q2 := (blk_cell hX 2).trans rfl
        have q3 := (blk_cell hX 3).trans rfl
        have q4 := (blk_cell hX 4).trans rfl
        have q5 := (blk_cell hX 5).trans rfl
        have q6 := (blk_cell hX 6).trans rfl
        have HX := Aside0.mk hX
        have HB := Aside0.mk hB
        clear hX hB hb
        go_wp2_with fail
        have HW0 := Aside0.mk (Wr.WS.new HB.out (Nat.le_of_lt hlt))
        have HX2 := Aside0.mk (blk_alloc HX.out (.cells #[.slice none 0 0] 44))
        have hne : w.heap.size ≠ w1.heap.size := Nat.ne_of_lt hlt
        obtain ⟨w2, hw2⟩ : ∃ w2, w2 = w1.alloc (.cells #[.slice none 0 0] 44) := ⟨_, rfl⟩
        rw [← hw2] at HW0 HX2 ⊢
        clear hw2 HB HX q0 q1 q2 q3 q4 q5 q6
        refine (Wr.put_ws _ _ HW0 (by omega)).mono ?_
        rintro e wx1 ⟨rfl, HW1⟩
        have q1_ := (blk_cell (Wr.WS.blk HW1 HX2.out hne (by decide)) 1).trans rfl
        clear HW0
        go_wp2_with fail
        clear q1_
        refine (Wr.put_ws _ _ HW1 (by omega)).mono ?_
        rintro e wx2 ⟨rfl, HW2⟩
        have q2_ := (blk_cell (Wr.WS.blk HW2 HX2.out hne (by decide)) 2).trans rfl
        have q5_ := (blk_cell (Wr.WS.blk HW2 HX2.out hne (by decide)) 5).trans rfl
        have q6_ := (blk_cell (Wr.WS.blk HW2 HX2.out hne (by decide)) 6).trans rfl
        clear HW1
        go_wp2_with fail
        clear q2_
        clear q5_
        clear q6_
        refine (Wr.put_ws _ _ HW2 (by omega)).mono ?_
        rintro e wx3 ⟨rfl, HW3⟩
        clear HW2
        go_wp2_with fail
        refine (Wr.raw_ws ⟨#[66, 66, 3]⟩ 3 HW3 (by first | omega | decide) (by omega)).mono ?_
        rintro e wx4 ⟨rfl, HW4⟩
        have q6_ := (blk_cell (Wr.WS.blk HW4 HX2.out hne (by decide)) 6).trans rfl
        clear HW3
        go_wp2_with fail
        clear q6_
        refine (Wr.raw_ws a0_6 1000000 HW4 (by first | omega | decide) (by omega)).mono ?_
        rintro e wx5 ⟨rfl, HW5⟩
        clear HW4
        go_wp2_with fail
        refine (Wr.text_ws HW5).mono ?_
        rintro e wy ⟨rfl, rfl⟩
        go_wp2_with fail
        refine (check_Seal.calls _ z _ (LaidG.far HG.out HW5.out.below) (by first | exact HZ.out | (have e := HZ.out; unfold frameText frameHead at e; simpa [hty] using e))).mono ?_
        rintro e wz ⟨rfl, hb⟩
        go_wp2
        go_ret2
        exact ⟨rfl, below_step HW5.out.below hb⟩
      | true =>
        go_enter Tryd.func10, Tryd.ntmps10
        go_wp2_with fail
        refine (frame_Good.calls k _ _ _ _ _ _ _ true _ HT.out).mono ?_
        rintro e w1 ⟨rfl, hb⟩
        have hX : w1.heap[w.heap.size]? = some (.cells #[.int .i64 a0_0, .int .i64 a0_1, .bool true, .int .i64 a0_3, .int .i64 a0_4, .int .i64 a0_5, .string a0_6] 23 (0, 0)) := blk_below (heap_alloc_new w _) hb
        have hB : Below w.heap.size w w1 := below_then (below_alloc (Below.refl _ _) _) (by simp) hb
        have hlt := blk_lt hX
        have q0 := (blk_cell hX 0).trans rfl
        have q1 := (blk_cell hX 1).trans rfl
        have q2 := (blk_cell hX 2).trans rfl
        have q3 := (blk_cell hX 3).trans rfl
        have q4 := (blk_cell hX 4).trans rfl
        have q5 := (blk_cell hX 5).trans rfl
        have q6 := (blk_cell hX 6).trans rfl
        have HX := Aside0.mk hX
        have HB := Aside0.mk hB
        clear hX hB hb
        go_wp2_with fail
        have HW0 := Aside0.mk (Wr.WS.new HB.out (Nat.le_of_lt hlt))
        have HX2 := Aside0.mk (blk_alloc HX.out (.cells #[.slice none 0 0] 44))
        have hne : w.heap.size ≠ w1.heap.size := Nat.ne_of_lt hlt
        obtain ⟨w2, hw2⟩ : ∃ w2, w2 = w1.alloc (.cells #[.slice none 0 0] 44) := ⟨_, rfl⟩
        rw [← hw2] at HW0 HX2 ⊢
        clear hw2 HB HX q0 q1 q2 q3 q4 q5 q6
        refine (Wr.put_ws _ _ HW0 (by omega)).mono ?_
        rintro e wx1 ⟨rfl, HW1⟩
        have q1_ := (blk_cell (Wr.WS.blk HW1 HX2.out hne (by decide)) 1).trans rfl
        clear HW0
        go_wp2_with fail
        clear q1_
        refine (Wr.put_ws _ _ HW1 (by omega)).mono ?_
        rintro e wx2 ⟨rfl, HW2⟩
        have q2_ := (blk_cell (Wr.WS.blk HW2 HX2.out hne (by decide)) 2).trans rfl
        clear HW1
        go_wp2_with fail
        clear q2_
        refine (Wr.put_ws _ _ HW2 (by omega)).mono ?_
        rintro e wx3 ⟨rfl, HW3⟩
        have q3_ := (blk_cell (Wr.WS.blk HW3 HX2.out hne (by decide)) 3).trans rfl
        have q4_ := (blk_cell (Wr.WS.blk HW3 HX2.out hne (by decide)) 4).trans rfl
        clear HW2
        go_wp2_with fail
        clear q3_
        clear q4_
        refine (Wr.put_ws _ _ HW3 (by omega)).mono ?_
        rintro e wx4 ⟨rfl, HW4⟩
        have q5_ := (blk_cell (Wr.WS.blk HW4 HX2.out hne (by decide)) 5).trans rfl
        have q6_ := (blk_cell (Wr.WS.blk HW4 HX2.out hne (by decide)) 6).trans rfl
        clear HW3
        go_wp2_with fail
        clear q5_
        clear q6_
        refine (Wr.put_ws _ _ HW4 (by omega)).mono ?_
        rintro e wx5 ⟨rfl, HW5⟩
        clear HW4
        go_wp2_with fail
        refine (Wr.raw_ws ⟨#[66, 66, 3]⟩ 3 HW5 (by first | omega | decide) (by omega)).mono ?_
        rintro e wx6 ⟨rfl, HW6⟩
        have q6_ := (blk_cell (Wr.WS.blk HW6 HX2.out hne (by decide)) 6).trans rfl
        clear HW5
        go_wp2_with fail
        clear q6_
        refine (Wr.raw_ws a0_6 1000000 HW6 (by first | omega | decide) (by omega)).mono ?_
        rintro e wx7 ⟨rfl, HW7⟩
        clear HW6
        go_wp2_with fail
        refine (Wr.text_ws HW7).mono ?_
        rintro e wy ⟨rfl, rfl⟩
        go_wp2_with fail
        refine (check_Seal.calls _ z _ (LaidG.far HG.out HW7.out.below) (by first | exact HZ.out | (have e := HZ.out; unfold frameText frameHead at e; simpa [hty] using e))).mono ?_
        rintro e wz ⟨rfl, hb⟩
        go_wp2
        go_ret2
        exact ⟨rfl, below_step HW7.out.below hb⟩
    · have hty : (a0_5 == 0) = false := Bool.eq_false_iff.mpr hty
      cases a0_2 with
      | false =>
        go_enter Tryd.func10, Tryd.ntmps10
        go_wp2_with fail
        refine (frame_Good.calls k _ _ _ _ _ _ _ true _ HT.out).mono ?_
        rintro e w1 ⟨rfl, hb⟩
        have hX : w1.heap[w.heap.size]? = some (.cells #[.int .i64 a0_0, .int .i64 a0_1, .bool false, .int .i64 a0_3, .int .i64 a0_4, .int .i64 a0_5, .string a0_6] 23 (0, 0)) := blk_below (heap_alloc_new w _) hb
        have hB : Below w.heap.size w w1 := below_then (below_alloc (Below.refl _ _) _) (by simp) hb
        have hlt := blk_lt hX
        have q0 := (blk_cell hX 0).trans rfl
        have q1 := (blk_cell hX 1).trans rfl
        have q2 := (blk_cell hX 2).trans rfl
        have q3 := (blk_cell hX 3).trans rfl
        have q4 := (blk_cell hX 4).trans rfl
        have q5 := (blk_cell hX 5).trans rfl
        have q6 := (blk_cell hX 6).trans rfl
        have HX := Aside0.mk hX
        have HB := Aside0.mk hB
        clear hX hB hb
        go_wp2_with fail
        have HW0 := Aside0.mk (Wr.WS.new HB.out (Nat.le_of_lt hlt))
        have HX2 := Aside0.mk (blk_alloc HX.out (.cells #[.slice none 0 0] 44))
        have hne : w.heap.size ≠ w1.heap.size := Nat.ne_of_lt hlt
        obtain ⟨w2, hw2⟩ : ∃ w2, w2 = w1.alloc (.cells #[.slice none 0 0] 44) := ⟨_, rfl⟩
        rw [← hw2] at HW0 HX2 ⊢
        clear hw2 HB HX q0 q1 q2 q3 q4 q5 q6
        refine (Wr.put_ws _ _ HW0 (by omega)).mono ?_
        rintro e wx1 ⟨rfl, HW1⟩
        have q1_ := (blk_cell (Wr.WS.blk HW1 HX2.out hne (by decide)) 1).trans rfl
        clear HW0
        go_wp2_with fail
        clear q1_
        refine (Wr.put_ws _ _ HW1 (by omega)).mono ?_
        rintro e wx2 ⟨rfl, HW2⟩
        have q2_ := (blk_cell (Wr.WS.blk HW2 HX2.out hne (by decide)) 2).trans rfl
        have q5_ := (blk_cell (Wr.WS.blk HW2 HX2.out hne (by decide)) 5).trans rfl
        have q6_ := (blk_cell (Wr.WS.blk HW2 HX2.out hne (by decide)) 6).trans rfl
        clear HW1
        go_wp2_with fail
        clear q2_
        clear q5_
        clear q6_
        refine (Wr.put_ws _ _ HW2 (by omega)).mono ?_
        rintro e wx3 ⟨rfl, HW3⟩
        have q6_ := (blk_cell (Wr.WS.blk HW3 HX2.out hne (by decide)) 6).trans rfl
        clear HW2
        go_wp2_with fail
        clear q6_
        refine (Wr.raw_ws a0_6 1000000 HW3 (by first | omega | decide) (by omega)).mono ?_
        rintro e wx4 ⟨rfl, HW4⟩
        clear HW3
        go_wp2_with fail
        refine (Wr.text_ws HW4).mono ?_
        rintro e wy ⟨rfl, rfl⟩
        go_wp2_with fail
        refine (check_Seal.calls _ z _ (LaidG.far HG.out HW4.out.below) (by first | exact HZ.out | (have e := HZ.out; unfold frameText frameHead at e; simpa [hty] using e))).mono ?_
        rintro e wz ⟨rfl, hb⟩
        go_wp2
        go_ret2
        exact ⟨rfl, below_step HW4.out.below hb⟩
      | true =>
        go_enter Tryd.func10, Tryd.ntmps10
        go_wp2_with fail
        refine (frame_Good.calls k _ _ _ _ _ _ _ true _ HT.out).mono ?_
        rintro e w1 ⟨rfl, hb⟩
        have hX : w1.heap[w.heap.size]? = some (.cells #[.int .i64 a0_0, .int .i64 a0_1, .bool true, .int .i64 a0_3, .int .i64 a0_4, .int .i64 a0_5, .string a0_6] 23 (0, 0)) := blk_below (heap_alloc_new w _) hb
        have hB : Below w.heap.size w w1 := below_then (below_alloc (Below.refl _ _) _) (by simp) hb
        have hlt := blk_lt hX
        have q0 := (blk_cell hX 0).trans rfl
        have q1 := (blk_cell hX 1).trans rfl
        have q2 := (blk_cell hX 2).trans rfl
        have q3 := (blk_cell hX 3).trans rfl
        have q4 := (blk_cell hX 4).trans rfl
        have q5 := (blk_cell hX 5).trans rfl
        have q6 := (blk_cell hX 6).trans rfl
        have HX := Aside0.mk hX
        have HB := Aside0.mk hB
        clear hX hB hb
        go_wp2_with fail
        have HW0 := Aside0.mk (Wr.WS.new HB.out (Nat.le_of_lt hlt))
        have HX2 := Aside0.mk (blk_alloc HX.out (.cells #[.slice none 0 0] 44))
        have hne : w.heap.size ≠ w1.heap.size := Nat.ne_of_lt hlt
        obtain ⟨w2, hw2⟩ : ∃ w2, w2 = w1.alloc (.cells #[.slice none 0 0] 44) := ⟨_, rfl⟩
        rw [← hw2] at HW0 HX2 ⊢
        clear hw2 HB HX q0 q1 q2 q3 q4 q5 q6
        refine (Wr.put_ws _ _ HW0 (by omega)).mono ?_
        rintro e wx1 ⟨rfl, HW1⟩
        have q1_ := (blk_cell (Wr.WS.blk HW1 HX2.out hne (by decide)) 1).trans rfl
        clear HW0
        go_wp2_with fail
        clear q1_
        refine (Wr.put_ws _ _ HW1 (by omega)).mono ?_
        rintro e wx2 ⟨rfl, HW2⟩
        have q2_ := (blk_cell (Wr.WS.blk HW2 HX2.out hne (by decide)) 2).trans rfl
        clear HW1
        go_wp2_with fail
        clear q2_
        refine (Wr.put_ws _ _ HW2 (by omega)).mono ?_
        rintro e wx3 ⟨rfl, HW3⟩
        have q3_ := (blk_cell (Wr.WS.blk HW3 HX2.out hne (by decide)) 3).trans rfl
        have q4_ := (blk_cell (Wr.WS.blk HW3 HX2.out hne (by decide)) 4).trans rfl
        clear HW2
        go_wp2_with fail
        clear q3_
        clear q4_
        refine (Wr.put_ws _ _ HW3 (by omega)).mono ?_
        rintro e wx4 ⟨rfl, HW4⟩
        have q5_ := (blk_cell (Wr.WS.blk HW4 HX2.out hne (by decide)) 5).trans rfl
        have q6_ := (blk_cell (Wr.WS.blk HW4 HX2.out hne (by decide)) 6).trans rfl
        clear HW3
        go_wp2_with fail
        clear q5_
        clear q6_
        refine (Wr.put_ws _ _ HW4 (by omega)).mono ?_
        rintro e wx5 ⟨rfl, HW5⟩
        have q6_ := (blk_cell (Wr.WS.blk HW5 HX2.out hne (by decide)) 6).trans rfl
        clear HW4
        go_wp2_with fail
        clear q6_
        refine (Wr.raw_ws a0_6 1000000 HW5 (by first | omega | decide) (by omega)).mono ?_
        rintro e wx6 ⟨rfl, HW6⟩
        clear HW5
        go_wp2_with fail
        refine (Wr.text_ws HW6).mono ?_
        rintro e wy ⟨rfl, rfl⟩
        go_wp2_with fail
        refine (check_Seal.calls _ z _ (LaidG.far HG.out HW6.out.below) (by first | exact HZ.out | (have e := HZ.out; unfold frameText frameHead at e; simpa [hty] using e))).mono ?_
        rintro e wz ⟨rfl, hb⟩
        go_wp2
        go_ret2
        exact ⟨rfl, below_step HW6.out.below hb⟩


/-! ### check_Strip: function 25 -/
def check_Strip.f (a0 : ByteArray) : Option (ByteArray × Bool) := if (wrap64 ((a0.size : Int) - 2)) < 0 then (some ((⟨#[]⟩ : ByteArray), false)) else (if 0 ≤ (wrap64 ((a0.size : Int) - 2)) then (if (wrap64 ((a0.size : Int) - 2)) ≤ (a0.size : Int) then ((check_Seal.f (a0.extract 0 ((wrap64 ((a0.size : Int) - 2)) : Int).toNat)).bind fun t112 => (if t112.toList = a0.toList then (some (a0.extract 0 ((wrap64 ((a0.size : Int) - 2)) : Int).toNat, true)) else (some ((⟨#[]⟩ : ByteArray), false)))) else (none)) else (none))
set_option maxHeartbeats 8000000 in
set_option maxRecDepth 100000 in
theorem check_Strip.calls (a0 : ByteArray) (r1 : ByteArray) (r2 : Bool) (w : World) (hG : LaidG w) (h : check_Strip.f a0 = some (r1, r2)) :
    Calls Tryd.prog 25 #[.string a0] w fun e w' => e = .returned (.tuple #[.string r1, .bool r2]) ∧ Below w.heap.size w w' := by
  have HB := Aside0.mk (Below.refl w.heap.size w)
  have HG := Aside0.mk hG
  clear hG
  have H : (if (wrap64 ((a0.size : Int) - 2)) < 0 then (some ((⟨#[]⟩ : ByteArray), false)) else (if 0 ≤ (wrap64 ((a0.size : Int) - 2)) then (if (wrap64 ((a0.size : Int) - 2)) ≤ (a0.size : Int) then ((check_Seal.f (a0.extract 0 ((wrap64 ((a0.size : Int) - 2)) : Int).toNat)).bind fun t112 => (if t112.toList = a0.toList then (some (a0.extract 0 ((wrap64 ((a0.size : Int) - 2)) : Int).toNat, true)) else (some ((⟨#[]⟩ : ByteArray), false)))) else (none)) else (none))) = some (r1, r2) := h
  clear h
  by_cases c2 : (wrap64 ((a0.size : Int) - 2)) < 0
  · rw [if_pos c2] at H
    have c2b0 : decide ((wrap64 ((a0.size : Int) - 2)) < 0) = true := decide_eq_true c2
    clear c2
    simp only [Option.some.injEq, Prod.mk.injEq] at H
    obtain ⟨rfl, rfl⟩ := H
    go_enter Tryd.func25, Tryd.ntmps25
    go_wp2
    go_ret2
    exact ⟨by first | rfl | (simp [show ∀ l_ : List UInt8, (l_ == []) = l_.isEmpty from fun l_ => by cases l_ <;> rfl]; done) | (simp [errW_none, errW_some] <;> rfl) | ((repeat rw [Int.tdiv_eq_ediv_of_nonneg (by omega)]); (repeat rw [Int.tmod_eq_emod_of_nonneg (by omega)]); first | rfl | (simp [errW_none, errW_some] <;> rfl)) | (simp [*, errW_none, errW_some] <;> rfl), by repeat (first | (with_reducible first | exact HB.out | apply below_alloc | apply pw_below_drewN | apply below_drew1) | exact HB.out)⟩
  · rw [if_neg c2] at H
    have c2b0 : decide ((wrap64 ((a0.size : Int) - 2)) < 0) = false := decide_eq_false c2
    clear c2
    obtain ⟨ji3, hji3⟩ : ∃ j_ : Int, (wrap64 ((a0.size : Int) - 2)) = j_ := ⟨_, rfl⟩
    replace H : (if 0 ≤ (ji3) then (if (ji3) ≤ (a0.size : Int) then ((check_Seal.f (a0.extract 0 ((ji3) : Int).toNat)).bind fun t112 => (if t112.toList = a0.toList then (some (a0.extract 0 ((ji3) : Int).toNat, true)) else (some ((⟨#[]⟩ : ByteArray), false)))) else (none)) else (none)) = some (r1, r2) := by first | (rw [hji3] at H; exact H) | (simp only [hji3] at H ⊢; exact H)
    (try rw [hji3] at c2b0)
    have hji3w : (IntKind.i64.wrap ((a0.size : Int) - 2)) = ji3 := (i64_w _).trans hji3
    by_cases c4 : 0 ≤ (ji3)
    · rw [if_pos c4] at H
      have c4b0 := eq_true c4
      have c4b1 : decide (0 ≤ (ji3)) = true := decide_eq_true c4
      clear c4
      by_cases c5 : (ji3) ≤ (a0.size : Int)
      · rw [if_pos c5] at H
        have c5b0 := eq_true c5
        have c5b1 : decide ((ji3) ≤ (a0.size : Int)) = true := decide_eq_true c5
        clear c5
        replace H := Option.bind_eq_some_iff.mp H
        obtain ⟨t112, A60, H⟩ := H
        replace H : (if t112.toList = a0.toList then (some (a0.extract 0 ((ji3) : Int).toNat, true)) else (some ((⟨#[]⟩ : ByteArray), false))) = some (r1, r2) := H
        have A6 := Aside0.mk A60
        clear A60
        by_cases c7 : t112.toList = a0.toList
        · rw [if_pos c7] at H
          have c7b0 : (t112.toList == a0.toList) = true := beq_iff_eq.mpr c7
          have c7b1 : (t112.toList != a0.toList) = false := bne_eq_false_iff_eq.mpr c7
          clear c7
          have c8b0 := eq_true (of_decide_eq_true (by first | (with_reducible assumption) | assumption) : 0 ≤ (ji3))
          have c9b0 := eq_true (of_decide_eq_true (by first | (with_reducible assumption) | assumption) : (ji3) ≤ (a0.size : Int))
          simp only [Option.some.injEq, Prod.mk.injEq] at H
          obtain ⟨rfl, rfl⟩ := H
          go_enter Tryd.func25, Tryd.ntmps25
          go_wp2_with (first | (go_at_call 20; (with_reducible refine (check_Seal.calls (a0.extract 0 ((ji3) : Int).toNat) t112 _ (LaidG.far HG.out ?side1) A6.out).mono ?_); (case side1 => first | ((repeat (first | (with_reducible first | exact HB.out | apply below_alloc | apply pw_below_drewN | apply below_drew1) | exact HB.out)); done) | ((repeat (first | exact HB.out | exact Below.refl _ _ | apply below_alloc | apply pw_below_drewN | apply below_drew1)); done)); rintro e w10 ⟨rfl, hb⟩; have n0_ := Aside0.mk (below_step (by repeat (first | (with_reducible first | exact HB.out | apply below_alloc | apply pw_below_drewN | apply below_drew1) | exact HB.out)) hb); clear HB; have HB := n0_; clear n0_; (try clear hb); (try clear hb2); (try clear hk); (try clear hi)))
          go_ret2
          exact ⟨by first | rfl | (simp [show ∀ l_ : List UInt8, (l_ == []) = l_.isEmpty from fun l_ => by cases l_ <;> rfl]; done) | (simp [errW_none, errW_some] <;> rfl) | (simp only [← hji3]; first | rfl | (simp [errW_none, errW_some] <;> rfl)) | ((repeat rw [Int.tdiv_eq_ediv_of_nonneg (by omega)]); (repeat rw [Int.tmod_eq_emod_of_nonneg (by omega)]); first | rfl | (simp [errW_none, errW_some] <;> rfl)) | (simp [*, errW_none, errW_some] <;> rfl), by repeat (first | (with_reducible first | exact HB.out | apply below_alloc | apply pw_below_drewN | apply below_drew1) | exact HB.out)⟩
        · rw [if_neg c7] at H
          have c7b0 : (t112.toList == a0.toList) = false := beq_eq_false_iff_ne.mpr c7
          have c7b1 : (t112.toList != a0.toList) = true := bne_iff_ne.mpr c7
          simp only [Option.some.injEq, Prod.mk.injEq] at H
          obtain ⟨rfl, rfl⟩ := H
          go_enter Tryd.func25, Tryd.ntmps25
          go_wp2_with (first | (go_at_call 20; (with_reducible refine (check_Seal.calls (a0.extract 0 ((ji3) : Int).toNat) t112 _ (LaidG.far HG.out ?side1) A6.out).mono ?_); (case side1 => first | ((repeat (first | (with_reducible first | exact HB.out | apply below_alloc | apply pw_below_drewN | apply below_drew1) | exact HB.out)); done) | ((repeat (first | exact HB.out | exact Below.refl _ _ | apply below_alloc | apply pw_below_drewN | apply below_drew1)); done)); rintro e w11 ⟨rfl, hb⟩; have n0_ := Aside0.mk (below_step (by repeat (first | (with_reducible first | exact HB.out | apply below_alloc | apply pw_below_drewN | apply below_drew1) | exact HB.out)) hb); clear HB; have HB := n0_; clear n0_; (try clear hb); (try clear hb2); (try clear hk); (try clear hi)))
          go_ret2
          exact ⟨by first | rfl | (simp [show ∀ l_ : List UInt8, (l_ == []) = l_.isEmpty from fun l_ => by cases l_ <;> rfl]; done) | (simp [errW_none, errW_some] <;> rfl) | (simp only [← hji3]; first | rfl | (simp [errW_none, errW_some] <;> rfl)) | ((repeat rw [Int.tdiv_eq_ediv_of_nonneg (by omega)]); (repeat rw [Int.tmod_eq_emod_of_nonneg (by omega)]); first | rfl | (simp [errW_none, errW_some] <;> rfl)) | (simp [*, errW_none, errW_some] <;> rfl), by repeat (first | (with_reducible first | exact HB.out | apply below_alloc | apply pw_below_drewN | apply below_drew1) | exact HB.out)⟩
      · rw [if_neg c5] at H
        exact absurd H (by simp)
    · rw [if_neg c4] at H
      exact absurd H (by simp)

/-- A state of type 62 at block g of W; what its slices lead to came in by w0. -/
def IsS62 (w0 W : World) (g : Nat) (f0 : ByteArray) (f1 : Int) (f2 : Int) : Prop := W.heap[g]? = some (.cells #[.string f0, .int .i64 f1, .int .i64 f2] 62 (0, 0)) ∧ w0.heap.size ≤ g
theorem IsS62.grown {w0 W : World} {g : Nat} {f0 : ByteArray} {f1 : Int} {f2 : Int} {W1 : World} {row : Option Nat} (h : IsS62 w0 W g f0 f1 f2) (hw : W.grownBy W1 row) (hne : some g ≠ row) : IsS62 w0 W1 g f0 f1 f2 := by
  obtain ⟨hb, hg⟩ := h
  exact ⟨blk_grown hb hw hne, hg⟩
theorem IsS62.own_neN {w0 W : World} {g : Nat} {f0 : ByteArray} {f1 : Int} {f2 : Int} {α : Type} {d : Kd α} {e : Nat} {base : Nat} {ok : Nat → Prop} {v : Value} {xs : List α} (h : IsS62 w0 W g f0 f1 f2) (ho : Kd.N d e W base ok v xs) (ht : e ≠ 62) : some g ≠ v.ownBlock := by
  obtain ⟨hb, hg⟩ := h
  exact Kd.N_ne ho hb ht
theorem IsS62.fresh {w0 W : World} {g : Nat} {f0 : ByteArray} {f1 : Int} {f2 : Int} (h : IsS62 w0 W g f0 f1 f2) : ∀ k, W.heap.size ≤ k → k ≠ g := by
  obtain ⟨hb, hg⟩ := h
  exact Kd.freshB hb
theorem IsS62.kept {w0 W : World} {g : Nat} {f0 : ByteArray} {f1 : Int} {f2 : Int} {W1 : World} {S : Nat → Prop} (h : IsS62 w0 W g f0 f1 f2) (hk : Kept W W1 S) (hne : ¬ S g) : IsS62 w0 W1 g f0 f1 f2 := by
  obtain ⟨hb, hg⟩ := h
  exact ⟨blk_kept hb hk hne, hg⟩
theorem IsS62.below {w0 W : World} {g : Nat} {f0 : ByteArray} {f1 : Int} {f2 : Int} {W1 : World} (h : IsS62 w0 W g f0 f1 f2) (hw : Below W.heap.size W W1) : IsS62 w0 W1 g f0 f1 f2 := h.grown (grown_of_below hw none) (by simp)
theorem IsS62.alloc {w0 W : World} {g : Nat} {f0 : ByteArray} {f1 : Int} {f2 : Int} (h : IsS62 w0 W g f0 f1 f2) (o : Obj) : IsS62 w0 (W.alloc o) g f0 f1 f2 := h.below (below_alloc (Below.refl _ _) o)
theorem IsS62.drewN {w0 W : World} {g : Nat} {f0 : ByteArray} {f1 : Int} {f2 : Int} (h : IsS62 w0 W g f0 f1 f2) (m : Nat) : IsS62 w0 (W.drewN m) g f0 f1 f2 := h
theorem IsS62.drew {w0 W : World} {g : Nat} {f0 : ByteArray} {f1 : Int} {f2 : Int} (h : IsS62 w0 W g f0 f1 f2) : IsS62 w0 W.drew g f0 f1 f2 := h
theorem IsS62.at_ {w0 W : World} {g : Nat} {f0 : ByteArray} {f1 : Int} {f2 : Int} {w' : World} {m : Nat} (hq : W.drewN m = w') (h : IsS62 w0 W g f0 f1 f2) : IsS62 w0 w' g f0 f1 f2 := by subst hq; exact IsS62.drewN h m
theorem IsS62.apart {w0 W : World} {g : Nat} {f0 : ByteArray} {f1 : Int} {f2 : Int} {α : Type} {d : Kd α} {e : Nat} {base : Nat} {ok : Nat → Prop} {v : Value} {xs : List α} (h : IsS62 w0 W g f0 f1 f2) (ho : d.R e W base ok v xs) (ht : ∀ q, q ∈ e :: d.E → q ≠ 62) : d.R e W base (fun k => ok k ∧ k ≠ g) v xs := by
  obtain ⟨hb, hg⟩ := h
  exact Kd.R_types ho hb ht
theorem IsS62.own_ne {w0 W : World} {g : Nat} {f0 : ByteArray} {f1 : Int} {f2 : Int} {α : Type} {d : Kd α} {e : Nat} {base : Nat} {ok : Nat → Prop} {v : Value} {xs : List α} (h : IsS62 w0 W g f0 f1 f2) (ho : d.R e W base ok v xs) (ht : e ≠ 62) : some g ≠ v.ownBlock := by
  obtain ⟨hb, hg⟩ := h
  exact Kd.R_ne ho hb ht
theorem IsS62.apartQ {w0 W : World} {g : Nat} {f0 : ByteArray} {f1 : Int} {f2 : Int} {α : Type} {d : Kd α} {e : Nat} {base : Nat} {ok : Nat → Prop} {v : Value} {xs : List α} (h : IsS62 w0 W g f0 f1 f2) (ho : d.Q e W base ok v xs) (ht : ∀ q, q ∈ e :: d.E → q ≠ 62) : d.Q e W base (fun k => ok k ∧ k ≠ g) v xs := by
  obtain ⟨hb, hg⟩ := h
  exact Kd.Q_types ho hb ht
theorem IsS62.own_neQ {w0 W : World} {g : Nat} {f0 : ByteArray} {f1 : Int} {f2 : Int} {α : Type} {d : Kd α} {e : Nat} {base : Nat} {ok : Nat → Prop} {v : Value} {xs : List α} (h : IsS62 w0 W g f0 f1 f2) (ho : d.Q e W base ok v xs) (ht : e ≠ 62) : some g ≠ v.ownBlock := by
  obtain ⟨hb, hg⟩ := h
  exact Kd.Q_ne ho hb ht
theorem IsS62.apartS {w0 W : World} {g : Nat} {f0 : ByteArray} {f1 : Int} {f2 : Int} {α : Type} {d : Kd α} {e : Nat} {base : Nat} {ok : Nat → Prop} {v : Value} {xs : List α} (h : IsS62 w0 W g f0 f1 f2) (ho : d.S e W base ok v xs) (ht : ∀ q, q ∈ e :: d.E → q ≠ 62) : d.S e W base (fun k => ok k ∧ k ≠ g) v xs := by
  obtain ⟨hb, hg⟩ := h
  exact Kd.S_types ho hb ht
theorem IsS62.own_neS {w0 W : World} {g : Nat} {f0 : ByteArray} {f1 : Int} {f2 : Int} {α : Type} {d : Kd α} {e : Nat} {base : Nat} {ok : Nat → Prop} {v : Value} {xs : List α} (h : IsS62 w0 W g f0 f1 f2) (ho : d.S e W base ok v xs) (ht : e ≠ 62) : some g ≠ v.ownBlock := by
  obtain ⟨hb, hg⟩ := h
  exact Kd.S_ne ho hb ht
theorem IsS62.lt {w0 W : World} {g : Nat} {f0 : ByteArray} {f1 : Int} {f2 : Int} (h : IsS62 w0 W g f0 f1 f2) : g < W.heap.size := by
  obtain ⟨hb, hg⟩ := h
  exact blk_lt hb
theorem IsS62.ge {w0 W : World} {g : Nat} {f0 : ByteArray} {f1 : Int} {f2 : Int} (h : IsS62 w0 W g f0 f1 f2) : w0.heap.size ≤ g := by
  obtain ⟨hb, hg⟩ := h
  exact hg
theorem IsS62.ne_blk {w0 W : World} {g : Nat} {f0 : ByteArray} {f1 : Int} {f2 : Int} {a : Nat} {cs : Array Value} {t : TypeId} {fr : Nat × Nat} (h : IsS62 w0 W g f0 f1 f2) (hb2 : W.heap[a]? = some (.cells cs t fr)) (ht : t ≠ 62) : g ≠ a := by
  obtain ⟨hb, hg⟩ := h
  rintro rfl
  rw [hb] at hb2
  injection hb2 with hb2
  injection hb2 with _ ht2
  exact ht ht2.symm
theorem IsS62.far {w0 W : World} {g : Nat} {f0 : ByteArray} {f1 : Int} {f2 : Int} {p : Addr} (h : IsS62 w0 W g f0 f1 f2) (hne : g ≠ p.block) (u : Value) : IsS62 w0 (W.setCell p u) g f0 f1 f2 := by
  obtain ⟨hb, hg⟩ := h
  exact ⟨blk_far hb hne u, hg⟩
theorem cellS62_0 {W : World} {g : Nat} {f0 : ByteArray} {f1 : Int} {f2 : Int} (h : W.heap[g]? = some (.cells #[.string f0, .int .i64 f1, .int .i64 f2] 62 (0, 0))) : W.cell? ⟨g, 0, none⟩ = some (.string f0) := (blk_cell h 0).trans rfl
theorem IsS62.set_0 {w0 W : World} {g : Nat} {f0 : ByteArray} {f1 : Int} {f2 : Int} (h : IsS62 w0 W g f0 f1 f2) (x : ByteArray) : IsS62 w0 (W.setCell ⟨g, 0, none⟩ (.string x)) g x f1 f2 := by
  obtain ⟨hb, hg⟩ := h
  exact ⟨by simpa using blk_set hb 0 (.string x), hg⟩
theorem cellS62_1 {W : World} {g : Nat} {f0 : ByteArray} {f1 : Int} {f2 : Int} (h : W.heap[g]? = some (.cells #[.string f0, .int .i64 f1, .int .i64 f2] 62 (0, 0))) : W.cell? ⟨g, 1, none⟩ = some (.int .i64 f1) := (blk_cell h 1).trans rfl
theorem IsS62.set_1 {w0 W : World} {g : Nat} {f0 : ByteArray} {f1 : Int} {f2 : Int} (h : IsS62 w0 W g f0 f1 f2) (x : Int) : IsS62 w0 (W.setCell ⟨g, 1, none⟩ (.int .i64 x)) g f0 x f2 := by
  obtain ⟨hb, hg⟩ := h
  exact ⟨by simpa using blk_set hb 1 (.int .i64 x), hg⟩
theorem cellS62_2 {W : World} {g : Nat} {f0 : ByteArray} {f1 : Int} {f2 : Int} (h : W.heap[g]? = some (.cells #[.string f0, .int .i64 f1, .int .i64 f2] 62 (0, 0))) : W.cell? ⟨g, 2, none⟩ = some (.int .i64 f2) := (blk_cell h 2).trans rfl
theorem IsS62.set_2 {w0 W : World} {g : Nat} {f0 : ByteArray} {f1 : Int} {f2 : Int} (h : IsS62 w0 W g f0 f1 f2) (x : Int) : IsS62 w0 (W.setCell ⟨g, 2, none⟩ (.int .i64 x)) g f0 f1 x := by
  obtain ⟨hb, hg⟩ := h
  exact ⟨by simpa using blk_set hb 2 (.int .i64 x), hg⟩
theorem IsS62.new (w0 W : World) (f0 : ByteArray) (f1 : Int) (f2 : Int) (hB : Below w0.heap.size w0 W) : IsS62 w0 (W.alloc (.cells #[.string f0, .int .i64 f1, .int .i64 f2] 62)) W.heap.size f0 f1 f2 := ⟨by simpa using heap_alloc_new W _, hB.size⟩

/-! ### octet_Open: function 26 -/
def octet_Open.f (a0 : ByteArray) : Option (ByteArray × Int × Int) := some (a0, 0, (-1))
set_option maxHeartbeats 8000000 in
set_option maxRecDepth 100000 in
theorem octet_Open.calls (a0 : ByteArray) (r1 : ByteArray) (r2 : Int) (r3 : Int) (w0 w : World) (hB : Below w0.heap.size w0 w) (h : octet_Open.f a0 = some (r1, r2, r3)) :
    Calls Tryd.prog 26 #[.string a0] w fun e w' => ∃ g_ : Nat, e = .returned (.pointer (some ⟨g_, 0, none⟩)) ∧ IsS62 w0 w' g_ r1 r2 r3 ∧ Below w0.heap.size w0 w' ∧ Below w.heap.size w w' := by
  have hu62 := Tryd.underlying62
  have HBW := Aside0.mk (Below.refl w.heap.size w)
  have HW0 := Aside0.mk hB.size
  have HB := Aside0.mk hB
  clear hB
  have H : (some (a0, 0, (-1))) = some (r1, r2, r3) := h
  clear h
  simp only [Option.some.injEq, Prod.mk.injEq] at H
  obtain ⟨rfl, rfl, rfl⟩ := H
  go_enter Tryd.func26, Tryd.ntmps26
  go_wp2_with (first | ((with_reducible refine gate_dst (N := 5) rfl ?_); refine box_event ?hg (N := 5) ?hd (cs := #[.string a0, .int .i64 0, .int .i64 (-1)]) (t := 62) ?hr ?_; (case hd => rfl); (case hg => rfl); (case hr => first | (go_simp; done) | (go_simp; rfl)); intro gb113 hg w2 hbox hb; have n0_ := Aside0.mk (below_step HBW.out hb); have n1_ := Aside0.mk (below_step (by repeat (first | (with_reducible first | exact HB.out | apply below_alloc | apply pw_below_drewN | apply below_drew1) | exact HB.out)) hb); have n2_ := Aside0.mk (hbox); have n3_ := Aside0.mk ((by rw [hg]; exact (below_size (by repeat (first | (with_reducible first | exact HBW.out | apply below_alloc | apply pw_below_drewN | apply below_drew1) | exact HBW.out))) : w.heap.size ≤ gb113)); have n4_ := Aside0.mk ((Nat.le_trans HW0.out (by rw [hg]; exact (below_size (by repeat (first | (with_reducible first | exact HBW.out | apply below_alloc | apply pw_below_drewN | apply below_drew1) | exact HBW.out))) : w.heap.size ≤ gb113) : w0.heap.size ≤ gb113)); clear HBW; clear HB; have HBW := n0_; have HB := n1_; have BK113 := n2_; have GW113 := n3_; have GE113 := n4_; clear n0_ n1_ n2_ n3_ n4_; clear hb hbox hg))
  go_ret
  exact ⟨_, rfl, (show IsS62 w0 _ gb113 a0 0 (-1) from ⟨by (with_reducible repeat (first | refine blk_drewN ?_ _ | refine blk_drew ?_ | refine blk_alloc ?_ _)); exact BK113.out, GE113.out⟩), by repeat (first | (with_reducible first | exact HB.out | apply below_alloc | apply pw_below_drewN | apply below_drew1 | refine below_set ?_ GE113.out) | exact HB.out), by repeat (first | (with_reducible first | exact HBW.out | apply below_alloc | apply pw_below_drewN | apply below_drew1 | refine below_set ?_ GW113.out) | exact HBW.out)⟩

/-! ### octet_Reader_take: function 37 -/
def octet_Reader_take.f (s0_0 : ByteArray) (s0_1 : Int) (s0_2 : Int) (a1 : Int) : Option (ByteArray × Bool × ByteArray × Int × Int) := if s0_2 ≥ 0 then (some ((⟨#[]⟩ : ByteArray), false, s0_0, s0_1, s0_2)) else (if a1 < 0 then (some ((⟨#[]⟩ : ByteArray), false, s0_0, s0_1, s0_1)) else (if a1 > (wrap64 ((s0_0.size : Int) - s0_1)) then (some ((⟨#[]⟩ : ByteArray), false, s0_0, s0_1, s0_1)) else (if 0 ≤ (wrap64 ((wrap64 (s0_1 + a1)) - a1)) then (if (wrap64 ((wrap64 (s0_1 + a1)) - a1)) ≤ (wrap64 (s0_1 + a1)) then (if (wrap64 (s0_1 + a1)) ≤ (s0_0.size : Int) then (some (s0_0.extract ((wrap64 ((wrap64 (s0_1 + a1)) - a1)) : Int).toNat ((wrap64 (s0_1 + a1)) : Int).toNat, true, s0_0, wrap64 (s0_1 + a1), s0_2)) else (none)) else (none)) else (none))))
set_option maxHeartbeats 8000000 in
set_option maxRecDepth 100000 in
theorem octet_Reader_take.calls (g : Nat) (s0_0 : ByteArray) (s0_1 : Int) (s0_2 : Int) (a1 : Int) (r1 : ByteArray) (r2 : Bool) (r3 : ByteArray) (r4 : Int) (r5 : Int) (w0 w : World) (hI : IsS62 w0 w g s0_0 s0_1 s0_2) (hB : Below w0.heap.size w0 w) (h : octet_Reader_take.f s0_0 s0_1 s0_2 a1 = some (r1, r2, r3, r4, r5)) :
    Calls Tryd.prog 37 #[.pointer (some ⟨g, 0, none⟩), .int .i64 a1] w fun e w' => e = .returned (.tuple #[.string r1, .bool r2]) ∧ IsS62 w0 w' g r3 r4 r5 ∧ Below w0.heap.size w0 w' ∧ KeepBut w w' g none := by
  have HI0 := Aside0.mk hI
  have HK := Aside0.mk (KeepBut.refl w g none)
  have HL := Aside0.mk hB.size
  clear hI
  have HW0 := Aside0.mk hB.size
  have HB := Aside0.mk hB
  clear hB
  have H : (if s0_2 ≥ 0 then (some ((⟨#[]⟩ : ByteArray), false, s0_0, s0_1, s0_2)) else (if a1 < 0 then (some ((⟨#[]⟩ : ByteArray), false, s0_0, s0_1, s0_1)) else (if a1 > (wrap64 ((s0_0.size : Int) - s0_1)) then (some ((⟨#[]⟩ : ByteArray), false, s0_0, s0_1, s0_1)) else (if 0 ≤ (wrap64 ((wrap64 (s0_1 + a1)) - a1)) then (if (wrap64 ((wrap64 (s0_1 + a1)) - a1)) ≤ (wrap64 (s0_1 + a1)) then (if (wrap64 (s0_1 + a1)) ≤ (s0_0.size : Int) then (some (s0_0.extract ((wrap64 ((wrap64 (s0_1 + a1)) - a1)) : Int).toNat ((wrap64 (s0_1 + a1)) : Int).toNat, true, s0_0, wrap64 (s0_1 + a1), s0_2)) else (none)) else (none)) else (none))))) = some (r1, r2, r3, r4, r5) := h
  clear h
  by_cases c3 : s0_2 ≥ 0
  · rw [if_pos c3] at H
    have c3b0 : decide (0 ≤ s0_2) = true := decide_eq_true c3
    clear c3
    simp only [Option.some.injEq, Prod.mk.injEq] at H
    obtain ⟨rfl, rfl, rfl, rfl, rfl⟩ := H
    obtain ⟨HGz4, hgz4⟩ := HI0.out
    have hcz4_0 := cellS62_0 HGz4
    have hcz4_1 := cellS62_1 HGz4
    have hcz4_2 := cellS62_2 HGz4
    have hfz4_0 := blk_frozen HGz4 0
    have hfz4_1 := blk_frozen HGz4 1
    have hfz4_2 := blk_frozen HGz4 2
    clear HGz4 hgz4
    go_enter Tryd.func37, Tryd.ntmps37
    go_wp2
    repeat (go_quiet (fail); try go_wp2)
    go_ret2
    exact ⟨by first | rfl | (simp [show ∀ l_ : List UInt8, (l_ == []) = l_.isEmpty from fun l_ => by cases l_ <;> rfl]; done) | (simp [errW_none, errW_some] <;> rfl) | ((repeat rw [Int.tdiv_eq_ediv_of_nonneg (by omega)]); (repeat rw [Int.tmod_eq_emod_of_nonneg (by omega)]); first | rfl | (simp [errW_none, errW_some] <;> rfl)) | (simp [*, errW_none, errW_some] <;> rfl), by repeat (first | (with_reducible first | exact HI0.out | apply IsS62.alloc | apply IsS62.drewN | apply IsS62.drew | apply IsS62.set_0 | apply IsS62.set_1 | apply IsS62.set_2) | exact HI0.out), by repeat (first | (with_reducible first | exact HB.out | apply below_alloc | apply pw_below_drewN | apply below_drew1 | refine below_set ?_ (IsS62.ge HI0.out)) | exact HB.out), by repeat (first | (with_reducible first | exact HK.out | apply KeepBut.set_ | apply keep_drewN | apply keep_drew | apply keep_alloc) | exact HK.out)⟩
  · rw [if_neg c3] at H
    have c3b0 : decide (0 ≤ s0_2) = false := decide_eq_false c3
    clear c3
    by_cases c5 : a1 < 0
    · rw [if_pos c5] at H
      have c5b0 : decide (a1 < 0) = true := decide_eq_true c5
      clear c5
      simp only [Option.some.injEq, Prod.mk.injEq] at H
      obtain ⟨rfl, rfl, rfl, rfl, rfl⟩ := H
      obtain ⟨HGz6, hgz6⟩ := HI0.out
      have hcz6_0 := cellS62_0 HGz6
      have hcz6_1 := cellS62_1 HGz6
      have hcz6_2 := cellS62_2 HGz6
      have hfz6_0 := blk_frozen HGz6 0
      have hfz6_1 := blk_frozen HGz6 1
      have hfz6_2 := blk_frozen HGz6 2
      clear HGz6 hgz6
      go_enter Tryd.func37, Tryd.ntmps37
      go_wp2
      repeat (go_quiet (fail); try go_wp2)
      go_ret2
      exact ⟨by first | rfl | (simp [show ∀ l_ : List UInt8, (l_ == []) = l_.isEmpty from fun l_ => by cases l_ <;> rfl]; done) | (simp [errW_none, errW_some] <;> rfl) | ((repeat rw [Int.tdiv_eq_ediv_of_nonneg (by omega)]); (repeat rw [Int.tmod_eq_emod_of_nonneg (by omega)]); first | rfl | (simp [errW_none, errW_some] <;> rfl)) | (simp [*, errW_none, errW_some] <;> rfl), by repeat (first | (with_reducible first | exact HI0.out | apply IsS62.alloc | apply IsS62.drewN | apply IsS62.drew | apply IsS62.set_0 | apply IsS62.set_1 | apply IsS62.set_2) | exact HI0.out), by repeat (first | (with_reducible first | exact HB.out | apply below_alloc | apply pw_below_drewN | apply below_drew1 | refine below_set ?_ (IsS62.ge HI0.out)) | exact HB.out), by repeat (first | (with_reducible first | exact HK.out | apply KeepBut.set_ | apply keep_drewN | apply keep_drew | apply keep_alloc) | exact HK.out)⟩
    · rw [if_neg c5] at H
      have c5b0 : decide (a1 < 0) = false := decide_eq_false c5
      clear c5
      by_cases c7 : a1 > (wrap64 ((s0_0.size : Int) - s0_1))
      · rw [if_pos c7] at H
        have c7b0 : decide ((wrap64 ((s0_0.size : Int) - s0_1)) < a1) = true := decide_eq_true c7
        clear c7
        simp only [Option.some.injEq, Prod.mk.injEq] at H
        obtain ⟨rfl, rfl, rfl, rfl, rfl⟩ := H
        obtain ⟨HGz8, hgz8⟩ := HI0.out
        have hcz8_0 := cellS62_0 HGz8
        have hcz8_1 := cellS62_1 HGz8
        have hcz8_2 := cellS62_2 HGz8
        have hfz8_0 := blk_frozen HGz8 0
        have hfz8_1 := blk_frozen HGz8 1
        have hfz8_2 := blk_frozen HGz8 2
        clear HGz8 hgz8
        go_enter Tryd.func37, Tryd.ntmps37
        go_wp2
        repeat (go_quiet (fail); try go_wp2)
        go_ret2
        exact ⟨by first | rfl | (simp [show ∀ l_ : List UInt8, (l_ == []) = l_.isEmpty from fun l_ => by cases l_ <;> rfl]; done) | (simp [errW_none, errW_some] <;> rfl) | ((repeat rw [Int.tdiv_eq_ediv_of_nonneg (by omega)]); (repeat rw [Int.tmod_eq_emod_of_nonneg (by omega)]); first | rfl | (simp [errW_none, errW_some] <;> rfl)) | (simp [*, errW_none, errW_some] <;> rfl), by repeat (first | (with_reducible first | exact HI0.out | apply IsS62.alloc | apply IsS62.drewN | apply IsS62.drew | apply IsS62.set_0 | apply IsS62.set_1 | apply IsS62.set_2) | exact HI0.out), by repeat (first | (with_reducible first | exact HB.out | apply below_alloc | apply pw_below_drewN | apply below_drew1 | refine below_set ?_ (IsS62.ge HI0.out)) | exact HB.out), by repeat (first | (with_reducible first | exact HK.out | apply KeepBut.set_ | apply keep_drewN | apply keep_drew | apply keep_alloc) | exact HK.out)⟩
      · rw [if_neg c7] at H
        have c7b0 : decide ((wrap64 ((s0_0.size : Int) - s0_1)) < a1) = false := decide_eq_false c7
        clear c7
        obtain ⟨ji9, hji9⟩ : ∃ j_ : Int, (wrap64 ((wrap64 (s0_1 + a1)) - a1)) = j_ := ⟨_, rfl⟩
        replace H : (if 0 ≤ (ji9) then (if (ji9) ≤ (wrap64 (s0_1 + a1)) then (if (wrap64 (s0_1 + a1)) ≤ (s0_0.size : Int) then (some (s0_0.extract ((ji9) : Int).toNat ((wrap64 (s0_1 + a1)) : Int).toNat, true, s0_0, wrap64 (s0_1 + a1), s0_2)) else (none)) else (none)) else (none)) = some (r1, r2, r3, r4, r5) := by first | (rw [hji9] at H; exact H) | (simp only [hji9] at H ⊢; exact H)
        have hji9w : (IntKind.i64.wrap ((wrap64 (s0_1 + a1)) - a1)) = ji9 := (i64_w _).trans hji9
        by_cases c10 : 0 ≤ (ji9)
        · rw [if_pos c10] at H
          have c10b0 := eq_true c10
          have c10b1 : decide (0 ≤ (ji9)) = true := decide_eq_true c10
          clear c10
          by_cases c11 : (ji9) ≤ (wrap64 (s0_1 + a1))
          · rw [if_pos c11] at H
            have c11b0 := eq_true c11
            have c11b1 : decide ((ji9) ≤ (wrap64 (s0_1 + a1))) = true := decide_eq_true c11
            by_cases c12 : (wrap64 (s0_1 + a1)) ≤ (s0_0.size : Int)
            · rw [if_pos c12] at H
              have c12b0 := eq_true c12
              have c12b1 : decide ((wrap64 (s0_1 + a1)) ≤ (s0_0.size : Int)) = true := decide_eq_true c12
              simp only [Option.some.injEq, Prod.mk.injEq] at H
              obtain ⟨rfl, rfl, rfl, rfl, rfl⟩ := H
              obtain ⟨HGz13, hgz13⟩ := HI0.out
              have hcz13_0 := cellS62_0 HGz13
              have hcz13_1 := cellS62_1 HGz13
              have hcz13_2 := cellS62_2 HGz13
              have hfz13_0 := blk_frozen HGz13 0
              have hfz13_1 := blk_frozen HGz13 1
              have hfz13_2 := blk_frozen HGz13 2
              clear HGz13 hgz13
              go_enter Tryd.func37, Tryd.ntmps37
              go_wp2
              repeat (go_quiet (fail); try go_wp2)
              go_ret2
              exact ⟨by first | rfl | (simp [show ∀ l_ : List UInt8, (l_ == []) = l_.isEmpty from fun l_ => by cases l_ <;> rfl]; done) | (simp [errW_none, errW_some] <;> rfl) | (simp only [← hji9]; first | rfl | (simp [errW_none, errW_some] <;> rfl)) | ((repeat rw [Int.tdiv_eq_ediv_of_nonneg (by omega)]); (repeat rw [Int.tmod_eq_emod_of_nonneg (by omega)]); first | rfl | (simp [errW_none, errW_some] <;> rfl)) | (simp [*, errW_none, errW_some] <;> rfl), by repeat (first | (with_reducible first | exact HI0.out | apply IsS62.alloc | apply IsS62.drewN | apply IsS62.drew | apply IsS62.set_0 | apply IsS62.set_1 | apply IsS62.set_2) | exact HI0.out), by repeat (first | (with_reducible first | exact HB.out | apply below_alloc | apply pw_below_drewN | apply below_drew1 | refine below_set ?_ (IsS62.ge HI0.out)) | exact HB.out), by repeat (first | (with_reducible first | exact HK.out | apply KeepBut.set_ | apply keep_drewN | apply keep_drew | apply keep_alloc) | exact HK.out)⟩
            · rw [if_neg c12] at H
              exact absurd H (by simp)
          · rw [if_neg c11] at H
            exact absurd H (by simp)
        · rw [if_neg c10] at H
          exact absurd H (by simp)

/-! ### octet_Reader_Get: function 27 -/
def octet_Reader_Get.l0 : Nat → ByteArray → Int → Int → Int → ByteArray → Int → Int → Option (Int × ByteArray × Int × Int)
  | 0, _, _, _, _, _, _, _ => none
  | k + 1, x5, x7, x20, x21, x1000, x1001, x1002 => if x21 < x20 then (if 0 ≤ x21 then (if x21 < (x5.size : Int) then (octet_Reader_Get.l0 k x5 (Go.bits .or .i64 (wrap64 (x7 * 256)) (wrap64 (bt x5 x21))) x20 (wrap64 (x21 + 1)) x1000 x1001 x1002) else (none)) else (none)) else (some (x7, x1000, x1001, x1002))
def octet_Reader_Get.f (k : Nat) (s0_0 : ByteArray) (s0_1 : Int) (s0_2 : Int) (a1 : Int) : Option (Int × ByteArray × Int × Int) := (octet_Reader_take.f s0_0 s0_1 s0_2 (mn (mx a1 1) 7)).bind fun bt114 => (if bt114.2.1 = true then (octet_Reader_Get.l0 k bt114.1 0 (bt114.1.size : Int) 0 bt114.2.2.1 bt114.2.2.2.1 bt114.2.2.2.2) else (some (0, bt114.2.2.1, bt114.2.2.2.1, bt114.2.2.2.2)))
theorem octet_Reader_Get.mono_l : ∀ k, (∀ y0 y1 y2 y3 y4 y5 y6, LeO (octet_Reader_Get.l0 k y0 y1 y2 y3 y4 y5 y6) (octet_Reader_Get.l0 (k + 1) y0 y1 y2 y3 y4 y5 y6))
  | 0 => fun _ _ _ _ _ _ _ r h => by simp [octet_Reader_Get.l0] at h
  | k + 1 => by
    have ih0 := octet_Reader_Get.mono_l k
    · intro y0 y1 y2 y3 y4 y5 y6
      unfold octet_Reader_Get.l0
      repeat' first
      | (with_reducible exact ih0 _ _ _ _ _ _ _)
      | (with_reducible exact LeO.refl _)
      | (with_reducible exact LeO.none _)
      | (with_reducible refine LeO.ite ?_ ?_)
      | (with_reducible refine LeO.bind ?_ (fun _ => ?_))
      | exact ih0 _ _ _ _ _ _ _
      | exact LeO.none _
      | refine LeO.ite ?_ ?_
      | refine LeO.bind ?_ (fun _ => ?_)
theorem octet_Reader_Get.mono : ∀ a0 a1 a2 a3 k, LeO (octet_Reader_Get.f k a0 a1 a2 a3) (octet_Reader_Get.f (k + 1) a0 a1 a2 a3) := by
  intro a0 a1 a2 a3 k
  have ih0 := octet_Reader_Get.mono_l k
  unfold octet_Reader_Get.f
  repeat' first
      | (with_reducible exact ih0 _ _ _ _ _ _ _)
      | (with_reducible exact LeO.refl _)
      | (with_reducible exact LeO.none _)
      | (with_reducible refine LeO.ite ?_ ?_)
      | (with_reducible refine LeO.bind ?_ (fun _ => ?_))
      | exact ih0 _ _ _ _ _ _ _
      | exact LeO.none _
      | refine LeO.ite ?_ ?_
      | refine LeO.bind ?_ (fun _ => ?_)
set_option maxHeartbeats 8000000 in
set_option maxRecDepth 100000 in
theorem octet_Reader_Get.calls (k : Nat) (g : Nat) (s0_0 : ByteArray) (s0_1 : Int) (s0_2 : Int) (a1 : Int) (r1 : Int) (r2 : ByteArray) (r3 : Int) (r4 : Int) (w0 w : World) (hI : IsS62 w0 w g s0_0 s0_1 s0_2) (hB : Below w0.heap.size w0 w) (h : octet_Reader_Get.f k s0_0 s0_1 s0_2 a1 = some (r1, r2, r3, r4)) :
    Calls Tryd.prog 27 #[.pointer (some ⟨g, 0, none⟩), .int .i64 a1] w fun e w' => e = .returned (.int .i64 r1) ∧ IsS62 w0 w' g r2 r3 r4 ∧ Below w0.heap.size w0 w' ∧ KeepBut w w' g none := by
  have HI0 := Aside0.mk hI
  have HK := Aside0.mk (KeepBut.refl w g none)
  have HL := Aside0.mk hB.size
  clear hI
  have HW0 := Aside0.mk hB.size
  have HB := Aside0.mk hB
  clear hB
  have H : ((octet_Reader_take.f s0_0 s0_1 s0_2 (mn (mx a1 1) 7)).bind fun bt114 => (if bt114.2.1 = true then (octet_Reader_Get.l0 k bt114.1 0 (bt114.1.size : Int) 0 bt114.2.2.1 bt114.2.2.2.1 bt114.2.2.2.2) else (some (0, bt114.2.2.1, bt114.2.2.2.1, bt114.2.2.2.2)))) = some (r1, r2, r3, r4) := h
  clear h
  obtain ⟨ji3, hji3⟩ : ∃ j_ : Int, (mx a1 1) = j_ := ⟨_, rfl⟩
  replace H : ((octet_Reader_take.f s0_0 s0_1 s0_2 (mn (ji3) 7)).bind fun bt114 => (if bt114.2.1 = true then (octet_Reader_Get.l0 k bt114.1 0 (bt114.1.size : Int) 0 bt114.2.2.1 bt114.2.2.2.1 bt114.2.2.2.2) else (some (0, bt114.2.2.1, bt114.2.2.2.1, bt114.2.2.2.2)))) = some (r1, r2, r3, r4) := by first | (rw [hji3] at H; exact H) | (simp only [hji3] at H ⊢; exact H)
  (try (have hji3l : 1 ≤ ji3 := by (rw [← hji3]; unfold mx; (repeat' split) <;> omega)))
  (try (have hji3m : 0 ≤ ji3 := by omega))
  have hji3_ : (if a1 < 1 then 1 else a1) = ji3 := hji3
  obtain ⟨ji4, hji4⟩ : ∃ j_ : Int, (mn (ji3) 7) = j_ := ⟨_, rfl⟩
  replace H : ((octet_Reader_take.f s0_0 s0_1 s0_2 (ji4)).bind fun bt114 => (if bt114.2.1 = true then (octet_Reader_Get.l0 k bt114.1 0 (bt114.1.size : Int) 0 bt114.2.2.1 bt114.2.2.2.1 bt114.2.2.2.2) else (some (0, bt114.2.2.1, bt114.2.2.2.1, bt114.2.2.2.2)))) = some (r1, r2, r3, r4) := by first | (rw [hji4] at H; exact H) | (simp only [hji4] at H ⊢; exact H)
  have hji4_ : (if 7 < (ji3) then 7 else (ji3)) = ji4 := hji4
  replace H := Option.bind_eq_some_iff.mp H
  obtain ⟨⟨t114, t115, t116, t117, t118⟩, A50, H⟩ := H
  replace H : (if t115 = true then (octet_Reader_Get.l0 k t114 0 (t114.size : Int) 0 t116 t117 t118) else (some (0, t116, t117, t118))) = some (r1, r2, r3, r4) := H
  have A5 := Aside0.mk A50
  clear A50
  by_cases c6 : t115 = true
  · subst c6
    have H1 : (octet_Reader_Get.l0 k t114 0 (t114.size : Int) 0 t116 t117 t118) = some (r1, r2, r3, r4) := by rw [if_pos rfl] at H; exact H
    clear H
    have H := H1
    clear H1
    have H' := Aside0.mk H
    clear H
    go_enter Tryd.func27, Tryd.ntmps27
    go_wp2_with (first | ((with_reducible refine gate_callee (f := 37) rfl ?_); refine goesL_ (some 14) rfl rfl Tryd.func37 (by kernel_rfl) rfl #[.pointer (some ⟨g, 0, none⟩), .int .i64 ji4] rfl (by (try simp only [List.map_toArray, List.map_cons, List.map_nil]); first | done | (simp only [hji4]; rfl) | rfl | (simp only [List.length_drop, List.length_take]; rfl)) ?_; (with_reducible refine (octet_Reader_take.calls g s0_0 s0_1 s0_2 ji4 t114 true t116 t117 t118 w0 _ ?side1 ?side2 A5.out).mono ?_); (case side1 => repeat (first | (with_reducible first | exact HI0.out | apply IsS62.alloc | apply IsS62.drewN | apply IsS62.drew | apply IsS62.set_0 | apply IsS62.set_1 | apply IsS62.set_2) | exact HI0.out)); (case side2 => repeat (first | (with_reducible first | exact HB.out | apply below_alloc | apply pw_below_drewN | apply below_drew1 | refine below_set ?_ (IsS62.ge HI0.out)) | exact HB.out)); rintro e w7 ⟨rfl, hi, hb, hk⟩; refine ⟨_, rfl, ?_⟩; have n0_ := Aside0.mk (KeepBut.trans (by repeat (first | (with_reducible first | exact HK.out | apply KeepBut.set_ | apply keep_drewN | apply keep_drew | apply keep_alloc) | exact HK.out)) hk (.inl rfl)); have n1_ := Aside0.mk (hb); have n2_ := Aside0.mk (hi); clear HK; clear HB; clear HI0; have HK := n0_; have HB := n1_; have HI0 := n2_; clear n0_ n1_ n2_; (try clear hb); (try clear hb2); (try clear hk); (try clear hi)))
    go_loopg [7, 21] k (fun kq v7 v21 w' => ∃ (x7_1 : Int) (x21_1 : Int), v7 = .int .i64 x7_1 ∧ v21 = .int .i64 x21_1 ∧ Aside0 (octet_Reader_Get.l0 kq t114 x7_1 (t114.size : Int) x21_1 t116 t117 t118 = some (r1, r2, r3, r4)) ∧ Aside0 (kq ≤ k) ∧ Aside0 (IsS62 w0 w' g t116 t117 t118) ∧ Aside0 (KeepBut w w' g none) ∧ Aside0 (Below w0.heap.size w0 w'))
    case atStart => exact ⟨(0), (0), (by first | rfl | (simp; done) | (simp [show ∀ l_ : List UInt8, (l_ != []) = !l_.isEmpty from fun l_ => by cases l_ <;> rfl]; done) | (simp [*]; done)), (by first | rfl | (simp; done) | (simp [show ∀ l_ : List UInt8, (l_ != []) = !l_.isEmpty from fun l_ => by cases l_ <;> rfl]; done) | (simp [*]; done)), H', ⟨Nat.le_refl _⟩, ⟨by repeat (first | (with_reducible first | exact HI0.out | apply IsS62.alloc | apply IsS62.drewN | apply IsS62.drew | apply IsS62.set_0 | apply IsS62.set_1 | apply IsS62.set_2) | exact HI0.out)⟩, ⟨by repeat (first | (with_reducible first | exact HK.out | apply KeepBut.set_ | apply keep_drewN | apply keep_drew | apply keep_alloc) | exact HK.out)⟩, ⟨by repeat (first | (with_reducible first | exact HB.out | apply below_alloc | apply pw_below_drewN | apply below_drew1 | refine below_set ?_ (IsS62.ge HI0.out)) | exact HB.out)⟩⟩
    case round =>
      clear H'
      try clear c2
      try clear p2
      try clear c3
      try clear c6
      obtain ⟨x7_1, x21_1, rfl, rfl, HA, HK1, HI0, HK, HB⟩ := hrel
      cases gk with
      | zero => exact absurd HA.out (by simp [octet_Reader_Get.l0])
      | succ k1 =>
        have H := HA.out
        clear HA
        simp only [octet_Reader_Get.l0] at H
        by_cases c8 : x21_1 < (t114.size : Int)
        · rw [if_pos c8] at H
          have c8b0 : decide (x21_1 < (t114.size : Int)) = true := decide_eq_true c8
          clear c8
          by_cases c9 : 0 ≤ x21_1
          · rw [if_pos c9] at H
            have c9b0 : decide (0 ≤ x21_1) = true := decide_eq_true c9
            clear c9
            by_cases c10 : x21_1 < (t114.size : Int)
            · rw [if_pos c10] at H
              have c10b0 : decide (x21_1 < (t114.size : Int)) = true := decide_eq_true c10
              clear c10
              have H' := Aside0.mk H
              clear H
              have p11 : 0 ≤ (x21_1 : Int) := of_decide_eq_true (by first | (with_reducible assumption) | assumption)
              have q11 : x21_1 < (t114.size : Int) := of_decide_eq_true (by first | (with_reducible assumption) | assumption)
              have hx11 := bt_at t114 x21_1
              replace p11 := eq_true p11
              replace q11 := eq_true q11
              go_wp2
              go_roundg k1
              case measure => have := HK1.out; omega
              case rel => exact ⟨(Go.bits .or .i64 (wrap64 (x7_1 * 256)) (wrap64 (bt t114 x21_1))), (wrap64 (x21_1 + 1)), (by first | rfl | (simp; done) | (simp [show ∀ l_ : List UInt8, (l_ != []) = !l_.isEmpty from fun l_ => by cases l_ <;> rfl]; done) | (simp [*]; done)), (by first | rfl | (simp; done) | (simp [show ∀ l_ : List UInt8, (l_ != []) = !l_.isEmpty from fun l_ => by cases l_ <;> rfl]; done) | (simp [*]; done)), H', ⟨by have := HK1.out; omega⟩, ⟨by repeat (first | (with_reducible first | exact HI0.out | apply IsS62.alloc | apply IsS62.drewN | apply IsS62.drew | apply IsS62.set_0 | apply IsS62.set_1 | apply IsS62.set_2) | exact HI0.out)⟩, ⟨by repeat (first | (with_reducible first | exact HK.out | apply KeepBut.set_ | apply keep_drewN | apply keep_drew | apply keep_alloc) | exact HK.out)⟩, ⟨by repeat (first | (with_reducible first | exact HB.out | apply below_alloc | apply pw_below_drewN | apply below_drew1 | refine below_set ?_ (IsS62.ge HI0.out)) | exact HB.out)⟩⟩
            · rw [if_neg c10] at H
              exact absurd H (by simp)
          · rw [if_neg c9] at H
            exact absurd H (by simp)
        · rw [if_neg c8] at H
          have c8b0 : decide (x21_1 < (t114.size : Int)) = false := decide_eq_false c8
          clear c8
          simp only [Option.some.injEq, Prod.mk.injEq] at H
          obtain ⟨rfl, rfl, rfl, rfl⟩ := H
          go_wp2
          go_ret
          exact ⟨by first | rfl | (simp [show ∀ l_ : List UInt8, (l_ == []) = l_.isEmpty from fun l_ => by cases l_ <;> rfl]; done) | (simp [errW_none, errW_some] <;> rfl) | (simp only [← hji3, ← hji4]; first | rfl | (simp [errW_none, errW_some] <;> rfl)) | ((repeat rw [Int.tdiv_eq_ediv_of_nonneg (by omega)]); (repeat rw [Int.tmod_eq_emod_of_nonneg (by omega)]); first | rfl | (simp [errW_none, errW_some] <;> rfl)) | (simp [*, errW_none, errW_some] <;> rfl), by repeat (first | (with_reducible first | exact HI0.out | apply IsS62.alloc | apply IsS62.drewN | apply IsS62.drew | apply IsS62.set_0 | apply IsS62.set_1 | apply IsS62.set_2) | exact HI0.out), by repeat (first | (with_reducible first | exact HB.out | apply below_alloc | apply pw_below_drewN | apply below_drew1 | refine below_set ?_ (IsS62.ge HI0.out)) | exact HB.out), by repeat (first | (with_reducible first | exact HK.out | apply KeepBut.set_ | apply keep_drewN | apply keep_drew | apply keep_alloc) | exact HK.out)⟩
  · replace c6 := Bool.eq_false_iff.mpr c6
    subst c6
    have H1 : (some (0, t116, t117, t118)) = some (r1, r2, r3, r4) := by rw [if_neg (show ¬ (false = true) by decide)] at H; exact H
    clear H
    have H := H1
    clear H1
    simp only [Option.some.injEq, Prod.mk.injEq] at H
    obtain ⟨rfl, rfl, rfl, rfl⟩ := H
    go_enter Tryd.func27, Tryd.ntmps27
    go_wp2_with (first | ((with_reducible refine gate_callee (f := 37) rfl ?_); refine goesL_ (some 14) rfl rfl Tryd.func37 (by kernel_rfl) rfl #[.pointer (some ⟨g, 0, none⟩), .int .i64 ji4] rfl (by (try simp only [List.map_toArray, List.map_cons, List.map_nil]); first | done | (simp only [hji4]; rfl) | rfl | (simp only [List.length_drop, List.length_take]; rfl)) ?_; (with_reducible refine (octet_Reader_take.calls g s0_0 s0_1 s0_2 ji4 t114 false t116 t117 t118 w0 _ ?side1 ?side2 A5.out).mono ?_); (case side1 => repeat (first | (with_reducible first | exact HI0.out | apply IsS62.alloc | apply IsS62.drewN | apply IsS62.drew | apply IsS62.set_0 | apply IsS62.set_1 | apply IsS62.set_2) | exact HI0.out)); (case side2 => repeat (first | (with_reducible first | exact HB.out | apply below_alloc | apply pw_below_drewN | apply below_drew1 | refine below_set ?_ (IsS62.ge HI0.out)) | exact HB.out)); rintro e w12 ⟨rfl, hi, hb, hk⟩; refine ⟨_, rfl, ?_⟩; have n0_ := Aside0.mk (KeepBut.trans (by repeat (first | (with_reducible first | exact HK.out | apply KeepBut.set_ | apply keep_drewN | apply keep_drew | apply keep_alloc) | exact HK.out)) hk (.inl rfl)); have n1_ := Aside0.mk (hb); have n2_ := Aside0.mk (hi); clear HK; clear HB; clear HI0; have HK := n0_; have HB := n1_; have HI0 := n2_; clear n0_ n1_ n2_; (try clear hb); (try clear hb2); (try clear hk); (try clear hi)))
    go_ret
    exact ⟨by first | rfl | (simp [show ∀ l_ : List UInt8, (l_ == []) = l_.isEmpty from fun l_ => by cases l_ <;> rfl]; done) | (simp [errW_none, errW_some] <;> rfl) | (simp only [← hji3, ← hji4]; first | rfl | (simp [errW_none, errW_some] <;> rfl)) | ((repeat rw [Int.tdiv_eq_ediv_of_nonneg (by omega)]); (repeat rw [Int.tmod_eq_emod_of_nonneg (by omega)]); first | rfl | (simp [errW_none, errW_some] <;> rfl)) | (simp [*, errW_none, errW_some] <;> rfl), by repeat (first | (with_reducible first | exact HI0.out | apply IsS62.alloc | apply IsS62.drewN | apply IsS62.drew | apply IsS62.set_0 | apply IsS62.set_1 | apply IsS62.set_2) | exact HI0.out), by repeat (first | (with_reducible first | exact HB.out | apply below_alloc | apply pw_below_drewN | apply below_drew1 | refine below_set ?_ (IsS62.ge HI0.out)) | exact HB.out), by repeat (first | (with_reducible first | exact HK.out | apply KeepBut.set_ | apply keep_drewN | apply keep_drew | apply keep_alloc) | exact HK.out)⟩

/-! ### octet_Reader_Fail: function 32 -/
def octet_Reader_Fail.f (s0_0 : ByteArray) (s0_1 : Int) (s0_2 : Int) : Option (ByteArray × Int × Int) := if s0_2 < 0 then (some (s0_0, s0_1, s0_1)) else (some (s0_0, s0_1, s0_2))
set_option maxHeartbeats 8000000 in
set_option maxRecDepth 100000 in
theorem octet_Reader_Fail.calls (g : Nat) (s0_0 : ByteArray) (s0_1 : Int) (s0_2 : Int) (r1 : ByteArray) (r2 : Int) (r3 : Int) (w0 w : World) (hI : IsS62 w0 w g s0_0 s0_1 s0_2) (hB : Below w0.heap.size w0 w) (h : octet_Reader_Fail.f s0_0 s0_1 s0_2 = some (r1, r2, r3)) :
    Calls Tryd.prog 32 #[.pointer (some ⟨g, 0, none⟩)] w fun e w' => e = .returned (.tuple #[]) ∧ IsS62 w0 w' g r1 r2 r3 ∧ Below w0.heap.size w0 w' ∧ KeepBut w w' g none := by
  have HI0 := Aside0.mk hI
  have HK := Aside0.mk (KeepBut.refl w g none)
  have HL := Aside0.mk hB.size
  clear hI
  have HW0 := Aside0.mk hB.size
  have HB := Aside0.mk hB
  clear hB
  have H : (if s0_2 < 0 then (some (s0_0, s0_1, s0_1)) else (some (s0_0, s0_1, s0_2))) = some (r1, r2, r3) := h
  clear h
  by_cases c2 : s0_2 < 0
  · rw [if_pos c2] at H
    have c2b0 : decide (s0_2 < 0) = true := decide_eq_true c2
    clear c2
    simp only [Option.some.injEq, Prod.mk.injEq] at H
    obtain ⟨rfl, rfl, rfl⟩ := H
    obtain ⟨HGz3, hgz3⟩ := HI0.out
    have hcz3_0 := cellS62_0 HGz3
    have hcz3_1 := cellS62_1 HGz3
    have hcz3_2 := cellS62_2 HGz3
    have hfz3_0 := blk_frozen HGz3 0
    have hfz3_1 := blk_frozen HGz3 1
    have hfz3_2 := blk_frozen HGz3 2
    clear HGz3 hgz3
    go_enter Tryd.func32, Tryd.ntmps32
    go_wp2
    first | go_end0 | ((try simp only [Exit.inBlock, Exit.then]); refine bodyPost_ret (results_none rfl _ _ _) rfl ?_)
    exact ⟨by first | rfl | (simp [show ∀ l_ : List UInt8, (l_ == []) = l_.isEmpty from fun l_ => by cases l_ <;> rfl]; done) | (simp [errW_none, errW_some] <;> rfl) | ((repeat rw [Int.tdiv_eq_ediv_of_nonneg (by omega)]); (repeat rw [Int.tmod_eq_emod_of_nonneg (by omega)]); first | rfl | (simp [errW_none, errW_some] <;> rfl)) | (simp [*, errW_none, errW_some] <;> rfl), by repeat (first | (with_reducible first | exact HI0.out | apply IsS62.alloc | apply IsS62.drewN | apply IsS62.drew | apply IsS62.set_0 | apply IsS62.set_1 | apply IsS62.set_2) | exact HI0.out), by repeat (first | (with_reducible first | exact HB.out | apply below_alloc | apply pw_below_drewN | apply below_drew1 | refine below_set ?_ (IsS62.ge HI0.out)) | exact HB.out), by repeat (first | (with_reducible first | exact HK.out | apply KeepBut.set_ | apply keep_drewN | apply keep_drew | apply keep_alloc) | exact HK.out)⟩
  · rw [if_neg c2] at H
    have c2b0 : decide (s0_2 < 0) = false := decide_eq_false c2
    clear c2
    simp only [Option.some.injEq, Prod.mk.injEq] at H
    obtain ⟨rfl, rfl, rfl⟩ := H
    obtain ⟨HGz4, hgz4⟩ := HI0.out
    have hcz4_0 := cellS62_0 HGz4
    have hcz4_1 := cellS62_1 HGz4
    have hcz4_2 := cellS62_2 HGz4
    have hfz4_0 := blk_frozen HGz4 0
    have hfz4_1 := blk_frozen HGz4 1
    have hfz4_2 := blk_frozen HGz4 2
    clear HGz4 hgz4
    go_enter Tryd.func32, Tryd.ntmps32
    go_wp2
    first | go_end0 | ((try simp only [Exit.inBlock, Exit.then]); refine bodyPost_ret (results_none rfl _ _ _) rfl ?_)
    exact ⟨by first | rfl | (simp [show ∀ l_ : List UInt8, (l_ == []) = l_.isEmpty from fun l_ => by cases l_ <;> rfl]; done) | (simp [errW_none, errW_some] <;> rfl) | ((repeat rw [Int.tdiv_eq_ediv_of_nonneg (by omega)]); (repeat rw [Int.tmod_eq_emod_of_nonneg (by omega)]); first | rfl | (simp [errW_none, errW_some] <;> rfl)) | (simp [*, errW_none, errW_some] <;> rfl), by repeat (first | (with_reducible first | exact HI0.out | apply IsS62.alloc | apply IsS62.drewN | apply IsS62.drew | apply IsS62.set_0 | apply IsS62.set_1 | apply IsS62.set_2) | exact HI0.out), by repeat (first | (with_reducible first | exact HB.out | apply below_alloc | apply pw_below_drewN | apply below_drew1 | refine below_set ?_ (IsS62.ge HI0.out)) | exact HB.out), by repeat (first | (with_reducible first | exact HK.out | apply KeepBut.set_ | apply keep_drewN | apply keep_drew | apply keep_alloc) | exact HK.out)⟩

end Go.Proofs.YtcginknabpgjnaaDoor.PFrameTags
