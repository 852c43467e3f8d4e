-- Written by a program of this session (see NOTES.md), which reads the translation's print; Lean checks it.
import Derived.Test.YtnphindpbdjmpaaDoorPAppliPairsx0
import Derived.Test.YtnphindpbdjmpaaDoorPAppliPairsx1
namespace Go.Proofs.YtnphindpbdjmpaaDoor.PAppliPairs
open Go.RowKit Go.Proofs.YtnphindpbdjmpaaDoorW.PrintWords Go.Proofs.YtnphindpbdjmpaaDoorW.PrintLast Go.Proofs.YtnphindpbdjmpaaDoorW.PrintMore
attribute [local go_sem] max2_int min2_int max_two min_two max_three min_three max_four min_four   -- for this text's walks alone
set_option linter.unusedVariables false
set_option linter.unusedSimpArgs false

/-! ### kissgatelaw15_AppliPairs: function 4 -/
theorem all_eq (s b : Int) (hs : 0 ≤ s ∧ s ≤ 4) : appli_App_All.f s b = some (nxA s 2, b) := by
  unfold appli_App_All.f; rw [stepA_eq _ _ _ hs (by decide)]; rfl
theorem again_eq (s b : Int) (hs : 0 ≤ s ∧ s ≤ 4) : appli_App_Again.f s b = some (nxA s 3, b) := by
  unfold appli_App_Again.f; rw [stepA_eq _ _ _ hs (by decide)]; rfl
theorem All_nice {g : Nat} {s b : Int} {w0 w : World} (hI : IsS26 w0 w g s b) (hB : Below w0.heap.size w0 w) (hs : 0 ≤ s ∧ s ≤ 4) :
    Calls Tryd.prog 10 #[.pointer (some ⟨g, 0, none⟩)] w fun e w' => e = .returned (.tuple #[]) ∧ IsS26 w0 w' g (nxA s 2) b ∧ Below w0.heap.size w0 w' ∧ KeepBut w w' g none :=
  appli_App_All.calls g s b _ _ w0 w hI hB (all_eq s b hs)
theorem Again_nice {g : Nat} {s b : Int} {w0 w : World} (hI : IsS26 w0 w g s b) (hB : Below w0.heap.size w0 w) (hs : 0 ≤ s ∧ s ≤ 4) :
    Calls Tryd.prog 11 #[.pointer (some ⟨g, 0, none⟩)] w fun e w' => e = .returned (.tuple #[]) ∧ IsS26 w0 w' g (nxA s 3) b ∧ Below w0.heap.size w0 w' ∧ KeepBut w w' g none :=
  appli_App_Again.calls g s b _ _ w0 w hI hB (again_eq s b hs)
theorem wantS_zero {s bn : Int} {nw : Bool} {wd : Bool} (hv : s ≠ 0 → wd = true) (hw : wd = false) (hb : ¬ 0 ≤ bn) : wantS s bn nw = 0 := by
  have h0 : s = 0 := Classical.byContradiction fun h => by rw [hv h] at hw; cases hw
  unfold wantS
  rw [if_pos (by omega), h0]; rfl
def kissgatelaw15_AppliPairs.Pure : Prop := True
set_option maxHeartbeats 8000000 in
set_option maxRecDepth 100000 in
theorem kissgatelaw15_AppliPairs.walk (P : kissgatelaw15_AppliPairs.Pure) (A0 : Option Addr) (c0 : Nat) (l0 : List S33) (w : World) (hr0 : Kd.C k33 w A0 l0.length l0) (hc0 : l0.length ≤ c0) (hw0 : ∀ z ∈ l0, (Lit.int .i64 z.f0).wf = true ∧ (Lit.int .i64 z.f1).wf = true) (hG : LaidG w) :
    Calls Tryd.prog 4 #[.slice A0 l0.length c0] w fun e w' => e = .returned (.bool true) ∧ Below w.heap.size w w' := by
  clear P hw0
  have HR := Aside0.mk hr0
  have HC := Aside0.mk hc0
  have HL := Aside0.mk hG
  have hu := Tryd.underlying26
  have hu33 := Tryd.underlying33
  clear hr0 hc0 hG
  go_enter Tryd.func4, Tryd.ntmps4
  go_wp2_with fail
  go_at_call 7
  refine (kissgatelaw15_alive.good w _ HL.out (Below.refl _ _)).mono ?_
  rintro e w1 ⟨rfl, hb⟩
  have HB := Aside0.mk hb
  clear hb
  by_cases c1 : (100 : Int) < (l0.length : Int)
  · have c1b : decide ((100 : Int) < (l0.length : Int)) = true := decide_eq_true c1
    go_wp2_with fail
    go_ret
    exact ⟨rfl, HB.out⟩
  have c1b : decide ((100 : Int) < (l0.length : Int)) = false := decide_eq_false c1
  have HL0 := Aside0.mk (show l0.length ≤ 100 by omega)
  clear c1
  go_upto_region 6 with (fail)
  have HI := Aside0.mk (IsS26.new w w1 0 0 HB.out)
  have HB := Aside0.mk (below_alloc HB.out (.cells #[.int .i64 0, .int .i64 0] 26))
  generalize w1.alloc (.cells #[.int .i64 0, .int .i64 0] 26) = W at HI HB ⊢
  generalize w1.heap.size = g at HI ⊢
  go_wp2_with fail
  go_loopw [4, 5, 20] (fun v4 v5 v20 wr => ∃ (k : Nat) (wd : Bool) (la s b : Int), k ≤ l0.length ∧ v20 = .int .i64 (k : Nat) ∧ v4 = .bool wd ∧ v5 = .int .i64 la ∧ Aside0 (0 ≤ s ∧ s ≤ 4) ∧ Aside0 (s ≠ 0 → wd = true) ∧ Aside0 (IsS26 w wr g s b) ∧ Aside0 (Below w.heap.size w wr)) (fun _ _ v20 _ => l0.length - (intOf v20).toNat)
  case atStart => exact ⟨0, false, 5, 0, 0, Nat.zero_le _, rfl, rfl, rfl, ⟨by decide⟩, ⟨fun h => absurd rfl h⟩, ⟨HI.out⟩, ⟨HB.out⟩⟩
  case round =>
    clear HI HB c1b
    obtain ⟨k, wd, la, s, b, hk, rfl, rfl, rfl, HS, HV, HI, HB⟩ := hrel
    by_cases hlt : (k : Int) < (l0.length : Int)
    · have hltn : decide (k < l0.length) = true := decide_eq_true (by omega)
      have HK := Aside0.mk (show k < l0.length by omega)
      have E3 := Aside0.mk (show wrap64 ((k : Int) + 1) = ((k + 1 : Nat) : Int) by have := HK.out; have := HL0.out; unfold wrap64; omega)
      obtain ⟨ad, e0, hx0, hx1, hx2⟩ := at_T33 HR.out (k : Int) (by omega) hlt
      cases e0
      replace hx0 := (HB.out.cell (World.block_lt_of_cell? w _ hx0)).trans hx0
      replace hx1 := (HB.out.cell (World.block_lt_of_cell? w _ hx1)).trans hx1
      replace hx2 := (HB.out.cell (World.block_lt_of_cell? w _ hx2)).trans hx2
      have p0 := eq_true (show 0 ≤ (k : Int) by omega)
      have q0 := eq_true hlt
      generalize rd_T33 l0 (k : Int) = z at hx0 hx1 hx2
      obtain ⟨kd, bn, nw⟩ := z
      replace hx0 : wr.cell? (ad.add (k * 3)) = some (.int .i64 kd) := hx0
      replace hx1 : wr.cell? ⟨(ad.add (k * 3)).block, (ad.add (k * 3)).off + 1, none⟩ = some (.int .i64 bn) := hx1
      replace hx2 : wr.cell? ⟨(ad.add (k * 3)).block, (ad.add (k * 3)).off + 2, none⟩ = some (.bool nw) := hx2
      clear hlt hk
      have HZ := Aside0.mk (heap_alloc_new wr (.cells #[.int .i64 kd, .int .i64 bn, .bool nw] 33))
      have cz0 := (blk_cell HZ.out 0).trans rfl
      have cz1 := (blk_cell HZ.out 1).trans rfl
      have cz2 := (blk_cell HZ.out 2).trans rfl
      go_upto_block 2 with (fail)
      clear cz0 cz1 cz2 hx0 hx1 hx2 p0 q0
      have HBG := Aside0.mk (show wr.heap.size ≠ g from Nat.ne_of_gt (IsS26.lt HI.out))
      replace HI := Aside0.mk (IsS26.alloc HI.out (.cells #[.int .i64 kd, .int .i64 bn, .bool nw] 33))
      replace HB := Aside0.mk (below_alloc HB.out (.cells #[.int .i64 kd, .int .i64 bn, .bool nw] 33))
      generalize wr.alloc (.cells #[.int .i64 kd, .int .i64 bn, .bool nw] 33) = W at HZ HI HB ⊢
      generalize wr.heap.size = gb at HZ HBG ⊢
      have z1 := (blk_cell HZ.out 1).trans rfl
      have z2 := (blk_cell HZ.out 2).trans rfl
      by_cases k0 : kd = 0
      · have k0b : (kd == 0) = true := beq_iff_eq.mpr k0
        clear k0
        have HW := Aside0.mk (wantS_in s bn nw HS.out)
        go_wp2_with fail
        go_at_call 8
        refine (Want_nice HI.out HB.out HS.out bn nw).mono ?_
        rintro e w5 ⟨rfl, hi, hb, hk⟩
        have HZ := Aside0.mk ((hk.2 gb (Array.getElem?_eq_some_iff.1 HZ.out).1 HBG.out (by simp)).trans HZ.out)
        have z1 := (blk_cell HZ.out 1).trans rfl
        have z2 := (blk_cell HZ.out 2).trans rfl
        have HI := Aside0.mk hi
        have HB := Aside0.mk hb
        clear hi hb hk
        cases wd
        · by_cases cb : 0 ≤ bn
          · have cbb : decide (0 ≤ bn) = true := decide_eq_true cb
            clear cb
            go_wp2_with fail
            rw [E3.out]
            first
              | (go_roundw; case rel => exact ⟨k + 1, true, la, _, _, HK.out, by first | rfl | rw [E3.out], rfl, rfl, ⟨HW.out⟩, ⟨fun _ => rfl⟩, HI, HB⟩)
              | (refine ⟨?_, ?measure⟩; exact ⟨k + 1, true, la, _, _, HK.out, by first | rfl | rw [E3.out], rfl, rfl, ⟨HW.out⟩, ⟨fun _ => rfl⟩, HI, HB⟩)
            case measure => have := HK.out; simp [intOf]; omega
          · have cbb : decide (0 ≤ bn) = false := decide_eq_false cb
            have HX := Aside0.mk (wantS_zero (nw := nw) HV.out rfl cb)
            clear cb
            go_wp2_with fail
            rw [E3.out]
            first
              | (go_roundw; case rel => exact ⟨k + 1, false, la, _, _, HK.out, by first | rfl | rw [E3.out], rfl, rfl, ⟨HW.out⟩, ⟨fun h => absurd HX.out h⟩, HI, HB⟩)
              | (refine ⟨?_, ?measure⟩; exact ⟨k + 1, false, la, _, _, HK.out, by first | rfl | rw [E3.out], rfl, rfl, ⟨HW.out⟩, ⟨fun h => absurd HX.out h⟩, HI, HB⟩)
            case measure => have := HK.out; simp [intOf]; omega
        · go_wp2_with fail
          rw [E3.out]
          first
            | (go_roundw; case rel => exact ⟨k + 1, true, la, _, _, HK.out, by first | rfl | rw [E3.out], rfl, rfl, ⟨HW.out⟩, ⟨fun _ => rfl⟩, HI, HB⟩)
            | (refine ⟨?_, ?measure⟩; exact ⟨k + 1, true, la, _, _, HK.out, by first | rfl | rw [E3.out], rfl, rfl, ⟨HW.out⟩, ⟨fun _ => rfl⟩, HI, HB⟩)
          case measure => have := HK.out; simp [intOf]; omega
      have k0b : (kd == 0) = false := beq_eq_false_iff_ne.mpr k0
      clear k0
      by_cases k1 : kd = 1
      · have k1b : (kd == 1) = true := beq_iff_eq.mpr k1
        clear k1
        go_wp2_with fail
        go_at_call 10
        refine (All_nice HI.out HB.out HS.out).mono ?_
        rintro e w5 ⟨rfl, hi, hb, _⟩
        have HI := Aside0.mk hi
        have HB := Aside0.mk hb
        clear hi hb
        go_wp2_with fail
        rw [E3.out]
        first
          | (go_roundw; case rel => exact ⟨k + 1, wd, la, _, _, HK.out, by first | rfl | rw [E3.out], rfl, rfl, ⟨nxA_in s 2 HS.out⟩, ⟨fun h => HV.out fun h0 => h (by rw [h0]; rfl)⟩, HI, HB⟩)
          | (refine ⟨?_, ?measure⟩; exact ⟨k + 1, wd, la, _, _, HK.out, by first | rfl | rw [E3.out], rfl, rfl, ⟨nxA_in s 2 HS.out⟩, ⟨fun h => HV.out fun h0 => h (by rw [h0]; rfl)⟩, HI, HB⟩)
        case measure => have := HK.out; simp [intOf]; omega
      have k1b : (kd == 1) = false := beq_eq_false_iff_ne.mpr k1
      clear k1
      by_cases k2 : kd = 2
      · have k2b : (kd == 2) = true := beq_iff_eq.mpr k2
        clear k2
        go_wp2_with fail
        go_at_call 11
        refine (Again_nice HI.out HB.out HS.out).mono ?_
        rintro e w5 ⟨rfl, hi, hb, _⟩
        have HI := Aside0.mk hi
        have HB := Aside0.mk hb
        clear hi hb
        go_wp2_with fail
        rw [E3.out]
        first
          | (go_roundw; case rel => exact ⟨k + 1, wd, la, _, _, HK.out, by first | rfl | rw [E3.out], rfl, rfl, ⟨nxA_in s 3 HS.out⟩, ⟨fun h => HV.out fun h0 => h (by rw [h0]; rfl)⟩, HI, HB⟩)
          | (refine ⟨?_, ?measure⟩; exact ⟨k + 1, wd, la, _, _, HK.out, by first | rfl | rw [E3.out], rfl, rfl, ⟨nxA_in s 3 HS.out⟩, ⟨fun h => HV.out fun h0 => h (by rw [h0]; rfl)⟩, HI, HB⟩)
        case measure => have := HK.out; simp [intOf]; omega
      have k2b : (kd == 2) = false := beq_eq_false_iff_ne.mpr k2
      clear k2
      by_cases k3 : kd = 3
      · have k3b : (kd == 3) = true := beq_iff_eq.mpr k3
        clear k3
        have hs5 : s = 0 ∨ s = 1 ∨ s = 2 ∨ s = 3 ∨ s = 4 := by have := HS.out; omega
        rcases hs5 with rfl | rfl | rfl | rfl | rfl
        · have HN := Aside0.mk (Say_nice HL.out HI.out HB.out (by decide))
          go_wp2_with fail
          go_at_call 9
          refine (HN.out).mono ?_
          rw [show sayE 0 = 0 from rfl, show sayB 0 b = 0 from rfl, show sayIs 0 = false from rfl, show nxA 0 4 = 0 from rfl]
          rintro e w5 ⟨rfl, hi, hb, _⟩
          have HI := Aside0.mk hi
          have HB := Aside0.mk hb
          clear hi hb
          go_wp2_with fail
          rw [E3.out]
          first
            | (go_roundw; case rel => exact ⟨k + 1, wd, la, 0, b, HK.out, by first | rfl | rw [E3.out], rfl, rfl, ⟨by decide⟩, ⟨fun h => absurd rfl h⟩, HI, HB⟩)
            | (refine ⟨?_, ?measure⟩; exact ⟨k + 1, wd, la, 0, b, HK.out, by first | rfl | rw [E3.out], rfl, rfl, ⟨by decide⟩, ⟨fun h => absurd rfl h⟩, HI, HB⟩)
          case measure => have := HK.out; simp [intOf]; omega
        · obtain rfl : wd = true := HV.out (by decide)
          have HN := Aside0.mk (Say_nice HL.out HI.out HB.out (by decide))
          go_wp2_with fail
          go_at_call 9
          refine (HN.out).mono ?_
          rw [show sayE 1 = 0 from rfl, show sayB 1 b = b from rfl, show sayIs 1 = true from rfl, show nxA 1 4 = 2 from rfl]
          rintro e w5 ⟨rfl, hi, hb, _⟩
          have HI := Aside0.mk hi
          have HB := Aside0.mk hb
          clear hi hb
          go_wp2_with fail
          rw [E3.out]
          first
            | (go_roundw; case rel => exact ⟨k + 1, true, 0, 2, b, HK.out, by first | rfl | rw [E3.out], rfl, rfl, ⟨by decide⟩, ⟨fun _ => rfl⟩, HI, HB⟩)
            | (refine ⟨?_, ?measure⟩; exact ⟨k + 1, true, 0, 2, b, HK.out, by first | rfl | rw [E3.out], rfl, rfl, ⟨by decide⟩, ⟨fun _ => rfl⟩, HI, HB⟩)
          case measure => have := HK.out; simp [intOf]; omega
        · obtain rfl : wd = true := HV.out (by decide)
          have HN := Aside0.mk (Say_nice HL.out HI.out HB.out (by decide))
          go_wp2_with fail
          go_at_call 9
          refine (HN.out).mono ?_
          rw [show sayE 2 = 1 from rfl, show sayB 2 b = b from rfl, show sayIs 2 = true from rfl, show nxA 2 4 = 3 from rfl]
          rintro e w5 ⟨rfl, hi, hb, _⟩
          have HI := Aside0.mk hi
          have HB := Aside0.mk hb
          clear hi hb
          go_wp2_with fail
          rw [E3.out]
          first
            | (go_roundw; case rel => exact ⟨k + 1, true, 1, 3, b, HK.out, by first | rfl | rw [E3.out], rfl, rfl, ⟨by decide⟩, ⟨fun _ => rfl⟩, HI, HB⟩)
            | (refine ⟨?_, ?measure⟩; exact ⟨k + 1, true, 1, 3, b, HK.out, by first | rfl | rw [E3.out], rfl, rfl, ⟨by decide⟩, ⟨fun _ => rfl⟩, HI, HB⟩)
          case measure => have := HK.out; simp [intOf]; omega
        · have HN := Aside0.mk (Say_nice HL.out HI.out HB.out (by decide))
          go_wp2_with fail
          go_at_call 9
          refine (HN.out).mono ?_
          rw [show sayE 3 = 0 from rfl, show sayB 3 b = 0 from rfl, show sayIs 3 = false from rfl, show nxA 3 4 = 3 from rfl]
          rintro e w5 ⟨rfl, hi, hb, _⟩
          have HI := Aside0.mk hi
          have HB := Aside0.mk hb
          clear hi hb
          go_wp2_with fail
          rw [E3.out]
          first
            | (go_roundw; case rel => exact ⟨k + 1, wd, la, 3, b, HK.out, by first | rfl | rw [E3.out], rfl, rfl, ⟨by decide⟩, ⟨HV.out⟩, HI, HB⟩)
            | (refine ⟨?_, ?measure⟩; exact ⟨k + 1, wd, la, 3, b, HK.out, by first | rfl | rw [E3.out], rfl, rfl, ⟨by decide⟩, ⟨HV.out⟩, HI, HB⟩)
          case measure => have := HK.out; simp [intOf]; omega
        · obtain rfl : wd = true := HV.out (by decide)
          have HN := Aside0.mk (Say_nice HL.out HI.out HB.out (by decide))
          go_wp2_with fail
          go_at_call 9
          refine (HN.out).mono ?_
          rw [show sayE 4 = 5 from rfl, show sayB 4 b = b from rfl, show sayIs 4 = true from rfl, show nxA 4 4 = 0 from rfl]
          rintro e w5 ⟨rfl, hi, hb, _⟩
          have HI := Aside0.mk hi
          have HB := Aside0.mk hb
          clear hi hb
          by_cases cl : la = 5
          · have clb : (la == 5) = true := beq_iff_eq.mpr cl
            clear cl
            go_wp2_with fail
            rw [E3.out]
            first
              | (go_roundw; case rel => exact ⟨k + 1, false, 5, 0, b, HK.out, by first | rfl | rw [E3.out], rfl, rfl, ⟨by decide⟩, ⟨fun h => absurd rfl h⟩, HI, HB⟩)
              | (refine ⟨?_, ?measure⟩; exact ⟨k + 1, false, 5, 0, b, HK.out, by first | rfl | rw [E3.out], rfl, rfl, ⟨by decide⟩, ⟨fun h => absurd rfl h⟩, HI, HB⟩)
            case measure => have := HK.out; simp [intOf]; omega
          · have clb : (la == 5) = false := beq_eq_false_iff_ne.mpr cl
            clear cl
            go_wp2_with fail
            rw [E3.out]
            first
              | (go_roundw; case rel => exact ⟨k + 1, false, 5, 0, b, HK.out, by first | rfl | rw [E3.out], rfl, rfl, ⟨by decide⟩, ⟨fun h => absurd rfl h⟩, HI, HB⟩)
              | (refine ⟨?_, ?measure⟩; exact ⟨k + 1, false, 5, 0, b, HK.out, by first | rfl | rw [E3.out], rfl, rfl, ⟨by decide⟩, ⟨fun h => absurd rfl h⟩, HI, HB⟩)
            case measure => have := HK.out; simp [intOf]; omega
      have k3b : (kd == 3) = false := beq_eq_false_iff_ne.mpr k3
      clear k3
      go_wp2_with fail
      rw [E3.out]
      first
        | (go_roundw; case rel => exact ⟨k + 1, wd, la, s, b, HK.out, by first | rfl | rw [E3.out], rfl, rfl, ⟨HS.out⟩, ⟨HV.out⟩, HI, HB⟩)
        | (refine ⟨?_, ?measure⟩; exact ⟨k + 1, wd, la, s, b, HK.out, by first | rfl | rw [E3.out], rfl, rfl, ⟨HS.out⟩, ⟨HV.out⟩, HI, HB⟩)
      case measure => have := HK.out; simp [intOf]; omega
    · have hltn : decide (k < l0.length) = false := decide_eq_false (by omega)
      clear hlt hk
      go_wp2_with fail
      go_ret
      exact ⟨rfl, HB.out⟩


end Go.Proofs.YtnphindpbdjmpaaDoor.PAppliPairs
