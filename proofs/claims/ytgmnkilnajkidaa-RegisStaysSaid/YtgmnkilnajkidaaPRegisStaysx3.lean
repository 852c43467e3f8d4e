-- Written by a program of this session (see NOTES.md), which reads the translation's print; Lean checks it.
import Derived.Test.YtgmnkilnajkidaaPRegisStaysx0
import Derived.Test.YtgmnkilnajkidaaPRegisStaysx1
import Derived.Test.YtgmnkilnajkidaaPRegisStaysx2
namespace Go.Proofs.Ytgmnkilnajkidaa.PRegisStays
open Go.RowKit Go.Proofs.YtgmnkilnajkidaaW.PrintWords Go.Proofs.YtgmnkilnajkidaaW.PrintLast Go.Proofs.YtgmnkilnajkidaaW.PrintMore
attribute [local go_sem] max2_int min2_int max_two min_two max_three min_three max_four min_four   -- for this text's walks alone
set_option linter.unusedVariables false
set_option linter.unusedSimpArgs false

/-! ### kissgatelaw14_RegisStays: function 4 -/
def kissgatelaw14_RegisStays.Pure : Prop := True
theorem all_eq (m s b d now : Int) (hs : 0 ≤ s ∧ s ≤ 2) : regis_Reg_All.f m s b d now = some (m, nx s 2, b, du s d 2 now) := by
  unfold regis_Reg_All.f; rw [step_eq _ _ _ _ _ _ hs (by omega)]; rfl
theorem All_nice {g : Nat} {m s b d : Int} {w0 w : World} (hI : IsS49 w0 w g m s b d) (hB : Below w0.heap.size w0 w) (hs : 0 ≤ s ∧ s ≤ 2) (now : Int) :
    Calls Try.prog 13 #[.pointer (some ⟨g, 0, none⟩), .int .i64 now] w fun e w' => e = .returned (.tuple #[]) ∧ IsS49 w0 w' g m (nx s 2) b (du s d 2 now) ∧ Below w0.heap.size w0 w' ∧ KeepBut w w' g none :=
  regis_Reg_All.calls g m s b d now _ _ _ _ w0 w hI hB (all_eq m s b d now hs)
theorem State_nice {g : Nat} {m s b d : Int} {w0 w : World} (hI : IsS49 w0 w g m s b d) (hB : Below w0.heap.size w0 w) :
    Calls Try.prog 14 #[.pointer (some ⟨g, 0, none⟩)] w fun e w' => e = .returned (.int .i64 s) ∧ IsS49 w0 w' g m s b d ∧ Below w0.heap.size w0 w' ∧ KeepBut w w' g none :=
  regis_Reg_State.calls g m s b d _ _ _ _ _ w0 w hI hB rfl
theorem stays_new : hearS 0 0 0 0 0 0 = (2, 0, 0) := by decide +kernel
theorem stays_lv (t d : Int) (h : 0 ≤ t ∧ t ≤ 10000) : hearS 2 t d 5 t t = (1, t, t + 24) := by
  unfold hearS du
  rw [if_neg (by decide), if_pos rfl, if_pos (by decide)]
  have : wrap64 (t + 24) = t + 24 := by unfold wrap64; omega
  rw [this]; rfl
theorem stays_all (t d : Int) (h : 0 ≤ t ∧ t ≤ 10000) : du 2 d 2 t = t + 24 := by
  unfold du
  rw [if_pos (by decide)]
  unfold wrap64; omega
theorem stays_tick (b j : Int) (h : 0 ≤ b ∧ b ≤ 10000) (hj : 0 ≤ j ∧ j < 24) : tickS 1 b (b + 24) (b + j) = (1, b, b + 24) := by
  have e : wrap64 (b + j - b) = j := by unfold wrap64; omega
  unfold tickS
  rw [e, if_neg (show ¬ ((1 : Int) = 1 ∧ b + j ≥ b + 24) by omega), if_neg (show ¬ ((1 : Int) ≠ 0 ∧ j > 120) by omega)]
theorem stays_join (b d t : Int) (h : 0 ≤ b ∧ b ≤ t) : hearS 1 b d 1 t t = (2, t, d) := by
  have e1 : mn t t = t := by unfold mn; simp
  have e2 : wrap64 (t - t) = 0 := by rw [Int.sub_self]; decide +kernel
  have e3 : mx b t = t := by unfold mx; split <;> omega
  unfold hearS
  rw [e1, e2, if_pos (by decide), if_pos ⟨by decide, by omega⟩, if_neg (by decide), e3]
set_option maxHeartbeats 8000000 in
set_option maxRecDepth 100000 in
theorem kissgatelaw14_RegisStays.walk (P : kissgatelaw14_RegisStays.Pure) (A0 : Option Addr) (c0 : Nat) (l0 : List Int) (A1 : Option Addr) (c1 : Nat) (l1 : List Bool) (w : World) (hr0 : Kd.C (Kd.int .i64) w A0 l0.length l0) (hc0 : l0.length ≤ c0) (hw0 : ∀ z ∈ l0, (Lit.int .i64 z).wf = true) (hr1 : Kd.C Kd.bool w A1 l1.length l1) (hc1 : l1.length ≤ c1) (hw1 : ∀ z ∈ l1, True) :
    Calls Try.prog 4 #[.slice A0 l0.length c0, .slice A1 l1.length c1] w fun e w' => e = .returned (.bool true) ∧ Below w.heap.size w w' := by
  clear P hw0 hw1 hc0 hc1
  have HR0 := Aside0.mk hr0
  have HR1 := Aside0.mk hr1
  clear hr0 hr1
  go_enter Try.func4, Try.ntmps4
  go_wp2_with fail
  go_at_call 8
  refine (kissgatelaw14_alive.good w _ (Below.refl _ _)).mono ?_
  rintro e w1 ⟨rfl, hb, _⟩
  have HB := Aside0.mk hb
  clear hb
  by_cases c1 : (100 : Int) < (l0.length : Int)
  · have c1b : decide ((100 : Int) < (l0.length : Int)) = true := decide_eq_true c1
    go_wp2_with fail
    go_ret
    exact ⟨rfl, HB.out⟩
  have c1b : decide ((100 : Int) < (l0.length : Int)) = false := decide_eq_false c1
  have HL := Aside0.mk (show l0.length ≤ 100 by omega)
  clear c1
  go_wp2_with fail
  go_at_call 9
  refine (regis_New.good 0 (by decide) (by decide) w _ HB.out).mono ?_
  rintro e w2 ⟨g, rfl, hg, hi, hb, _⟩
  have HI := Aside0.mk hi
  have HB := Aside0.mk hb
  clear hi hb hg
  go_wp2_with fail
  go_at_call 10
  refine (Hear_nice HI.out HB.out (by decide) 0 0 0).mono ?_
  rw [stays_new]
  rintro e w3 ⟨rfl, hi, hb, _⟩
  have HI := Aside0.mk hi
  have HB := Aside0.mk hb
  clear hi hb
  go_wp2_with fail
  go_loopw [7, 23] (fun v7 v23 wr => ∃ (k : Nat) (t d : Int), k ≤ l0.length ∧ v23 = .int .i64 (k : Nat) ∧ v7 = .int .i64 t ∧ Aside0 (0 ≤ t ∧ t ≤ 24 * k) ∧ Aside0 (IsS49 w wr g 0 2 t d) ∧ Aside0 (Below w.heap.size w wr)) (fun _ v23 _ => l0.length - (intOf v23).toNat)
  case atStart => exact ⟨0, 0, 0, Nat.zero_le _, rfl, rfl, ⟨by decide⟩, ⟨HI.out⟩, ⟨HB.out⟩⟩
  case round =>
    clear HI HB c1b
    obtain ⟨k, t, d, hk, rfl, rfl, HT, HI, HB⟩ := hrel
    by_cases hlt : (k : Int) < (l0.length : Int)
    · have hltb : decide ((k : Int) < (l0.length : Int)) = true := decide_eq_true hlt
      have hltn : decide (k < l0.length) = true := decide_eq_true (by omega)
      have HK := Aside0.mk (show k < l0.length by omega)
      obtain ⟨ad0, e0, hx0⟩ := Kd.at_int HR0.out (k : Int) (by omega) hlt
      cases e0
      replace hx0 := (HB.out.cell (World.block_lt_of_cell? w _ hx0)).trans hx0
      have p0 := eq_true (show 0 ≤ (k : Int) by omega)
      have q0 := eq_true hlt
      clear hlt hk
      obtain ⟨x, hx⟩ : ∃ x, x = rd l0 (k : Int) := ⟨_, rfl⟩
      rw [← hx] at hx0
      replace hx0 : wr.cell? (ad0.add k) = some (.int .i64 x) := hx0
      clear hx
      by_cases cx : x < 0
      · have cxb : decide (x < 0) = true := decide_eq_true cx
        go_wp2_with fail
        go_ret
        exact ⟨rfl, HB.out⟩
      have cxb : decide (x < 0) = false := decide_eq_false cx
      by_cases cy : x ≥ 24
      · have cyb : decide (24 ≤ x) = true := decide_eq_true cy
        go_wp2_with fail
        go_ret
        exact ⟨rfl, HB.out⟩
      have cyb : decide (24 ≤ x) = false := decide_eq_false cy
      have HX := Aside0.mk (show 0 ≤ x ∧ x < 24 by omega)
      clear cx cy
      by_cases q1 : (k : Int) < (l1.length : Int)
      · have q1b : decide ((k : Int) < (l1.length : Int)) = true := decide_eq_true q1
        have q1n : decide (k < l1.length) = true := decide_eq_true (by omega)
        obtain ⟨ad1, e1, hx1⟩ := Kd.at_bool HR1.out (k : Int) (by omega) q1
        cases e1
        replace hx1 := (HB.out.cell (World.block_lt_of_cell? w _ hx1)).trans hx1
        replace hx1 : wr.cell? (ad1.add k) = some (.bool (rdOf false l1 (k : Int))) := hx1
        have q1t := eq_true q1
        clear q1
        by_cases q2 : rdOf false l1 (k : Int) = true
        · rw [q2] at hx1
          go_wp2_with fail
          go_at_call 10
          refine (Hear_nice HI.out HB.out (by decide) 5 t t).mono ?_
          rw [stays_lv t d (by have := HT.out; have := HK.out; have := HL.out; omega)]
          rintro e w4 ⟨rfl, hi, hb, _⟩
          have HI := Aside0.mk hi
          have HB := Aside0.mk hb
          clear hi hb
          go_wp2_with fail
          go_loopw [7, 52] (fun v7 v52 wr => ∃ (j : Int), v52 = .int .i64 j ∧ v7 = .int .i64 (t + j) ∧ Aside0 (0 ≤ j ∧ j ≤ x) ∧ Aside0 (IsS49 w wr g 0 1 t (t + 24)) ∧ Aside0 (Below w.heap.size w wr)) (fun _ v52 _ => (x - intOf v52).toNat)
          case atStart => exact ⟨0, rfl, by rw [Int.add_zero], ⟨by have := HX.out; omega⟩, ⟨HI.out⟩, ⟨HB.out⟩⟩
          case round =>
            clear HI HB
            obtain ⟨j, rfl, rfl, HJ, HI, HB⟩ := hrel
            by_cases cj : j < x
            · have cjb : decide (j < x) = true := decide_eq_true cj
              have e1 : wrap64 (t + j + 1) = t + (j + 1) := by have := HT.out; have := HK.out; have := HL.out; have := HJ.out; have := HX.out; unfold wrap64; omega
              have e2 : wrap64 (j + 1) = j + 1 := by have := HJ.out; have := HX.out; unfold wrap64; omega
              have HC := Aside0.mk cj
              clear cj
              go_wp2_with fail
              go_at_call 11
              refine (Tick_nice HI.out HB.out (by decide) (t + (j + 1))).mono ?_
              rw [stays_tick t (j + 1) (by have := HT.out; have := HK.out; have := HL.out; omega) (by have := HJ.out; have := HX.out; have := HC.out; omega)]
              rintro e w5 ⟨rfl, hi, hb, _⟩
              have HI := Aside0.mk hi
              have HB := Aside0.mk hb
              clear hi hb
              go_wp2_with fail
              go_at_call 12
              refine (Has_nice HI.out HB.out).mono ?_
              rw [show hasB 0 1 = true from rfl]
              rintro e w6 ⟨rfl, hi, hb, _⟩
              have HI := Aside0.mk hi
              have HB := Aside0.mk hb
              clear hi hb
              go_wp2_with fail
              (try rw [e2])
              first
                | (go_roundw; case rel => exact ⟨j + 1, by first | rfl | rw [e2], by first | rfl | rw [e1], ⟨by have := HJ.out; have := HC.out; omega⟩, ⟨HI.out⟩, ⟨HB.out⟩⟩)
                | (refine ⟨?_, ?measure⟩; refine ⟨_, _, _, _, _, _, _, _, _, _, _, _, _, ?rel, rfl⟩; case rel => exact ⟨j + 1, by first | rfl | rw [e2], by first | rfl | rw [e1], ⟨by have := HJ.out; have := HC.out; omega⟩, ⟨HI.out⟩, ⟨HB.out⟩⟩)
              case measure => have := HJ.out; have := HC.out; simp [intOf]; omega
            · have cjb : decide (j < x) = false := decide_eq_false cj
              have HC := Aside0.mk (show j = x by have := HJ.out; omega)
              clear cj
              have e3 : wrap64 ((k : Int) + 1) = ((k + 1 : Nat) : Int) := by have := HK.out; have := HL.out; unfold wrap64; omega
              go_wp2_with fail
              go_at_call 10
              refine (Hear_nice HI.out HB.out (by decide) 1 (t + j) (t + j)).mono ?_
              rw [stays_join t (t + 24) (t + j) (by have := HT.out; have := HJ.out; omega)]
              rintro e w5 ⟨rfl, hi, hb, _⟩
              have HI := Aside0.mk hi
              have HB := Aside0.mk hb
              clear hi hb
              go_wp2_with fail
              (try rw [e3])
              go_roundw
              case rel => exact ⟨k + 1, t + j, t + 24, HK.out, by first | rfl | rw [e3], rfl, ⟨by have := HT.out; have := HJ.out; have := HX.out; omega⟩, ⟨HI.out⟩, ⟨HB.out⟩⟩
              case measure => have := HK.out; simp [intOf]; omega
        · rw [Bool.eq_false_iff.mpr q2] at hx1
          go_wp2_with fail
          go_at_call 13
          refine (All_nice HI.out HB.out (by decide) t).mono ?_
          rw [stays_all t d (by have := HT.out; have := HK.out; have := HL.out; omega), show nx 2 2 = 1 from rfl]
          rintro e w4 ⟨rfl, hi, hb, _⟩
          have HI := Aside0.mk hi
          have HB := Aside0.mk hb
          clear hi hb
          go_wp2_with fail
          go_loopw [7, 52] (fun v7 v52 wr => ∃ (j : Int), v52 = .int .i64 j ∧ v7 = .int .i64 (t + j) ∧ Aside0 (0 ≤ j ∧ j ≤ x) ∧ Aside0 (IsS49 w wr g 0 1 t (t + 24)) ∧ Aside0 (Below w.heap.size w wr)) (fun _ v52 _ => (x - intOf v52).toNat)
          case atStart => exact ⟨0, rfl, by rw [Int.add_zero], ⟨by have := HX.out; omega⟩, ⟨HI.out⟩, ⟨HB.out⟩⟩
          case round =>
            clear HI HB
            obtain ⟨j, rfl, rfl, HJ, HI, HB⟩ := hrel
            by_cases cj : j < x
            · have cjb : decide (j < x) = true := decide_eq_true cj
              have e1 : wrap64 (t + j + 1) = t + (j + 1) := by have := HT.out; have := HK.out; have := HL.out; have := HJ.out; have := HX.out; unfold wrap64; omega
              have e2 : wrap64 (j + 1) = j + 1 := by have := HJ.out; have := HX.out; unfold wrap64; omega
              have HC := Aside0.mk cj
              clear cj
              go_wp2_with fail
              go_at_call 11
              refine (Tick_nice HI.out HB.out (by decide) (t + (j + 1))).mono ?_
              rw [stays_tick t (j + 1) (by have := HT.out; have := HK.out; have := HL.out; omega) (by have := HJ.out; have := HX.out; have := HC.out; omega)]
              rintro e w5 ⟨rfl, hi, hb, _⟩
              have HI := Aside0.mk hi
              have HB := Aside0.mk hb
              clear hi hb
              go_wp2_with fail
              go_at_call 12
              refine (Has_nice HI.out HB.out).mono ?_
              rw [show hasB 0 1 = true from rfl]
              rintro e w6 ⟨rfl, hi, hb, _⟩
              have HI := Aside0.mk hi
              have HB := Aside0.mk hb
              clear hi hb
              go_wp2_with fail
              (try rw [e2])
              first
                | (go_roundw; case rel => exact ⟨j + 1, by first | rfl | rw [e2], by first | rfl | rw [e1], ⟨by have := HJ.out; have := HC.out; omega⟩, ⟨HI.out⟩, ⟨HB.out⟩⟩)
                | (refine ⟨?_, ?measure⟩; refine ⟨_, _, _, _, _, _, _, _, _, _, _, _, _, ?rel, rfl⟩; case rel => exact ⟨j + 1, by first | rfl | rw [e2], by first | rfl | rw [e1], ⟨by have := HJ.out; have := HC.out; omega⟩, ⟨HI.out⟩, ⟨HB.out⟩⟩)
              case measure => have := HJ.out; have := HC.out; simp [intOf]; omega
            · have cjb : decide (j < x) = false := decide_eq_false cj
              have HC := Aside0.mk (show j = x by have := HJ.out; omega)
              clear cj
              have e3 : wrap64 ((k : Int) + 1) = ((k + 1 : Nat) : Int) := by have := HK.out; have := HL.out; unfold wrap64; omega
              go_wp2_with fail
              go_at_call 10
              refine (Hear_nice HI.out HB.out (by decide) 1 (t + j) (t + j)).mono ?_
              rw [stays_join t (t + 24) (t + j) (by have := HT.out; have := HJ.out; omega)]
              rintro e w5 ⟨rfl, hi, hb, _⟩
              have HI := Aside0.mk hi
              have HB := Aside0.mk hb
              clear hi hb
              go_wp2_with fail
              (try rw [e3])
              go_roundw
              case rel => exact ⟨k + 1, t + j, t + 24, HK.out, by first | rfl | rw [e3], rfl, ⟨by have := HT.out; have := HJ.out; have := HX.out; omega⟩, ⟨HI.out⟩, ⟨HB.out⟩⟩
              case measure => have := HK.out; simp [intOf]; omega
      · have q1b : decide ((k : Int) < (l1.length : Int)) = false := decide_eq_false q1
        have q1n : decide (k < l1.length) = false := decide_eq_false (by omega)
        clear q1
        go_wp2_with fail
        go_at_call 13
        refine (All_nice HI.out HB.out (by decide) t).mono ?_
        rw [stays_all t d (by have := HT.out; have := HK.out; have := HL.out; omega), show nx 2 2 = 1 from rfl]
        rintro e w4 ⟨rfl, hi, hb, _⟩
        have HI := Aside0.mk hi
        have HB := Aside0.mk hb
        clear hi hb
        go_wp2_with fail
        go_loopw [7, 52] (fun v7 v52 wr => ∃ (j : Int), v52 = .int .i64 j ∧ v7 = .int .i64 (t + j) ∧ Aside0 (0 ≤ j ∧ j ≤ x) ∧ Aside0 (IsS49 w wr g 0 1 t (t + 24)) ∧ Aside0 (Below w.heap.size w wr)) (fun _ v52 _ => (x - intOf v52).toNat)
        case atStart => exact ⟨0, rfl, by rw [Int.add_zero], ⟨by have := HX.out; omega⟩, ⟨HI.out⟩, ⟨HB.out⟩⟩
        case round =>
          clear HI HB
          obtain ⟨j, rfl, rfl, HJ, HI, HB⟩ := hrel
          by_cases cj : j < x
          · have cjb : decide (j < x) = true := decide_eq_true cj
            have e1 : wrap64 (t + j + 1) = t + (j + 1) := by have := HT.out; have := HK.out; have := HL.out; have := HJ.out; have := HX.out; unfold wrap64; omega
            have e2 : wrap64 (j + 1) = j + 1 := by have := HJ.out; have := HX.out; unfold wrap64; omega
            have HC := Aside0.mk cj
            clear cj
            go_wp2_with fail
            go_at_call 11
            refine (Tick_nice HI.out HB.out (by decide) (t + (j + 1))).mono ?_
            rw [stays_tick t (j + 1) (by have := HT.out; have := HK.out; have := HL.out; omega) (by have := HJ.out; have := HX.out; have := HC.out; omega)]
            rintro e w5 ⟨rfl, hi, hb, _⟩
            have HI := Aside0.mk hi
            have HB := Aside0.mk hb
            clear hi hb
            go_wp2_with fail
            go_at_call 12
            refine (Has_nice HI.out HB.out).mono ?_
            rw [show hasB 0 1 = true from rfl]
            rintro e w6 ⟨rfl, hi, hb, _⟩
            have HI := Aside0.mk hi
            have HB := Aside0.mk hb
            clear hi hb
            go_wp2_with fail
            (try rw [e2])
            first
              | (go_roundw; case rel => exact ⟨j + 1, by first | rfl | rw [e2], by first | rfl | rw [e1], ⟨by have := HJ.out; have := HC.out; omega⟩, ⟨HI.out⟩, ⟨HB.out⟩⟩)
              | (refine ⟨?_, ?measure⟩; refine ⟨_, _, _, _, _, _, _, _, _, _, _, _, _, ?rel, rfl⟩; case rel => exact ⟨j + 1, by first | rfl | rw [e2], by first | rfl | rw [e1], ⟨by have := HJ.out; have := HC.out; omega⟩, ⟨HI.out⟩, ⟨HB.out⟩⟩)
            case measure => have := HJ.out; have := HC.out; simp [intOf]; omega
          · have cjb : decide (j < x) = false := decide_eq_false cj
            have HC := Aside0.mk (show j = x by have := HJ.out; omega)
            clear cj
            have e3 : wrap64 ((k : Int) + 1) = ((k + 1 : Nat) : Int) := by have := HK.out; have := HL.out; unfold wrap64; omega
            go_wp2_with fail
            go_at_call 10
            refine (Hear_nice HI.out HB.out (by decide) 1 (t + j) (t + j)).mono ?_
            rw [stays_join t (t + 24) (t + j) (by have := HT.out; have := HJ.out; omega)]
            rintro e w5 ⟨rfl, hi, hb, _⟩
            have HI := Aside0.mk hi
            have HB := Aside0.mk hb
            clear hi hb
            go_wp2_with fail
            (try rw [e3])
            go_roundw
            case rel => exact ⟨k + 1, t + j, t + 24, HK.out, by first | rfl | rw [e3], rfl, ⟨by have := HT.out; have := HJ.out; have := HX.out; omega⟩, ⟨HI.out⟩, ⟨HB.out⟩⟩
            case measure => have := HK.out; simp [intOf]; omega
    · have hltb : decide ((k : Int) < (l0.length : Int)) = false := decide_eq_false hlt
      have hltn : decide (k < l0.length) = false := decide_eq_false (by omega)
      clear hlt hk
      go_wp2_with fail
      go_at_call 12
      refine (Has_nice HI.out HB.out).mono ?_
      rw [show hasB 0 2 = true from rfl]
      rintro e w6 ⟨rfl, hi, hb, _⟩
      have HI := Aside0.mk hi
      have HB := Aside0.mk hb
      clear hi hb
      go_wp2_with fail
      go_at_call 14
      refine (State_nice HI.out HB.out).mono ?_
      rintro e w7 ⟨rfl, hi, hb, _⟩
      have HI := Aside0.mk hi
      have HB := Aside0.mk hb
      clear hi hb
      go_wp2_with fail
      go_ret
      exact ⟨rfl, HB.out⟩


end Go.Proofs.Ytgmnkilnajkidaa.PRegisStays
