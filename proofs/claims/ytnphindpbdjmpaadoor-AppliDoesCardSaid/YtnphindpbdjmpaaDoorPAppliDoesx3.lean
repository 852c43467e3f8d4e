-- Written by a program of this session (see NOTES.md), which reads the translation's print; Lean checks it.
import Derived.Test.YtnphindpbdjmpaaDoorPAppliDoesx0
import Derived.Test.YtnphindpbdjmpaaDoorPAppliDoesx1
import Derived.Test.YtnphindpbdjmpaaDoorPAppliDoesx2
namespace Go.Proofs.YtnphindpbdjmpaaDoor.PAppliDoes
open Go.RowKit Go.Proofs.YtnphindpbdjmpaaDoorW.PrintWords Go.Proofs.YtnphindpbdjmpaaDoorW.PrintLast Go.Proofs.YtnphindpbdjmpaaDoorW.PrintMore
attribute [local go_sem] max2_int min2_int max_two min_two max_three min_three max_four min_four   -- for this text's walks alone
set_option linter.unusedVariables false
set_option linter.unusedSimpArgs false

/-! ### kissgateref13_Next: function 26 -/
def kissgateref13_Next.tab (a0 : Bool) : List (List Int) := if a0 = true then [[1, 0, 0, 0, 0, 1], [1, 4, 1, 1, 2, 1], [2, 4, 2, 2, 3, 1], [3, 4, 2, 2, 3, 1], [2, 4, 4, 4, 0, 1]] else [[2, 0, 0, 0, 0], [2, 1, 1, 0, 0], [2, 1, 1, 2, 0]]
def kissgateref13_Next.f (a0 : Bool) (a1 a2 : Int) : Option Int := if 0 ≤ a1 ∧ 0 ≤ a2 then ((kissgateref13_Next.tab a0)[a1.toNat]?).bind fun r => r[a2.toNat]? else none
set_option maxHeartbeats 4000000 in
set_option maxRecDepth 100000 in
theorem kissgateref13_Next.walk_false_0 (a2 : Int) (r : Int) (w : World) (h : kissgateref13_Next.f false 0 a2 = some r) : Calls Tryd.prog 26 #[.bool false, .int .i64 0, .int .i64 a2] w fun e w' => e = .returned (.int .i64 r) ∧ Drawn0 w w' := by
  have h2 : 0 ≤ a2 ∧ a2 < 5 := by
    unfold kissgateref13_Next.f at h
    by_cases h0 : 0 ≤ a2
    · refine ⟨h0, ?_⟩
      rw [if_pos ⟨by decide, h0⟩] at h
      have h3 : ([2, 0, 0, 0, 0] : List Int)[a2.toNat]? = some r := h
      have := (List.getElem?_eq_some_iff.1 h3).1
      simp only [List.length_cons, List.length_nil] at this
      omega
    · rw [if_neg (fun e => h0 e.2)] at h; cases h
  have hc : a2 = 0 ∨ a2 = 1 ∨ a2 = 2 ∨ a2 = 3 ∨ a2 = 4 := by omega
  have ia : ∀ w, (Instr.index 53 (.agg #[.string ⟨#[50, 48, 48, 48, 48]⟩, .string ⟨#[50, 49, 49, 48, 48]⟩, .string ⟨#[50, 49, 49, 50, 48]⟩]) (.int .i64 0)).run Tryd.prog w = .ok (.string ⟨#[50, 48, 48, 48, 48]⟩) w := fun _ => by kernel_rfl
  rcases hc with rfl | rfl | rfl | rfl | rfl
  · obtain rfl : (2 : Int) = r := Option.some.inj h
    have ib : ∀ w, (Instr.index 9 (.string ⟨#[50, 48, 48, 48, 48]⟩) (.int .i64 0)).run Tryd.prog w = .ok (.int .u8 50) w := fun _ => by kernel_rfl
    go_enter Tryd.func26, Tryd.ntmps26
    go_wp2
    go_ret
    exact ⟨rfl, by repeat (first | exact Drawn0.refl _ | apply Drawn0.step)⟩
  · obtain rfl : (0 : Int) = r := Option.some.inj h
    have ib : ∀ w, (Instr.index 9 (.string ⟨#[50, 48, 48, 48, 48]⟩) (.int .i64 1)).run Tryd.prog w = .ok (.int .u8 48) w := fun _ => by kernel_rfl
    go_enter Tryd.func26, Tryd.ntmps26
    go_wp2
    go_ret
    exact ⟨rfl, by repeat (first | exact Drawn0.refl _ | apply Drawn0.step)⟩
  · obtain rfl : (0 : Int) = r := Option.some.inj h
    have ib : ∀ w, (Instr.index 9 (.string ⟨#[50, 48, 48, 48, 48]⟩) (.int .i64 2)).run Tryd.prog w = .ok (.int .u8 48) w := fun _ => by kernel_rfl
    go_enter Tryd.func26, Tryd.ntmps26
    go_wp2
    go_ret
    exact ⟨rfl, by repeat (first | exact Drawn0.refl _ | apply Drawn0.step)⟩
  · obtain rfl : (0 : Int) = r := Option.some.inj h
    have ib : ∀ w, (Instr.index 9 (.string ⟨#[50, 48, 48, 48, 48]⟩) (.int .i64 3)).run Tryd.prog w = .ok (.int .u8 48) w := fun _ => by kernel_rfl
    go_enter Tryd.func26, Tryd.ntmps26
    go_wp2
    go_ret
    exact ⟨rfl, by repeat (first | exact Drawn0.refl _ | apply Drawn0.step)⟩
  · obtain rfl : (0 : Int) = r := Option.some.inj h
    have ib : ∀ w, (Instr.index 9 (.string ⟨#[50, 48, 48, 48, 48]⟩) (.int .i64 4)).run Tryd.prog w = .ok (.int .u8 48) w := fun _ => by kernel_rfl
    go_enter Tryd.func26, Tryd.ntmps26
    go_wp2
    go_ret
    exact ⟨rfl, by repeat (first | exact Drawn0.refl _ | apply Drawn0.step)⟩
set_option maxHeartbeats 4000000 in
set_option maxRecDepth 100000 in
theorem kissgateref13_Next.walk_false_1 (a2 : Int) (r : Int) (w : World) (h : kissgateref13_Next.f false 1 a2 = some r) : Calls Tryd.prog 26 #[.bool false, .int .i64 1, .int .i64 a2] w fun e w' => e = .returned (.int .i64 r) ∧ Drawn0 w w' := by
  have h2 : 0 ≤ a2 ∧ a2 < 5 := by
    unfold kissgateref13_Next.f at h
    by_cases h0 : 0 ≤ a2
    · refine ⟨h0, ?_⟩
      rw [if_pos ⟨by decide, h0⟩] at h
      have h3 : ([2, 1, 1, 0, 0] : List Int)[a2.toNat]? = some r := h
      have := (List.getElem?_eq_some_iff.1 h3).1
      simp only [List.length_cons, List.length_nil] at this
      omega
    · rw [if_neg (fun e => h0 e.2)] at h; cases h
  have hc : a2 = 0 ∨ a2 = 1 ∨ a2 = 2 ∨ a2 = 3 ∨ a2 = 4 := by omega
  have ia : ∀ w, (Instr.index 53 (.agg #[.string ⟨#[50, 48, 48, 48, 48]⟩, .string ⟨#[50, 49, 49, 48, 48]⟩, .string ⟨#[50, 49, 49, 50, 48]⟩]) (.int .i64 1)).run Tryd.prog w = .ok (.string ⟨#[50, 49, 49, 48, 48]⟩) w := fun _ => by kernel_rfl
  rcases hc with rfl | rfl | rfl | rfl | rfl
  · obtain rfl : (2 : Int) = r := Option.some.inj h
    have ib : ∀ w, (Instr.index 9 (.string ⟨#[50, 49, 49, 48, 48]⟩) (.int .i64 0)).run Tryd.prog w = .ok (.int .u8 50) w := fun _ => by kernel_rfl
    go_enter Tryd.func26, Tryd.ntmps26
    go_wp2
    go_ret
    exact ⟨rfl, by repeat (first | exact Drawn0.refl _ | apply Drawn0.step)⟩
  · obtain rfl : (1 : Int) = r := Option.some.inj h
    have ib : ∀ w, (Instr.index 9 (.string ⟨#[50, 49, 49, 48, 48]⟩) (.int .i64 1)).run Tryd.prog w = .ok (.int .u8 49) w := fun _ => by kernel_rfl
    go_enter Tryd.func26, Tryd.ntmps26
    go_wp2
    go_ret
    exact ⟨rfl, by repeat (first | exact Drawn0.refl _ | apply Drawn0.step)⟩
  · obtain rfl : (1 : Int) = r := Option.some.inj h
    have ib : ∀ w, (Instr.index 9 (.string ⟨#[50, 49, 49, 48, 48]⟩) (.int .i64 2)).run Tryd.prog w = .ok (.int .u8 49) w := fun _ => by kernel_rfl
    go_enter Tryd.func26, Tryd.ntmps26
    go_wp2
    go_ret
    exact ⟨rfl, by repeat (first | exact Drawn0.refl _ | apply Drawn0.step)⟩
  · obtain rfl : (0 : Int) = r := Option.some.inj h
    have ib : ∀ w, (Instr.index 9 (.string ⟨#[50, 49, 49, 48, 48]⟩) (.int .i64 3)).run Tryd.prog w = .ok (.int .u8 48) w := fun _ => by kernel_rfl
    go_enter Tryd.func26, Tryd.ntmps26
    go_wp2
    go_ret
    exact ⟨rfl, by repeat (first | exact Drawn0.refl _ | apply Drawn0.step)⟩
  · obtain rfl : (0 : Int) = r := Option.some.inj h
    have ib : ∀ w, (Instr.index 9 (.string ⟨#[50, 49, 49, 48, 48]⟩) (.int .i64 4)).run Tryd.prog w = .ok (.int .u8 48) w := fun _ => by kernel_rfl
    go_enter Tryd.func26, Tryd.ntmps26
    go_wp2
    go_ret
    exact ⟨rfl, by repeat (first | exact Drawn0.refl _ | apply Drawn0.step)⟩
set_option maxHeartbeats 4000000 in
set_option maxRecDepth 100000 in
theorem kissgateref13_Next.walk_false_2 (a2 : Int) (r : Int) (w : World) (h : kissgateref13_Next.f false 2 a2 = some r) : Calls Tryd.prog 26 #[.bool false, .int .i64 2, .int .i64 a2] w fun e w' => e = .returned (.int .i64 r) ∧ Drawn0 w w' := by
  have h2 : 0 ≤ a2 ∧ a2 < 5 := by
    unfold kissgateref13_Next.f at h
    by_cases h0 : 0 ≤ a2
    · refine ⟨h0, ?_⟩
      rw [if_pos ⟨by decide, h0⟩] at h
      have h3 : ([2, 1, 1, 2, 0] : List Int)[a2.toNat]? = some r := h
      have := (List.getElem?_eq_some_iff.1 h3).1
      simp only [List.length_cons, List.length_nil] at this
      omega
    · rw [if_neg (fun e => h0 e.2)] at h; cases h
  have hc : a2 = 0 ∨ a2 = 1 ∨ a2 = 2 ∨ a2 = 3 ∨ a2 = 4 := by omega
  have ia : ∀ w, (Instr.index 53 (.agg #[.string ⟨#[50, 48, 48, 48, 48]⟩, .string ⟨#[50, 49, 49, 48, 48]⟩, .string ⟨#[50, 49, 49, 50, 48]⟩]) (.int .i64 2)).run Tryd.prog w = .ok (.string ⟨#[50, 49, 49, 50, 48]⟩) w := fun _ => by kernel_rfl
  rcases hc with rfl | rfl | rfl | rfl | rfl
  · obtain rfl : (2 : Int) = r := Option.some.inj h
    have ib : ∀ w, (Instr.index 9 (.string ⟨#[50, 49, 49, 50, 48]⟩) (.int .i64 0)).run Tryd.prog w = .ok (.int .u8 50) w := fun _ => by kernel_rfl
    go_enter Tryd.func26, Tryd.ntmps26
    go_wp2
    go_ret
    exact ⟨rfl, by repeat (first | exact Drawn0.refl _ | apply Drawn0.step)⟩
  · obtain rfl : (1 : Int) = r := Option.some.inj h
    have ib : ∀ w, (Instr.index 9 (.string ⟨#[50, 49, 49, 50, 48]⟩) (.int .i64 1)).run Tryd.prog w = .ok (.int .u8 49) w := fun _ => by kernel_rfl
    go_enter Tryd.func26, Tryd.ntmps26
    go_wp2
    go_ret
    exact ⟨rfl, by repeat (first | exact Drawn0.refl _ | apply Drawn0.step)⟩
  · obtain rfl : (1 : Int) = r := Option.some.inj h
    have ib : ∀ w, (Instr.index 9 (.string ⟨#[50, 49, 49, 50, 48]⟩) (.int .i64 2)).run Tryd.prog w = .ok (.int .u8 49) w := fun _ => by kernel_rfl
    go_enter Tryd.func26, Tryd.ntmps26
    go_wp2
    go_ret
    exact ⟨rfl, by repeat (first | exact Drawn0.refl _ | apply Drawn0.step)⟩
  · obtain rfl : (2 : Int) = r := Option.some.inj h
    have ib : ∀ w, (Instr.index 9 (.string ⟨#[50, 49, 49, 50, 48]⟩) (.int .i64 3)).run Tryd.prog w = .ok (.int .u8 50) w := fun _ => by kernel_rfl
    go_enter Tryd.func26, Tryd.ntmps26
    go_wp2
    go_ret
    exact ⟨rfl, by repeat (first | exact Drawn0.refl _ | apply Drawn0.step)⟩
  · obtain rfl : (0 : Int) = r := Option.some.inj h
    have ib : ∀ w, (Instr.index 9 (.string ⟨#[50, 49, 49, 50, 48]⟩) (.int .i64 4)).run Tryd.prog w = .ok (.int .u8 48) w := fun _ => by kernel_rfl
    go_enter Tryd.func26, Tryd.ntmps26
    go_wp2
    go_ret
    exact ⟨rfl, by repeat (first | exact Drawn0.refl _ | apply Drawn0.step)⟩
set_option maxHeartbeats 4000000 in
set_option maxRecDepth 100000 in
theorem kissgateref13_Next.walk_true_0 (a2 : Int) (r : Int) (w : World) (h : kissgateref13_Next.f true 0 a2 = some r) : Calls Tryd.prog 26 #[.bool true, .int .i64 0, .int .i64 a2] w fun e w' => e = .returned (.int .i64 r) ∧ Drawn0 w w' := by
  have h2 : 0 ≤ a2 ∧ a2 < 6 := by
    unfold kissgateref13_Next.f at h
    by_cases h0 : 0 ≤ a2
    · refine ⟨h0, ?_⟩
      rw [if_pos ⟨by decide, h0⟩] at h
      have h3 : ([1, 0, 0, 0, 0, 1] : List Int)[a2.toNat]? = some r := h
      have := (List.getElem?_eq_some_iff.1 h3).1
      simp only [List.length_cons, List.length_nil] at this
      omega
    · rw [if_neg (fun e => h0 e.2)] at h; cases h
  have hc : a2 = 0 ∨ a2 = 1 ∨ a2 = 2 ∨ a2 = 3 ∨ a2 = 4 ∨ a2 = 5 := by omega
  have ia : ∀ w, (Instr.index 54 (.agg #[.string ⟨#[49, 48, 48, 48, 48, 49]⟩, .string ⟨#[49, 52, 49, 49, 50, 49]⟩, .string ⟨#[50, 52, 50, 50, 51, 49]⟩, .string ⟨#[51, 52, 50, 50, 51, 49]⟩, .string ⟨#[50, 52, 52, 52, 48, 49]⟩]) (.int .i64 0)).run Tryd.prog w = .ok (.string ⟨#[49, 48, 48, 48, 48, 49]⟩) w := fun _ => by kernel_rfl
  rcases hc with rfl | rfl | rfl | rfl | rfl | rfl
  · obtain rfl : (1 : Int) = r := Option.some.inj h
    have ib : ∀ w, (Instr.index 9 (.string ⟨#[49, 48, 48, 48, 48, 49]⟩) (.int .i64 0)).run Tryd.prog w = .ok (.int .u8 49) w := fun _ => by kernel_rfl
    go_enter Tryd.func26, Tryd.ntmps26
    go_wp2
    go_ret
    exact ⟨rfl, by repeat (first | exact Drawn0.refl _ | apply Drawn0.step)⟩
  · obtain rfl : (0 : Int) = r := Option.some.inj h
    have ib : ∀ w, (Instr.index 9 (.string ⟨#[49, 48, 48, 48, 48, 49]⟩) (.int .i64 1)).run Tryd.prog w = .ok (.int .u8 48) w := fun _ => by kernel_rfl
    go_enter Tryd.func26, Tryd.ntmps26
    go_wp2
    go_ret
    exact ⟨rfl, by repeat (first | exact Drawn0.refl _ | apply Drawn0.step)⟩
  · obtain rfl : (0 : Int) = r := Option.some.inj h
    have ib : ∀ w, (Instr.index 9 (.string ⟨#[49, 48, 48, 48, 48, 49]⟩) (.int .i64 2)).run Tryd.prog w = .ok (.int .u8 48) w := fun _ => by kernel_rfl
    go_enter Tryd.func26, Tryd.ntmps26
    go_wp2
    go_ret
    exact ⟨rfl, by repeat (first | exact Drawn0.refl _ | apply Drawn0.step)⟩
  · obtain rfl : (0 : Int) = r := Option.some.inj h
    have ib : ∀ w, (Instr.index 9 (.string ⟨#[49, 48, 48, 48, 48, 49]⟩) (.int .i64 3)).run Tryd.prog w = .ok (.int .u8 48) w := fun _ => by kernel_rfl
    go_enter Tryd.func26, Tryd.ntmps26
    go_wp2
    go_ret
    exact ⟨rfl, by repeat (first | exact Drawn0.refl _ | apply Drawn0.step)⟩
  · obtain rfl : (0 : Int) = r := Option.some.inj h
    have ib : ∀ w, (Instr.index 9 (.string ⟨#[49, 48, 48, 48, 48, 49]⟩) (.int .i64 4)).run Tryd.prog w = .ok (.int .u8 48) w := fun _ => by kernel_rfl
    go_enter Tryd.func26, Tryd.ntmps26
    go_wp2
    go_ret
    exact ⟨rfl, by repeat (first | exact Drawn0.refl _ | apply Drawn0.step)⟩
  · obtain rfl : (1 : Int) = r := Option.some.inj h
    have ib : ∀ w, (Instr.index 9 (.string ⟨#[49, 48, 48, 48, 48, 49]⟩) (.int .i64 5)).run Tryd.prog w = .ok (.int .u8 49) w := fun _ => by kernel_rfl
    go_enter Tryd.func26, Tryd.ntmps26
    go_wp2
    go_ret
    exact ⟨rfl, by repeat (first | exact Drawn0.refl _ | apply Drawn0.step)⟩
set_option maxHeartbeats 4000000 in
set_option maxRecDepth 100000 in
theorem kissgateref13_Next.walk_true_1 (a2 : Int) (r : Int) (w : World) (h : kissgateref13_Next.f true 1 a2 = some r) : Calls Tryd.prog 26 #[.bool true, .int .i64 1, .int .i64 a2] w fun e w' => e = .returned (.int .i64 r) ∧ Drawn0 w w' := by
  have h2 : 0 ≤ a2 ∧ a2 < 6 := by
    unfold kissgateref13_Next.f at h
    by_cases h0 : 0 ≤ a2
    · refine ⟨h0, ?_⟩
      rw [if_pos ⟨by decide, h0⟩] at h
      have h3 : ([1, 4, 1, 1, 2, 1] : List Int)[a2.toNat]? = some r := h
      have := (List.getElem?_eq_some_iff.1 h3).1
      simp only [List.length_cons, List.length_nil] at this
      omega
    · rw [if_neg (fun e => h0 e.2)] at h; cases h
  have hc : a2 = 0 ∨ a2 = 1 ∨ a2 = 2 ∨ a2 = 3 ∨ a2 = 4 ∨ a2 = 5 := by omega
  have ia : ∀ w, (Instr.index 54 (.agg #[.string ⟨#[49, 48, 48, 48, 48, 49]⟩, .string ⟨#[49, 52, 49, 49, 50, 49]⟩, .string ⟨#[50, 52, 50, 50, 51, 49]⟩, .string ⟨#[51, 52, 50, 50, 51, 49]⟩, .string ⟨#[50, 52, 52, 52, 48, 49]⟩]) (.int .i64 1)).run Tryd.prog w = .ok (.string ⟨#[49, 52, 49, 49, 50, 49]⟩) w := fun _ => by kernel_rfl
  rcases hc with rfl | rfl | rfl | rfl | rfl | rfl
  · obtain rfl : (1 : Int) = r := Option.some.inj h
    have ib : ∀ w, (Instr.index 9 (.string ⟨#[49, 52, 49, 49, 50, 49]⟩) (.int .i64 0)).run Tryd.prog w = .ok (.int .u8 49) w := fun _ => by kernel_rfl
    go_enter Tryd.func26, Tryd.ntmps26
    go_wp2
    go_ret
    exact ⟨rfl, by repeat (first | exact Drawn0.refl _ | apply Drawn0.step)⟩
  · obtain rfl : (4 : Int) = r := Option.some.inj h
    have ib : ∀ w, (Instr.index 9 (.string ⟨#[49, 52, 49, 49, 50, 49]⟩) (.int .i64 1)).run Tryd.prog w = .ok (.int .u8 52) w := fun _ => by kernel_rfl
    go_enter Tryd.func26, Tryd.ntmps26
    go_wp2
    go_ret
    exact ⟨rfl, by repeat (first | exact Drawn0.refl _ | apply Drawn0.step)⟩
  · obtain rfl : (1 : Int) = r := Option.some.inj h
    have ib : ∀ w, (Instr.index 9 (.string ⟨#[49, 52, 49, 49, 50, 49]⟩) (.int .i64 2)).run Tryd.prog w = .ok (.int .u8 49) w := fun _ => by kernel_rfl
    go_enter Tryd.func26, Tryd.ntmps26
    go_wp2
    go_ret
    exact ⟨rfl, by repeat (first | exact Drawn0.refl _ | apply Drawn0.step)⟩
  · obtain rfl : (1 : Int) = r := Option.some.inj h
    have ib : ∀ w, (Instr.index 9 (.string ⟨#[49, 52, 49, 49, 50, 49]⟩) (.int .i64 3)).run Tryd.prog w = .ok (.int .u8 49) w := fun _ => by kernel_rfl
    go_enter Tryd.func26, Tryd.ntmps26
    go_wp2
    go_ret
    exact ⟨rfl, by repeat (first | exact Drawn0.refl _ | apply Drawn0.step)⟩
  · obtain rfl : (2 : Int) = r := Option.some.inj h
    have ib : ∀ w, (Instr.index 9 (.string ⟨#[49, 52, 49, 49, 50, 49]⟩) (.int .i64 4)).run Tryd.prog w = .ok (.int .u8 50) w := fun _ => by kernel_rfl
    go_enter Tryd.func26, Tryd.ntmps26
    go_wp2
    go_ret
    exact ⟨rfl, by repeat (first | exact Drawn0.refl _ | apply Drawn0.step)⟩
  · obtain rfl : (1 : Int) = r := Option.some.inj h
    have ib : ∀ w, (Instr.index 9 (.string ⟨#[49, 52, 49, 49, 50, 49]⟩) (.int .i64 5)).run Tryd.prog w = .ok (.int .u8 49) w := fun _ => by kernel_rfl
    go_enter Tryd.func26, Tryd.ntmps26
    go_wp2
    go_ret
    exact ⟨rfl, by repeat (first | exact Drawn0.refl _ | apply Drawn0.step)⟩
set_option maxHeartbeats 4000000 in
set_option maxRecDepth 100000 in
theorem kissgateref13_Next.walk_true_2 (a2 : Int) (r : Int) (w : World) (h : kissgateref13_Next.f true 2 a2 = some r) : Calls Tryd.prog 26 #[.bool true, .int .i64 2, .int .i64 a2] w fun e w' => e = .returned (.int .i64 r) ∧ Drawn0 w w' := by
  have h2 : 0 ≤ a2 ∧ a2 < 6 := by
    unfold kissgateref13_Next.f at h
    by_cases h0 : 0 ≤ a2
    · refine ⟨h0, ?_⟩
      rw [if_pos ⟨by decide, h0⟩] at h
      have h3 : ([2, 4, 2, 2, 3, 1] : List Int)[a2.toNat]? = some r := h
      have := (List.getElem?_eq_some_iff.1 h3).1
      simp only [List.length_cons, List.length_nil] at this
      omega
    · rw [if_neg (fun e => h0 e.2)] at h; cases h
  have hc : a2 = 0 ∨ a2 = 1 ∨ a2 = 2 ∨ a2 = 3 ∨ a2 = 4 ∨ a2 = 5 := by omega
  have ia : ∀ w, (Instr.index 54 (.agg #[.string ⟨#[49, 48, 48, 48, 48, 49]⟩, .string ⟨#[49, 52, 49, 49, 50, 49]⟩, .string ⟨#[50, 52, 50, 50, 51, 49]⟩, .string ⟨#[51, 52, 50, 50, 51, 49]⟩, .string ⟨#[50, 52, 52, 52, 48, 49]⟩]) (.int .i64 2)).run Tryd.prog w = .ok (.string ⟨#[50, 52, 50, 50, 51, 49]⟩) w := fun _ => by kernel_rfl
  rcases hc with rfl | rfl | rfl | rfl | rfl | rfl
  · obtain rfl : (2 : Int) = r := Option.some.inj h
    have ib : ∀ w, (Instr.index 9 (.string ⟨#[50, 52, 50, 50, 51, 49]⟩) (.int .i64 0)).run Tryd.prog w = .ok (.int .u8 50) w := fun _ => by kernel_rfl
    go_enter Tryd.func26, Tryd.ntmps26
    go_wp2
    go_ret
    exact ⟨rfl, by repeat (first | exact Drawn0.refl _ | apply Drawn0.step)⟩
  · obtain rfl : (4 : Int) = r := Option.some.inj h
    have ib : ∀ w, (Instr.index 9 (.string ⟨#[50, 52, 50, 50, 51, 49]⟩) (.int .i64 1)).run Tryd.prog w = .ok (.int .u8 52) w := fun _ => by kernel_rfl
    go_enter Tryd.func26, Tryd.ntmps26
    go_wp2
    go_ret
    exact ⟨rfl, by repeat (first | exact Drawn0.refl _ | apply Drawn0.step)⟩
  · obtain rfl : (2 : Int) = r := Option.some.inj h
    have ib : ∀ w, (Instr.index 9 (.string ⟨#[50, 52, 50, 50, 51, 49]⟩) (.int .i64 2)).run Tryd.prog w = .ok (.int .u8 50) w := fun _ => by kernel_rfl
    go_enter Tryd.func26, Tryd.ntmps26
    go_wp2
    go_ret
    exact ⟨rfl, by repeat (first | exact Drawn0.refl _ | apply Drawn0.step)⟩
  · obtain rfl : (2 : Int) = r := Option.some.inj h
    have ib : ∀ w, (Instr.index 9 (.string ⟨#[50, 52, 50, 50, 51, 49]⟩) (.int .i64 3)).run Tryd.prog w = .ok (.int .u8 50) w := fun _ => by kernel_rfl
    go_enter Tryd.func26, Tryd.ntmps26
    go_wp2
    go_ret
    exact ⟨rfl, by repeat (first | exact Drawn0.refl _ | apply Drawn0.step)⟩
  · obtain rfl : (3 : Int) = r := Option.some.inj h
    have ib : ∀ w, (Instr.index 9 (.string ⟨#[50, 52, 50, 50, 51, 49]⟩) (.int .i64 4)).run Tryd.prog w = .ok (.int .u8 51) w := fun _ => by kernel_rfl
    go_enter Tryd.func26, Tryd.ntmps26
    go_wp2
    go_ret
    exact ⟨rfl, by repeat (first | exact Drawn0.refl _ | apply Drawn0.step)⟩
  · obtain rfl : (1 : Int) = r := Option.some.inj h
    have ib : ∀ w, (Instr.index 9 (.string ⟨#[50, 52, 50, 50, 51, 49]⟩) (.int .i64 5)).run Tryd.prog w = .ok (.int .u8 49) w := fun _ => by kernel_rfl
    go_enter Tryd.func26, Tryd.ntmps26
    go_wp2
    go_ret
    exact ⟨rfl, by repeat (first | exact Drawn0.refl _ | apply Drawn0.step)⟩
set_option maxHeartbeats 4000000 in
set_option maxRecDepth 100000 in
theorem kissgateref13_Next.walk_true_3 (a2 : Int) (r : Int) (w : World) (h : kissgateref13_Next.f true 3 a2 = some r) : Calls Tryd.prog 26 #[.bool true, .int .i64 3, .int .i64 a2] w fun e w' => e = .returned (.int .i64 r) ∧ Drawn0 w w' := by
  have h2 : 0 ≤ a2 ∧ a2 < 6 := by
    unfold kissgateref13_Next.f at h
    by_cases h0 : 0 ≤ a2
    · refine ⟨h0, ?_⟩
      rw [if_pos ⟨by decide, h0⟩] at h
      have h3 : ([3, 4, 2, 2, 3, 1] : List Int)[a2.toNat]? = some r := h
      have := (List.getElem?_eq_some_iff.1 h3).1
      simp only [List.length_cons, List.length_nil] at this
      omega
    · rw [if_neg (fun e => h0 e.2)] at h; cases h
  have hc : a2 = 0 ∨ a2 = 1 ∨ a2 = 2 ∨ a2 = 3 ∨ a2 = 4 ∨ a2 = 5 := by omega
  have ia : ∀ w, (Instr.index 54 (.agg #[.string ⟨#[49, 48, 48, 48, 48, 49]⟩, .string ⟨#[49, 52, 49, 49, 50, 49]⟩, .string ⟨#[50, 52, 50, 50, 51, 49]⟩, .string ⟨#[51, 52, 50, 50, 51, 49]⟩, .string ⟨#[50, 52, 52, 52, 48, 49]⟩]) (.int .i64 3)).run Tryd.prog w = .ok (.string ⟨#[51, 52, 50, 50, 51, 49]⟩) w := fun _ => by kernel_rfl
  rcases hc with rfl | rfl | rfl | rfl | rfl | rfl
  · obtain rfl : (3 : Int) = r := Option.some.inj h
    have ib : ∀ w, (Instr.index 9 (.string ⟨#[51, 52, 50, 50, 51, 49]⟩) (.int .i64 0)).run Tryd.prog w = .ok (.int .u8 51) w := fun _ => by kernel_rfl
    go_enter Tryd.func26, Tryd.ntmps26
    go_wp2
    go_ret
    exact ⟨rfl, by repeat (first | exact Drawn0.refl _ | apply Drawn0.step)⟩
  · obtain rfl : (4 : Int) = r := Option.some.inj h
    have ib : ∀ w, (Instr.index 9 (.string ⟨#[51, 52, 50, 50, 51, 49]⟩) (.int .i64 1)).run Tryd.prog w = .ok (.int .u8 52) w := fun _ => by kernel_rfl
    go_enter Tryd.func26, Tryd.ntmps26
    go_wp2
    go_ret
    exact ⟨rfl, by repeat (first | exact Drawn0.refl _ | apply Drawn0.step)⟩
  · obtain rfl : (2 : Int) = r := Option.some.inj h
    have ib : ∀ w, (Instr.index 9 (.string ⟨#[51, 52, 50, 50, 51, 49]⟩) (.int .i64 2)).run Tryd.prog w = .ok (.int .u8 50) w := fun _ => by kernel_rfl
    go_enter Tryd.func26, Tryd.ntmps26
    go_wp2
    go_ret
    exact ⟨rfl, by repeat (first | exact Drawn0.refl _ | apply Drawn0.step)⟩
  · obtain rfl : (2 : Int) = r := Option.some.inj h
    have ib : ∀ w, (Instr.index 9 (.string ⟨#[51, 52, 50, 50, 51, 49]⟩) (.int .i64 3)).run Tryd.prog w = .ok (.int .u8 50) w := fun _ => by kernel_rfl
    go_enter Tryd.func26, Tryd.ntmps26
    go_wp2
    go_ret
    exact ⟨rfl, by repeat (first | exact Drawn0.refl _ | apply Drawn0.step)⟩
  · obtain rfl : (3 : Int) = r := Option.some.inj h
    have ib : ∀ w, (Instr.index 9 (.string ⟨#[51, 52, 50, 50, 51, 49]⟩) (.int .i64 4)).run Tryd.prog w = .ok (.int .u8 51) w := fun _ => by kernel_rfl
    go_enter Tryd.func26, Tryd.ntmps26
    go_wp2
    go_ret
    exact ⟨rfl, by repeat (first | exact Drawn0.refl _ | apply Drawn0.step)⟩
  · obtain rfl : (1 : Int) = r := Option.some.inj h
    have ib : ∀ w, (Instr.index 9 (.string ⟨#[51, 52, 50, 50, 51, 49]⟩) (.int .i64 5)).run Tryd.prog w = .ok (.int .u8 49) w := fun _ => by kernel_rfl
    go_enter Tryd.func26, Tryd.ntmps26
    go_wp2
    go_ret
    exact ⟨rfl, by repeat (first | exact Drawn0.refl _ | apply Drawn0.step)⟩
set_option maxHeartbeats 4000000 in
set_option maxRecDepth 100000 in
theorem kissgateref13_Next.walk_true_4 (a2 : Int) (r : Int) (w : World) (h : kissgateref13_Next.f true 4 a2 = some r) : Calls Tryd.prog 26 #[.bool true, .int .i64 4, .int .i64 a2] w fun e w' => e = .returned (.int .i64 r) ∧ Drawn0 w w' := by
  have h2 : 0 ≤ a2 ∧ a2 < 6 := by
    unfold kissgateref13_Next.f at h
    by_cases h0 : 0 ≤ a2
    · refine ⟨h0, ?_⟩
      rw [if_pos ⟨by decide, h0⟩] at h
      have h3 : ([2, 4, 4, 4, 0, 1] : List Int)[a2.toNat]? = some r := h
      have := (List.getElem?_eq_some_iff.1 h3).1
      simp only [List.length_cons, List.length_nil] at this
      omega
    · rw [if_neg (fun e => h0 e.2)] at h; cases h
  have hc : a2 = 0 ∨ a2 = 1 ∨ a2 = 2 ∨ a2 = 3 ∨ a2 = 4 ∨ a2 = 5 := by omega
  have ia : ∀ w, (Instr.index 54 (.agg #[.string ⟨#[49, 48, 48, 48, 48, 49]⟩, .string ⟨#[49, 52, 49, 49, 50, 49]⟩, .string ⟨#[50, 52, 50, 50, 51, 49]⟩, .string ⟨#[51, 52, 50, 50, 51, 49]⟩, .string ⟨#[50, 52, 52, 52, 48, 49]⟩]) (.int .i64 4)).run Tryd.prog w = .ok (.string ⟨#[50, 52, 52, 52, 48, 49]⟩) w := fun _ => by kernel_rfl
  rcases hc with rfl | rfl | rfl | rfl | rfl | rfl
  · obtain rfl : (2 : Int) = r := Option.some.inj h
    have ib : ∀ w, (Instr.index 9 (.string ⟨#[50, 52, 52, 52, 48, 49]⟩) (.int .i64 0)).run Tryd.prog w = .ok (.int .u8 50) w := fun _ => by kernel_rfl
    go_enter Tryd.func26, Tryd.ntmps26
    go_wp2
    go_ret
    exact ⟨rfl, by repeat (first | exact Drawn0.refl _ | apply Drawn0.step)⟩
  · obtain rfl : (4 : Int) = r := Option.some.inj h
    have ib : ∀ w, (Instr.index 9 (.string ⟨#[50, 52, 52, 52, 48, 49]⟩) (.int .i64 1)).run Tryd.prog w = .ok (.int .u8 52) w := fun _ => by kernel_rfl
    go_enter Tryd.func26, Tryd.ntmps26
    go_wp2
    go_ret
    exact ⟨rfl, by repeat (first | exact Drawn0.refl _ | apply Drawn0.step)⟩
  · obtain rfl : (4 : Int) = r := Option.some.inj h
    have ib : ∀ w, (Instr.index 9 (.string ⟨#[50, 52, 52, 52, 48, 49]⟩) (.int .i64 2)).run Tryd.prog w = .ok (.int .u8 52) w := fun _ => by kernel_rfl
    go_enter Tryd.func26, Tryd.ntmps26
    go_wp2
    go_ret
    exact ⟨rfl, by repeat (first | exact Drawn0.refl _ | apply Drawn0.step)⟩
  · obtain rfl : (4 : Int) = r := Option.some.inj h
    have ib : ∀ w, (Instr.index 9 (.string ⟨#[50, 52, 52, 52, 48, 49]⟩) (.int .i64 3)).run Tryd.prog w = .ok (.int .u8 52) w := fun _ => by kernel_rfl
    go_enter Tryd.func26, Tryd.ntmps26
    go_wp2
    go_ret
    exact ⟨rfl, by repeat (first | exact Drawn0.refl _ | apply Drawn0.step)⟩
  · obtain rfl : (0 : Int) = r := Option.some.inj h
    have ib : ∀ w, (Instr.index 9 (.string ⟨#[50, 52, 52, 52, 48, 49]⟩) (.int .i64 4)).run Tryd.prog w = .ok (.int .u8 48) w := fun _ => by kernel_rfl
    go_enter Tryd.func26, Tryd.ntmps26
    go_wp2
    go_ret
    exact ⟨rfl, by repeat (first | exact Drawn0.refl _ | apply Drawn0.step)⟩
  · obtain rfl : (1 : Int) = r := Option.some.inj h
    have ib : ∀ w, (Instr.index 9 (.string ⟨#[50, 52, 52, 52, 48, 49]⟩) (.int .i64 5)).run Tryd.prog w = .ok (.int .u8 49) w := fun _ => by kernel_rfl
    go_enter Tryd.func26, Tryd.ntmps26
    go_wp2
    go_ret
    exact ⟨rfl, by repeat (first | exact Drawn0.refl _ | apply Drawn0.step)⟩
theorem kissgateref13_Next.calls (a0 : Bool) (a1 : Int) (a2 : Int) (r : Int) (w : World) (h : kissgateref13_Next.f a0 a1 a2 = some r) : Calls Tryd.prog 26 #[.bool a0, .int .i64 a1, .int .i64 a2] w fun e w' => e = .returned (.int .i64 r) ∧ Drawn0 w w' := by
  have h1 : 0 ≤ a1 ∧ a1 < (kissgateref13_Next.tab a0).length := by
    unfold kissgateref13_Next.f at h
    by_cases h0 : 0 ≤ a1 ∧ 0 ≤ a2
    · rw [if_pos h0] at h
      obtain ⟨q, hq, _⟩ := Option.bind_eq_some_iff.mp h
      have := (List.getElem?_eq_some_iff.1 hq).1
      omega
    · rw [if_neg h0] at h; cases h
  cases a0 with
  | false =>
    have hc : a1 = 0 ∨ a1 = 1 ∨ a1 = 2 := by have := h1.2; simp only [kissgateref13_Next.tab, Bool.false_eq_true, if_false, List.length_cons, List.length_nil] at this; omega
    rcases hc with rfl | rfl | rfl
    · exact kissgateref13_Next.walk_false_0 a2 r w h
    · exact kissgateref13_Next.walk_false_1 a2 r w h
    · exact kissgateref13_Next.walk_false_2 a2 r w h
  | true =>
    have hc : a1 = 0 ∨ a1 = 1 ∨ a1 = 2 ∨ a1 = 3 ∨ a1 = 4 := by have := h1.2; simp only [kissgateref13_Next.tab, if_true, List.length_cons, List.length_nil] at this; omega
    rcases hc with rfl | rfl | rfl | rfl | rfl
    · exact kissgateref13_Next.walk_true_0 a2 r w h
    · exact kissgateref13_Next.walk_true_1 a2 r w h
    · exact kissgateref13_Next.walk_true_2 a2 r w h
    · exact kissgateref13_Next.walk_true_3 a2 r w h
    · exact kissgateref13_Next.walk_true_4 a2 r w h


/-! ### kissgateref15_App_step: function 22 -/
def kissgateref15_App_step.f (s0_0 s0_1 a1 : Int) : Option (Int × Int × Int) := (kissgateref13_Act.f true s0_0 a1).bind fun t => (kissgateref13_Next.f true s0_0 a1).bind fun n => some (t, n, s0_1)
set_option maxHeartbeats 4000000 in
set_option maxRecDepth 100000 in
theorem kissgateref15_App_step.calls (g : Nat) (s0_0 : Int) (s0_1 : Int) (a1 : Int) (r1 : Int) (r2 : Int) (r3 : Int) (w0 w : World) (hI : IsS38 w0 w g s0_0 s0_1) (hB : Below w0.heap.size w0 w) (h : kissgateref15_App_step.f s0_0 s0_1 a1 = some (r1, r2, r3)) :
    Calls Tryd.prog 22 #[.pointer (some ⟨g, 0, none⟩), .int .i64 a1] w fun e w' => e = .returned (.int .i64 r1) ∧ IsS38 w0 w' g r2 r3 ∧ Below w0.heap.size w0 w' ∧ KeepBut w w' g none := by
  unfold kissgateref15_App_step.f at h
  obtain ⟨t, ht, h⟩ := Option.bind_eq_some_iff.mp h
  obtain ⟨n, hn, h⟩ := Option.bind_eq_some_iff.mp h
  obtain ⟨rfl, rfl, rfl⟩ : t = r1 ∧ n = r2 ∧ s0_1 = r3 := by simpa using h
  clear h
  have q1 := (blk_cell hI.1 0).trans (rfl : _ = some (Value.int .i64 s0_0))
  have q2 := blk_frozen hI.1 0
  have HT := Aside0.mk ht
  have HN := Aside0.mk hn
  have HI := Aside0.mk hI
  have HB := Aside0.mk hB
  have HK := Aside0.mk (KeepBut.refl w g none)
  clear ht hn hI hB
  go_enter Tryd.func22, Tryd.ntmps22
  go_wp2_with fail
  go_at_call 25
  refine (kissgateref13_Act.calls true s0_0 a1 t _ HT.out).mono ?_
  rintro e w1 ⟨rfl, hd⟩
  have HD := Aside0.mk hd.below
  have HI1 := Aside0.mk (IsS38.below HI.out hd.below)
  have q1 := (blk_cell HI1.out.1 0).trans (rfl : _ = some (Value.int .i64 s0_0))
  clear hd
  go_wp2_with fail
  go_at_call 26
  refine (kissgateref13_Next.calls true s0_0 a1 n _ HN.out).mono ?_
  rintro e w2 ⟨rfl, hd⟩
  have HD2 := Aside0.mk (below_step HD.out hd.below)
  have HI2 := Aside0.mk (IsS38.below HI1.out hd.below)
  have q3 := (blk_cell HI2.out.1 0).trans (rfl : _ = some (Value.int .i64 s0_0))
  have q4 := blk_frozen HI2.out.1 0
  clear hd
  go_wp2_with fail
  go_ret
  exact ⟨rfl, IsS38.set_0 HI2.out n, Below.setCell (below_step HB.out HD2.out) HI.out.2 _, KeepBut.set_ (KeepBut.of_below HD2.out g none) 0 _⟩


/-! ### kissgateref15_App_Want: function 15 -/
def kissgateref15_App_Want.f (s0_0 : Int) (s0_1 : Int) (a1 : Int) (a2 : Bool) : Option (Int × Int) := if a1 < 0 then ((kissgateref15_App_step.f s0_0 s0_1 1).bind fun bt141 => (some (bt141.2.1, bt141.2.2))) else ((kissgateref15_App_Speaks.f s0_0 a1).bind fun bt144 => (if bt144.1 = true then (some (bt144.2.1, bt144.2.2)) else (if a2 = true then ((kissgateref15_App_step.f bt144.2.1 bt144.2.2 5).bind fun bt147 => (some (bt147.2.1, bt147.2.2))) else ((kissgateref15_App_step.f bt144.2.1 bt144.2.2 0).bind fun bt150 => (some (bt150.2.1, bt150.2.2))))))
set_option maxHeartbeats 8000000 in
set_option maxRecDepth 100000 in
theorem kissgateref15_App_Want.calls (g : Nat) (s0_0 : Int) (s0_1 : Int) (a1 : Int) (a2 : Bool) (r1 : Int) (r2 : Int) (w0 w : World) (hI : IsS38 w0 w g s0_0 s0_1) (hB : Below w0.heap.size w0 w) (h : kissgateref15_App_Want.f s0_0 s0_1 a1 a2 = some (r1, r2)) :
    Calls Tryd.prog 15 #[.pointer (some ⟨g, 0, none⟩), .int .i64 a1, .bool a2] w fun e w' => e = .returned (.tuple #[]) ∧ IsS38 w0 w' g r1 r2 ∧ Below w0.heap.size w0 w' ∧ KeepBut w w' g none := by
  have HI0 := Aside0.mk hI
  have HK := Aside0.mk (KeepBut.refl w g none)
  have HL := Aside0.mk hB.size
  clear hI
  have HW0 := Aside0.mk hB.size
  have HB := Aside0.mk hB
  clear hB
  have H : (if a1 < 0 then ((kissgateref15_App_step.f s0_0 s0_1 1).bind fun bt141 => (some (bt141.2.1, bt141.2.2))) else ((kissgateref15_App_Speaks.f s0_0 a1).bind fun bt144 => (if bt144.1 = true then (some (bt144.2.1, bt144.2.2)) else (if a2 = true then ((kissgateref15_App_step.f bt144.2.1 bt144.2.2 5).bind fun bt147 => (some (bt147.2.1, bt147.2.2))) else ((kissgateref15_App_step.f bt144.2.1 bt144.2.2 0).bind fun bt150 => (some (bt150.2.1, bt150.2.2))))))) = some (r1, r2) := h
  clear h
  by_cases c4 : a1 < 0
  · rw [if_pos c4] at H
    have c4b0 : decide (a1 < 0) = true := decide_eq_true c4
    clear c4
    replace H := Option.bind_eq_some_iff.mp H
    obtain ⟨⟨t141, t142, t143⟩, A50, H⟩ := H
    replace H : (some (t142, t143)) = some (r1, r2) := H
    have A5 := Aside0.mk A50
    clear A50
    simp only [Option.some.injEq, Prod.mk.injEq] at H
    obtain ⟨rfl, rfl⟩ := H
    go_enter Tryd.func15, Tryd.ntmps15
    go_wp2_with (first | ((with_reducible refine gate_callee (f := 22) rfl ?_); refine goesL_ (some 9) rfl rfl Tryd.func22 (by kernel_rfl) rfl #[.pointer (some ⟨g, 0, none⟩), .int .i64 1] rfl (by (try simp only [List.map_toArray, List.map_cons, List.map_nil]); first | done | rfl | (simp only [List.length_drop, List.length_take]; rfl) | (go_simp; first | done | (unfold wrap64; omega))) ?_; (with_reducible refine (kissgateref15_App_step.calls g s0_0 s0_1 1 t141 t142 t143 w0 _ ?side1 ?side2 A5.out).mono ?_); (case side1 => repeat (first | (with_reducible first | exact HI0.out | apply IsS38.alloc | apply IsS38.drewN | apply IsS38.drew | apply IsS38.set_0 | apply IsS38.set_1) | exact HI0.out)); (case side2 => repeat (first | (with_reducible first | exact HB.out | apply below_alloc | apply pw_below_drewN | apply below_drew1 | refine below_set ?_ (IsS38.ge HI0.out)) | exact HB.out)); rintro e w6 ⟨rfl, hi, hb, hk⟩; refine ⟨_, rfl, ?_⟩; have n0_ := Aside0.mk (KeepBut.trans (by repeat (first | (with_reducible first | exact HK.out | apply KeepBut.set_ | apply keep_drewN | apply keep_drew | apply keep_alloc) | exact HK.out)) hk (.inl rfl)); have n1_ := Aside0.mk (hb); have n2_ := Aside0.mk (hi); clear HK; clear HB; clear HI0; have HK := n0_; have HB := n1_; have HI0 := n2_; clear n0_ n1_ n2_; (try clear hb); (try clear hb2); (try clear hk); (try clear hi)))
    first | go_end0 | ((try simp only [Exit.inBlock, Exit.then]); refine bodyPost_ret (results_none rfl _ _ _) rfl ?_)
    exact ⟨by first | rfl | (simp [show ∀ l_ : List UInt8, (l_ == []) = l_.isEmpty from fun l_ => by cases l_ <;> rfl]; done) | (simp [errW_none, errW_some] <;> rfl) | ((repeat rw [Int.tdiv_eq_ediv_of_nonneg (by omega)]); (repeat rw [Int.tmod_eq_emod_of_nonneg (by omega)]); first | rfl | (simp [errW_none, errW_some] <;> rfl)) | (simp [*, errW_none, errW_some] <;> rfl), by repeat (first | (with_reducible first | exact HI0.out | apply IsS38.alloc | apply IsS38.drewN | apply IsS38.drew | apply IsS38.set_0 | apply IsS38.set_1) | exact HI0.out), by repeat (first | (with_reducible first | exact HB.out | apply below_alloc | apply pw_below_drewN | apply below_drew1 | refine below_set ?_ (IsS38.ge HI0.out)) | exact HB.out), by repeat (first | (with_reducible first | exact HK.out | apply KeepBut.set_ | apply keep_drewN | apply keep_drew | apply keep_alloc) | exact HK.out)⟩
  · rw [if_neg c4] at H
    have c4b0 : decide (a1 < 0) = false := decide_eq_false c4
    clear c4
    replace H := Option.bind_eq_some_iff.mp H
    obtain ⟨⟨t144, t145, t146⟩, A70, H⟩ := H
    replace H : (if t144 = true then (some (t145, t146)) else (if a2 = true then ((kissgateref15_App_step.f t145 t146 5).bind fun bt147 => (some (bt147.2.1, bt147.2.2))) else ((kissgateref15_App_step.f t145 t146 0).bind fun bt150 => (some (bt150.2.1, bt150.2.2))))) = some (r1, r2) := H
    have A7 := Aside0.mk A70
    clear A70
    by_cases c8 : t144 = true
    · subst c8
      have H1 : (some (t145, t146)) = some (r1, r2) := by rw [if_pos rfl] at H; exact H
      clear H
      have H := H1
      clear H1
      simp only [Option.some.injEq, Prod.mk.injEq] at H
      obtain ⟨rfl, rfl⟩ := H
      obtain ⟨HGz9, hgz9⟩ := HI0.out
      have hcz9_0 := cellS38_0 HGz9
      have hcz9_1 := cellS38_1 HGz9
      have hfz9_0 := blk_frozen HGz9 0
      have hfz9_1 := blk_frozen HGz9 1
      clear HGz9 hgz9
      go_enter Tryd.func15, Tryd.ntmps15
      go_wp2_with (first | ((with_reducible refine gate_callee (f := 19) rfl ?_); refine goesL_ (some 15) rfl rfl Tryd.func19 (by kernel_rfl) rfl #[.pointer (some ⟨g, 0, none⟩)] rfl (by (try simp only [List.map_toArray, List.map_cons, List.map_nil]); first | done | rfl | (simp only [List.length_drop, List.length_take]; rfl) | (go_simp; first | done | (unfold wrap64; omega))) ?_; (with_reducible refine (kissgateref15_App_Speaks.calls g s0_0 a1 true t145 t146 w0 _ ?side1 ?side2 A7.out).mono ?_); (case side1 => repeat (first | (with_reducible first | exact HI0.out | apply IsS38.alloc | apply IsS38.drewN | apply IsS38.drew | apply IsS38.set_0 | apply IsS38.set_1) | exact HI0.out)); (case side2 => repeat (first | (with_reducible first | exact HB.out | apply below_alloc | apply pw_below_drewN | apply below_drew1 | refine below_set ?_ (IsS38.ge HI0.out)) | exact HB.out)); rintro e w10 ⟨rfl, hi, hb, hk⟩; refine ⟨_, rfl, ?_⟩; have n0_ := Aside0.mk (KeepBut.trans (by repeat (first | (with_reducible first | exact HK.out | apply KeepBut.set_ | apply keep_drewN | apply keep_drew | apply keep_alloc) | exact HK.out)) hk (.inl rfl)); have n1_ := Aside0.mk (hb); have n2_ := Aside0.mk (hi); clear HK; clear HB; clear HI0; have HK := n0_; have HB := n1_; have HI0 := n2_; clear n0_ n1_ n2_; (try clear hb); (try clear hb2); (try clear hk); (try clear hi)))
      first | go_end0 | ((try simp only [Exit.inBlock, Exit.then]); refine bodyPost_ret (results_none rfl _ _ _) rfl ?_)
      exact ⟨by first | rfl | (simp [show ∀ l_ : List UInt8, (l_ == []) = l_.isEmpty from fun l_ => by cases l_ <;> rfl]; done) | (simp [errW_none, errW_some] <;> rfl) | ((repeat rw [Int.tdiv_eq_ediv_of_nonneg (by omega)]); (repeat rw [Int.tmod_eq_emod_of_nonneg (by omega)]); first | rfl | (simp [errW_none, errW_some] <;> rfl)) | (simp [*, errW_none, errW_some] <;> rfl), by repeat (first | (with_reducible first | exact HI0.out | apply IsS38.alloc | apply IsS38.drewN | apply IsS38.drew | apply IsS38.set_0 | apply IsS38.set_1) | exact HI0.out), by repeat (first | (with_reducible first | exact HB.out | apply below_alloc | apply pw_below_drewN | apply below_drew1 | refine below_set ?_ (IsS38.ge HI0.out)) | exact HB.out), by repeat (first | (with_reducible first | exact HK.out | apply KeepBut.set_ | apply keep_drewN | apply keep_drew | apply keep_alloc) | exact HK.out)⟩
    · replace c8 := Bool.eq_false_iff.mpr c8
      subst c8
      have H1 : (if a2 = true then ((kissgateref15_App_step.f t145 t146 5).bind fun bt147 => (some (bt147.2.1, bt147.2.2))) else ((kissgateref15_App_step.f t145 t146 0).bind fun bt150 => (some (bt150.2.1, bt150.2.2)))) = some (r1, r2) := by rw [if_neg (show ¬ (false = true) by decide)] at H; exact H
      clear H
      have H := H1
      clear H1
      by_cases c11 : a2 = true
      · subst c11
        have H1 : ((kissgateref15_App_step.f t145 t146 5).bind fun bt147 => (some (bt147.2.1, bt147.2.2))) = some (r1, r2) := by rw [if_pos rfl] at H; exact H
        clear H
        have H := H1
        clear H1
        replace H := Option.bind_eq_some_iff.mp H
        obtain ⟨⟨t147, t148, t149⟩, A120, H⟩ := H
        replace H : (some (t148, t149)) = some (r1, r2) := H
        have A12 := Aside0.mk A120
        clear A120
        simp only [Option.some.injEq, Prod.mk.injEq] at H
        obtain ⟨rfl, rfl⟩ := H
        obtain ⟨HGz13, hgz13⟩ := HI0.out
        have hcz13_0 := cellS38_0 HGz13
        have hcz13_1 := cellS38_1 HGz13
        have hfz13_0 := blk_frozen HGz13 0
        have hfz13_1 := blk_frozen HGz13 1
        clear HGz13 hgz13
        go_enter Tryd.func15, Tryd.ntmps15
        go_wp2_with (first | ((with_reducible refine gate_callee (f := 19) rfl ?_); refine goesL_ (some 15) rfl rfl Tryd.func19 (by kernel_rfl) rfl #[.pointer (some ⟨g, 0, none⟩)] rfl (by (try simp only [List.map_toArray, List.map_cons, List.map_nil]); first | done | rfl | (simp only [List.length_drop, List.length_take]; rfl) | (go_simp; first | done | (unfold wrap64; omega))) ?_; (with_reducible refine (kissgateref15_App_Speaks.calls g s0_0 a1 false t145 t146 w0 _ ?side1 ?side2 A7.out).mono ?_); (case side1 => repeat (first | (with_reducible first | exact HI0.out | apply IsS38.alloc | apply IsS38.drewN | apply IsS38.drew | apply IsS38.set_0 | apply IsS38.set_1) | exact HI0.out)); (case side2 => repeat (first | (with_reducible first | exact HB.out | apply below_alloc | apply pw_below_drewN | apply below_drew1 | refine below_set ?_ (IsS38.ge HI0.out)) | exact HB.out)); rintro e w14 ⟨rfl, hi, hb, hk⟩; refine ⟨_, rfl, ?_⟩; have n0_ := Aside0.mk (KeepBut.trans (by repeat (first | (with_reducible first | exact HK.out | apply KeepBut.set_ | apply keep_drewN | apply keep_drew | apply keep_alloc) | exact HK.out)) hk (.inl rfl)); have n1_ := Aside0.mk (hb); have n2_ := Aside0.mk (hi); clear HK; clear HB; clear HI0; have HK := n0_; have HB := n1_; have HI0 := n2_; clear n0_ n1_ n2_; (try clear hb); (try clear hb2); (try clear hk); (try clear hi)) | ((with_reducible refine gate_callee (f := 22) rfl ?_); refine goesL_ (some 18) rfl rfl Tryd.func22 (by kernel_rfl) rfl #[.pointer (some ⟨g, 0, none⟩), .int .i64 5] rfl (by (try simp only [List.map_toArray, List.map_cons, List.map_nil]); first | done | rfl | (simp only [List.length_drop, List.length_take]; rfl) | (go_simp; first | done | (unfold wrap64; omega))) ?_; (with_reducible refine (kissgateref15_App_step.calls g t145 t146 5 t147 t148 t149 w0 _ ?side1 ?side2 A12.out).mono ?_); (case side1 => repeat (first | (with_reducible first | exact HI0.out | apply IsS38.alloc | apply IsS38.drewN | apply IsS38.drew | apply IsS38.set_0 | apply IsS38.set_1) | exact HI0.out)); (case side2 => repeat (first | (with_reducible first | exact HB.out | apply below_alloc | apply pw_below_drewN | apply below_drew1 | refine below_set ?_ (IsS38.ge HI0.out)) | exact HB.out)); rintro e w15 ⟨rfl, hi, hb, hk⟩; refine ⟨_, rfl, ?_⟩; have n0_ := Aside0.mk (KeepBut.trans (by repeat (first | (with_reducible first | exact HK.out | apply KeepBut.set_ | apply keep_drewN | apply keep_drew | apply keep_alloc) | exact HK.out)) hk (.inl rfl)); have n1_ := Aside0.mk (hb); have n2_ := Aside0.mk (hi); clear HK; clear HB; clear HI0; have HK := n0_; have HB := n1_; have HI0 := n2_; clear n0_ n1_ n2_; (try clear hb); (try clear hb2); (try clear hk); (try clear hi)))
        first | go_end0 | ((try simp only [Exit.inBlock, Exit.then]); refine bodyPost_ret (results_none rfl _ _ _) rfl ?_)
        exact ⟨by first | rfl | (simp [show ∀ l_ : List UInt8, (l_ == []) = l_.isEmpty from fun l_ => by cases l_ <;> rfl]; done) | (simp [errW_none, errW_some] <;> rfl) | ((repeat rw [Int.tdiv_eq_ediv_of_nonneg (by omega)]); (repeat rw [Int.tmod_eq_emod_of_nonneg (by omega)]); first | rfl | (simp [errW_none, errW_some] <;> rfl)) | (simp [*, errW_none, errW_some] <;> rfl), by repeat (first | (with_reducible first | exact HI0.out | apply IsS38.alloc | apply IsS38.drewN | apply IsS38.drew | apply IsS38.set_0 | apply IsS38.set_1) | exact HI0.out), by repeat (first | (with_reducible first | exact HB.out | apply below_alloc | apply pw_below_drewN | apply below_drew1 | refine below_set ?_ (IsS38.ge HI0.out)) | exact HB.out), by repeat (first | (with_reducible first | exact HK.out | apply KeepBut.set_ | apply keep_drewN | apply keep_drew | apply keep_alloc) | exact HK.out)⟩
      · replace c11 := Bool.eq_false_iff.mpr c11
        subst c11
        have H1 : ((kissgateref15_App_step.f t145 t146 0).bind fun bt150 => (some (bt150.2.1, bt150.2.2))) = some (r1, r2) := by rw [if_neg (show ¬ (false = true) by decide)] at H; exact H
        clear H
        have H := H1
        clear H1
        replace H := Option.bind_eq_some_iff.mp H
        obtain ⟨⟨t150, t151, t152⟩, A160, H⟩ := H
        replace H : (some (t151, t152)) = some (r1, r2) := H
        have A16 := Aside0.mk A160
        clear A160
        simp only [Option.some.injEq, Prod.mk.injEq] at H
        obtain ⟨rfl, rfl⟩ := H
        obtain ⟨HGz17, hgz17⟩ := HI0.out
        have hcz17_0 := cellS38_0 HGz17
        have hcz17_1 := cellS38_1 HGz17
        have hfz17_0 := blk_frozen HGz17 0
        have hfz17_1 := blk_frozen HGz17 1
        clear HGz17 hgz17
        go_enter Tryd.func15, Tryd.ntmps15
        go_wp2_with (first | ((with_reducible refine gate_callee (f := 19) rfl ?_); refine goesL_ (some 15) rfl rfl Tryd.func19 (by kernel_rfl) rfl #[.pointer (some ⟨g, 0, none⟩)] rfl (by (try simp only [List.map_toArray, List.map_cons, List.map_nil]); first | done | rfl | (simp only [List.length_drop, List.length_take]; rfl) | (go_simp; first | done | (unfold wrap64; omega))) ?_; (with_reducible refine (kissgateref15_App_Speaks.calls g s0_0 a1 false t145 t146 w0 _ ?side1 ?side2 A7.out).mono ?_); (case side1 => repeat (first | (with_reducible first | exact HI0.out | apply IsS38.alloc | apply IsS38.drewN | apply IsS38.drew | apply IsS38.set_0 | apply IsS38.set_1) | exact HI0.out)); (case side2 => repeat (first | (with_reducible first | exact HB.out | apply below_alloc | apply pw_below_drewN | apply below_drew1 | refine below_set ?_ (IsS38.ge HI0.out)) | exact HB.out)); rintro e w18 ⟨rfl, hi, hb, hk⟩; refine ⟨_, rfl, ?_⟩; have n0_ := Aside0.mk (KeepBut.trans (by repeat (first | (with_reducible first | exact HK.out | apply KeepBut.set_ | apply keep_drewN | apply keep_drew | apply keep_alloc) | exact HK.out)) hk (.inl rfl)); have n1_ := Aside0.mk (hb); have n2_ := Aside0.mk (hi); clear HK; clear HB; clear HI0; have HK := n0_; have HB := n1_; have HI0 := n2_; clear n0_ n1_ n2_; (try clear hb); (try clear hb2); (try clear hk); (try clear hi)) | ((with_reducible refine gate_callee (f := 22) rfl ?_); refine goesL_ (some 20) rfl rfl Tryd.func22 (by kernel_rfl) rfl #[.pointer (some ⟨g, 0, none⟩), .int .i64 0] rfl (by (try simp only [List.map_toArray, List.map_cons, List.map_nil]); first | done | rfl | (simp only [List.length_drop, List.length_take]; rfl) | (go_simp; first | done | (unfold wrap64; omega))) ?_; (with_reducible refine (kissgateref15_App_step.calls g t145 t146 0 t150 t151 t152 w0 _ ?side1 ?side2 A16.out).mono ?_); (case side1 => repeat (first | (with_reducible first | exact HI0.out | apply IsS38.alloc | apply IsS38.drewN | apply IsS38.drew | apply IsS38.set_0 | apply IsS38.set_1) | exact HI0.out)); (case side2 => repeat (first | (with_reducible first | exact HB.out | apply below_alloc | apply pw_below_drewN | apply below_drew1 | refine below_set ?_ (IsS38.ge HI0.out)) | exact HB.out)); rintro e w19 ⟨rfl, hi, hb, hk⟩; refine ⟨_, rfl, ?_⟩; have n0_ := Aside0.mk (KeepBut.trans (by repeat (first | (with_reducible first | exact HK.out | apply KeepBut.set_ | apply keep_drewN | apply keep_drew | apply keep_alloc) | exact HK.out)) hk (.inl rfl)); have n1_ := Aside0.mk (hb); have n2_ := Aside0.mk (hi); clear HK; clear HB; clear HI0; have HK := n0_; have HB := n1_; have HI0 := n2_; clear n0_ n1_ n2_; (try clear hb); (try clear hb2); (try clear hk); (try clear hi)))
        first | go_end0 | ((try simp only [Exit.inBlock, Exit.then]); refine bodyPost_ret (results_none rfl _ _ _) rfl ?_)
        exact ⟨by first | rfl | (simp [show ∀ l_ : List UInt8, (l_ == []) = l_.isEmpty from fun l_ => by cases l_ <;> rfl]; done) | (simp [errW_none, errW_some] <;> rfl) | ((repeat rw [Int.tdiv_eq_ediv_of_nonneg (by omega)]); (repeat rw [Int.tmod_eq_emod_of_nonneg (by omega)]); first | rfl | (simp [errW_none, errW_some] <;> rfl)) | (simp [*, errW_none, errW_some] <;> rfl), by repeat (first | (with_reducible first | exact HI0.out | apply IsS38.alloc | apply IsS38.drewN | apply IsS38.drew | apply IsS38.set_0 | apply IsS38.set_1) | exact HI0.out), by repeat (first | (with_reducible first | exact HB.out | apply below_alloc | apply pw_below_drewN | apply below_drew1 | refine below_set ?_ (IsS38.ge HI0.out)) | exact HB.out), by repeat (first | (with_reducible first | exact HK.out | apply KeepBut.set_ | apply keep_drewN | apply keep_drew | apply keep_alloc) | exact HK.out)⟩

/-! ### kissgateref15_App_Do: function 16 -/
def kissgateref15_App_Do.f (s0_0 : Int) (s0_1 : Int) (a1 : Int) : Option (Int × Int) := (kissgateref15_App_step.f s0_0 s0_1 a1).bind fun bt153 => (some (bt153.2.1, bt153.2.2))
set_option maxHeartbeats 8000000 in
set_option maxRecDepth 100000 in
theorem kissgateref15_App_Do.calls (g : Nat) (s0_0 : Int) (s0_1 : Int) (a1 : Int) (r1 : Int) (r2 : Int) (w0 w : World) (hI : IsS38 w0 w g s0_0 s0_1) (hB : Below w0.heap.size w0 w) (h : kissgateref15_App_Do.f s0_0 s0_1 a1 = some (r1, r2)) :
    Calls Tryd.prog 16 #[.pointer (some ⟨g, 0, none⟩), .int .i64 a1] w fun e w' => e = .returned (.tuple #[]) ∧ IsS38 w0 w' g r1 r2 ∧ Below w0.heap.size w0 w' ∧ KeepBut w w' g none := by
  have HI0 := Aside0.mk hI
  have HK := Aside0.mk (KeepBut.refl w g none)
  have HL := Aside0.mk hB.size
  clear hI
  have HW0 := Aside0.mk hB.size
  have HB := Aside0.mk hB
  clear hB
  have H : ((kissgateref15_App_step.f s0_0 s0_1 a1).bind fun bt153 => (some (bt153.2.1, bt153.2.2))) = some (r1, r2) := h
  clear h
  replace H := Option.bind_eq_some_iff.mp H
  obtain ⟨⟨t153, t154, t155⟩, A30, H⟩ := H
  replace H : (some (t154, t155)) = some (r1, r2) := H
  have A3 := Aside0.mk A30
  clear A30
  simp only [Option.some.injEq, Prod.mk.injEq] at H
  obtain ⟨rfl, rfl⟩ := H
  go_enter Tryd.func16, Tryd.ntmps16
  go_wp2_with (first | ((with_reducible refine gate_callee (f := 22) rfl ?_); refine goesL_ (some 6) rfl rfl Tryd.func22 (by kernel_rfl) rfl #[.pointer (some ⟨g, 0, none⟩), .int .i64 a1] rfl (by (try simp only [List.map_toArray, List.map_cons, List.map_nil]); first | done | rfl | (simp only [List.length_drop, List.length_take]; rfl) | (go_simp; first | done | (unfold wrap64; omega))) ?_; (with_reducible refine (kissgateref15_App_step.calls g s0_0 s0_1 a1 t153 t154 t155 w0 _ ?side1 ?side2 A3.out).mono ?_); (case side1 => repeat (first | (with_reducible first | exact HI0.out | apply IsS38.alloc | apply IsS38.drewN | apply IsS38.drew | apply IsS38.set_0 | apply IsS38.set_1) | exact HI0.out)); (case side2 => repeat (first | (with_reducible first | exact HB.out | apply below_alloc | apply pw_below_drewN | apply below_drew1 | refine below_set ?_ (IsS38.ge HI0.out)) | exact HB.out)); rintro e w4 ⟨rfl, hi, hb, hk⟩; refine ⟨_, rfl, ?_⟩; have n0_ := Aside0.mk (KeepBut.trans (by repeat (first | (with_reducible first | exact HK.out | apply KeepBut.set_ | apply keep_drewN | apply keep_drew | apply keep_alloc) | exact HK.out)) hk (.inl rfl)); have n1_ := Aside0.mk (hb); have n2_ := Aside0.mk (hi); clear HK; clear HB; clear HI0; have HK := n0_; have HB := n1_; have HI0 := n2_; clear n0_ n1_ n2_; (try clear hb); (try clear hb2); (try clear hk); (try clear hi)))
  first | go_end0 | ((try simp only [Exit.inBlock, Exit.then]); refine bodyPost_ret (results_none rfl _ _ _) rfl ?_)
  exact ⟨by first | rfl | (simp [show ∀ l_ : List UInt8, (l_ == []) = l_.isEmpty from fun l_ => by cases l_ <;> rfl]; done) | (simp [errW_none, errW_some] <;> rfl) | ((repeat rw [Int.tdiv_eq_ediv_of_nonneg (by omega)]); (repeat rw [Int.tmod_eq_emod_of_nonneg (by omega)]); first | rfl | (simp [errW_none, errW_some] <;> rfl)) | (simp [*, errW_none, errW_some] <;> rfl), by repeat (first | (with_reducible first | exact HI0.out | apply IsS38.alloc | apply IsS38.drewN | apply IsS38.drew | apply IsS38.set_0 | apply IsS38.set_1) | exact HI0.out), by repeat (first | (with_reducible first | exact HB.out | apply below_alloc | apply pw_below_drewN | apply below_drew1 | refine below_set ?_ (IsS38.ge HI0.out)) | exact HB.out), by repeat (first | (with_reducible first | exact HK.out | apply KeepBut.set_ | apply keep_drewN | apply keep_drew | apply keep_alloc) | exact HK.out)⟩

/-! ### kissgateref15_App_Say: function 17 -/
theorem rstepA_eq (s b ev : Int) (hs : 0 ≤ s ∧ s ≤ 4) (he : 0 ≤ ev ∧ ev ≤ 5) : kissgateref15_App_step.f s b ev = some (acA s ev, nxA s ev, b) := by
  have h1 : s = 0 ∨ s = 1 ∨ s = 2 ∨ s = 3 ∨ s = 4 := by omega
  have h2 : ev = 0 ∨ ev = 1 ∨ ev = 2 ∨ ev = 3 ∨ ev = 4 ∨ ev = 5 := by omega
  rcases h1 with rfl | rfl | rfl | rfl | rfl <;> rcases h2 with rfl | rfl | rfl | rfl | rfl | rfl <;> rfl
set_option maxHeartbeats 4000000 in
set_option maxRecDepth 100000 in
theorem RSay_nice {g : Nat} {s b : Int} {w0 w : World} (hI : IsS38 w0 w g s b) (hB : Below w0.heap.size w0 w) (hs : 0 ≤ s ∧ s ≤ 4) :
    Calls Tryd.prog 17 #[.pointer (some ⟨g, 0, none⟩)] w fun e w' => e = .returned (.tuple #[.int .i64 (sayE s), .int .i64 (sayB s b), .bool (sayIs s)]) ∧ IsS38 w0 w' g (nxA s 4) b ∧ Below w0.heap.size w0 w' ∧ KeepBut w w' g none := by
  have HI := Aside0.mk hI
  have HB := Aside0.mk hB
  have h1 : s = 0 ∨ s = 1 ∨ s = 2 ∨ s = 3 ∨ s = 4 := by omega
  have hu := Tryd.underlying43
  have i1 : ∀ w, (Instr.index 43 (.agg #[.int .i64 0, .int .i64 0, .int .i64 1, .int .i64 5]) (.int .i64 1)).run Tryd.prog w = .ok (.int .i64 0) w := fun _ => by kernel_rfl
  have i2 : ∀ w, (Instr.index 43 (.agg #[.int .i64 0, .int .i64 0, .int .i64 1, .int .i64 5]) (.int .i64 2)).run Tryd.prog w = .ok (.int .i64 1) w := fun _ => by kernel_rfl
  have i3 : ∀ w, (Instr.index 43 (.agg #[.int .i64 0, .int .i64 0, .int .i64 1, .int .i64 5]) (.int .i64 3)).run Tryd.prog w = .ok (.int .i64 5) w := fun _ => by kernel_rfl
  clear hI hB hs
  rcases h1 with rfl | rfl | rfl | rfl | rfl
  · go_enter Tryd.func17, Tryd.ntmps17
    go_wp2_with fail
    go_at_call 22
    refine (kissgateref15_App_step.calls g 0 b 4 0 0 b w0 w HI.out HB.out (rstepA_eq 0 b 4 (by decide) (by decide))).mono ?_
    rintro e w1 ⟨rfl, hi, hb, hk⟩
    have q1 := (blk_cell hi.1 1).trans (rfl : _ = some (Value.int .i64 b))
    have HI := Aside0.mk hi
    have HB := Aside0.mk hb
    have HK := Aside0.mk hk
    clear hi hb hk
    go_wp2_with fail
    go_ret3
    exact ⟨rfl, HI.out, HB.out, HK.out⟩
  · go_enter Tryd.func17, Tryd.ntmps17
    go_wp2_with fail
    go_at_call 22
    refine (kissgateref15_App_step.calls g 1 b 4 1 2 b w0 w HI.out HB.out (rstepA_eq 1 b 4 (by decide) (by decide))).mono ?_
    rintro e w1 ⟨rfl, hi, hb, hk⟩
    have q1 := (blk_cell hi.1 1).trans (rfl : _ = some (Value.int .i64 b))
    have HI := Aside0.mk hi
    have HB := Aside0.mk hb
    have HK := Aside0.mk hk
    clear hi hb hk
    go_wp2_with fail
    go_quiet (fail)
    go_wp2_with fail
    go_ret3
    exact ⟨rfl, ⟨HI.out.1, HI.out.2⟩, below_step HB.out (Drawn0.below ⟨⟨_, rfl⟩⟩), ⟨HK.out.1, HK.out.2⟩⟩
  · go_enter Tryd.func17, Tryd.ntmps17
    go_wp2_with fail
    go_at_call 22
    refine (kissgateref15_App_step.calls g 2 b 4 2 3 b w0 w HI.out HB.out (rstepA_eq 2 b 4 (by decide) (by decide))).mono ?_
    rintro e w1 ⟨rfl, hi, hb, hk⟩
    have q1 := (blk_cell hi.1 1).trans (rfl : _ = some (Value.int .i64 b))
    have HI := Aside0.mk hi
    have HB := Aside0.mk hb
    have HK := Aside0.mk hk
    clear hi hb hk
    go_wp2_with fail
    go_quiet (fail)
    go_wp2_with fail
    go_ret3
    exact ⟨rfl, ⟨HI.out.1, HI.out.2⟩, below_step HB.out (Drawn0.below ⟨⟨_, rfl⟩⟩), ⟨HK.out.1, HK.out.2⟩⟩
  · go_enter Tryd.func17, Tryd.ntmps17
    go_wp2_with fail
    go_at_call 22
    refine (kissgateref15_App_step.calls g 3 b 4 0 3 b w0 w HI.out HB.out (rstepA_eq 3 b 4 (by decide) (by decide))).mono ?_
    rintro e w1 ⟨rfl, hi, hb, hk⟩
    have q1 := (blk_cell hi.1 1).trans (rfl : _ = some (Value.int .i64 b))
    have HI := Aside0.mk hi
    have HB := Aside0.mk hb
    have HK := Aside0.mk hk
    clear hi hb hk
    go_wp2_with fail
    go_ret3
    exact ⟨rfl, HI.out, HB.out, HK.out⟩
  · go_enter Tryd.func17, Tryd.ntmps17
    go_wp2_with fail
    go_at_call 22
    refine (kissgateref15_App_step.calls g 4 b 4 3 0 b w0 w HI.out HB.out (rstepA_eq 4 b 4 (by decide) (by decide))).mono ?_
    rintro e w1 ⟨rfl, hi, hb, hk⟩
    have q1 := (blk_cell hi.1 1).trans (rfl : _ = some (Value.int .i64 b))
    have HI := Aside0.mk hi
    have HB := Aside0.mk hb
    have HK := Aside0.mk hk
    clear hi hb hk
    go_wp2_with fail
    go_quiet (fail)
    go_wp2_with fail
    go_ret3
    exact ⟨rfl, ⟨HI.out.1, HI.out.2⟩, below_step HB.out (Drawn0.below ⟨⟨_, rfl⟩⟩), ⟨HK.out.1, HK.out.2⟩⟩


/-! ### appli_App_State: function 18 -/
def appli_App_State.f (s0_0 : Int) (s0_1 : Int) : Option (Int × Int × Int) := some (s0_0, s0_0, s0_1)
set_option maxHeartbeats 8000000 in
set_option maxRecDepth 100000 in
theorem appli_App_State.calls (g : Nat) (s0_0 : Int) (s0_1 : Int) (r1 : Int) (r2 : Int) (r3 : Int) (w0 w : World) (hI : IsS26 w0 w g s0_0 s0_1) (hB : Below w0.heap.size w0 w) (h : appli_App_State.f s0_0 s0_1 = some (r1, r2, r3)) :
    Calls Tryd.prog 18 #[.pointer (some ⟨g, 0, none⟩)] w fun e w' => e = .returned (.int .i64 r1) ∧ IsS26 w0 w' g r2 r3 ∧ Below w0.heap.size w0 w' ∧ KeepBut w w' g none := by
  have HI0 := Aside0.mk hI
  have HK := Aside0.mk (KeepBut.refl w g none)
  have HL := Aside0.mk hB.size
  clear hI
  have HW0 := Aside0.mk hB.size
  have HB := Aside0.mk hB
  clear hB
  have H : (some (s0_0, s0_0, s0_1)) = some (r1, r2, r3) := h
  clear h
  simp only [Option.some.injEq, Prod.mk.injEq] at H
  obtain ⟨rfl, rfl, rfl⟩ := H
  obtain ⟨HGz2, hgz2⟩ := HI0.out
  have hcz2_0 := cellS26_0 HGz2
  have hcz2_1 := cellS26_1 HGz2
  have hfz2_0 := blk_frozen HGz2 0
  have hfz2_1 := blk_frozen HGz2 1
  clear HGz2 hgz2
  go_enter Tryd.func18, Tryd.ntmps18
  go_wp2
  go_ret
  exact ⟨by first | rfl | (simp [show ∀ l_ : List UInt8, (l_ == []) = l_.isEmpty from fun l_ => by cases l_ <;> rfl]; done) | (simp [errW_none, errW_some] <;> rfl) | ((repeat rw [Int.tdiv_eq_ediv_of_nonneg (by omega)]); (repeat rw [Int.tmod_eq_emod_of_nonneg (by omega)]); first | rfl | (simp [errW_none, errW_some] <;> rfl)) | (simp [*, errW_none, errW_some] <;> rfl), by repeat (first | (with_reducible first | exact HI0.out | apply IsS26.alloc | apply IsS26.drewN | apply IsS26.drew | apply IsS26.set_0 | apply IsS26.set_1) | exact HI0.out), by repeat (first | (with_reducible first | exact HB.out | apply below_alloc | apply pw_below_drewN | apply below_drew1 | refine below_set ?_ (IsS26.ge HI0.out)) | exact HB.out), by repeat (first | (with_reducible first | exact HK.out | apply KeepBut.set_ | apply keep_drewN | apply keep_drew | apply keep_alloc) | exact HK.out)⟩

end Go.Proofs.YtnphindpbdjmpaaDoor.PAppliDoes
