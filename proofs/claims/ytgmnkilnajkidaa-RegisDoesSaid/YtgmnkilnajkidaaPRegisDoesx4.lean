-- Written by a program of this session (see NOTES.md), which reads the translation's print; Lean checks it.
import Derived.Test.YtgmnkilnajkidaaPRegisDoesx0
import Derived.Test.YtgmnkilnajkidaaPRegisDoesx3
namespace Go.Proofs.Ytgmnkilnajkidaa.PRegisDoes
open Go.RowKit Go.Proofs.YtgmnkilnajkidaaW.PrintWords Go.Proofs.YtgmnkilnajkidaaW.PrintLast Go.Proofs.YtgmnkilnajkidaaW.PrintMore
attribute [local go_sem] max2_int min2_int max_two min_two max_three min_three max_four min_four   -- for this text's walks alone
set_option linter.unusedVariables false
set_option linter.unusedSimpArgs false

/-! ### kissgateref13_Next: function 28 -/
def kissgateref13_Next.tab (a0 : Bool) : List (List Int) := if a0 = true then [[1, 0, 0, 0, 0, 1], [1, 4, 1, 1, 2, 1], [2, 4, 2, 2, 3, 1], [3, 4, 2, 2, 3, 1], [2, 4, 4, 4, 0, 1]] else [[2, 0, 0, 0, 0], [2, 1, 1, 0, 0], [2, 1, 1, 2, 0]]
def kissgateref13_Next.f (a0 : Bool) (a1 a2 : Int) : Option Int := if 0 ≤ a1 ∧ 0 ≤ a2 then ((kissgateref13_Next.tab a0)[a1.toNat]?).bind fun r => r[a2.toNat]? else none
set_option maxHeartbeats 4000000 in
set_option maxRecDepth 100000 in
theorem kissgateref13_Next.walk_false_0 (a2 : Int) (r : Int) (w : World) (h : kissgateref13_Next.f false 0 a2 = some r) : Calls Try.prog 28 #[.bool false, .int .i64 0, .int .i64 a2] w fun e w' => e = .returned (.int .i64 r) ∧ Drawn0 w w' := by
  have h2 : 0 ≤ a2 ∧ a2 < 5 := by
    unfold kissgateref13_Next.f at h
    by_cases h0 : 0 ≤ a2
    · refine ⟨h0, ?_⟩
      rw [if_pos ⟨by decide, h0⟩] at h
      have h3 : ([2, 0, 0, 0, 0] : List Int)[a2.toNat]? = some r := h
      have := (List.getElem?_eq_some_iff.1 h3).1
      simp only [List.length_cons, List.length_nil] at this
      omega
    · rw [if_neg (fun e => h0 e.2)] at h; cases h
  have hc : a2 = 0 ∨ a2 = 1 ∨ a2 = 2 ∨ a2 = 3 ∨ a2 = 4 := by omega
  have ia : ∀ w, (Instr.index 58 (.agg #[.string ⟨#[50, 48, 48, 48, 48]⟩, .string ⟨#[50, 49, 49, 48, 48]⟩, .string ⟨#[50, 49, 49, 50, 48]⟩]) (.int .i64 0)).run Try.prog w = .ok (.string ⟨#[50, 48, 48, 48, 48]⟩) w := fun _ => by kernel_rfl
  rcases hc with rfl | rfl | rfl | rfl | rfl
  · obtain rfl : (2 : Int) = r := Option.some.inj h
    have ib : ∀ w, (Instr.index 9 (.string ⟨#[50, 48, 48, 48, 48]⟩) (.int .i64 0)).run Try.prog w = .ok (.int .u8 50) w := fun _ => by kernel_rfl
    go_enter Try.func28, Try.ntmps28
    go_wp2
    go_ret
    exact ⟨rfl, by repeat (first | exact Drawn0.refl _ | apply Drawn0.step)⟩
  · obtain rfl : (0 : Int) = r := Option.some.inj h
    have ib : ∀ w, (Instr.index 9 (.string ⟨#[50, 48, 48, 48, 48]⟩) (.int .i64 1)).run Try.prog w = .ok (.int .u8 48) w := fun _ => by kernel_rfl
    go_enter Try.func28, Try.ntmps28
    go_wp2
    go_ret
    exact ⟨rfl, by repeat (first | exact Drawn0.refl _ | apply Drawn0.step)⟩
  · obtain rfl : (0 : Int) = r := Option.some.inj h
    have ib : ∀ w, (Instr.index 9 (.string ⟨#[50, 48, 48, 48, 48]⟩) (.int .i64 2)).run Try.prog w = .ok (.int .u8 48) w := fun _ => by kernel_rfl
    go_enter Try.func28, Try.ntmps28
    go_wp2
    go_ret
    exact ⟨rfl, by repeat (first | exact Drawn0.refl _ | apply Drawn0.step)⟩
  · obtain rfl : (0 : Int) = r := Option.some.inj h
    have ib : ∀ w, (Instr.index 9 (.string ⟨#[50, 48, 48, 48, 48]⟩) (.int .i64 3)).run Try.prog w = .ok (.int .u8 48) w := fun _ => by kernel_rfl
    go_enter Try.func28, Try.ntmps28
    go_wp2
    go_ret
    exact ⟨rfl, by repeat (first | exact Drawn0.refl _ | apply Drawn0.step)⟩
  · obtain rfl : (0 : Int) = r := Option.some.inj h
    have ib : ∀ w, (Instr.index 9 (.string ⟨#[50, 48, 48, 48, 48]⟩) (.int .i64 4)).run Try.prog w = .ok (.int .u8 48) w := fun _ => by kernel_rfl
    go_enter Try.func28, Try.ntmps28
    go_wp2
    go_ret
    exact ⟨rfl, by repeat (first | exact Drawn0.refl _ | apply Drawn0.step)⟩
set_option maxHeartbeats 4000000 in
set_option maxRecDepth 100000 in
theorem kissgateref13_Next.walk_false_1 (a2 : Int) (r : Int) (w : World) (h : kissgateref13_Next.f false 1 a2 = some r) : Calls Try.prog 28 #[.bool false, .int .i64 1, .int .i64 a2] w fun e w' => e = .returned (.int .i64 r) ∧ Drawn0 w w' := by
  have h2 : 0 ≤ a2 ∧ a2 < 5 := by
    unfold kissgateref13_Next.f at h
    by_cases h0 : 0 ≤ a2
    · refine ⟨h0, ?_⟩
      rw [if_pos ⟨by decide, h0⟩] at h
      have h3 : ([2, 1, 1, 0, 0] : List Int)[a2.toNat]? = some r := h
      have := (List.getElem?_eq_some_iff.1 h3).1
      simp only [List.length_cons, List.length_nil] at this
      omega
    · rw [if_neg (fun e => h0 e.2)] at h; cases h
  have hc : a2 = 0 ∨ a2 = 1 ∨ a2 = 2 ∨ a2 = 3 ∨ a2 = 4 := by omega
  have ia : ∀ w, (Instr.index 58 (.agg #[.string ⟨#[50, 48, 48, 48, 48]⟩, .string ⟨#[50, 49, 49, 48, 48]⟩, .string ⟨#[50, 49, 49, 50, 48]⟩]) (.int .i64 1)).run Try.prog w = .ok (.string ⟨#[50, 49, 49, 48, 48]⟩) w := fun _ => by kernel_rfl
  rcases hc with rfl | rfl | rfl | rfl | rfl
  · obtain rfl : (2 : Int) = r := Option.some.inj h
    have ib : ∀ w, (Instr.index 9 (.string ⟨#[50, 49, 49, 48, 48]⟩) (.int .i64 0)).run Try.prog w = .ok (.int .u8 50) w := fun _ => by kernel_rfl
    go_enter Try.func28, Try.ntmps28
    go_wp2
    go_ret
    exact ⟨rfl, by repeat (first | exact Drawn0.refl _ | apply Drawn0.step)⟩
  · obtain rfl : (1 : Int) = r := Option.some.inj h
    have ib : ∀ w, (Instr.index 9 (.string ⟨#[50, 49, 49, 48, 48]⟩) (.int .i64 1)).run Try.prog w = .ok (.int .u8 49) w := fun _ => by kernel_rfl
    go_enter Try.func28, Try.ntmps28
    go_wp2
    go_ret
    exact ⟨rfl, by repeat (first | exact Drawn0.refl _ | apply Drawn0.step)⟩
  · obtain rfl : (1 : Int) = r := Option.some.inj h
    have ib : ∀ w, (Instr.index 9 (.string ⟨#[50, 49, 49, 48, 48]⟩) (.int .i64 2)).run Try.prog w = .ok (.int .u8 49) w := fun _ => by kernel_rfl
    go_enter Try.func28, Try.ntmps28
    go_wp2
    go_ret
    exact ⟨rfl, by repeat (first | exact Drawn0.refl _ | apply Drawn0.step)⟩
  · obtain rfl : (0 : Int) = r := Option.some.inj h
    have ib : ∀ w, (Instr.index 9 (.string ⟨#[50, 49, 49, 48, 48]⟩) (.int .i64 3)).run Try.prog w = .ok (.int .u8 48) w := fun _ => by kernel_rfl
    go_enter Try.func28, Try.ntmps28
    go_wp2
    go_ret
    exact ⟨rfl, by repeat (first | exact Drawn0.refl _ | apply Drawn0.step)⟩
  · obtain rfl : (0 : Int) = r := Option.some.inj h
    have ib : ∀ w, (Instr.index 9 (.string ⟨#[50, 49, 49, 48, 48]⟩) (.int .i64 4)).run Try.prog w = .ok (.int .u8 48) w := fun _ => by kernel_rfl
    go_enter Try.func28, Try.ntmps28
    go_wp2
    go_ret
    exact ⟨rfl, by repeat (first | exact Drawn0.refl _ | apply Drawn0.step)⟩
set_option maxHeartbeats 4000000 in
set_option maxRecDepth 100000 in
theorem kissgateref13_Next.walk_false_2 (a2 : Int) (r : Int) (w : World) (h : kissgateref13_Next.f false 2 a2 = some r) : Calls Try.prog 28 #[.bool false, .int .i64 2, .int .i64 a2] w fun e w' => e = .returned (.int .i64 r) ∧ Drawn0 w w' := by
  have h2 : 0 ≤ a2 ∧ a2 < 5 := by
    unfold kissgateref13_Next.f at h
    by_cases h0 : 0 ≤ a2
    · refine ⟨h0, ?_⟩
      rw [if_pos ⟨by decide, h0⟩] at h
      have h3 : ([2, 1, 1, 2, 0] : List Int)[a2.toNat]? = some r := h
      have := (List.getElem?_eq_some_iff.1 h3).1
      simp only [List.length_cons, List.length_nil] at this
      omega
    · rw [if_neg (fun e => h0 e.2)] at h; cases h
  have hc : a2 = 0 ∨ a2 = 1 ∨ a2 = 2 ∨ a2 = 3 ∨ a2 = 4 := by omega
  have ia : ∀ w, (Instr.index 58 (.agg #[.string ⟨#[50, 48, 48, 48, 48]⟩, .string ⟨#[50, 49, 49, 48, 48]⟩, .string ⟨#[50, 49, 49, 50, 48]⟩]) (.int .i64 2)).run Try.prog w = .ok (.string ⟨#[50, 49, 49, 50, 48]⟩) w := fun _ => by kernel_rfl
  rcases hc with rfl | rfl | rfl | rfl | rfl
  · obtain rfl : (2 : Int) = r := Option.some.inj h
    have ib : ∀ w, (Instr.index 9 (.string ⟨#[50, 49, 49, 50, 48]⟩) (.int .i64 0)).run Try.prog w = .ok (.int .u8 50) w := fun _ => by kernel_rfl
    go_enter Try.func28, Try.ntmps28
    go_wp2
    go_ret
    exact ⟨rfl, by repeat (first | exact Drawn0.refl _ | apply Drawn0.step)⟩
  · obtain rfl : (1 : Int) = r := Option.some.inj h
    have ib : ∀ w, (Instr.index 9 (.string ⟨#[50, 49, 49, 50, 48]⟩) (.int .i64 1)).run Try.prog w = .ok (.int .u8 49) w := fun _ => by kernel_rfl
    go_enter Try.func28, Try.ntmps28
    go_wp2
    go_ret
    exact ⟨rfl, by repeat (first | exact Drawn0.refl _ | apply Drawn0.step)⟩
  · obtain rfl : (1 : Int) = r := Option.some.inj h
    have ib : ∀ w, (Instr.index 9 (.string ⟨#[50, 49, 49, 50, 48]⟩) (.int .i64 2)).run Try.prog w = .ok (.int .u8 49) w := fun _ => by kernel_rfl
    go_enter Try.func28, Try.ntmps28
    go_wp2
    go_ret
    exact ⟨rfl, by repeat (first | exact Drawn0.refl _ | apply Drawn0.step)⟩
  · obtain rfl : (2 : Int) = r := Option.some.inj h
    have ib : ∀ w, (Instr.index 9 (.string ⟨#[50, 49, 49, 50, 48]⟩) (.int .i64 3)).run Try.prog w = .ok (.int .u8 50) w := fun _ => by kernel_rfl
    go_enter Try.func28, Try.ntmps28
    go_wp2
    go_ret
    exact ⟨rfl, by repeat (first | exact Drawn0.refl _ | apply Drawn0.step)⟩
  · obtain rfl : (0 : Int) = r := Option.some.inj h
    have ib : ∀ w, (Instr.index 9 (.string ⟨#[50, 49, 49, 50, 48]⟩) (.int .i64 4)).run Try.prog w = .ok (.int .u8 48) w := fun _ => by kernel_rfl
    go_enter Try.func28, Try.ntmps28
    go_wp2
    go_ret
    exact ⟨rfl, by repeat (first | exact Drawn0.refl _ | apply Drawn0.step)⟩
set_option maxHeartbeats 4000000 in
set_option maxRecDepth 100000 in
theorem kissgateref13_Next.walk_true_0 (a2 : Int) (r : Int) (w : World) (h : kissgateref13_Next.f true 0 a2 = some r) : Calls Try.prog 28 #[.bool true, .int .i64 0, .int .i64 a2] w fun e w' => e = .returned (.int .i64 r) ∧ Drawn0 w w' := by
  have h2 : 0 ≤ a2 ∧ a2 < 6 := by
    unfold kissgateref13_Next.f at h
    by_cases h0 : 0 ≤ a2
    · refine ⟨h0, ?_⟩
      rw [if_pos ⟨by decide, h0⟩] at h
      have h3 : ([1, 0, 0, 0, 0, 1] : List Int)[a2.toNat]? = some r := h
      have := (List.getElem?_eq_some_iff.1 h3).1
      simp only [List.length_cons, List.length_nil] at this
      omega
    · rw [if_neg (fun e => h0 e.2)] at h; cases h
  have hc : a2 = 0 ∨ a2 = 1 ∨ a2 = 2 ∨ a2 = 3 ∨ a2 = 4 ∨ a2 = 5 := by omega
  have ia : ∀ w, (Instr.index 59 (.agg #[.string ⟨#[49, 48, 48, 48, 48, 49]⟩, .string ⟨#[49, 52, 49, 49, 50, 49]⟩, .string ⟨#[50, 52, 50, 50, 51, 49]⟩, .string ⟨#[51, 52, 50, 50, 51, 49]⟩, .string ⟨#[50, 52, 52, 52, 48, 49]⟩]) (.int .i64 0)).run Try.prog w = .ok (.string ⟨#[49, 48, 48, 48, 48, 49]⟩) w := fun _ => by kernel_rfl
  rcases hc with rfl | rfl | rfl | rfl | rfl | rfl
  · obtain rfl : (1 : Int) = r := Option.some.inj h
    have ib : ∀ w, (Instr.index 9 (.string ⟨#[49, 48, 48, 48, 48, 49]⟩) (.int .i64 0)).run Try.prog w = .ok (.int .u8 49) w := fun _ => by kernel_rfl
    go_enter Try.func28, Try.ntmps28
    go_wp2
    go_ret
    exact ⟨rfl, by repeat (first | exact Drawn0.refl _ | apply Drawn0.step)⟩
  · obtain rfl : (0 : Int) = r := Option.some.inj h
    have ib : ∀ w, (Instr.index 9 (.string ⟨#[49, 48, 48, 48, 48, 49]⟩) (.int .i64 1)).run Try.prog w = .ok (.int .u8 48) w := fun _ => by kernel_rfl
    go_enter Try.func28, Try.ntmps28
    go_wp2
    go_ret
    exact ⟨rfl, by repeat (first | exact Drawn0.refl _ | apply Drawn0.step)⟩
  · obtain rfl : (0 : Int) = r := Option.some.inj h
    have ib : ∀ w, (Instr.index 9 (.string ⟨#[49, 48, 48, 48, 48, 49]⟩) (.int .i64 2)).run Try.prog w = .ok (.int .u8 48) w := fun _ => by kernel_rfl
    go_enter Try.func28, Try.ntmps28
    go_wp2
    go_ret
    exact ⟨rfl, by repeat (first | exact Drawn0.refl _ | apply Drawn0.step)⟩
  · obtain rfl : (0 : Int) = r := Option.some.inj h
    have ib : ∀ w, (Instr.index 9 (.string ⟨#[49, 48, 48, 48, 48, 49]⟩) (.int .i64 3)).run Try.prog w = .ok (.int .u8 48) w := fun _ => by kernel_rfl
    go_enter Try.func28, Try.ntmps28
    go_wp2
    go_ret
    exact ⟨rfl, by repeat (first | exact Drawn0.refl _ | apply Drawn0.step)⟩
  · obtain rfl : (0 : Int) = r := Option.some.inj h
    have ib : ∀ w, (Instr.index 9 (.string ⟨#[49, 48, 48, 48, 48, 49]⟩) (.int .i64 4)).run Try.prog w = .ok (.int .u8 48) w := fun _ => by kernel_rfl
    go_enter Try.func28, Try.ntmps28
    go_wp2
    go_ret
    exact ⟨rfl, by repeat (first | exact Drawn0.refl _ | apply Drawn0.step)⟩
  · obtain rfl : (1 : Int) = r := Option.some.inj h
    have ib : ∀ w, (Instr.index 9 (.string ⟨#[49, 48, 48, 48, 48, 49]⟩) (.int .i64 5)).run Try.prog w = .ok (.int .u8 49) w := fun _ => by kernel_rfl
    go_enter Try.func28, Try.ntmps28
    go_wp2
    go_ret
    exact ⟨rfl, by repeat (first | exact Drawn0.refl _ | apply Drawn0.step)⟩
set_option maxHeartbeats 4000000 in
set_option maxRecDepth 100000 in
theorem kissgateref13_Next.walk_true_1 (a2 : Int) (r : Int) (w : World) (h : kissgateref13_Next.f true 1 a2 = some r) : Calls Try.prog 28 #[.bool true, .int .i64 1, .int .i64 a2] w fun e w' => e = .returned (.int .i64 r) ∧ Drawn0 w w' := by
  have h2 : 0 ≤ a2 ∧ a2 < 6 := by
    unfold kissgateref13_Next.f at h
    by_cases h0 : 0 ≤ a2
    · refine ⟨h0, ?_⟩
      rw [if_pos ⟨by decide, h0⟩] at h
      have h3 : ([1, 4, 1, 1, 2, 1] : List Int)[a2.toNat]? = some r := h
      have := (List.getElem?_eq_some_iff.1 h3).1
      simp only [List.length_cons, List.length_nil] at this
      omega
    · rw [if_neg (fun e => h0 e.2)] at h; cases h
  have hc : a2 = 0 ∨ a2 = 1 ∨ a2 = 2 ∨ a2 = 3 ∨ a2 = 4 ∨ a2 = 5 := by omega
  have ia : ∀ w, (Instr.index 59 (.agg #[.string ⟨#[49, 48, 48, 48, 48, 49]⟩, .string ⟨#[49, 52, 49, 49, 50, 49]⟩, .string ⟨#[50, 52, 50, 50, 51, 49]⟩, .string ⟨#[51, 52, 50, 50, 51, 49]⟩, .string ⟨#[50, 52, 52, 52, 48, 49]⟩]) (.int .i64 1)).run Try.prog w = .ok (.string ⟨#[49, 52, 49, 49, 50, 49]⟩) w := fun _ => by kernel_rfl
  rcases hc with rfl | rfl | rfl | rfl | rfl | rfl
  · obtain rfl : (1 : Int) = r := Option.some.inj h
    have ib : ∀ w, (Instr.index 9 (.string ⟨#[49, 52, 49, 49, 50, 49]⟩) (.int .i64 0)).run Try.prog w = .ok (.int .u8 49) w := fun _ => by kernel_rfl
    go_enter Try.func28, Try.ntmps28
    go_wp2
    go_ret
    exact ⟨rfl, by repeat (first | exact Drawn0.refl _ | apply Drawn0.step)⟩
  · obtain rfl : (4 : Int) = r := Option.some.inj h
    have ib : ∀ w, (Instr.index 9 (.string ⟨#[49, 52, 49, 49, 50, 49]⟩) (.int .i64 1)).run Try.prog w = .ok (.int .u8 52) w := fun _ => by kernel_rfl
    go_enter Try.func28, Try.ntmps28
    go_wp2
    go_ret
    exact ⟨rfl, by repeat (first | exact Drawn0.refl _ | apply Drawn0.step)⟩
  · obtain rfl : (1 : Int) = r := Option.some.inj h
    have ib : ∀ w, (Instr.index 9 (.string ⟨#[49, 52, 49, 49, 50, 49]⟩) (.int .i64 2)).run Try.prog w = .ok (.int .u8 49) w := fun _ => by kernel_rfl
    go_enter Try.func28, Try.ntmps28
    go_wp2
    go_ret
    exact ⟨rfl, by repeat (first | exact Drawn0.refl _ | apply Drawn0.step)⟩
  · obtain rfl : (1 : Int) = r := Option.some.inj h
    have ib : ∀ w, (Instr.index 9 (.string ⟨#[49, 52, 49, 49, 50, 49]⟩) (.int .i64 3)).run Try.prog w = .ok (.int .u8 49) w := fun _ => by kernel_rfl
    go_enter Try.func28, Try.ntmps28
    go_wp2
    go_ret
    exact ⟨rfl, by repeat (first | exact Drawn0.refl _ | apply Drawn0.step)⟩
  · obtain rfl : (2 : Int) = r := Option.some.inj h
    have ib : ∀ w, (Instr.index 9 (.string ⟨#[49, 52, 49, 49, 50, 49]⟩) (.int .i64 4)).run Try.prog w = .ok (.int .u8 50) w := fun _ => by kernel_rfl
    go_enter Try.func28, Try.ntmps28
    go_wp2
    go_ret
    exact ⟨rfl, by repeat (first | exact Drawn0.refl _ | apply Drawn0.step)⟩
  · obtain rfl : (1 : Int) = r := Option.some.inj h
    have ib : ∀ w, (Instr.index 9 (.string ⟨#[49, 52, 49, 49, 50, 49]⟩) (.int .i64 5)).run Try.prog w = .ok (.int .u8 49) w := fun _ => by kernel_rfl
    go_enter Try.func28, Try.ntmps28
    go_wp2
    go_ret
    exact ⟨rfl, by repeat (first | exact Drawn0.refl _ | apply Drawn0.step)⟩
set_option maxHeartbeats 4000000 in
set_option maxRecDepth 100000 in
theorem kissgateref13_Next.walk_true_2 (a2 : Int) (r : Int) (w : World) (h : kissgateref13_Next.f true 2 a2 = some r) : Calls Try.prog 28 #[.bool true, .int .i64 2, .int .i64 a2] w fun e w' => e = .returned (.int .i64 r) ∧ Drawn0 w w' := by
  have h2 : 0 ≤ a2 ∧ a2 < 6 := by
    unfold kissgateref13_Next.f at h
    by_cases h0 : 0 ≤ a2
    · refine ⟨h0, ?_⟩
      rw [if_pos ⟨by decide, h0⟩] at h
      have h3 : ([2, 4, 2, 2, 3, 1] : List Int)[a2.toNat]? = some r := h
      have := (List.getElem?_eq_some_iff.1 h3).1
      simp only [List.length_cons, List.length_nil] at this
      omega
    · rw [if_neg (fun e => h0 e.2)] at h; cases h
  have hc : a2 = 0 ∨ a2 = 1 ∨ a2 = 2 ∨ a2 = 3 ∨ a2 = 4 ∨ a2 = 5 := by omega
  have ia : ∀ w, (Instr.index 59 (.agg #[.string ⟨#[49, 48, 48, 48, 48, 49]⟩, .string ⟨#[49, 52, 49, 49, 50, 49]⟩, .string ⟨#[50, 52, 50, 50, 51, 49]⟩, .string ⟨#[51, 52, 50, 50, 51, 49]⟩, .string ⟨#[50, 52, 52, 52, 48, 49]⟩]) (.int .i64 2)).run Try.prog w = .ok (.string ⟨#[50, 52, 50, 50, 51, 49]⟩) w := fun _ => by kernel_rfl
  rcases hc with rfl | rfl | rfl | rfl | rfl | rfl
  · obtain rfl : (2 : Int) = r := Option.some.inj h
    have ib : ∀ w, (Instr.index 9 (.string ⟨#[50, 52, 50, 50, 51, 49]⟩) (.int .i64 0)).run Try.prog w = .ok (.int .u8 50) w := fun _ => by kernel_rfl
    go_enter Try.func28, Try.ntmps28
    go_wp2
    go_ret
    exact ⟨rfl, by repeat (first | exact Drawn0.refl _ | apply Drawn0.step)⟩
  · obtain rfl : (4 : Int) = r := Option.some.inj h
    have ib : ∀ w, (Instr.index 9 (.string ⟨#[50, 52, 50, 50, 51, 49]⟩) (.int .i64 1)).run Try.prog w = .ok (.int .u8 52) w := fun _ => by kernel_rfl
    go_enter Try.func28, Try.ntmps28
    go_wp2
    go_ret
    exact ⟨rfl, by repeat (first | exact Drawn0.refl _ | apply Drawn0.step)⟩
  · obtain rfl : (2 : Int) = r := Option.some.inj h
    have ib : ∀ w, (Instr.index 9 (.string ⟨#[50, 52, 50, 50, 51, 49]⟩) (.int .i64 2)).run Try.prog w = .ok (.int .u8 50) w := fun _ => by kernel_rfl
    go_enter Try.func28, Try.ntmps28
    go_wp2
    go_ret
    exact ⟨rfl, by repeat (first | exact Drawn0.refl _ | apply Drawn0.step)⟩
  · obtain rfl : (2 : Int) = r := Option.some.inj h
    have ib : ∀ w, (Instr.index 9 (.string ⟨#[50, 52, 50, 50, 51, 49]⟩) (.int .i64 3)).run Try.prog w = .ok (.int .u8 50) w := fun _ => by kernel_rfl
    go_enter Try.func28, Try.ntmps28
    go_wp2
    go_ret
    exact ⟨rfl, by repeat (first | exact Drawn0.refl _ | apply Drawn0.step)⟩
  · obtain rfl : (3 : Int) = r := Option.some.inj h
    have ib : ∀ w, (Instr.index 9 (.string ⟨#[50, 52, 50, 50, 51, 49]⟩) (.int .i64 4)).run Try.prog w = .ok (.int .u8 51) w := fun _ => by kernel_rfl
    go_enter Try.func28, Try.ntmps28
    go_wp2
    go_ret
    exact ⟨rfl, by repeat (first | exact Drawn0.refl _ | apply Drawn0.step)⟩
  · obtain rfl : (1 : Int) = r := Option.some.inj h
    have ib : ∀ w, (Instr.index 9 (.string ⟨#[50, 52, 50, 50, 51, 49]⟩) (.int .i64 5)).run Try.prog w = .ok (.int .u8 49) w := fun _ => by kernel_rfl
    go_enter Try.func28, Try.ntmps28
    go_wp2
    go_ret
    exact ⟨rfl, by repeat (first | exact Drawn0.refl _ | apply Drawn0.step)⟩
set_option maxHeartbeats 4000000 in
set_option maxRecDepth 100000 in
theorem kissgateref13_Next.walk_true_3 (a2 : Int) (r : Int) (w : World) (h : kissgateref13_Next.f true 3 a2 = some r) : Calls Try.prog 28 #[.bool true, .int .i64 3, .int .i64 a2] w fun e w' => e = .returned (.int .i64 r) ∧ Drawn0 w w' := by
  have h2 : 0 ≤ a2 ∧ a2 < 6 := by
    unfold kissgateref13_Next.f at h
    by_cases h0 : 0 ≤ a2
    · refine ⟨h0, ?_⟩
      rw [if_pos ⟨by decide, h0⟩] at h
      have h3 : ([3, 4, 2, 2, 3, 1] : List Int)[a2.toNat]? = some r := h
      have := (List.getElem?_eq_some_iff.1 h3).1
      simp only [List.length_cons, List.length_nil] at this
      omega
    · rw [if_neg (fun e => h0 e.2)] at h; cases h
  have hc : a2 = 0 ∨ a2 = 1 ∨ a2 = 2 ∨ a2 = 3 ∨ a2 = 4 ∨ a2 = 5 := by omega
  have ia : ∀ w, (Instr.index 59 (.agg #[.string ⟨#[49, 48, 48, 48, 48, 49]⟩, .string ⟨#[49, 52, 49, 49, 50, 49]⟩, .string ⟨#[50, 52, 50, 50, 51, 49]⟩, .string ⟨#[51, 52, 50, 50, 51, 49]⟩, .string ⟨#[50, 52, 52, 52, 48, 49]⟩]) (.int .i64 3)).run Try.prog w = .ok (.string ⟨#[51, 52, 50, 50, 51, 49]⟩) w := fun _ => by kernel_rfl
  rcases hc with rfl | rfl | rfl | rfl | rfl | rfl
  · obtain rfl : (3 : Int) = r := Option.some.inj h
    have ib : ∀ w, (Instr.index 9 (.string ⟨#[51, 52, 50, 50, 51, 49]⟩) (.int .i64 0)).run Try.prog w = .ok (.int .u8 51) w := fun _ => by kernel_rfl
    go_enter Try.func28, Try.ntmps28
    go_wp2
    go_ret
    exact ⟨rfl, by repeat (first | exact Drawn0.refl _ | apply Drawn0.step)⟩
  · obtain rfl : (4 : Int) = r := Option.some.inj h
    have ib : ∀ w, (Instr.index 9 (.string ⟨#[51, 52, 50, 50, 51, 49]⟩) (.int .i64 1)).run Try.prog w = .ok (.int .u8 52) w := fun _ => by kernel_rfl
    go_enter Try.func28, Try.ntmps28
    go_wp2
    go_ret
    exact ⟨rfl, by repeat (first | exact Drawn0.refl _ | apply Drawn0.step)⟩
  · obtain rfl : (2 : Int) = r := Option.some.inj h
    have ib : ∀ w, (Instr.index 9 (.string ⟨#[51, 52, 50, 50, 51, 49]⟩) (.int .i64 2)).run Try.prog w = .ok (.int .u8 50) w := fun _ => by kernel_rfl
    go_enter Try.func28, Try.ntmps28
    go_wp2
    go_ret
    exact ⟨rfl, by repeat (first | exact Drawn0.refl _ | apply Drawn0.step)⟩
  · obtain rfl : (2 : Int) = r := Option.some.inj h
    have ib : ∀ w, (Instr.index 9 (.string ⟨#[51, 52, 50, 50, 51, 49]⟩) (.int .i64 3)).run Try.prog w = .ok (.int .u8 50) w := fun _ => by kernel_rfl
    go_enter Try.func28, Try.ntmps28
    go_wp2
    go_ret
    exact ⟨rfl, by repeat (first | exact Drawn0.refl _ | apply Drawn0.step)⟩
  · obtain rfl : (3 : Int) = r := Option.some.inj h
    have ib : ∀ w, (Instr.index 9 (.string ⟨#[51, 52, 50, 50, 51, 49]⟩) (.int .i64 4)).run Try.prog w = .ok (.int .u8 51) w := fun _ => by kernel_rfl
    go_enter Try.func28, Try.ntmps28
    go_wp2
    go_ret
    exact ⟨rfl, by repeat (first | exact Drawn0.refl _ | apply Drawn0.step)⟩
  · obtain rfl : (1 : Int) = r := Option.some.inj h
    have ib : ∀ w, (Instr.index 9 (.string ⟨#[51, 52, 50, 50, 51, 49]⟩) (.int .i64 5)).run Try.prog w = .ok (.int .u8 49) w := fun _ => by kernel_rfl
    go_enter Try.func28, Try.ntmps28
    go_wp2
    go_ret
    exact ⟨rfl, by repeat (first | exact Drawn0.refl _ | apply Drawn0.step)⟩
set_option maxHeartbeats 4000000 in
set_option maxRecDepth 100000 in
theorem kissgateref13_Next.walk_true_4 (a2 : Int) (r : Int) (w : World) (h : kissgateref13_Next.f true 4 a2 = some r) : Calls Try.prog 28 #[.bool true, .int .i64 4, .int .i64 a2] w fun e w' => e = .returned (.int .i64 r) ∧ Drawn0 w w' := by
  have h2 : 0 ≤ a2 ∧ a2 < 6 := by
    unfold kissgateref13_Next.f at h
    by_cases h0 : 0 ≤ a2
    · refine ⟨h0, ?_⟩
      rw [if_pos ⟨by decide, h0⟩] at h
      have h3 : ([2, 4, 4, 4, 0, 1] : List Int)[a2.toNat]? = some r := h
      have := (List.getElem?_eq_some_iff.1 h3).1
      simp only [List.length_cons, List.length_nil] at this
      omega
    · rw [if_neg (fun e => h0 e.2)] at h; cases h
  have hc : a2 = 0 ∨ a2 = 1 ∨ a2 = 2 ∨ a2 = 3 ∨ a2 = 4 ∨ a2 = 5 := by omega
  have ia : ∀ w, (Instr.index 59 (.agg #[.string ⟨#[49, 48, 48, 48, 48, 49]⟩, .string ⟨#[49, 52, 49, 49, 50, 49]⟩, .string ⟨#[50, 52, 50, 50, 51, 49]⟩, .string ⟨#[51, 52, 50, 50, 51, 49]⟩, .string ⟨#[50, 52, 52, 52, 48, 49]⟩]) (.int .i64 4)).run Try.prog w = .ok (.string ⟨#[50, 52, 52, 52, 48, 49]⟩) w := fun _ => by kernel_rfl
  rcases hc with rfl | rfl | rfl | rfl | rfl | rfl
  · obtain rfl : (2 : Int) = r := Option.some.inj h
    have ib : ∀ w, (Instr.index 9 (.string ⟨#[50, 52, 52, 52, 48, 49]⟩) (.int .i64 0)).run Try.prog w = .ok (.int .u8 50) w := fun _ => by kernel_rfl
    go_enter Try.func28, Try.ntmps28
    go_wp2
    go_ret
    exact ⟨rfl, by repeat (first | exact Drawn0.refl _ | apply Drawn0.step)⟩
  · obtain rfl : (4 : Int) = r := Option.some.inj h
    have ib : ∀ w, (Instr.index 9 (.string ⟨#[50, 52, 52, 52, 48, 49]⟩) (.int .i64 1)).run Try.prog w = .ok (.int .u8 52) w := fun _ => by kernel_rfl
    go_enter Try.func28, Try.ntmps28
    go_wp2
    go_ret
    exact ⟨rfl, by repeat (first | exact Drawn0.refl _ | apply Drawn0.step)⟩
  · obtain rfl : (4 : Int) = r := Option.some.inj h
    have ib : ∀ w, (Instr.index 9 (.string ⟨#[50, 52, 52, 52, 48, 49]⟩) (.int .i64 2)).run Try.prog w = .ok (.int .u8 52) w := fun _ => by kernel_rfl
    go_enter Try.func28, Try.ntmps28
    go_wp2
    go_ret
    exact ⟨rfl, by repeat (first | exact Drawn0.refl _ | apply Drawn0.step)⟩
  · obtain rfl : (4 : Int) = r := Option.some.inj h
    have ib : ∀ w, (Instr.index 9 (.string ⟨#[50, 52, 52, 52, 48, 49]⟩) (.int .i64 3)).run Try.prog w = .ok (.int .u8 52) w := fun _ => by kernel_rfl
    go_enter Try.func28, Try.ntmps28
    go_wp2
    go_ret
    exact ⟨rfl, by repeat (first | exact Drawn0.refl _ | apply Drawn0.step)⟩
  · obtain rfl : (0 : Int) = r := Option.some.inj h
    have ib : ∀ w, (Instr.index 9 (.string ⟨#[50, 52, 52, 52, 48, 49]⟩) (.int .i64 4)).run Try.prog w = .ok (.int .u8 48) w := fun _ => by kernel_rfl
    go_enter Try.func28, Try.ntmps28
    go_wp2
    go_ret
    exact ⟨rfl, by repeat (first | exact Drawn0.refl _ | apply Drawn0.step)⟩
  · obtain rfl : (1 : Int) = r := Option.some.inj h
    have ib : ∀ w, (Instr.index 9 (.string ⟨#[50, 52, 52, 52, 48, 49]⟩) (.int .i64 5)).run Try.prog w = .ok (.int .u8 49) w := fun _ => by kernel_rfl
    go_enter Try.func28, Try.ntmps28
    go_wp2
    go_ret
    exact ⟨rfl, by repeat (first | exact Drawn0.refl _ | apply Drawn0.step)⟩
theorem kissgateref13_Next.calls (a0 : Bool) (a1 : Int) (a2 : Int) (r : Int) (w : World) (h : kissgateref13_Next.f a0 a1 a2 = some r) : Calls Try.prog 28 #[.bool a0, .int .i64 a1, .int .i64 a2] w fun e w' => e = .returned (.int .i64 r) ∧ Drawn0 w w' := by
  have h1 : 0 ≤ a1 ∧ a1 < (kissgateref13_Next.tab a0).length := by
    unfold kissgateref13_Next.f at h
    by_cases h0 : 0 ≤ a1 ∧ 0 ≤ a2
    · rw [if_pos h0] at h
      obtain ⟨q, hq, _⟩ := Option.bind_eq_some_iff.mp h
      have := (List.getElem?_eq_some_iff.1 hq).1
      omega
    · rw [if_neg h0] at h; cases h
  cases a0 with
  | false =>
    have hc : a1 = 0 ∨ a1 = 1 ∨ a1 = 2 := by have := h1.2; simp only [kissgateref13_Next.tab, Bool.false_eq_true, if_false, List.length_cons, List.length_nil] at this; omega
    rcases hc with rfl | rfl | rfl
    · exact kissgateref13_Next.walk_false_0 a2 r w h
    · exact kissgateref13_Next.walk_false_1 a2 r w h
    · exact kissgateref13_Next.walk_false_2 a2 r w h
  | true =>
    have hc : a1 = 0 ∨ a1 = 1 ∨ a1 = 2 ∨ a1 = 3 ∨ a1 = 4 := by have := h1.2; simp only [kissgateref13_Next.tab, if_true, List.length_cons, List.length_nil] at this; omega
    rcases hc with rfl | rfl | rfl | rfl | rfl
    · exact kissgateref13_Next.walk_true_0 a2 r w h
    · exact kissgateref13_Next.walk_true_1 a2 r w h
    · exact kissgateref13_Next.walk_true_2 a2 r w h
    · exact kissgateref13_Next.walk_true_3 a2 r w h
    · exact kissgateref13_Next.walk_true_4 a2 r w h


/-! ### kissgateref14_Reg_Step: function 23 -/
def kissgateref14_Reg_Step.f (s0_0 : Int) (s0_1 : Int) (s0_2 : Int) (s0_3 : Int) (a1 : Int) (a2 : Int) : Option (Int × Int × Int × Int) := (kissgateref13_Act.f false s0_1 a1).bind fun t209 => (if t209 = 1 then ((kissgateref13_Next.f false s0_1 a1).bind fun t210 => (some (s0_0, t210, s0_2, wrap64 (a2 + 24)))) else ((kissgateref13_Next.f false s0_1 a1).bind fun t211 => (some (s0_0, t211, s0_2, s0_3))))
set_option maxHeartbeats 8000000 in
set_option maxRecDepth 100000 in
theorem kissgateref14_Reg_Step.calls (g : Nat) (s0_0 : Int) (s0_1 : Int) (s0_2 : Int) (s0_3 : Int) (a1 : Int) (a2 : Int) (r1 : Int) (r2 : Int) (r3 : Int) (r4 : Int) (w0 w : World) (hI : IsS45 w0 w g s0_0 s0_1 s0_2 s0_3) (hB : Below w0.heap.size w0 w) (h : kissgateref14_Reg_Step.f s0_0 s0_1 s0_2 s0_3 a1 a2 = some (r1, r2, r3, r4)) :
    Calls Try.prog 23 #[.pointer (some ⟨g, 0, none⟩), .int .i64 a1, .int .i64 a2] w fun e w' => e = .returned (.tuple #[]) ∧ IsS45 w0 w' g r1 r2 r3 r4 ∧ Below w0.heap.size w0 w' ∧ KeepBut w w' g none := by
  have HI0 := Aside0.mk hI
  have HK := Aside0.mk (KeepBut.refl w g none)
  have HL := Aside0.mk hB.size
  clear hI
  have HW0 := Aside0.mk hB.size
  have HB := Aside0.mk hB
  clear hB
  have H : ((kissgateref13_Act.f false s0_1 a1).bind fun t209 => (if t209 = 1 then ((kissgateref13_Next.f false s0_1 a1).bind fun t210 => (some (s0_0, t210, s0_2, wrap64 (a2 + 24)))) else ((kissgateref13_Next.f false s0_1 a1).bind fun t211 => (some (s0_0, t211, s0_2, s0_3))))) = some (r1, r2, r3, r4) := h
  clear h
  replace H := Option.bind_eq_some_iff.mp H
  obtain ⟨t209, A40, H⟩ := H
  replace H : (if t209 = 1 then ((kissgateref13_Next.f false s0_1 a1).bind fun t210 => (some (s0_0, t210, s0_2, wrap64 (a2 + 24)))) else ((kissgateref13_Next.f false s0_1 a1).bind fun t211 => (some (s0_0, t211, s0_2, s0_3)))) = some (r1, r2, r3, r4) := H
  have A4 := Aside0.mk A40
  clear A40
  by_cases c5 : t209 = 1
  · rw [if_pos c5] at H
    have c5b0 : (t209 == 1) = true := beq_iff_eq.mpr c5
    have c5b1 : (t209 != 1) = false := bne_eq_false_iff_eq.mpr c5
    clear c5
    replace H := Option.bind_eq_some_iff.mp H
    obtain ⟨t210, A60, H⟩ := H
    replace H : (some (s0_0, t210, s0_2, wrap64 (a2 + 24))) = some (r1, r2, r3, r4) := H
    have A6 := Aside0.mk A60
    clear A60
    simp only [Option.some.injEq, Prod.mk.injEq] at H
    obtain ⟨rfl, rfl, rfl, rfl⟩ := H
    obtain ⟨HGz7, hgz7⟩ := HI0.out
    have hcz7_0 := cellS45_0 HGz7
    have hcz7_1 := cellS45_1 HGz7
    have hcz7_2 := cellS45_2 HGz7
    have hcz7_3 := cellS45_3 HGz7
    have hfz7_0 := blk_frozen HGz7 0
    have hfz7_1 := blk_frozen HGz7 1
    have hfz7_2 := blk_frozen HGz7 2
    have hfz7_3 := blk_frozen HGz7 3
    clear HGz7 hgz7
    go_enter Try.func23, Try.ntmps23
    go_wp2_with (first | ((with_reducible refine gate_callee (f := 27) rfl ?_); refine goesL_ (some 11) rfl rfl Try.func27 (by kernel_rfl) rfl #[.bool false, .int .i64 s0_1, .int .i64 a1] rfl (by (try simp only [List.map_toArray, List.map_cons, List.map_nil]); first | done | rfl | (simp only [List.length_drop, List.length_take]; rfl) | (go_simp; first | done | (unfold wrap64; omega))) ?_; (with_reducible refine (kissgateref13_Act.calls false s0_1 a1 t209 _ A4.out).mono ?_); rintro e w' ⟨rfl, ⟨nd, rfl⟩⟩; refine ⟨_, rfl, ?_⟩) | ((with_reducible refine gate_callee (f := 28) rfl ?_); refine goesL_ (some 24) rfl rfl Try.func28 (by kernel_rfl) rfl #[.bool false, .int .i64 s0_1, .int .i64 a1] rfl (by (try simp only [List.map_toArray, List.map_cons, List.map_nil]); first | done | rfl | (simp only [List.length_drop, List.length_take]; rfl) | (go_simp; first | done | (unfold wrap64; omega))) ?_; (with_reducible refine (kissgateref13_Next.calls false s0_1 a1 t210 _ A6.out).mono ?_); rintro e w' ⟨rfl, ⟨nd, rfl⟩⟩; refine ⟨_, rfl, ?_⟩))
    first | go_end0 | ((try simp only [Exit.inBlock, Exit.then]); refine bodyPost_ret (results_none rfl _ _ _) rfl ?_)
    exact ⟨by first | rfl | (simp [show ∀ l_ : List UInt8, (l_ == []) = l_.isEmpty from fun l_ => by cases l_ <;> rfl]; done) | (simp [errW_none, errW_some] <;> rfl) | ((repeat rw [Int.tdiv_eq_ediv_of_nonneg (by omega)]); (repeat rw [Int.tmod_eq_emod_of_nonneg (by omega)]); first | rfl | (simp [errW_none, errW_some] <;> rfl)) | (simp [*, errW_none, errW_some] <;> rfl), by repeat (first | (with_reducible first | exact HI0.out | apply IsS45.alloc | apply IsS45.drewN | apply IsS45.drew | apply IsS45.set_0 | apply IsS45.set_1 | apply IsS45.set_2 | apply IsS45.set_3) | exact HI0.out), by repeat (first | (with_reducible first | exact HB.out | apply below_alloc | apply pw_below_drewN | apply below_drew1 | refine below_set ?_ (IsS45.ge HI0.out)) | exact HB.out), by repeat (first | (with_reducible first | exact HK.out | apply KeepBut.set_ | apply keep_drewN | apply keep_drew | apply keep_alloc) | exact HK.out)⟩
  · rw [if_neg c5] at H
    have c5b0 : (t209 == 1) = false := beq_eq_false_iff_ne.mpr c5
    have c5b1 : (t209 != 1) = true := bne_iff_ne.mpr c5
    replace H := Option.bind_eq_some_iff.mp H
    obtain ⟨t211, A80, H⟩ := H
    replace H : (some (s0_0, t211, s0_2, s0_3)) = some (r1, r2, r3, r4) := H
    have A8 := Aside0.mk A80
    clear A80
    simp only [Option.some.injEq, Prod.mk.injEq] at H
    obtain ⟨rfl, rfl, rfl, rfl⟩ := H
    obtain ⟨HGz9, hgz9⟩ := HI0.out
    have hcz9_0 := cellS45_0 HGz9
    have hcz9_1 := cellS45_1 HGz9
    have hcz9_2 := cellS45_2 HGz9
    have hcz9_3 := cellS45_3 HGz9
    have hfz9_0 := blk_frozen HGz9 0
    have hfz9_1 := blk_frozen HGz9 1
    have hfz9_2 := blk_frozen HGz9 2
    have hfz9_3 := blk_frozen HGz9 3
    clear HGz9 hgz9
    go_enter Try.func23, Try.ntmps23
    go_wp2_with (first | ((with_reducible refine gate_callee (f := 27) rfl ?_); refine goesL_ (some 11) rfl rfl Try.func27 (by kernel_rfl) rfl #[.bool false, .int .i64 s0_1, .int .i64 a1] rfl (by (try simp only [List.map_toArray, List.map_cons, List.map_nil]); first | done | rfl | (simp only [List.length_drop, List.length_take]; rfl) | (go_simp; first | done | (unfold wrap64; omega))) ?_; (with_reducible refine (kissgateref13_Act.calls false s0_1 a1 t209 _ A4.out).mono ?_); rintro e w' ⟨rfl, ⟨nd, rfl⟩⟩; refine ⟨_, rfl, ?_⟩) | ((with_reducible refine gate_callee (f := 28) rfl ?_); refine goesL_ (some 24) rfl rfl Try.func28 (by kernel_rfl) rfl #[.bool false, .int .i64 s0_1, .int .i64 a1] rfl (by (try simp only [List.map_toArray, List.map_cons, List.map_nil]); first | done | rfl | (simp only [List.length_drop, List.length_take]; rfl) | (go_simp; first | done | (unfold wrap64; omega))) ?_; (with_reducible refine (kissgateref13_Next.calls false s0_1 a1 t211 _ A8.out).mono ?_); rintro e w' ⟨rfl, ⟨nd, rfl⟩⟩; refine ⟨_, rfl, ?_⟩))
    first | go_end0 | ((try simp only [Exit.inBlock, Exit.then]); refine bodyPost_ret (results_none rfl _ _ _) rfl ?_)
    exact ⟨by first | rfl | (simp [show ∀ l_ : List UInt8, (l_ == []) = l_.isEmpty from fun l_ => by cases l_ <;> rfl]; done) | (simp [errW_none, errW_some] <;> rfl) | ((repeat rw [Int.tdiv_eq_ediv_of_nonneg (by omega)]); (repeat rw [Int.tmod_eq_emod_of_nonneg (by omega)]); first | rfl | (simp [errW_none, errW_some] <;> rfl)) | (simp [*, errW_none, errW_some] <;> rfl), by repeat (first | (with_reducible first | exact HI0.out | apply IsS45.alloc | apply IsS45.drewN | apply IsS45.drew | apply IsS45.set_0 | apply IsS45.set_1 | apply IsS45.set_2 | apply IsS45.set_3) | exact HI0.out), by repeat (first | (with_reducible first | exact HB.out | apply below_alloc | apply pw_below_drewN | apply below_drew1 | refine below_set ?_ (IsS45.ge HI0.out)) | exact HB.out), by repeat (first | (with_reducible first | exact HK.out | apply KeepBut.set_ | apply keep_drewN | apply keep_drew | apply keep_alloc) | exact HK.out)⟩

/-! ### kissgateref14_Reg_Hear: function 22 -/
mutual
def kissgateref14_Reg_Hear.j0 : Nat → Int → Int → Int → Int → Int → Int → Int → Option (Int × Int × Int × Int)
  | 0, _, _, _, _, _, _, _ => none
  | k + 1, x1, x2, x3, x1000, x1001, x1002, x1003 => if x1 = 0 then (kissgateref14_Reg_Hear.j1 k x2 x3 false x1000 x1001 x1002 x1003) else (if x1 = 1 then (kissgateref14_Reg_Hear.j1 k x2 x3 false x1000 x1001 x1002 x1003) else (kissgateref14_Reg_Hear.j1 k x2 x3 (x1 != 3) x1000 x1001 x1002 x1003))
def kissgateref14_Reg_Hear.j1 : Nat → Int → Int → Bool → Int → Int → Int → Int → Option (Int × Int × Int × Int)
  | 0, _, _, _, _, _, _, _ => none
  | k + 1, x2, x3, x23, x1000, x1001, x1002, x1003 => if x23 = true then (some (x1000, x1001, x1002, x1003)) else (if (mn x2 x3) < 0 then (kissgateref14_Reg_Hear.j2 k x3 (mn x2 x3) true x1000 x1001 x1002 x1003) else (kissgateref14_Reg_Hear.j2 k x3 (mn x2 x3) (decide ((wrap64 (x3 - (mn x2 x3))) > 120)) x1000 x1001 x1002 x1003))
def kissgateref14_Reg_Hear.j2 : Nat → Int → Int → Bool → Int → Int → Int → Int → Option (Int × Int × Int × Int)
  | 0, _, _, _, _, _, _, _ => none
  | k + 1, x3, x8, x34, x1000, x1001, x1002, x1003 => if x34 = true then (some (x1000, x1001, x1002, x1003)) else (if x1001 = 0 then ((kissgateref14_Reg_Step.f x1000 x1001 x8 x1003 0 x3).bind fun bt216 => (some (bt216.1, bt216.2.1, bt216.2.2.1, bt216.2.2.2))) else (if x8 > x1002 then ((kissgateref14_Reg_Step.f x1000 x1001 x8 x1003 0 x3).bind fun bt220 => (some (bt220.1, bt220.2.1, bt220.2.2.1, bt220.2.2.2))) else ((kissgateref14_Reg_Step.f x1000 x1001 x1002 x1003 0 x3).bind fun bt224 => (some (bt224.1, bt224.2.1, bt224.2.2.1, bt224.2.2.2)))))
end
def kissgateref14_Reg_Hear.f (k : Nat) (s0_0 : Int) (s0_1 : Int) (s0_2 : Int) (s0_3 : Int) (a1 : Int) (a2 : Int) (a3 : Int) : Option (Int × Int × Int × Int) := if a1 = 5 then ((kissgateref14_Reg_Step.f s0_0 s0_1 s0_2 s0_3 1 a3).bind fun bt212 => (kissgateref14_Reg_Hear.j0 k a1 a2 a3 bt212.1 bt212.2.1 bt212.2.2.1 bt212.2.2.2)) else (kissgateref14_Reg_Hear.j0 k a1 a2 a3 s0_0 s0_1 s0_2 s0_3)
theorem kissgateref14_Reg_Hear.mono_l : ∀ k, (∀ y0 y1 y2 y3 y4 y5 y6, LeO (kissgateref14_Reg_Hear.j0 k y0 y1 y2 y3 y4 y5 y6) (kissgateref14_Reg_Hear.j0 (k + 1) y0 y1 y2 y3 y4 y5 y6)) ∧ (∀ y0 y1 y2 y3 y4 y5 y6, LeO (kissgateref14_Reg_Hear.j1 k y0 y1 y2 y3 y4 y5 y6) (kissgateref14_Reg_Hear.j1 (k + 1) y0 y1 y2 y3 y4 y5 y6)) ∧ (∀ y0 y1 y2 y3 y4 y5 y6, LeO (kissgateref14_Reg_Hear.j2 k y0 y1 y2 y3 y4 y5 y6) (kissgateref14_Reg_Hear.j2 (k + 1) y0 y1 y2 y3 y4 y5 y6))
  | 0 => ⟨fun _ _ _ _ _ _ _ r h => by simp [kissgateref14_Reg_Hear.j0] at h, fun _ _ _ _ _ _ _ r h => by simp [kissgateref14_Reg_Hear.j1] at h, fun _ _ _ _ _ _ _ r h => by simp [kissgateref14_Reg_Hear.j2] at h⟩
  | k + 1 => by
    obtain ⟨ih0, ih1, ih2⟩ := kissgateref14_Reg_Hear.mono_l k
    refine ⟨?_, ?_, ?_⟩
    · intro y0 y1 y2 y3 y4 y5 y6
      unfold kissgateref14_Reg_Hear.j0
      repeat' first
      | (with_reducible exact ih0 _ _ _ _ _ _ _)
      | (with_reducible exact ih1 _ _ _ _ _ _ _)
      | (with_reducible exact ih2 _ _ _ _ _ _ _)
      | (with_reducible exact LeO.refl _)
      | (with_reducible exact LeO.none _)
      | (with_reducible refine LeO.ite ?_ ?_)
      | (with_reducible refine LeO.bind ?_ (fun _ => ?_))
      | exact ih0 _ _ _ _ _ _ _
      | exact ih1 _ _ _ _ _ _ _
      | exact ih2 _ _ _ _ _ _ _
      | exact LeO.none _
      | refine LeO.ite ?_ ?_
      | refine LeO.bind ?_ (fun _ => ?_)
    · intro y0 y1 y2 y3 y4 y5 y6
      unfold kissgateref14_Reg_Hear.j1
      repeat' first
      | (with_reducible exact ih0 _ _ _ _ _ _ _)
      | (with_reducible exact ih1 _ _ _ _ _ _ _)
      | (with_reducible exact ih2 _ _ _ _ _ _ _)
      | (with_reducible exact LeO.refl _)
      | (with_reducible exact LeO.none _)
      | (with_reducible refine LeO.ite ?_ ?_)
      | (with_reducible refine LeO.bind ?_ (fun _ => ?_))
      | exact ih0 _ _ _ _ _ _ _
      | exact ih1 _ _ _ _ _ _ _
      | exact ih2 _ _ _ _ _ _ _
      | exact LeO.none _
      | refine LeO.ite ?_ ?_
      | refine LeO.bind ?_ (fun _ => ?_)
    · intro y0 y1 y2 y3 y4 y5 y6
      unfold kissgateref14_Reg_Hear.j2
      repeat' first
      | (with_reducible exact ih0 _ _ _ _ _ _ _)
      | (with_reducible exact ih1 _ _ _ _ _ _ _)
      | (with_reducible exact ih2 _ _ _ _ _ _ _)
      | (with_reducible exact LeO.refl _)
      | (with_reducible exact LeO.none _)
      | (with_reducible refine LeO.ite ?_ ?_)
      | (with_reducible refine LeO.bind ?_ (fun _ => ?_))
      | exact ih0 _ _ _ _ _ _ _
      | exact ih1 _ _ _ _ _ _ _
      | exact ih2 _ _ _ _ _ _ _
      | exact LeO.none _
      | refine LeO.ite ?_ ?_
      | refine LeO.bind ?_ (fun _ => ?_)
theorem kissgateref14_Reg_Hear.mono : ∀ a0 a1 a2 a3 a4 a5 a6 k, LeO (kissgateref14_Reg_Hear.f k a0 a1 a2 a3 a4 a5 a6) (kissgateref14_Reg_Hear.f (k + 1) a0 a1 a2 a3 a4 a5 a6) := by
  intro a0 a1 a2 a3 a4 a5 a6 k
  obtain ⟨ih0, ih1, ih2⟩ := kissgateref14_Reg_Hear.mono_l k
  unfold kissgateref14_Reg_Hear.f
  repeat' first
      | (with_reducible exact ih0 _ _ _ _ _ _ _)
      | (with_reducible exact ih1 _ _ _ _ _ _ _)
      | (with_reducible exact ih2 _ _ _ _ _ _ _)
      | (with_reducible exact LeO.refl _)
      | (with_reducible exact LeO.none _)
      | (with_reducible refine LeO.ite ?_ ?_)
      | (with_reducible refine LeO.bind ?_ (fun _ => ?_))
      | exact ih0 _ _ _ _ _ _ _
      | exact ih1 _ _ _ _ _ _ _
      | exact ih2 _ _ _ _ _ _ _
      | exact LeO.none _
      | refine LeO.ite ?_ ?_
      | refine LeO.bind ?_ (fun _ => ?_)
set_option maxHeartbeats 8000000 in
set_option maxRecDepth 100000 in
theorem kissgateref14_Reg_Hear.calls (k : Nat) (g : Nat) (s0_0 : Int) (s0_1 : Int) (s0_2 : Int) (s0_3 : Int) (a1 : Int) (a2 : Int) (a3 : Int) (r1 : Int) (r2 : Int) (r3 : Int) (r4 : Int) (w0 w : World) (hI : IsS45 w0 w g s0_0 s0_1 s0_2 s0_3) (hB : Below w0.heap.size w0 w) (h : kissgateref14_Reg_Hear.f k s0_0 s0_1 s0_2 s0_3 a1 a2 a3 = some (r1, r2, r3, r4)) :
    Calls Try.prog 22 #[.pointer (some ⟨g, 0, none⟩), .int .i64 a1, .int .i64 a2, .int .i64 a3] w fun e w' => e = .returned (.tuple #[]) ∧ IsS45 w0 w' g r1 r2 r3 r4 ∧ Below w0.heap.size w0 w' ∧ KeepBut w w' g none := by
  have HI0 := Aside0.mk hI
  have HK := Aside0.mk (KeepBut.refl w g none)
  have HL := Aside0.mk hB.size
  clear hI
  have HW0 := Aside0.mk hB.size
  have HB := Aside0.mk hB
  clear hB
  have H : (if a1 = 5 then ((kissgateref14_Reg_Step.f s0_0 s0_1 s0_2 s0_3 1 a3).bind fun bt212 => (kissgateref14_Reg_Hear.j0 k a1 a2 a3 bt212.1 bt212.2.1 bt212.2.2.1 bt212.2.2.2)) else (kissgateref14_Reg_Hear.j0 k a1 a2 a3 s0_0 s0_1 s0_2 s0_3)) = some (r1, r2, r3, r4) := h
  clear h
  have HC5 := Aside0.mk H
  clear H
  go_enter Try.func22, Try.ntmps22
  go_upto_if 10 with (fail)
  go_cut [] (fun wc => ∃ (kq : Nat) (x1000_4 : Int) (x1001_4 : Int) (x1002_4 : Int) (x1003_4 : Int), Aside0 (kissgateref14_Reg_Hear.j0 kq a1 a2 a3 x1000_4 x1001_4 x1002_4 x1003_4 = some (r1, r2, r3, r4)) ∧ Aside0 (kq ≤ k) ∧ Aside0 (IsS45 w0 wc g x1000_4 x1001_4 x1002_4 x1003_4) ∧ Aside0 (KeepBut w wc g none) ∧ Aside0 (Below w0.heap.size w0 wc))
  case first =>
    have H := HC5.out
    clear HC5
    by_cases c6 : a1 = 5
    · rw [if_pos c6] at H
      have c6b0 : (a1 == 5) = true := beq_iff_eq.mpr c6
      have c6b1 : (a1 != 5) = false := bne_eq_false_iff_eq.mpr c6
      clear c6
      (first | rw [c6b0] | (simp only [i64_w, i32_w]; rw [c6b0]) | skip)
      replace H := Option.bind_eq_some_iff.mp H
      obtain ⟨⟨t212, t213, t214, t215⟩, A70, H⟩ := H
      replace H : (kissgateref14_Reg_Hear.j0 k a1 a2 a3 t212 t213 t214 t215) = some (r1, r2, r3, r4) := H
      have A7 := Aside0.mk A70
      clear A70
      have H' := Aside0.mk H
      clear H
      go_wp2_with (first | ((with_reducible refine gate_callee (f := 23) rfl ?_); refine goesL_ (some 13) rfl rfl Try.func23 (by kernel_rfl) rfl #[.pointer (some ⟨g, 0, none⟩), .int .i64 1, .int .i64 a3] rfl (by (try simp only [List.map_toArray, List.map_cons, List.map_nil]); first | done | rfl | (simp only [List.length_drop, List.length_take]; rfl) | (go_simp; first | done | (unfold wrap64; omega))) ?_; (with_reducible refine (kissgateref14_Reg_Step.calls g s0_0 s0_1 s0_2 s0_3 1 a3 t212 t213 t214 t215 w0 _ ?side1 ?side2 A7.out).mono ?_); (case side1 => repeat (first | (with_reducible first | exact HI0.out | apply IsS45.alloc | apply IsS45.drewN | apply IsS45.drew | apply IsS45.set_0 | apply IsS45.set_1 | apply IsS45.set_2 | apply IsS45.set_3) | exact HI0.out)); (case side2 => repeat (first | (with_reducible first | exact HB.out | apply below_alloc | apply pw_below_drewN | apply below_drew1 | refine below_set ?_ (IsS45.ge HI0.out)) | exact HB.out)); rintro e w8 ⟨rfl, hi, hb, hk⟩; refine ⟨_, rfl, ?_⟩; have n0_ := Aside0.mk (KeepBut.trans (by repeat (first | (with_reducible first | exact HK.out | apply KeepBut.set_ | apply keep_drewN | apply keep_drew | apply keep_alloc) | exact HK.out)) hk (.inl rfl)); have n1_ := Aside0.mk (hb); have n2_ := Aside0.mk (hi); clear HK; clear HB; clear HI0; have HK := n0_; have HB := n1_; have HI0 := n2_; clear n0_ n1_ n2_; (try clear hb); (try clear hb2); (try clear hk); (try clear hi)))
      go_meet
      case rel => exact ⟨_, (t212), (t213), (t214), (t215), H', ⟨by first | omega | exact Nat.le_refl _⟩, ⟨by repeat (first | (with_reducible first | exact HI0.out | apply IsS45.alloc | apply IsS45.drewN | apply IsS45.drew | apply IsS45.set_0 | apply IsS45.set_1 | apply IsS45.set_2 | apply IsS45.set_3) | exact HI0.out)⟩, ⟨by repeat (first | (with_reducible first | exact HK.out | apply KeepBut.set_ | apply keep_drewN | apply keep_drew | apply keep_alloc) | exact HK.out)⟩, ⟨by repeat (first | (with_reducible first | exact HB.out | apply below_alloc | apply pw_below_drewN | apply below_drew1 | refine below_set ?_ (IsS45.ge HI0.out)) | exact HB.out)⟩⟩
    · rw [if_neg c6] at H
      have c6b0 : (a1 == 5) = false := beq_eq_false_iff_ne.mpr c6
      have c6b1 : (a1 != 5) = true := bne_iff_ne.mpr c6
      (first | rw [c6b0] | (simp only [i64_w, i32_w]; rw [c6b0]) | skip)
      have H' := Aside0.mk H
      clear H
      go_wp2
      go_meet
      case rel => exact ⟨_, (s0_0), (s0_1), (s0_2), (s0_3), H', ⟨by first | omega | exact Nat.le_refl _⟩, ⟨by repeat (first | (with_reducible first | exact HI0.out | apply IsS45.alloc | apply IsS45.drewN | apply IsS45.drew | apply IsS45.set_0 | apply IsS45.set_1 | apply IsS45.set_2 | apply IsS45.set_3) | exact HI0.out)⟩, ⟨by repeat (first | (with_reducible first | exact HK.out | apply KeepBut.set_ | apply keep_drewN | apply keep_drew | apply keep_alloc) | exact HK.out)⟩, ⟨by repeat (first | (with_reducible first | exact HB.out | apply below_alloc | apply pw_below_drewN | apply below_drew1 | refine below_set ?_ (IsS45.ge HI0.out)) | exact HB.out)⟩⟩
  case rest =>
    clear HC5
    try clear c2
    try clear p2
    try clear c6
    try clear c6b0
    try clear c6b1
    try clear p6
    obtain ⟨kq, x1000_4, x1001_4, x1002_4, x1003_4, HA, HJ4, HI0, HK, HB⟩ := hcut
    cases kq with
    | zero => exact absurd HA.out (by simp [kissgateref14_Reg_Hear.j0])
    | succ kj4 =>
      have H := HA.out
      clear HA
      simp only [kissgateref14_Reg_Hear.j0] at H
      have HC9 := Aside0.mk H
      clear H
      go_upto_region 2 with (fail)
      go_cut [23] (fun v23 wc => ∃ (kq : Nat) (x23_8 : Bool), v23 = .bool x23_8 ∧ Aside0 (kissgateref14_Reg_Hear.j1 kq a2 a3 x23_8 x1000_4 x1001_4 x1002_4 x1003_4 = some (r1, r2, r3, r4)) ∧ Aside0 (kq ≤ kj4) ∧ Aside0 (IsS45 w0 wc g x1000_4 x1001_4 x1002_4 x1003_4) ∧ Aside0 (KeepBut w wc g none) ∧ Aside0 (Below w0.heap.size w0 wc))
      case first =>
        have H := HC9.out
        clear HC9
        by_cases c10 : a1 = 0
        · rw [if_pos c10] at H
          have c10b0 : (a1 == 0) = true := beq_iff_eq.mpr c10
          have c10b1 : (a1 != 0) = false := bne_eq_false_iff_eq.mpr c10
          clear c10
          (first | rw [c10b0] | (simp only [i64_w, i32_w]; rw [c10b0]) | skip)
          have H' := Aside0.mk H
          clear H
          go_wp2
          go_meet
          case rel => exact ⟨_, (false), (by first | rfl | (simp; done) | (simp [show ∀ l_ : List UInt8, (l_ != []) = !l_.isEmpty from fun l_ => by cases l_ <;> rfl]; done) | (simp [*]; done)), H', ⟨by have := HJ4.out; first | omega | exact Nat.le_refl _⟩, ⟨by repeat (first | (with_reducible first | exact HI0.out | apply IsS45.alloc | apply IsS45.drewN | apply IsS45.drew | apply IsS45.set_0 | apply IsS45.set_1 | apply IsS45.set_2 | apply IsS45.set_3) | exact HI0.out)⟩, ⟨by repeat (first | (with_reducible first | exact HK.out | apply KeepBut.set_ | apply keep_drewN | apply keep_drew | apply keep_alloc) | exact HK.out)⟩, ⟨by repeat (first | (with_reducible first | exact HB.out | apply below_alloc | apply pw_below_drewN | apply below_drew1 | refine below_set ?_ (IsS45.ge HI0.out)) | exact HB.out)⟩⟩
        · rw [if_neg c10] at H
          have c10b0 : (a1 == 0) = false := beq_eq_false_iff_ne.mpr c10
          have c10b1 : (a1 != 0) = true := bne_iff_ne.mpr c10
          (first | rw [c10b0] | (simp only [i64_w, i32_w]; rw [c10b0]) | skip)
          by_cases c11 : a1 = 1
          · rw [if_pos c11] at H
            have c11b0 : (a1 == 1) = true := beq_iff_eq.mpr c11
            have c11b1 : (a1 != 1) = false := bne_eq_false_iff_eq.mpr c11
            clear c11
            have H' := Aside0.mk H
            clear H
            go_wp2
            go_meet
            case rel => exact ⟨_, (false), (by first | rfl | (simp; done) | (simp [show ∀ l_ : List UInt8, (l_ != []) = !l_.isEmpty from fun l_ => by cases l_ <;> rfl]; done) | (simp [*]; done)), H', ⟨by have := HJ4.out; first | omega | exact Nat.le_refl _⟩, ⟨by repeat (first | (with_reducible first | exact HI0.out | apply IsS45.alloc | apply IsS45.drewN | apply IsS45.drew | apply IsS45.set_0 | apply IsS45.set_1 | apply IsS45.set_2 | apply IsS45.set_3) | exact HI0.out)⟩, ⟨by repeat (first | (with_reducible first | exact HK.out | apply KeepBut.set_ | apply keep_drewN | apply keep_drew | apply keep_alloc) | exact HK.out)⟩, ⟨by repeat (first | (with_reducible first | exact HB.out | apply below_alloc | apply pw_below_drewN | apply below_drew1 | refine below_set ?_ (IsS45.ge HI0.out)) | exact HB.out)⟩⟩
          · rw [if_neg c11] at H
            have c11b0 : (a1 == 1) = false := beq_eq_false_iff_ne.mpr c11
            have c11b1 : (a1 != 1) = true := bne_iff_ne.mpr c11
            have H' := Aside0.mk H
            clear H
            go_wp2
            go_meet
            case rel => exact ⟨_, ((a1 != 3)), (by first | rfl | (simp; done) | (simp [show ∀ l_ : List UInt8, (l_ != []) = !l_.isEmpty from fun l_ => by cases l_ <;> rfl]; done) | (simp [*]; done)), H', ⟨by have := HJ4.out; first | omega | exact Nat.le_refl _⟩, ⟨by repeat (first | (with_reducible first | exact HI0.out | apply IsS45.alloc | apply IsS45.drewN | apply IsS45.drew | apply IsS45.set_0 | apply IsS45.set_1 | apply IsS45.set_2 | apply IsS45.set_3) | exact HI0.out)⟩, ⟨by repeat (first | (with_reducible first | exact HK.out | apply KeepBut.set_ | apply keep_drewN | apply keep_drew | apply keep_alloc) | exact HK.out)⟩, ⟨by repeat (first | (with_reducible first | exact HB.out | apply below_alloc | apply pw_below_drewN | apply below_drew1 | refine below_set ?_ (IsS45.ge HI0.out)) | exact HB.out)⟩⟩
      case rest =>
        clear HC9
        try clear c1
        try clear c2
        try clear p2
        try clear c6
        try clear c6b0
        try clear c6b1
        try clear p6
        try clear c10
        try clear c10b0
        try clear c10b1
        try clear c11
        try clear c11b0
        try clear c11b1
        try clear p2
        try clear p6
        obtain ⟨kq, x23_8, rfl, HA, HJ8, HI0, HK, HB⟩ := hcut
        cases kq with
        | zero => exact absurd HA.out (by simp [kissgateref14_Reg_Hear.j1])
        | succ kj8 =>
          have H := HA.out
          clear HA
          simp only [kissgateref14_Reg_Hear.j1] at H
          by_cases c12 : x23_8 = true
          · subst c12
            have H1 : (some (x1000_4, x1001_4, x1002_4, x1003_4)) = some (r1, r2, r3, r4) := by rw [if_pos rfl] at H; exact H
            clear H
            have H := H1
            clear H1
            simp only [Option.some.injEq, Prod.mk.injEq] at H
            obtain ⟨rfl, rfl, rfl, rfl⟩ := H
            go_wp2
            first | go_end0 | ((try simp only [Exit.inBlock, Exit.then]); refine bodyPost_ret (results_none rfl _ _ _) rfl ?_)
            exact ⟨by first | rfl | (simp [show ∀ l_ : List UInt8, (l_ == []) = l_.isEmpty from fun l_ => by cases l_ <;> rfl]; done) | (simp [errW_none, errW_some] <;> rfl) | ((repeat rw [Int.tdiv_eq_ediv_of_nonneg (by omega)]); (repeat rw [Int.tmod_eq_emod_of_nonneg (by omega)]); first | rfl | (simp [errW_none, errW_some] <;> rfl)) | (simp [*, errW_none, errW_some] <;> rfl), by repeat (first | (with_reducible first | exact HI0.out | apply IsS45.alloc | apply IsS45.drewN | apply IsS45.drew | apply IsS45.set_0 | apply IsS45.set_1 | apply IsS45.set_2 | apply IsS45.set_3) | exact HI0.out), by repeat (first | (with_reducible first | exact HB.out | apply below_alloc | apply pw_below_drewN | apply below_drew1 | refine below_set ?_ (IsS45.ge HI0.out)) | exact HB.out), by repeat (first | (with_reducible first | exact HK.out | apply KeepBut.set_ | apply keep_drewN | apply keep_drew | apply keep_alloc) | exact HK.out)⟩
          · replace c12 := Bool.eq_false_iff.mpr c12
            subst c12
            have H1 : (if (mn a2 a3) < 0 then (kissgateref14_Reg_Hear.j2 kj8 a3 (mn a2 a3) true x1000_4 x1001_4 x1002_4 x1003_4) else (kissgateref14_Reg_Hear.j2 kj8 a3 (mn a2 a3) (decide ((wrap64 (a3 - (mn a2 a3))) > 120)) x1000_4 x1001_4 x1002_4 x1003_4)) = some (r1, r2, r3, r4) := by rw [if_neg (show ¬ (false = true) by decide)] at H; exact H
            clear H
            have H := H1
            clear H1
            obtain ⟨ji13, hji13⟩ : ∃ j_ : Int, (mn a2 a3) = j_ := ⟨_, rfl⟩
            replace H : (if (ji13) < 0 then (kissgateref14_Reg_Hear.j2 kj8 a3 ji13 true x1000_4 x1001_4 x1002_4 x1003_4) else (kissgateref14_Reg_Hear.j2 kj8 a3 ji13 (decide ((wrap64 (a3 - (ji13))) > 120)) x1000_4 x1001_4 x1002_4 x1003_4)) = some (r1, r2, r3, r4) := by first | (rw [hji13] at H; exact H) | (simp only [hji13] at H ⊢; exact H)
            have hji13_ : (if a3 < a2 then a3 else a2) = ji13 := hji13
            have HC14 := Aside0.mk H
            clear H
            go_upto_region 4 with (fail)
            go_cut [34] (fun v34 wc => ∃ (kq : Nat) (x34_13 : Bool), v34 = .bool x34_13 ∧ Aside0 (kissgateref14_Reg_Hear.j2 kq a3 ji13 x34_13 x1000_4 x1001_4 x1002_4 x1003_4 = some (r1, r2, r3, r4)) ∧ Aside0 (kq ≤ kj8) ∧ Aside0 (IsS45 w0 wc g x1000_4 x1001_4 x1002_4 x1003_4) ∧ Aside0 (KeepBut w wc g none) ∧ Aside0 (Below w0.heap.size w0 wc))
            case first =>
              have H := HC14.out
              clear HC14
              by_cases c15 : (ji13) < 0
              · rw [if_pos c15] at H
                have c15b0 : decide ((ji13) < 0) = true := decide_eq_true c15
                clear c15
                (first | rw [c15b0] | (simp only [i64_w, i32_w]; rw [c15b0]) | skip)
                have H' := Aside0.mk H
                clear H
                go_wp2
                go_meet
                case rel => exact ⟨_, (true), (by first | rfl | (simp; done) | (simp [show ∀ l_ : List UInt8, (l_ != []) = !l_.isEmpty from fun l_ => by cases l_ <;> rfl]; done) | (simp [*]; done)), H', ⟨by have := HJ4.out; have := HJ8.out; first | omega | exact Nat.le_refl _⟩, ⟨by repeat (first | (with_reducible first | exact HI0.out | apply IsS45.alloc | apply IsS45.drewN | apply IsS45.drew | apply IsS45.set_0 | apply IsS45.set_1 | apply IsS45.set_2 | apply IsS45.set_3) | exact HI0.out)⟩, ⟨by repeat (first | (with_reducible first | exact HK.out | apply KeepBut.set_ | apply keep_drewN | apply keep_drew | apply keep_alloc) | exact HK.out)⟩, ⟨by repeat (first | (with_reducible first | exact HB.out | apply below_alloc | apply pw_below_drewN | apply below_drew1 | refine below_set ?_ (IsS45.ge HI0.out)) | exact HB.out)⟩⟩
              · rw [if_neg c15] at H
                have c15b0 : decide ((ji13) < 0) = false := decide_eq_false c15
                clear c15
                (first | rw [c15b0] | (simp only [i64_w, i32_w]; rw [c15b0]) | skip)
                have H' := Aside0.mk H
                clear H
                go_wp2
                go_meet
                case rel => exact ⟨_, (decide ((wrap64 (a3 - (ji13))) > 120)), (by first | rfl | (simp; done) | (simp only [← hji13] <;> (first | rfl | simp)) | (simp [*]; done)), H', ⟨by have := HJ4.out; have := HJ8.out; first | omega | exact Nat.le_refl _⟩, ⟨by repeat (first | (with_reducible first | exact HI0.out | apply IsS45.alloc | apply IsS45.drewN | apply IsS45.drew | apply IsS45.set_0 | apply IsS45.set_1 | apply IsS45.set_2 | apply IsS45.set_3) | exact HI0.out)⟩, ⟨by repeat (first | (with_reducible first | exact HK.out | apply KeepBut.set_ | apply keep_drewN | apply keep_drew | apply keep_alloc) | exact HK.out)⟩, ⟨by repeat (first | (with_reducible first | exact HB.out | apply below_alloc | apply pw_below_drewN | apply below_drew1 | refine below_set ?_ (IsS45.ge HI0.out)) | exact HB.out)⟩⟩
            case rest =>
              clear HC14
              try clear c1
              try clear c2
              try clear p2
              try clear c6
              try clear c6b0
              try clear c6b1
              try clear p6
              try clear c10
              try clear c10b0
              try clear c10b1
              try clear c11
              try clear c11b0
              try clear c11b1
              try clear c12
              try clear c15
              try clear c15b0
              try clear p2
              try clear p6
              obtain ⟨kq, x34_13, rfl, HA, HJ13, HI0, HK, HB⟩ := hcut
              cases kq with
              | zero => exact absurd HA.out (by simp [kissgateref14_Reg_Hear.j2])
              | succ kj13 =>
                have H := HA.out
                clear HA
                simp only [kissgateref14_Reg_Hear.j2] at H
                by_cases c16 : x34_13 = true
                · subst c16
                  have H1 : (some (x1000_4, x1001_4, x1002_4, x1003_4)) = some (r1, r2, r3, r4) := by rw [if_pos rfl] at H; exact H
                  clear H
                  have H := H1
                  clear H1
                  simp only [Option.some.injEq, Prod.mk.injEq] at H
                  obtain ⟨rfl, rfl, rfl, rfl⟩ := H
                  go_wp2
                  first | go_end0 | ((try simp only [Exit.inBlock, Exit.then]); refine bodyPost_ret (results_none rfl _ _ _) rfl ?_)
                  exact ⟨by first | rfl | (simp [show ∀ l_ : List UInt8, (l_ == []) = l_.isEmpty from fun l_ => by cases l_ <;> rfl]; done) | (simp [errW_none, errW_some] <;> rfl) | (simp only [← hji13]; first | rfl | (simp [errW_none, errW_some] <;> rfl)) | ((repeat rw [Int.tdiv_eq_ediv_of_nonneg (by omega)]); (repeat rw [Int.tmod_eq_emod_of_nonneg (by omega)]); first | rfl | (simp [errW_none, errW_some] <;> rfl)) | (simp [*, errW_none, errW_some] <;> rfl), by repeat (first | (with_reducible first | exact HI0.out | apply IsS45.alloc | apply IsS45.drewN | apply IsS45.drew | apply IsS45.set_0 | apply IsS45.set_1 | apply IsS45.set_2 | apply IsS45.set_3) | exact HI0.out), by repeat (first | (with_reducible first | exact HB.out | apply below_alloc | apply pw_below_drewN | apply below_drew1 | refine below_set ?_ (IsS45.ge HI0.out)) | exact HB.out), by repeat (first | (with_reducible first | exact HK.out | apply KeepBut.set_ | apply keep_drewN | apply keep_drew | apply keep_alloc) | exact HK.out)⟩
                · replace c16 := Bool.eq_false_iff.mpr c16
                  subst c16
                  have H1 : (if x1001_4 = 0 then ((kissgateref14_Reg_Step.f x1000_4 x1001_4 ji13 x1003_4 0 a3).bind fun bt216 => (some (bt216.1, bt216.2.1, bt216.2.2.1, bt216.2.2.2))) else (if ji13 > x1002_4 then ((kissgateref14_Reg_Step.f x1000_4 x1001_4 ji13 x1003_4 0 a3).bind fun bt220 => (some (bt220.1, bt220.2.1, bt220.2.2.1, bt220.2.2.2))) else ((kissgateref14_Reg_Step.f x1000_4 x1001_4 x1002_4 x1003_4 0 a3).bind fun bt224 => (some (bt224.1, bt224.2.1, bt224.2.2.1, bt224.2.2.2))))) = some (r1, r2, r3, r4) := by rw [if_neg (show ¬ (false = true) by decide)] at H; exact H
                  clear H
                  have H := H1
                  clear H1
                  by_cases c17 : x1001_4 = 0
                  · rw [if_pos c17] at H
                    have c17b0 : (x1001_4 == 0) = true := beq_iff_eq.mpr c17
                    have c17b1 : (x1001_4 != 0) = false := bne_eq_false_iff_eq.mpr c17
                    clear c17
                    replace H := Option.bind_eq_some_iff.mp H
                    obtain ⟨⟨t216, t217, t218, t219⟩, A180, H⟩ := H
                    replace H : (some (t216, t217, t218, t219)) = some (r1, r2, r3, r4) := H
                    have A18 := Aside0.mk A180
                    clear A180
                    simp only [Option.some.injEq, Prod.mk.injEq] at H
                    obtain ⟨rfl, rfl, rfl, rfl⟩ := H
                    obtain ⟨HGz19, hgz19⟩ := HI0.out
                    have hcz19_0 := cellS45_0 HGz19
                    have hcz19_1 := cellS45_1 HGz19
                    have hcz19_2 := cellS45_2 HGz19
                    have hcz19_3 := cellS45_3 HGz19
                    have hfz19_0 := blk_frozen HGz19 0
                    have hfz19_1 := blk_frozen HGz19 1
                    have hfz19_2 := blk_frozen HGz19 2
                    have hfz19_3 := blk_frozen HGz19 3
                    clear HGz19 hgz19
                    go_wp2_with (first | ((with_reducible refine gate_callee (f := 23) rfl ?_); refine goesL_ (some 54) rfl rfl Try.func23 (by kernel_rfl) rfl #[.pointer (some ⟨g, 0, none⟩), .int .i64 0, .int .i64 a3] rfl (by (try simp only [List.map_toArray, List.map_cons, List.map_nil]); first | done | rfl | (simp only [List.length_drop, List.length_take]; rfl) | (go_simp; first | done | (unfold wrap64; omega))) ?_; (with_reducible refine (kissgateref14_Reg_Step.calls g x1000_4 x1001_4 ji13 x1003_4 0 a3 t216 t217 t218 t219 w0 _ ?side1 ?side2 A18.out).mono ?_); (case side1 => repeat (first | (with_reducible first | exact HI0.out | apply IsS45.alloc | apply IsS45.drewN | apply IsS45.drew | apply IsS45.set_0 | apply IsS45.set_1 | apply IsS45.set_2 | apply IsS45.set_3) | exact HI0.out)); (case side2 => repeat (first | (with_reducible first | exact HB.out | apply below_alloc | apply pw_below_drewN | apply below_drew1 | refine below_set ?_ (IsS45.ge HI0.out)) | exact HB.out)); rintro e w20 ⟨rfl, hi, hb, hk⟩; refine ⟨_, rfl, ?_⟩; have n0_ := Aside0.mk (KeepBut.trans (by repeat (first | (with_reducible first | exact HK.out | apply KeepBut.set_ | apply keep_drewN | apply keep_drew | apply keep_alloc) | exact HK.out)) hk (.inl rfl)); have n1_ := Aside0.mk (hb); have n2_ := Aside0.mk (hi); clear HK; clear HB; clear HI0; have HK := n0_; have HB := n1_; have HI0 := n2_; clear n0_ n1_ n2_; (try clear hb); (try clear hb2); (try clear hk); (try clear hi)))
                    first | go_end0 | ((try simp only [Exit.inBlock, Exit.then]); refine bodyPost_ret (results_none rfl _ _ _) rfl ?_)
                    exact ⟨by first | rfl | (simp [show ∀ l_ : List UInt8, (l_ == []) = l_.isEmpty from fun l_ => by cases l_ <;> rfl]; done) | (simp [errW_none, errW_some] <;> rfl) | (simp only [← hji13]; first | rfl | (simp [errW_none, errW_some] <;> rfl)) | ((repeat rw [Int.tdiv_eq_ediv_of_nonneg (by omega)]); (repeat rw [Int.tmod_eq_emod_of_nonneg (by omega)]); first | rfl | (simp [errW_none, errW_some] <;> rfl)) | (simp [*, errW_none, errW_some] <;> rfl), by repeat (first | (with_reducible first | exact HI0.out | apply IsS45.alloc | apply IsS45.drewN | apply IsS45.drew | apply IsS45.set_0 | apply IsS45.set_1 | apply IsS45.set_2 | apply IsS45.set_3) | exact HI0.out), by repeat (first | (with_reducible first | exact HB.out | apply below_alloc | apply pw_below_drewN | apply below_drew1 | refine below_set ?_ (IsS45.ge HI0.out)) | exact HB.out), by repeat (first | (with_reducible first | exact HK.out | apply KeepBut.set_ | apply keep_drewN | apply keep_drew | apply keep_alloc) | exact HK.out)⟩
                  · rw [if_neg c17] at H
                    have c17b0 : (x1001_4 == 0) = false := beq_eq_false_iff_ne.mpr c17
                    have c17b1 : (x1001_4 != 0) = true := bne_iff_ne.mpr c17
                    by_cases c21 : ji13 > x1002_4
                    · rw [if_pos c21] at H
                      have c21b0 : decide (x1002_4 < ji13) = true := decide_eq_true c21
                      clear c21
                      replace H := Option.bind_eq_some_iff.mp H
                      obtain ⟨⟨t220, t221, t222, t223⟩, A220, H⟩ := H
                      replace H : (some (t220, t221, t222, t223)) = some (r1, r2, r3, r4) := H
                      have A22 := Aside0.mk A220
                      clear A220
                      simp only [Option.some.injEq, Prod.mk.injEq] at H
                      obtain ⟨rfl, rfl, rfl, rfl⟩ := H
                      obtain ⟨HGz23, hgz23⟩ := HI0.out
                      have hcz23_0 := cellS45_0 HGz23
                      have hcz23_1 := cellS45_1 HGz23
                      have hcz23_2 := cellS45_2 HGz23
                      have hcz23_3 := cellS45_3 HGz23
                      have hfz23_0 := blk_frozen HGz23 0
                      have hfz23_1 := blk_frozen HGz23 1
                      have hfz23_2 := blk_frozen HGz23 2
                      have hfz23_3 := blk_frozen HGz23 3
                      clear HGz23 hgz23
                      go_wp2_with (first | ((with_reducible refine gate_callee (f := 23) rfl ?_); refine goesL_ (some 54) rfl rfl Try.func23 (by kernel_rfl) rfl #[.pointer (some ⟨g, 0, none⟩), .int .i64 0, .int .i64 a3] rfl (by (try simp only [List.map_toArray, List.map_cons, List.map_nil]); first | done | rfl | (simp only [List.length_drop, List.length_take]; rfl) | (go_simp; first | done | (unfold wrap64; omega))) ?_; (with_reducible refine (kissgateref14_Reg_Step.calls g x1000_4 x1001_4 ji13 x1003_4 0 a3 t220 t221 t222 t223 w0 _ ?side1 ?side2 A22.out).mono ?_); (case side1 => repeat (first | (with_reducible first | exact HI0.out | apply IsS45.alloc | apply IsS45.drewN | apply IsS45.drew | apply IsS45.set_0 | apply IsS45.set_1 | apply IsS45.set_2 | apply IsS45.set_3) | exact HI0.out)); (case side2 => repeat (first | (with_reducible first | exact HB.out | apply below_alloc | apply pw_below_drewN | apply below_drew1 | refine below_set ?_ (IsS45.ge HI0.out)) | exact HB.out)); rintro e w24 ⟨rfl, hi, hb, hk⟩; refine ⟨_, rfl, ?_⟩; have n0_ := Aside0.mk (KeepBut.trans (by repeat (first | (with_reducible first | exact HK.out | apply KeepBut.set_ | apply keep_drewN | apply keep_drew | apply keep_alloc) | exact HK.out)) hk (.inl rfl)); have n1_ := Aside0.mk (hb); have n2_ := Aside0.mk (hi); clear HK; clear HB; clear HI0; have HK := n0_; have HB := n1_; have HI0 := n2_; clear n0_ n1_ n2_; (try clear hb); (try clear hb2); (try clear hk); (try clear hi)))
                      first | go_end0 | ((try simp only [Exit.inBlock, Exit.then]); refine bodyPost_ret (results_none rfl _ _ _) rfl ?_)
                      exact ⟨by first | rfl | (simp [show ∀ l_ : List UInt8, (l_ == []) = l_.isEmpty from fun l_ => by cases l_ <;> rfl]; done) | (simp [errW_none, errW_some] <;> rfl) | (simp only [← hji13]; first | rfl | (simp [errW_none, errW_some] <;> rfl)) | ((repeat rw [Int.tdiv_eq_ediv_of_nonneg (by omega)]); (repeat rw [Int.tmod_eq_emod_of_nonneg (by omega)]); first | rfl | (simp [errW_none, errW_some] <;> rfl)) | (simp [*, errW_none, errW_some] <;> rfl), by repeat (first | (with_reducible first | exact HI0.out | apply IsS45.alloc | apply IsS45.drewN | apply IsS45.drew | apply IsS45.set_0 | apply IsS45.set_1 | apply IsS45.set_2 | apply IsS45.set_3) | exact HI0.out), by repeat (first | (with_reducible first | exact HB.out | apply below_alloc | apply pw_below_drewN | apply below_drew1 | refine below_set ?_ (IsS45.ge HI0.out)) | exact HB.out), by repeat (first | (with_reducible first | exact HK.out | apply KeepBut.set_ | apply keep_drewN | apply keep_drew | apply keep_alloc) | exact HK.out)⟩
                    · rw [if_neg c21] at H
                      have c21b0 : decide (x1002_4 < ji13) = false := decide_eq_false c21
                      clear c21
                      replace H := Option.bind_eq_some_iff.mp H
                      obtain ⟨⟨t224, t225, t226, t227⟩, A250, H⟩ := H
                      replace H : (some (t224, t225, t226, t227)) = some (r1, r2, r3, r4) := H
                      have A25 := Aside0.mk A250
                      clear A250
                      simp only [Option.some.injEq, Prod.mk.injEq] at H
                      obtain ⟨rfl, rfl, rfl, rfl⟩ := H
                      obtain ⟨HGz26, hgz26⟩ := HI0.out
                      have hcz26_0 := cellS45_0 HGz26
                      have hcz26_1 := cellS45_1 HGz26
                      have hcz26_2 := cellS45_2 HGz26
                      have hcz26_3 := cellS45_3 HGz26
                      have hfz26_0 := blk_frozen HGz26 0
                      have hfz26_1 := blk_frozen HGz26 1
                      have hfz26_2 := blk_frozen HGz26 2
                      have hfz26_3 := blk_frozen HGz26 3
                      clear HGz26 hgz26
                      go_wp2_with (first | ((with_reducible refine gate_callee (f := 23) rfl ?_); refine goesL_ (some 54) rfl rfl Try.func23 (by kernel_rfl) rfl #[.pointer (some ⟨g, 0, none⟩), .int .i64 0, .int .i64 a3] rfl (by (try simp only [List.map_toArray, List.map_cons, List.map_nil]); first | done | rfl | (simp only [List.length_drop, List.length_take]; rfl) | (go_simp; first | done | (unfold wrap64; omega))) ?_; (with_reducible refine (kissgateref14_Reg_Step.calls g x1000_4 x1001_4 x1002_4 x1003_4 0 a3 t224 t225 t226 t227 w0 _ ?side1 ?side2 A25.out).mono ?_); (case side1 => repeat (first | (with_reducible first | exact HI0.out | apply IsS45.alloc | apply IsS45.drewN | apply IsS45.drew | apply IsS45.set_0 | apply IsS45.set_1 | apply IsS45.set_2 | apply IsS45.set_3) | exact HI0.out)); (case side2 => repeat (first | (with_reducible first | exact HB.out | apply below_alloc | apply pw_below_drewN | apply below_drew1 | refine below_set ?_ (IsS45.ge HI0.out)) | exact HB.out)); rintro e w27 ⟨rfl, hi, hb, hk⟩; refine ⟨_, rfl, ?_⟩; have n0_ := Aside0.mk (KeepBut.trans (by repeat (first | (with_reducible first | exact HK.out | apply KeepBut.set_ | apply keep_drewN | apply keep_drew | apply keep_alloc) | exact HK.out)) hk (.inl rfl)); have n1_ := Aside0.mk (hb); have n2_ := Aside0.mk (hi); clear HK; clear HB; clear HI0; have HK := n0_; have HB := n1_; have HI0 := n2_; clear n0_ n1_ n2_; (try clear hb); (try clear hb2); (try clear hk); (try clear hi)))
                      first | go_end0 | ((try simp only [Exit.inBlock, Exit.then]); refine bodyPost_ret (results_none rfl _ _ _) rfl ?_)
                      exact ⟨by first | rfl | (simp [show ∀ l_ : List UInt8, (l_ == []) = l_.isEmpty from fun l_ => by cases l_ <;> rfl]; done) | (simp [errW_none, errW_some] <;> rfl) | (simp only [← hji13]; first | rfl | (simp [errW_none, errW_some] <;> rfl)) | ((repeat rw [Int.tdiv_eq_ediv_of_nonneg (by omega)]); (repeat rw [Int.tmod_eq_emod_of_nonneg (by omega)]); first | rfl | (simp [errW_none, errW_some] <;> rfl)) | (simp [*, errW_none, errW_some] <;> rfl), by repeat (first | (with_reducible first | exact HI0.out | apply IsS45.alloc | apply IsS45.drewN | apply IsS45.drew | apply IsS45.set_0 | apply IsS45.set_1 | apply IsS45.set_2 | apply IsS45.set_3) | exact HI0.out), by repeat (first | (with_reducible first | exact HB.out | apply below_alloc | apply pw_below_drewN | apply below_drew1 | refine below_set ?_ (IsS45.ge HI0.out)) | exact HB.out), by repeat (first | (with_reducible first | exact HK.out | apply KeepBut.set_ | apply keep_drewN | apply keep_drew | apply keep_alloc) | exact HK.out)⟩

end Go.Proofs.Ytgmnkilnajkidaa.PRegisDoes
