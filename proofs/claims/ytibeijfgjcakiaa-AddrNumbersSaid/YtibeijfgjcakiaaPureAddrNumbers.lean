/- Numbers of networks, types and lengths: as the document says. -/
import Derived.Test.YtibeijfgjcakiaaPAddrNumbersx2
import Derived.Laws.BitsLemmas
import Derived.OpenShut
import Derived.Laws.Strings
namespace Go.Proofs.Ytibeijfgjcakiaa.Pure
open Go.RowKit Go.Proofs.Ytibeijfgjcakiaa.PAddrNumbers Go.Proofs.YtibeijfgjcakiaaW.PrintWords Go.Proofs.YtibeijfgjcakiaaW.PrintLast Go.Proofs.YtibeijfgjcakiaaW.PrintMore


theorem wraps_i64 (n : Int) (h0 : 0 ≤ n) (h1 : n < 2 ^ 63) : IntKind.i64.wrap n = n := by rw [IntKind.wrap_i64]; omega
theorem good_is (a : Int) : addr_Good.f a = some (decide (0 ≤ a ∧ a ≤ 281474976710655)) := by
  unfold addr_Good.f
  by_cases h : a ≥ 0
  · rw [if_pos h]; congr 1; rw [decide_eq_decide]; omega
  · rw [if_neg h]; congr 1; symm; rw [decide_eq_false_iff_not]; omega

def kept (a : Int) : Bool := decide ((1652522221568 ≤ a ∧ a ≤ 1652522221583) ∨ a = 1652522221600 ∨ a = 1652522221601)
theorem kept_is (a : Int) : addr_Kept.f a = some (kept a) := by
  unfold addr_Kept.f kept
  rw [good_is]; simp only [Option.bind_some]
  by_cases h : 0 ≤ a ∧ a ≤ 281474976710655
  · rw [if_pos (by simpa using h)]
    by_cases h1 : a / 16 = 103282638848
    · rw [if_pos h1]; congr 1; symm; rw [decide_eq_true_iff]; omega
    · rw [if_neg h1]
      by_cases h2 : a = 1652522221601
      · rw [if_pos h2]; congr 1; symm; rw [decide_eq_true_iff]; omega
      · rw [if_neg h2]; congr 1; rw [Bool.eq_iff_iff, beq_iff_eq, decide_eq_true_iff]; omega
  · rw [if_neg (by simpa using h)]; congr 1; symm; rw [decide_eq_false_iff_not]; omega
theorem show_is (a : Int) : addr_Show.f a = some (if 0 ≤ a ∧ a ≤ 281474976710655 then ⟨(showRest a 12).toArray⟩ else ⟨#[]⟩) := by
  unfold addr_Show.f
  rw [good_is]; simp only [Option.bind_some]
  by_cases h : 0 ≤ a ∧ a ≤ 281474976710655
  · rw [if_pos (by simpa using h), if_pos h]
  · rw [if_neg (by simpa using h), if_neg h]
theorem list_of (l : List UInt8) : (⟨l.toArray⟩ : ByteArray).toList = l := by rw [ByteArray.toList_eq]
theorem alive_is : kissgatelaw02_alive.f = some true := by
  unfold kissgatelaw02_alive.f
  rw [show_is, if_pos (by decide)]; simp only [Option.bind_some]
  rw [list_of, if_pos (by decide), kept_is]; simp only [Option.bind_some]
  rw [show kept 1652522221568 = true by decide, if_pos rfl]
  decide

theorem vid_is (n : Int) : addr_Vid.f n = some (decide (1 ≤ n ∧ n ≤ 4094)) := by
  unfold addr_Vid.f
  by_cases h : n ≥ 1
  · rw [if_pos h]; congr 1; rw [decide_eq_decide]; omega
  · rw [if_neg h]; congr 1; symm; rw [decide_eq_false_iff_not]; omega
theorem type_is (n : Int) : addr_Type.f n = some (decide (1536 ≤ n ∧ n ≤ 65535)) := by
  unfold addr_Type.f
  by_cases h : n ≥ 1536
  · rw [if_pos h]; congr 1; rw [decide_eq_decide]; omega
  · rw [if_neg h]; congr 1; symm; rw [decide_eq_false_iff_not]; omega
theorem length_is (n : Int) : addr_Length.f n = some (decide (0 ≤ n ∧ n ≤ 1500)) := by
  unfold addr_Length.f
  by_cases h : n ≥ 0
  · rw [if_pos h]; congr 1; rw [decide_eq_decide]; omega
  · rw [if_neg h]; congr 1; symm; rw [decide_eq_false_iff_not]; omega
theorem AddrNumbers : kissgatelaw02_AddrNumbers.Pure := by
  intro a w0
  unfold kissgatelaw02_AddrNumbers.f
  have f1 : (decide (1536 ≤ (33024 : Int) ∧ (33024 : Int) ≤ 65535)) = true := by decide
  have f2 : (decide (1536 ≤ (35061 : Int) ∧ (35061 : Int) ≤ 65535)) = true := by decide
  have f3 : (decide (1536 ≤ (35062 : Int) ∧ (35062 : Int) ≤ 65535)) = true := by decide
  have f4 : (decide (1536 ≤ (2048 : Int) ∧ (2048 : Int) ≤ 65535)) = true := by decide
  have e1 : a > 0 → (decide (1 ≤ a ∧ a ≤ 4094) == decide (a < 4095)) = true := fun h => by rw [beq_iff_eq, decide_eq_decide]; omega
  have e1' : ¬ a > 0 → decide (1 ≤ a ∧ a ≤ 4094) = false := fun h => by rw [decide_eq_false_iff_not]; omega
  have e2 : a > 1535 → (decide (1536 ≤ a ∧ a ≤ 65535) == decide (a < 65536)) = true := fun h => by rw [beq_iff_eq, decide_eq_decide]; omega
  have e2' : ¬ a > 1535 → decide (1536 ≤ a ∧ a ≤ 65535) = false := fun h => by rw [decide_eq_false_iff_not]; omega
  have e3 : a > -1 → (decide (0 ≤ a ∧ a ≤ 1500) == decide (a < 1501)) = true := fun h => by rw [beq_iff_eq, decide_eq_decide]; omega
  have e3' : ¬ a > -1 → decide (0 ≤ a ∧ a ≤ 1500) = false := fun h => by rw [decide_eq_false_iff_not]; omega
  have e4 : decide (1536 ≤ a ∧ a ≤ 65535) = true → decide (0 ≤ a ∧ a ≤ 1500) = false := fun h => by rw [decide_eq_true_iff] at h; rw [decide_eq_false_iff_not]; omega
  simp only [alive_is, vid_is, type_is, length_is, Option.bind_some, if_true, f1, f2, f3, f4]
  generalize decide (1 ≤ a ∧ a ≤ 4094) = v at *
  generalize decide (1536 ≤ a ∧ a ≤ 65535) = t at *
  generalize decide (0 ≤ a ∧ a ≤ 1500) = l at *
  by_cases h1 : a > 0
  · simp only [if_pos h1, if_pos (e1 h1)]
    by_cases h2 : a > 1535
    · simp only [if_pos h2, if_pos (e2 h2)]
      by_cases h3 : a > -1
      · simp only [if_pos h3, if_pos (e3 h3)]; cases t <;> cases l <;> simp_all
      · omega
    · have t0 := e2' h2; subst t0
      by_cases h3 : a > -1
      · simp [if_neg h2, if_pos h3, e3 h3]
      · omega
  · have v0 := e1' h1; subst v0
    have t0 := e2' (by omega); subst t0
    by_cases h3 : a > -1
    · simp [if_neg h1, show ¬ a > 1535 by omega, if_pos h3, e3 h3]
    · have l0 := e3' h3; subst l0; simp [h1, show ¬ a > 1535 by omega, h3]

end Go.Proofs.Ytibeijfgjcakiaa.Pure
