/- What kind of address a number is: as the document says. -/
import Derived.Test.YtibeijfgjcakiaaPAddrKindsx1
import Derived.Laws.BitsLemmas
import Derived.OpenShut
import Derived.Laws.Strings
namespace Go.Proofs.Ytibeijfgjcakiaa.Pure
open Go.RowKit Go.Proofs.Ytibeijfgjcakiaa.PAddrKinds Go.Proofs.YtibeijfgjcakiaaW.PrintWords Go.Proofs.YtibeijfgjcakiaaW.PrintLast Go.Proofs.YtibeijfgjcakiaaW.PrintMore


theorem wraps_i64 (n : Int) (h0 : 0 ≤ n) (h1 : n < 2 ^ 63) : IntKind.i64.wrap n = n := by rw [IntKind.wrap_i64]; omega
theorem and_one (x : Int) (h0 : 0 ≤ x) (h1 : x < 2 ^ 63) : Go.bits .and .i64 x 1 = x % 2 :=
  bits_mask .i64 63 (by decide) wraps_i64 1 (by decide) x h0 h1
theorem good_is (a : Int) : addr_Good.f a = some (decide (0 ≤ a ∧ a ≤ 281474976710655)) := by
  unfold addr_Good.f
  by_cases h : a ≥ 0
  · rw [if_pos h]; congr 1; rw [decide_eq_decide]; omega
  · rw [if_neg h]; congr 1; symm; rw [decide_eq_false_iff_not]; omega

theorem rgood_is (a : Int) : kissgateref02_Good.f a = some (decide (0 ≤ a ∧ a ≤ 281474976710655)) := by
  unfold kissgateref02_Good.f
  by_cases h : a ≥ 0
  · rw [if_pos h]; congr 1; rw [decide_eq_decide]; omega
  · rw [if_neg h]; congr 1; symm; rw [decide_eq_false_iff_not]; omega

def many (a : Int) : Bool := decide (0 ≤ a ∧ a ≤ 281474976710655 ∧ a / 1099511627776 % 2 = 1)

theorem many_is (a : Int) : addr_Many.f a = some (many a) := by
  unfold addr_Many.f many
  rw [good_is]; simp only [Option.bind_some]
  by_cases h : 0 ≤ a ∧ a ≤ 281474976710655
  · rw [if_pos (by simpa using h), and_one _ (by omega) (by omega)]
    congr 1
    rw [Bool.eq_iff_iff]; simp; omega
  · rw [if_neg (by simpa using h)]; congr 1; symm; rw [decide_eq_false_iff_not]; omega

theorem rmany_is (a : Int) : kissgateref02_Many.f a = some (many a) := by
  unfold kissgateref02_Many.f many
  rw [rgood_is]; simp only [Option.bind_some]
  by_cases h : 0 ≤ a ∧ a ≤ 281474976710655
  · rw [if_pos (by simpa using h)]
    have e : Int.tmod (wrap64 (Int.tdiv a 1099511627776)) 2 = a / 1099511627776 % 2 := by
      rw [Int.tdiv_eq_ediv_of_nonneg h.1]
      have : wrap64 (a / 1099511627776) = a / 1099511627776 := by unfold wrap64; omega
      rw [this, Int.tmod_eq_emod_of_nonneg (by omega)]
    rw [e]; congr 1
    rw [Bool.eq_iff_iff]; simp; omega
  · rw [if_neg (by simpa using h)]; congr 1; symm; rw [decide_eq_false_iff_not]; omega


def kept (a : Int) : Bool := decide ((1652522221568 ≤ a ∧ a ≤ 1652522221583) ∨ a = 1652522221600 ∨ a = 1652522221601)
theorem kept_is (a : Int) : addr_Kept.f a = some (kept a) := by
  unfold addr_Kept.f kept
  rw [good_is]; simp only [Option.bind_some]
  by_cases h : 0 ≤ a ∧ a ≤ 281474976710655
  · rw [if_pos (by simpa using h)]
    by_cases h1 : a / 16 = 103282638848
    · rw [if_pos h1]; congr 1; symm; rw [decide_eq_true_iff]; omega
    · rw [if_neg h1]
      by_cases h2 : a = 1652522221601
      · rw [if_pos h2]; congr 1; symm; rw [decide_eq_true_iff]; omega
      · rw [if_neg h2]; congr 1; rw [Bool.eq_iff_iff, beq_iff_eq, decide_eq_true_iff]; omega
  · rw [if_neg (by simpa using h)]; congr 1; symm; rw [decide_eq_false_iff_not]; omega
theorem rkept_is (a : Int) : kissgateref02_Kept.f a = some (kept a) := by
  unfold kissgateref02_Kept.f kept
  by_cases h1 : a ≥ 1652522221568
  · rw [if_pos h1]
    by_cases h2 : a ≤ 1652522221583
    · rw [if_pos h2]; congr 1; symm; rw [decide_eq_true_iff]; omega
    · rw [if_neg h2]
      by_cases h3 : a = 1652522221600
      · rw [if_pos h3]; congr 1; symm; rw [decide_eq_true_iff]; omega
      · rw [if_neg h3]; congr 1; rw [Bool.eq_iff_iff, beq_iff_eq, decide_eq_true_iff]; omega
  · rw [if_neg h1]
    by_cases h3 : a = 1652522221600
    · rw [if_pos h3]; congr 1; symm; rw [decide_eq_true_iff]; omega
    · rw [if_neg h3]; congr 1; rw [Bool.eq_iff_iff, beq_iff_eq, decide_eq_true_iff]; omega
theorem show_is (a : Int) : addr_Show.f a = some (if 0 ≤ a ∧ a ≤ 281474976710655 then ⟨(showRest a 12).toArray⟩ else ⟨#[]⟩) := by
  unfold addr_Show.f
  rw [good_is]; simp only [Option.bind_some]
  by_cases h : 0 ≤ a ∧ a ≤ 281474976710655
  · rw [if_pos (by simpa using h), if_pos h]
  · rw [if_neg (by simpa using h), if_neg h]
theorem list_of (l : List UInt8) : (⟨l.toArray⟩ : ByteArray).toList = l := by rw [ByteArray.toList_eq]
theorem alive_is : kissgatelaw02_alive.f = some true := by
  unfold kissgatelaw02_alive.f
  rw [show_is, if_pos (by decide)]; simp only [Option.bind_some]
  rw [list_of, if_pos (by decide), kept_is]; simp only [Option.bind_some]
  rw [show kept 1652522221568 = true by decide, if_pos rfl]
  decide

theorem AddrKinds : kissgatelaw02_AddrKinds.Pure := by
  intro a w0
  unfold kissgatelaw02_AddrKinds.f
  rw [alive_is]; simp only [Option.bind_some]
  rw [if_pos trivial, good_is, rgood_is, many_is, rmany_is, kept_is, rkept_is, rkept_is, rkept_is, rkept_is, rkept_is, rmany_is]
  simp only [Option.bind_some]
  rw [if_pos (beq_self_eq_true _), if_pos (beq_self_eq_true _), if_pos (beq_self_eq_true _), if_pos (by decide), if_pos (by decide), if_pos (by decide), if_neg (by decide)]
  decide

end Go.Proofs.Ytibeijfgjcakiaa.Pure
