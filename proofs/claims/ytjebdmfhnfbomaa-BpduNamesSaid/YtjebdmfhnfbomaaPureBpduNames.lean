/- The names of bridges, as plain numbers: Id and Bridge answer what the document says; unlike ranks and addresses have unlike names, and a lower rank has a lower name. For every four ints. -/
import Derived.Test.YtjebdmfhnfbomaaPBpduNamesx
import Derived.Laws.BitsLemmas
import Derived.OpenShut
namespace Go.Proofs.Ytjebdmfhnfbomaa.Pure
open Go.RowKit Go.Proofs.Ytjebdmfhnfbomaa.PBpduNames Go.Proofs.YtjebdmfhnfbomaaW.PrintWords Go.Proofs.YtjebdmfhnfbomaaW.PrintLast

theorem wraps_i64 (n : Int) (h0 : 0 ≤ n) (h1 : n < 2 ^ 63) : IntKind.i64.wrap n = n := by rw [IntKind.wrap_i64]; omega

theorem and_one (x : Int) (h0 : 0 ≤ x) (h1 : x < 2 ^ 63) : Go.bits .and .i64 x 1 = x % 2 :=
  bits_mask .i64 63 (by decide) wraps_i64 1 (by decide) x h0 h1

theorem and_48 (x : Int) (h0 : 0 ≤ x) (h1 : x < 2 ^ 63) : Go.bits .and .i64 x 281474976710655 = x % 281474976710656 :=
  bits_mask .i64 63 (by decide) wraps_i64 48 (by decide) x h0 h1

theorem or_48 (x y : Int) (h0 : 0 ≤ x) (h1 : x < 2 ^ 63) (hx : x % 281474976710656 = 0) (k0 : 0 ≤ y) (k1 : y < 281474976710656) : Go.bits .or .i64 x y = x + y :=
  bits_join .i64 63 (by decide) wraps_i64 48 x y h0 hx h1 k0 k1 (by omega)

theorem good_is (a : Int) : addr_Good.f a = some (decide (0 ≤ a ∧ a ≤ 281474976710655)) := by
  unfold addr_Good.f
  by_cases h : a ≥ 0
  · rw [if_pos h]; congr 1; rw [decide_eq_decide]; omega
  · rw [if_neg h]; congr 1; symm; rw [decide_eq_false_iff_not]; omega

theorem rgood_is (a : Int) : kissgateref02_Good.f a = some (decide (0 ≤ a ∧ a ≤ 281474976710655)) := by
  unfold kissgateref02_Good.f
  by_cases h : a ≥ 0
  · rw [if_pos h]; congr 1; rw [decide_eq_decide]; omega
  · rw [if_neg h]; congr 1; symm; rw [decide_eq_false_iff_not]; omega

def many (a : Int) : Bool := decide (0 ≤ a ∧ a ≤ 281474976710655 ∧ a / 1099511627776 % 2 = 1)

theorem many_is (a : Int) : addr_Many.f a = some (many a) := by
  unfold addr_Many.f many
  rw [good_is]; simp only [Option.bind_some]
  by_cases h : 0 ≤ a ∧ a ≤ 281474976710655
  · rw [if_pos (by simpa using h), and_one _ (by omega) (by omega)]
    congr 1
    rw [Bool.eq_iff_iff]; simp; omega
  · rw [if_neg (by simpa using h)]; congr 1; symm; rw [decide_eq_false_iff_not]; omega

theorem rmany_is (a : Int) : kissgateref02_Many.f a = some (many a) := by
  unfold kissgateref02_Many.f many
  rw [rgood_is]; simp only [Option.bind_some]
  by_cases h : 0 ≤ a ∧ a ≤ 281474976710655
  · rw [if_pos (by simpa using h)]
    have e : Int.tmod (wrap64 (Int.tdiv a 1099511627776)) 2 = a / 1099511627776 % 2 := by
      rw [Int.tdiv_eq_ediv_of_nonneg h.1]
      have : wrap64 (a / 1099511627776) = a / 1099511627776 := by unfold wrap64; omega
      rw [this, Int.tmod_eq_emod_of_nonneg (by omega)]
    rw [e]; congr 1
    rw [Bool.eq_iff_iff]; simp; omega
  · rw [if_neg (by simpa using h)]; congr 1; symm; rw [decide_eq_false_iff_not]; omega

def bridge (a : Int) : Bool := decide (0 < a ∧ a / 281474976710656 ≤ 15) && !many (a % 281474976710656)

theorem bridge_is (a : Int) (ha : a < 2 ^ 63) : bpdu_Bridge.f a = some (bridge a) := by
  unfold bpdu_Bridge.f bridge
  by_cases h : a > 0
  · rw [if_pos h]
    by_cases h2 : a / 281474976710656 ≤ 15
    · rw [if_pos h2, and_48 _ (by omega) ha, many_is]; simp [h, h2]
    · rw [if_neg h2]; simp [h2]
  · rw [if_neg h]; simp [h]

theorem rbridge_is (a : Int) (ha : a < 2 ^ 63) : kissgateref08_Bridge.f a = some (bridge a) := by
  unfold kissgateref08_Bridge.f bridge
  by_cases h : a ≤ 0
  · rw [if_pos h]; have : ¬ 0 < a := by omega
    simp [this]
  · rw [if_neg h, Int.tdiv_eq_ediv_of_nonneg (by omega), Int.tmod_eq_emod_of_nonneg (by omega)]
    have e : wrap64 (a / 281474976710656) = a / 281474976710656 := by unfold wrap64; omega
    have h' : 0 < a := by omega
    rw [e]
    by_cases h2 : a / 281474976710656 > 15
    · rw [if_pos h2]; have : ¬ a / 281474976710656 ≤ 15 := by omega
      simp [this]
    · rw [if_neg h2, rmany_is]; have : a / 281474976710656 ≤ 15 := by omega
      simp [h', this]

def can (r m : Int) : Bool := decide (0 ≤ r ∧ r ≤ 15 ∧ 0 ≤ m ∧ m ≤ 281474976710655) && !many m
def name (r m : Int) : Int := if can r m = true then r * 281474976710656 + m else 0

theorem id_is (r m : Int) : bpdu_Id.f r m = some (name r m) := by
  unfold bpdu_Id.f name can
  by_cases h0 : r < 0
  · rw [if_pos h0]; have : ¬ 0 ≤ r := by omega
    simp [this]
  rw [if_neg h0]
  by_cases h1 : r > 15
  · rw [if_pos h1]; have : ¬ r ≤ 15 := by omega
    simp [this]
  rw [if_neg h1, good_is, many_is]; simp only [Option.bind_some]
  by_cases h2 : 0 ≤ m ∧ m ≤ 281474976710655
  · rw [if_pos (by simpa using h2)]
    cases hm : many m
    · have e : wrap64 (r * 281474976710656) = r * 281474976710656 := by unfold wrap64; omega
      rw [e, or_48 _ _ (by omega) (by omega) (by omega) h2.1 (by omega)]
      have h3 : 0 ≤ r := by omega
      have h4 : r ≤ 15 := by omega
      simp [h3, h4, h2]
    · simp
  · rw [if_neg (by simpa using h2)]
    have : ¬ (0 ≤ r ∧ r ≤ 15 ∧ 0 ≤ m ∧ m ≤ 281474976710655) := by omega
    simp [this]

theorem name_lt (r m : Int) : name r m < 2 ^ 63 := by
  unfold name can
  split
  · rename_i h; simp at h; omega
  · decide

theorem can_of (r m : Int) (h : name r m ≠ 0) : (0 ≤ r ∧ r ≤ 15 ∧ 0 ≤ m ∧ m ≤ 281474976710655) ∧ name r m = r * 281474976710656 + m := by
  unfold name at h ⊢
  split at h
  · rename_i hc; rw [if_pos hc]; unfold can at hc; simp at hc; exact ⟨by omega, rfl⟩
  · exact absurd rfl h

theorem alive_is : kissgatelaw08_alive.f = some true := by
  unfold kissgatelaw08_alive.f
  rw [id_is]; simp only [Option.bind_some]
  rw [if_pos (by decide), bridge_is _ (by decide)]
  decide

theorem j1_ok (a b c d x y : Int) (hx : x = name a b) (hy : y = name c d) : kissgatelaw08_BpduNames.j1 1 a b c d x y false = some true := by
  simp only [kissgatelaw08_BpduNames.j1]
  rw [if_neg (by decide)]
  by_cases hx0 : x = 0
  · rw [if_pos hx0]
  rw [if_neg hx0]
  by_cases hy0 : y = 0
  · rw [if_pos hy0]
  rw [if_neg hy0]
  obtain ⟨p1, p2⟩ := can_of a b (by rw [← hx]; exact hx0)
  obtain ⟨q1, q2⟩ := can_of c d (by rw [← hy]; exact hy0)
  by_cases hac : a = c
  · rw [if_pos hac]
    have e1 : (x == y) = (b == d) := by rw [Bool.eq_iff_iff]; simp; omega
    rw [if_pos (by rw [e1]; simp), if_neg (by omega)]
    congr 1
    rw [beq_iff_eq, decide_eq_decide]; omega
  · rw [if_neg hac]
    have e1 : (x == y) = false := by rw [beq_eq_false_iff_ne]; omega
    rw [if_pos (by rw [e1]; rfl)]
    by_cases hlt : a < c
    · rw [if_pos hlt]; congr 1; rw [beq_iff_eq, decide_eq_true_iff]; omega
    · rw [if_neg hlt]; congr 1; rw [beq_iff_eq, decide_eq_false_iff_not]; omega

theorem j0_ok (a b c d x y : Int) (g : Bool) (hb : b < 2 ^ 63) (hx : x = name a b) (hy : y = name c d) (hg : g = can a b) : kissgatelaw08_BpduNames.j0 2 a b c d x y g = some true := by
  simp only [kissgatelaw08_BpduNames.j0]
  have hlt : x < 2 ^ 63 := by rw [hx]; exact name_lt a b
  rw [bridge_is x hlt, rbridge_is x hlt, bridge_is b hb, rbridge_is b hb]
  simp only [Option.bind_some]
  have hj := j1_ok a b c d x y hx hy
  have e : ∀ t : Bool, (t != t) = false := fun t => by cases t <;> rfl
  rw [e, e]
  cases hc : can a b
  · rw [hg, hc, if_neg (by decide)]
    have : x = 0 := by rw [hx]; unfold name; rw [if_neg (by rw [hc]; decide)]
    rw [if_pos this, if_neg (by decide)]; exact hj
  · rw [hg, hc, if_pos rfl]
    have hxx : x = a * 281474976710656 + b := by rw [hx]; unfold name; rw [if_pos hc]
    unfold can at hc
    simp at hc
    rw [if_pos (by unfold wrap64; omega), if_neg (by decide)]; exact hj

theorem BpduNames : kissgatelaw08_BpduNames.Pure := by
  intro a0 a1 a2 a3 w0 w1 w2 w3
  have b1 := bounds_i64 w1
  refine ⟨2, ?_⟩
  unfold kissgatelaw08_BpduNames.f
  rw [alive_is]; simp only [Option.bind_some]
  rw [if_pos True.intro, id_is, id_is]; simp only [Option.bind_some]
  rw [rgood_is, rmany_is]; simp only [Option.bind_some]
  have J := fun g => j0_ok a0 a1 a2 a3 _ _ g (by omega) rfl rfl
  by_cases h0 : a0 ≥ 0
  · rw [if_pos h0]
    by_cases h1 : a0 ≤ 15
    · rw [if_pos h1]
      by_cases h2 : 0 ≤ a1 ∧ a1 ≤ 281474976710655
      · rw [if_pos (by simpa using h2)]
        exact J _ (by unfold can; simp [h2]; omega)
      · rw [if_neg (by simpa using h2)]
        exact J _ (by unfold can; symm; rw [Bool.and_eq_false_iff, decide_eq_false_iff_not]; left; omega)
    · rw [if_neg h1]
      exact J _ (by unfold can; symm; rw [Bool.and_eq_false_iff, decide_eq_false_iff_not]; left; omega)
  · rw [if_neg h0]
    exact J _ (by unfold can; symm; rw [Bool.and_eq_false_iff, decide_eq_false_iff_not]; left; omega)

end Go.Proofs.Ytjebdmfhnfbomaa.Pure
