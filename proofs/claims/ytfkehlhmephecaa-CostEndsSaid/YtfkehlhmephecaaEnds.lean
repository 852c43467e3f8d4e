/- The product of doubles, and the next rung behind a small factor: plain arithmetic; no condition. -/
import Derived.Test.YtfkehlhmephecaaSpd
namespace Go.Proofs.Ytfkehlhmephecaa.Flt
open Go.RowKit Ieee
theorem product_rounds (x y : Nat) (hx0 : 0 < x) (hx : x < 9218868437227405312) (hy0 : 0 < y) (hy : y < 9218868437227405312) :
    ∃ N, Rounds (U x * U y) (2 ^ ut) N ∧ double.mul x y = some (min N 9218868437227405312) := by
  have hut := ut_eq
  unfold Format.mul
  rw [read_fin x hx, read_fin y hy]
  unfold Datum.product
  dsimp only
  have hh : so x * so y * 2 ^ (-1074 + (eo x : Int) + (-1074 + (eo y : Int)) + 1074).toNat * 2 ^ ut = U x * U y * 2 ^ (-1074 - (-1074 + (eo x : Int) + (-1074 + (eo y : Int)))).toNat := by
    have z : 2 ^ (-1074 + (eo x : Int) + (-1074 + (eo y : Int)) + 1074).toNat * 2 ^ ut = 2 ^ eo x * 2 ^ eo y * 2 ^ (-1074 - (-1074 + (eo x : Int) + (-1074 + (eo y : Int)))).toNat := by
      rw [← Nat.pow_add, ← Nat.pow_add, ← Nat.pow_add]; congr 1; omega
    rw [Nat.mul_assoc, z]; unfold U; ac_rfl
  obtain ⟨N, hN, hw⟩ := nearest_rounds (false ^^ false) (so x * so y) (-1074 + (eo x : Int) + (-1074 + (eo y : Int))) (Nat.mul_pos (so_pos x hx0) (so_pos y hy0)) (U x * U y) (2 ^ ut) (Nat.two_pow_pos _) hh
  exact ⟨N, hN, congrArg some hw⟩
def KF : Nat := 4607182419250377371
def EF : Nat := 4472406533629990549
set_option exponentiation.threshold 2000 in
theorem ends_next (l : Nat) (h0 : X1 ≤ l) (h1 : l + 1 ≤ 9218868437227405311) : ∃ p t, double.mul l KF = some p ∧ double.add p EF = some t ∧ l + 1 ≤ t ∧ t ≤ 9218868437227405312 := by
  have hX : X1 = 4598175219545276415 := by decide
  obtain ⟨N, hr, e⟩ := product_rounds l KF (by omega) (by omega) (by decide) (by decide)
  have hge : 4503599627370496 ≤ so l := so_ge l (by unfold eo; omega)
  have x1 : Rounds (U (l + 1) * 2 ^ ut) (2 ^ ut) (l + 1) := Rounds.exact (Nat.two_pow_pos _)
  have hU : U KF = (4503599627370496 + 450359963) * 2 ^ 1022 := by
    have hs : so KF = 4503599627370496 + 450359963 := by decide
    have he : eo KF = 1022 := by decide
    unfold U; rw [hs, he]
  have hm := x1.mono hr (Nat.two_pow_pos _) (Nat.two_pow_pos _) (by
    refine Nat.mul_le_mul_right _ ?_
    rw [hU, show ut = 52 + 1022 by rfl, Nat.pow_add, U_succ, show (2 : Nat) ^ 52 = 4503599627370496 by decide]
    unfold U
    generalize 2 ^ 1022 = Z
    generalize 2 ^ eo l = Y
    have k : (so l + 1) * 4503599627370496 ≤ so l * (4503599627370496 + 450359963) := by omega
    have := Nat.mul_le_mul_right (Y * Z) k
    calc (so l + 1) * Y * (4503599627370496 * Z) = (so l + 1) * 4503599627370496 * (Y * Z) := by ac_rfl
      _ ≤ so l * (4503599627370496 + 450359963) * (Y * Z) := this
      _ = so l * Y * ((4503599627370496 + 450359963) * Z) := by ac_rfl)
  rcases Nat.lt_or_ge N 9218868437227405312 with c | c
  · obtain ⟨M, hr2, e2⟩ := sum_rounds N EF (by omega) c (by decide)
    have x2 : Rounds (U N * 1) 1 N := Rounds.exact (by decide)
    have m2 := x2.mono hr2 (by decide) (by decide) (by omega)
    exact ⟨N, _, by rw [e, Nat.min_eq_left (by omega)], e2, by omega, by omega⟩
  · exact ⟨9218868437227405312, 9218868437227405312, by rw [e, Nat.min_eq_right c], add_inf EF (by decide), by omega, by omega⟩
end Go.Proofs.Ytfkehlhmephecaa.Flt
