/- The bisection over doubles: plain arithmetic; no condition. -/
import Derived.Test.YtfkehlhmephecaaFlt
namespace Go.Proofs.Ytfkehlhmephecaa.Flt
open Go.RowKit Ieee
theorem U_succ' (k : Nat) : U (k + 1) = U k + 2 ^ eo k := by rw [U_succ, Nat.add_mul, Nat.one_mul]; rfl
theorem eo_in {l k : Nat} (h0 : l ≤ k) (h1 : k < l + 4503599627370496) : eo l ≤ eo k ∧ eo k ≤ eo l + 1 := by unfold eo; omega
theorem U_low (l : Nat) : ∀ j, j ≤ 4503599627370496 → U l + j * 2 ^ eo l ≤ U (l + j) ∧ U (l + j) ≤ U l + j * 2 ^ (eo l + 1)
  | 0, _ => by simp
  | j + 1, h => by
    obtain ⟨a, b⟩ := U_low l j (by omega)
    obtain ⟨c, d⟩ := eo_in (l := l) (k := l + j) (by omega) (by omega)
    have e := U_succ' (l + j)
    have p1 := Nat.pow_le_pow_right (n := 2) (by decide) c
    have p2 := Nat.pow_le_pow_right (n := 2) (by decide) d
    rw [show l + (j + 1) = l + j + 1 by omega, e, Nat.add_mul, Nat.add_mul, Nat.one_mul, Nat.one_mul]
    omega
theorem U_high (l x h : Nat) (h0 : l ≤ x) (h1 : x ≤ h) (h2 : h ≤ l + 4503599627370496) : U x + (h - x) * 2 ^ eo l ≤ U h ∧ U h ≤ U x + (h - x) * 2 ^ (eo l + 1) := by
  obtain ⟨n, hn⟩ : ∃ n, h - x = n := ⟨_, rfl⟩
  rw [hn]
  induction n generalizing h with
  | zero => have : h = x := by omega
            subst this; simp
  | succ n ih =>
    obtain ⟨a, b⟩ := ih (h - 1) (by omega) (by omega) (by omega)
    obtain ⟨c, d⟩ := eo_in (l := l) (k := h - 1) (by omega) (by omega)
    have e := U_succ' (h - 1)
    rw [show h - 1 + 1 = h by omega] at e
    have p1 := Nat.pow_le_pow_right (n := 2) (by decide) c
    have p2 := Nat.pow_le_pow_right (n := 2) (by decide) d
    rw [e, Nat.add_mul, Nat.add_mul, Nat.one_mul, Nat.one_mul]
    omega
/-- The middle of two rungs, rounded. -/
theorem mid_in {A l h N : Nat} (hr : Rounds A 1 N) (hA : 2 * A = U l + U h) (hg : l + 2 ≤ h) : l < N ∧ N < h := by
  refine ⟨(hr l).2 (Or.inl ?_), ?_⟩
  · rw [th_eq, Nat.mul_one, hA]; have := U_lt (j := l + 1) (k := h) (by omega); omega
  · rcases Nat.lt_or_ge N h with c | c
    · exact c
    · have := (hr (h - 1)).1 (by omega)
      rw [th_eq, Nat.mul_one, hA, show h - 1 + 1 = h by omega] at this
      have := U_lt (j := l) (k := h - 1) (by omega)
      omega
theorem mid_end {A l N : Nat} (hr : Rounds A 1 N) (hA : 2 * A = U l + U (l + 1)) : N = l ∨ N = l + 1 := by
  have h1 : ¬ l + 2 ≤ N := by
    intro c
    have := (hr (l + 1)).1 c
    rw [th_eq, Nat.mul_one, hA] at this
    have := U_lt (j := l) (k := l + 1) (by omega); have := U_lt (j := l + 1) (k := l + 1 + 1) (by omega); omega
  have h2 : l ≤ N := by
    rcases Nat.eq_zero_or_pos l with c | c
    · omega
    · have := (hr (l - 1)).2 (Or.inl (by
        rw [th_eq, Nat.mul_one, hA, show l - 1 + 1 = l by omega]
        have := U_lt (j := l - 1) (k := l) (by omega); have := U_lt (j := l) (k := l + 1) (by omega); omega))
      omega
  omega
theorem mid_gap {A l h N : Nat} (hr : Rounds A 1 N) (hA : 2 * A = U l + U h) (hg : l + 2 ≤ h) (h52 : h ≤ l + 4503599627370496) : 3 * (N - l) ≤ 2 * (h - l) + 1 ∧ 3 * (h - N) ≤ 2 * (h - l) + 2 := by
  obtain ⟨hN0, hN1⟩ := mid_in hr hA hg
  have hd : 0 < 2 ^ eo l := Nat.two_pow_pos _
  have up := (hr (N - 1)).1 (by omega)
  rw [th_eq, Nat.mul_one, hA, show N - 1 + 1 = N by omega] at up
  have dn : ¬ (U N + U (N + 1) < U l + U h) := by
    intro c
    have := (hr N).2 (Or.inl (by rw [th_eq, Nat.mul_one, hA]; exact c))
    omega
  obtain ⟨a1, a2⟩ := U_high l l (N - 1) (Nat.le_refl _) (by omega) (by omega)
  obtain ⟨b1, b2⟩ := U_high l N h (by omega) (by omega) (by omega)
  obtain ⟨c1, c2⟩ := U_high l l (N + 1) (Nat.le_refl _) (by omega) (by omega)
  have e2 : 2 ^ (eo l + 1) = 2 * 2 ^ eo l := by rw [Nat.pow_succ]; omega
  rw [e2] at a2 b2 c2
  generalize 2 ^ eo l = d at *
  have m1 : (N - 1 - l) * d ≤ (h - N) * (2 * d) := by omega
  have m2 : (h - N) * d ≤ (N + 1 - l) * (2 * d) := by omega
  rw [show (h - N) * (2 * d) = (2 * (h - N)) * d by rw [← Nat.mul_assoc, Nat.mul_comm (h - N) 2]] at m1
  rw [show (N + 1 - l) * (2 * d) = (2 * (N + 1 - l)) * d by rw [← Nat.mul_assoc, Nat.mul_comm (N + 1 - l) 2]] at m2
  have m1' := Nat.le_of_mul_le_mul_right m1 hd
  have m2' := Nat.le_of_mul_le_mul_right m2 hd
  omega
/-- How wide a gap n rounds close. -/
def gap : Nat → Nat
  | 0 => 1
  | n + 1 => gap n + max 1 (gap n / 3)
theorem gap_140 : 4503599627370496 ≤ gap 140 := by decide +kernel
theorem gap_next {A l h N n : Nat} (hr : Rounds A 1 N) (hA : 2 * A = U l + U h) (hg : l + 2 ≤ h) (h52 : h ≤ l + 4503599627370496) (hn : h - l ≤ gap (n + 1)) : N - l ≤ gap n ∧ h - N ≤ gap n := by
  obtain ⟨hN0, hN1⟩ := mid_in hr hA hg
  obtain ⟨g1, g2⟩ := mid_gap hr hA hg h52
  rw [gap] at hn
  have : max 1 (gap n / 3) ≤ 1 ∨ max 1 (gap n / 3) ≤ gap n / 3 := by omega
  omega
theorem U_half (x : Nat) (h : 0 < eo x) : 2 * U (x - 4503599627370496) = U x := by
  have e : eo (x - 4503599627370496) = eo x - 1 := by unfold eo at h ⊢; omega
  have s : so (x - 4503599627370496) = so x := by unfold so; rw [e]; unfold eo at h ⊢; omega
  unfold U
  rw [e, s, show eo x = eo x - 1 + 1 by omega, Nat.pow_succ, Nat.add_sub_cancel]
  rw [Nat.mul_comm (2 ^ (eo x - 1)) 2, ← Nat.mul_assoc, ← Nat.mul_assoc, Nat.mul_comm 2 (so x)]
theorem div_two (x : Nat) (h : 0 < eo x) (hx : x < 9218868437227405312) : double.div x TWO = some (x - 4503599627370496) := by
  obtain ⟨N, hr, e⟩ := quotient_rounds x TWO (by unfold eo at h; omega) hx (by decide) (by decide)
  have hx1 : Rounds (U (x - 4503599627370496) * U TWO) (U TWO) (x - 4503599627370496) := Rounds.exact (U_pos _ (by decide))
  have hA : U x * 2 ^ ut = U (x - 4503599627370496) * U TWO := by rw [U_TWO, ← U_half x h, Nat.mul_comm 2 (U _), Nat.mul_assoc]
  rw [hA] at hr
  rw [e, hr.uniq hx1 (U_pos _ (by decide)), Nat.min_eq_left (by omega)]
theorem ofV_MAX : ofV 9218868437227405311 = 1 := by decide +kernel
def X1 : Nat := 9218868437227405311 - 1026 * 4503599627370496
theorem ofV_X1 : ofV X1 = 16777216 := by decide +kernel
theorem div_zero_two : double.div 0 TWO = some 0 := by decide +kernel
/-- The middle that the program takes: two halves, added. -/
def midV (l h : Nat) : Nat := (double.add ((double.div l TWO).getD 0) ((double.div h TWO).getD 0)).getD 0
theorem sum_rounds_b (x y : Nat) (hx0 : 0 < y) (hx : x < 9218868437227405312) (hy : y < 9218868437227405312) :
    ∃ N, Rounds (U x + U y) 1 N ∧ double.add x y = some (min N 9218868437227405312) := by
  unfold Format.add
  rw [read_fin x hx, read_fin y hy]
  unfold Datum.sum
  dsimp only
  rw [signed_pos, signed_pos]
  obtain ⟨b, hb, hbx, hby⟩ : ∃ b : Nat, min (-1074 + (eo x : Int)) (-1074 + (eo y : Int)) = -1074 + (b : Int) ∧ b ≤ eo x ∧ b ≤ eo y := ⟨min (eo x) (eo y), by omega, by omega⟩
  rw [hb]
  have e1 : (-1074 + (eo x : Int) - (-1074 + (b : Int))).toNat = eo x - b := by omega
  have e2 : (-1074 + (eo y : Int) - (-1074 + (b : Int))).toNat = eo y - b := by omega
  rw [e1, e2]
  have p1 : 0 < so y * 2 ^ (eo y - b) := Nat.mul_pos (so_pos y hx0) (Nat.two_pow_pos _)
  obtain ⟨a, ha⟩ : ∃ a, so x * 2 ^ (eo x - b) = a := ⟨_, rfl⟩
  obtain ⟨c, hc⟩ : ∃ c, so y * 2 ^ (eo y - b) = c := ⟨_, rfl⟩
  have u1 := U_base x b hbx
  have u2 := U_base y b hby
  rw [ha] at u1 ⊢
  rw [hc] at u2 p1 ⊢
  have e3 : (((a : Nat) : Int) + ((c : Nat) : Int)).natAbs = a + c := by omega
  have e4 : ¬ (((a : Nat) : Int) + ((c : Nat) : Int) = 0) := by omega
  have e5 : decide (((a : Nat) : Int) + ((c : Nat) : Int) < 0) = false := decide_eq_false (by omega)
  rw [e3, if_neg e4, e5]
  obtain ⟨N, hN, hw⟩ := nearest_int (U x + U y) (-1074 + (b : Int)) (a + c) (by omega) (by omega) (by
    rw [show (-1074 + (b : Int) + 1074).toNat = b by omega, ← u1, ← u2, Nat.add_mul])
  exact ⟨N, hN, by simp only [Option.map_some, Format.write, hw]⟩

theorem mid_zero (h : Nat) (he : 0 < eo h) (hh : h < 9218868437227405312) : double.add 0 (h - 4503599627370496) = some (h - 4503599627370496) := by
  obtain ⟨N, hr, e⟩ := sum_rounds_b 0 (h - 4503599627370496) (by unfold eo at he; omega) (by decide) (by omega)
  rw [U_zero, Nat.zero_add] at hr
  have hx1 : Rounds (U (h - 4503599627370496) * 1) 1 (h - 4503599627370496) := Rounds.exact (by decide)
  rw [Nat.mul_one] at hx1
  rw [e, hr.uniq hx1 (by decide), Nat.min_eq_left (by omega)]
theorem mid_two (l h : Nat) (hl : 0 < eo l) (hlh : l ≤ h) (hh : h < 9218868437227405312) : ∃ N, Rounds (U (l - 4503599627370496) + U (h - 4503599627370496)) 1 N ∧ double.add (l - 4503599627370496) (h - 4503599627370496) = some N ∧ l ≤ N ∧ N ≤ h := by
  have hh0 : 0 < eo h := by unfold eo at hl ⊢; omega
  obtain ⟨N, hr, e⟩ := sum_rounds (l - 4503599627370496) (h - 4503599627370496) (by unfold eo at hl; omega) (by omega) (by omega)
  have e1 := U_half l hl
  have e2 := U_half h hh0
  have e3 := U_le hlh
  have x1 : Rounds (U l * 1) 1 l := Rounds.exact (by decide)
  have x2 : Rounds (U h * 1) 1 h := Rounds.exact (by decide)
  have m1 := x1.mono hr (by decide) (by decide) (by omega)
  have m2 := hr.mono x2 (by decide) (by decide) (by omega)
  exact ⟨N, hr, by rw [e, Nat.min_eq_left (by omega)], m1, m2⟩
/-- What the program holds at its i-th round: low, high. -/
def Inv (c i l h : Nat) : Prop :=
  (l = 0 ∧ h = 9218868437227405311 - i * 4503599627370496 ∧ i ≤ 1026 ∧ ofV h < c) ∨
  (∃ n, X1 ≤ l ∧ l < h ∧ h ≤ 9218868437227405311 ∧ h ≤ l + 4503599627370496 ∧ h - l ≤ gap n ∧ c ≤ ofV l ∧ ofV h < c ∧ i + n ≤ 1500)
theorem inv_start (c : Nat) (h : 2 ≤ c) : Inv c 0 0 9218868437227405311 := Or.inl ⟨rfl, by omega, by omega, by rw [ofV_MAX]; omega⟩
/-- The end: neighbours. -/
def Ends (c l : Nat) : Prop := X1 ≤ l ∧ l + 1 ≤ 9218868437227405311 ∧ c ≤ ofV l ∧ ofV (l + 1) < c
theorem inv_step (c i l h : Nat) (h2 : 2 ≤ c) (hc : c ≤ 16777216) (H : Inv c i l h) :
    ∃ l' h' m, double.div l TWO = some l' ∧ double.div h TWO = some h' ∧ double.add l' h' = some m ∧ m ≤ 9218868437227405311 ∧ l ≤ 9218868437227405311 ∧ h ≤ 9218868437227405311 ∧ i ≤ 1500 ∧
      ((m ≤ l ∨ h ≤ m) → Ends c l) ∧ (¬ (m ≤ l ∨ h ≤ m) → 0 < m ∧ (c ≤ ofV m → Inv c (i + 1) m h) ∧ (¬ c ≤ ofV m → Inv c (i + 1) l m)) := by
  have hX : X1 = 4598175219545276415 := by decide
  rcases H with ⟨rfl, hh, hi, hv⟩ | ⟨n, hl, hlh, hh, h52, hg, cl, ch, hin⟩
  · have he : 0 < eo h := by unfold eo; omega
    have hlt : i < 1026 := by
      rcases Nat.lt_or_ge i 1026 with k | k
      · exact k
      · exfalso
        have : h = X1 := by rw [hX]; omega
        rw [this, ofV_X1] at hv; omega
    refine ⟨0, h - 4503599627370496, h - 4503599627370496, div_zero_two, div_two h he (by omega), mid_zero h he (by omega), by omega, by omega, by omega, by omega, fun k => by exfalso; omega, fun _ => ⟨by omega, fun k => Or.inr ⟨140, by omega, by omega, by omega, by omega, ?_, k, hv, by omega⟩, fun k => Or.inl ⟨rfl, by omega, by omega, by omega⟩⟩⟩
    have := gap_140; omega
  · have he : 0 < eo l := by unfold eo; omega
    have he2 : 0 < eo h := by unfold eo; omega
    obtain ⟨N, hr, e, n1, n2⟩ := mid_two l h he (by omega) (by omega)
    have hA : 2 * (U (l - 4503599627370496) + U (h - 4503599627370496)) = U l + U h := by rw [Nat.mul_add, U_half l he, U_half h he2]
    refine ⟨l - 4503599627370496, h - 4503599627370496, N, div_two l he (by omega), div_two h he2 (by omega), e, by omega, by omega, hh, by omega, ?_, ?_⟩
    · intro k
      have : h = l + 1 := by
        rcases Nat.lt_or_ge (l + 1) h with q | q
        · have := mid_in hr hA q; omega
        · omega
      subst this
      exact ⟨hl, hh, cl, ch⟩
    · intro k
      have q : l + 2 ≤ h := by omega
      obtain ⟨s1, s2⟩ := mid_in hr hA q
      cases n with
      | zero => exfalso; have : gap 0 = 1 := rfl; omega
      | succ n =>
        obtain ⟨g1, g2⟩ := gap_next hr hA q h52 hg
        exact ⟨by omega, fun k => Or.inr ⟨n, by omega, s2, hh, by omega, g2, k, ch, by omega⟩, fun k => Or.inr ⟨n, hl, s1, by omega, by omega, g1, cl, by omega, by omega⟩⟩
end Go.Proofs.Ytfkehlhmephecaa.Flt
