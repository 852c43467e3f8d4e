/- Rounding of doubles, and the cost of a speed: plain arithmetic over the model's floats; no condition. -/
import Ieee.Arith
import Derived.WalkLawsBesides
import Derived.Laws.Externs
namespace Go.Proofs.Ytfkehlhmephecaa.Flt
open Ieee

/-- Of a rung: the power of two and the significand. -/
def eo (k : Nat) : Nat := k / 4503599627370496 - 1
def so (k : Nat) : Nat := k - eo k * 4503599627370496
/-- A rung's value, in units of the least number. -/
def U (k : Nat) : Nat := so k * 2 ^ eo k

theorem so_eq (k : Nat) : k = eo k * 4503599627370496 + so k := by unfold so eo; omega
theorem so_lt (k : Nat) : so k < 9007199254740992 := by unfold so eo; omega
theorem so_ge (k : Nat) (h : 0 < eo k) : 4503599627370496 ≤ so k := by unfold so; unfold eo at h ⊢; omega
theorem so_zero (k : Nat) (h : eo k = 0) : so k = k := by unfold so; rw [h]; omega
theorem so_par (k : Nat) : so k % 2 = k % 2 := by have := so_eq k; omega
theorem so_pos (k : Nat) (h : 0 < k) : 0 < so k := by unfold so eo; omega
theorem U_pos (k : Nat) (h : 0 < k) : 0 < U k := Nat.mul_pos (so_pos k h) (Nat.two_pow_pos _)
theorem U_zero : U 0 = 0 := by decide

theorem U_succ (k : Nat) : U (k + 1) = (so k + 1) * 2 ^ eo k := by
  by_cases h : eo (k + 1) = eo k
  · have h2 : so (k + 1) = so k + 1 := by unfold so; rw [h]; unfold eo; omega
    unfold U; rw [h, h2]
  · have h1 : eo (k + 1) = eo k + 1 := by unfold eo at h ⊢; omega
    have h2 : so (k + 1) = 4503599627370496 := by unfold so; unfold eo at h ⊢; omega
    have h3 : so k + 1 = 9007199254740992 := by unfold so; unfold eo at h ⊢; omega
    unfold U; rw [h1, h2, h3, Nat.pow_succ, Nat.mul_comm (2 ^ eo k) 2, ← Nat.mul_assoc]
theorem U_step (k : Nat) : U k < U (k + 1) := by
  rw [U_succ]; unfold U
  exact Nat.mul_lt_mul_of_pos_right (Nat.lt_succ_self _) (Nat.two_pow_pos _)
theorem U_lt {j k : Nat} (h : j < k) : U j < U k := by
  induction k with
  | zero => omega
  | succ k ih =>
    by_cases e : j = k
    · subst e; exact U_step j
    · exact Nat.lt_trans (ih (by omega)) (U_step k)
theorem U_le {j k : Nat} (h : j ≤ k) : U j ≤ U k := by
  rcases Nat.lt_or_eq_of_le h with h | h
  · exact Nat.le_of_lt (U_lt h)
  · subst h; exact Nat.le_refl _
theorem U_lt_iff {j k : Nat} : U j < U k ↔ j < k := ⟨fun h => by rcases Nat.lt_or_ge j k with h1 | h1; exact h1; exact absurd h (Nat.not_lt.2 (U_le h1)), U_lt⟩
theorem U_inj {j k : Nat} (h : U j = U k) : j = k := by
  rcases Nat.lt_trichotomy j k with h1 | h1 | h1
  · have := U_lt h1; omega
  · exact h1
  · have := U_lt h1; omega

/-- The units of 1: 2 ^ ut. -/
def ut : Nat := 1074
theorem ut_eq : ut = 1074 := rfl

/-- Twice the place between a rung and the next one. -/
def th (k : Nat) : Nat := (2 * so k + 1) * 2 ^ eo k
theorem th_eq (k : Nat) : th k = U k + U (k + 1) := by
  rw [U_succ]; unfold th U; rw [← Nat.add_mul]; congr 1; omega

/-- N is A / B (in units), rounded. -/
def Rounds (A B N : Nat) : Prop := ∀ k, k + 1 ≤ N ↔ (th k * B < 2 * A ∨ (th k * B = 2 * A ∧ k % 2 = 1))

theorem Rounds.mono {A1 B1 N1 A2 B2 N2 : Nat} (h1 : Rounds A1 B1 N1) (h2 : Rounds A2 B2 N2) (b1 : 0 < B1) (b2 : 0 < B2) (h : A1 * B2 ≤ A2 * B1) : N1 ≤ N2 := by
  rcases Nat.eq_zero_or_pos N1 with h0 | h0
  · omega
  obtain ⟨k, rfl⟩ : ∃ k, N1 = k + 1 := ⟨N1 - 1, by omega⟩
  refine (h2 k).2 ?_
  have e1 : th k * B2 * B1 = th k * B1 * B2 := Nat.mul_right_comm _ _ _
  have e3 : 2 * A1 * B2 ≤ 2 * A2 * B1 := by rw [Nat.mul_assoc, Nat.mul_assoc]; omega
  rcases (h1 k).1 (Nat.le_refl _) with h3 | ⟨h3, h4⟩
  · left
    have : th k * B1 * B2 < 2 * A1 * B2 := Nat.mul_lt_mul_of_pos_right h3 b2
    exact Nat.lt_of_mul_lt_mul_right (a := B1) (by omega)
  · have : th k * B1 * B2 = 2 * A1 * B2 := by rw [h3]
    have h5 : th k * B2 ≤ 2 * A2 := Nat.le_of_mul_le_mul_right (c := B1) (by omega) b1
    rcases Nat.lt_or_eq_of_le h5 with h6 | h6
    · exact .inl h6
    · exact .inr ⟨h6, h4⟩
theorem Rounds.uniq {A B N M : Nat} (h1 : Rounds A B N) (h2 : Rounds A B M) (b : 0 < B) : N = M :=
  Nat.le_antisymm (h1.mono h2 b b (Nat.le_refl _)) (h2.mono h1 b b (Nat.le_refl _))
theorem Rounds.exact {r B : Nat} (b : 0 < B) : Rounds (U r * B) B r := by
  intro k
  rw [th_eq, ← Nat.mul_assoc]
  have s1 := U_step k
  constructor
  · intro h
    left
    have := U_le h
    exact Nat.mul_lt_mul_of_pos_right (by omega) b
  · intro h
    have h1 : (U k + U (k + 1)) * B ≤ 2 * U r * B := by rcases h with h | h <;> omega
    have h2 := Nat.le_of_mul_le_mul_right h1 b
    rcases Nat.lt_or_ge k r with h3 | h3
    · exact h3
    · have := U_le h3; omega

/-- Half to even. -/
def rhe (n g : Nat) : Nat := n / g + (if g < 2 * (n % g) ∨ (g = 2 * (n % g) ∧ n / g % 2 = 1) then 1 else 0)
theorem rhe_iff (n g k : Nat) (hg : 0 < g) : k + 1 ≤ rhe n g ↔ ((2 * k + 1) * g < 2 * n ∨ ((2 * k + 1) * g = 2 * n ∧ k % 2 = 1)) := by
  have hn : g * (n / g) + n % g = n := Nat.div_add_mod n g
  have hr : n % g < g := Nat.mod_lt _ hg
  unfold rhe
  generalize n / g = q at *
  generalize n % g = r at *
  have e : (2 * k + 1) * g = 2 * (g * k) + g := by rw [Nat.add_mul, Nat.one_mul, Nat.mul_assoc, Nat.mul_comm k g]
  rw [e]
  rcases Nat.lt_trichotomy k q with h | h | h
  · have h1 : g * (k + 1) ≤ g * q := Nat.mul_le_mul_left g h
    rw [Nat.mul_add, Nat.mul_one] at h1
    constructor
    · intro _; left; omega
    · intro _; omega
  · subst h
    by_cases c : g < 2 * r ∨ (g = 2 * r ∧ k % 2 = 1)
    · rw [if_pos c]
      constructor
      · intro _; rcases c with c | ⟨c, d⟩
        · left; omega
        · right; exact ⟨by omega, d⟩
      · intro _; omega
    · rw [if_neg c]
      constructor
      · intro h; omega
      · intro h; refine absurd ?_ c; rcases h with h | ⟨h, d⟩
        · left; omega
        · right; exact ⟨by omega, d⟩
  · have h1 : g * (q + 1) ≤ g * k := Nat.mul_le_mul_left g h
    rw [Nat.mul_add, Nat.mul_one] at h1
    constructor
    · intro h2; split at h2 <;> omega
    · intro h2; exfalso; rcases h2 with h2 | h2 <;> omega

theorem cut_even (neg : Bool) (n drop : Nat) : Toward.even.cut neg n drop = rhe n (2 ^ drop) := by
  unfold Toward.cut rhe
  rw [Nat.one_shiftLeft]
  by_cases h : drop ≤ n.log2 + 2
  · rw [Nat.min_eq_left h]
    dsimp only
    congr 1
    by_cases c : 2 ^ drop < 2 * (n % 2 ^ drop) ∨ (2 ^ drop = 2 * (n % 2 ^ drop) ∧ n / 2 ^ drop % 2 = 1)
    · rw [if_pos c]
      have : (decide (2 ^ drop < 2 * (n % 2 ^ drop)) || (2 ^ drop == 2 * (n % 2 ^ drop) && n / 2 ^ drop % 2 == 1)) = true := by simpa using c
      rw [this]; rfl
    · rw [if_neg c]
      have : (decide (2 ^ drop < 2 * (n % 2 ^ drop)) || (2 ^ drop == 2 * (n % 2 ^ drop) && n / 2 ^ drop % 2 == 1)) = false := by
        rw [Bool.eq_false_iff]; intro h2; exact c (by simpa using h2)
      rw [this]; rfl
  · rw [Nat.min_eq_right (by omega)]
    have h1 : n < 2 ^ (n.log2 + 1) := Nat.lt_log2_self
    have h2 : 2 ^ (n.log2 + 2) = 2 * 2 ^ (n.log2 + 1) := by rw [Nat.pow_succ 2 (n.log2 + 1), Nat.mul_comm]
    have h3 : 2 ^ (n.log2 + 2) ≤ 2 ^ drop := Nat.pow_le_pow_right (by omega) (by omega)
    have a1 : n / 2 ^ (n.log2 + 2) = 0 := Nat.div_eq_of_lt (by omega)
    have a2 : n % 2 ^ (n.log2 + 2) = n := Nat.mod_eq_of_lt (by omega)
    have a3 : n / 2 ^ drop = 0 := Nat.div_eq_of_lt (by omega)
    have a4 : n % 2 ^ drop = n := Nat.mod_eq_of_lt (by omega)
    dsimp only
    rw [a1, a2, a3, a4]
    rw [if_neg (by omega)]
    have b1 : decide (2 ^ (n.log2 + 2) < 2 * n) = false := decide_eq_false (by omega)
    have b2 : (2 ^ (n.log2 + 2) == 2 * n) = false := beq_eq_false_iff_ne.mpr (by omega)
    rw [b1, b2]; rfl

theorem scaled {A B M G L : Nat} (hB : 0 < B) (hG : 0 < G) (h : M * 2 ^ L * B = A * G) (k : Nat) :
    (th k * B < 2 * A ↔ (2 * so k + 1) * 2 ^ eo k * G < 2 * M * 2 ^ L) ∧ (th k * B = 2 * A ↔ (2 * so k + 1) * 2 ^ eo k * G = 2 * M * 2 ^ L) := by
  have e1 : th k * B * G = (2 * so k + 1) * 2 ^ eo k * G * B := by unfold th; exact Nat.mul_right_comm _ _ _
  have e2 : 2 * A * G = 2 * M * 2 ^ L * B := by rw [Nat.mul_assoc, ← h, Nat.mul_assoc 2 M, Nat.mul_assoc 2]
  generalize (2 * so k + 1) * 2 ^ eo k * G = X at *
  generalize 2 * M * 2 ^ L = Y at *
  generalize th k * B = Z at *
  generalize 2 * A = C at *
  constructor
  · rw [← Nat.mul_lt_mul_right hG, e1, e2, Nat.mul_lt_mul_right hB]
  · rw [← Nat.mul_left_inj (Nat.pos_iff_ne_zero.1 hG), e1, e2, Nat.mul_left_inj (Nat.pos_iff_ne_zero.1 hB)]

theorem rhe_le {M G C : Nat} (hG : 0 < G) (h : M < C * G) : rhe M G ≤ C := by
  rcases Nat.lt_or_ge C (rhe M G) with h1 | h1
  · have h2 := (rhe_iff M G C hG).1 h1
    have e : (2 * C + 1) * G = 2 * (C * G) + G := by rw [Nat.add_mul, Nat.one_mul, Nat.mul_assoc]
    rw [e] at h2
    omega
  · exact h1
theorem rhe_ge {M G C : Nat} (hG : 0 < G) (h : C * G ≤ M) : C ≤ rhe M G := by
  rcases Nat.eq_zero_or_pos C with h0 | h0
  · omega
  obtain ⟨c, rfl⟩ : ∃ c, C = c + 1 := ⟨C - 1, by omega⟩
  refine (rhe_iff M G c hG).2 (.inl ?_)
  have e : (2 * c + 1) * G = 2 * (c * G) + G := by rw [Nat.add_mul, Nat.one_mul, Nat.mul_assoc]
  rw [Nat.add_mul, Nat.one_mul] at h
  rw [e]
  omega
theorem rounds_of {A B M G L : Nat} (hB : 0 < B) (hG : 0 < G) (h : M * 2 ^ L * B = A * G) (h53 : M < 9007199254740992 * G) (h52 : 0 < L → 4503599627370496 * G ≤ M) :
    Rounds A B (L * 4503599627370496 + rhe M G) := by
  intro k
  rw [(scaled hB hG h k).1, (scaled hB hG h k).2]
  have hK : rhe M G ≤ 9007199254740992 := rhe_le hG h53
  have hK2 : 0 < L → 4503599627370496 ≤ rhe M G := fun hl => rhe_ge hG (h52 hl)
  have hk := so_eq k
  have hs := so_lt k
  have hpL : 0 < 2 ^ L := Nat.two_pow_pos _
  have hpe : 0 < 2 ^ eo k := Nat.two_pow_pos _
  rcases Nat.lt_trichotomy (eo k) L with c | c | c
  · constructor
    · intro _; left
      have h3 := h52 (by omega)
      have e : 2 ^ L = 2 ^ eo k * 2 ^ (L - eo k) := by rw [← Nat.pow_add]; congr 1; omega
      have e2 : 2 ≤ 2 ^ (L - eo k) := Nat.le_trans (by decide : 2 ≤ 2 ^ 1) (Nat.pow_le_pow_right (by omega) (by omega))
      have h4 : (2 * so k + 1) * G < 2 * M * 2 ^ (L - eo k) := by
        have x1 : (2 * so k + 1) * G ≤ 18014398509481983 * G := Nat.mul_le_mul_right _ (by omega)
        have x2 : 2 * M * 2 ≤ 2 * M * 2 ^ (L - eo k) := Nat.mul_le_mul_left _ e2
        omega
      have h5 := Nat.mul_lt_mul_of_pos_right h4 hpe
      rw [e, Nat.mul_right_comm]
      rw [show 2 * M * (2 ^ eo k * 2 ^ (L - eo k)) = 2 * M * 2 ^ (L - eo k) * 2 ^ eo k from by ac_rfl]
      exact h5
    · intro _
      have := hK2 (by omega)
      omega
  · rw [c] at hk ⊢
    have e1 : (2 * so k + 1) * 2 ^ L * G = (2 * so k + 1) * G * 2 ^ L := Nat.mul_right_comm _ _ _
    rw [e1, Nat.mul_lt_mul_right hpL, Nat.mul_left_inj (Nat.pos_iff_ne_zero.1 hpL), ← so_par k, ← rhe_iff M G (so k) hG]
    omega
  · constructor
    · intro hh; exfalso
      have := so_ge k (by omega)
      omega
    · intro hh; exfalso
      have h3 := so_ge k (by omega)
      have e : 2 ^ eo k = 2 ^ L * 2 ^ (eo k - L) := by rw [← Nat.pow_add]; congr 1; omega
      have e2 : 2 ≤ 2 ^ (eo k - L) := Nat.le_trans (by decide : 2 ≤ 2 ^ 1) (Nat.pow_le_pow_right (by omega) (by omega))
      have h4 : 2 * M < (2 * so k + 1) * 2 ^ (eo k - L) * G := by
        have x1 : 9007199254740993 * 2 ≤ (2 * so k + 1) * 2 ^ (eo k - L) := Nat.mul_le_mul (by omega) e2
        have x2 : 9007199254740993 * 2 * G ≤ (2 * so k + 1) * 2 ^ (eo k - L) * G := Nat.mul_le_mul_right _ x1
        omega
      have h5 := Nat.mul_lt_mul_of_pos_right h4 hpL
      have e3 : (2 * so k + 1) * 2 ^ (eo k - L) * G * 2 ^ L = (2 * so k + 1) * 2 ^ eo k * G := by
        rw [e, Nat.mul_right_comm _ G, Nat.mul_assoc (2 * so k + 1), Nat.mul_comm (2 ^ (eo k - L))]
      rw [e3] at h5
      rcases hh with hh | ⟨hh, _⟩ <;> omega

theorem nearest_rounds (neg : Bool) (mag : Nat) (place : Int) (hm : 0 < mag) (A B : Nat) (hB : 0 < B)
    (h : mag * 2 ^ (place + 1074).toNat * B = A * 2 ^ (-1074 - place).toNat) :
    ∃ N, Rounds A B N ∧ double.nearest neg mag place = double.word neg (min N 9218868437227405312) := by
  have hl1 : 2 ^ mag.log2 ≤ mag := Nat.log2_self_le (Nat.pos_iff_ne_zero.1 hm)
  have hl2 : mag < 2 ^ (mag.log2 + 1) := Nat.lt_log2_self
  have hlp : double.leastPlace = -1074 := by decide
  have hir : double.infRung = 9218868437227405312 := by decide
  have hbi : double.binade = 4503599627370496 := by decide
  have hfb : (double.fractionBits : Int) = 52 := rfl
  unfold Format.nearest
  rw [if_neg (Nat.pos_iff_ne_zero.1 hm)]
  dsimp only
  rw [hlp, hir, hbi, hfb]
  generalize mag.log2 = lg at *
  obtain ⟨last, hlast⟩ : ∃ last, max (place + (lg : Int) - 52) (-1074) = last := ⟨_, rfl⟩
  rw [hlast, cut_even, Nat.shiftLeft_eq]
  have d1 : last = place + lg - 52 ∨ (last = -1074 ∧ place + lg - 52 ≤ -1074) := by omega
  have d2 : -1074 ≤ last := by omega
  clear hlast hlp hir hbi hfb
  obtain ⟨L, hL⟩ : ∃ L : Nat, (last - -1074).toNat = L := ⟨_, rfl⟩
  rw [hL]
  refine ⟨_, rounds_of (M := mag * 2 ^ (place - last).toNat) (G := 2 ^ (last - place).toNat) hB (Nat.two_pow_pos _) ?_ ?_ ?_, rfl⟩
  · by_cases c : last ≤ place
    · have x1 : (last - place).toNat = 0 := by omega
      have x2 : (-1074 - place).toNat = 0 := by omega
      have x3 : (place + 1074).toNat = (place - last).toNat + L := by omega
      rw [x2, x3, Nat.pow_add, ← Nat.mul_assoc] at h
      rw [x1, h]
    · have x1 : (place - last).toNat = 0 := by omega
      rw [x1, Nat.pow_zero, Nat.mul_one]
      by_cases c2 : -1074 ≤ place
      · have x2 : (-1074 - place).toNat = 0 := by omega
        have x3 : L = (place + 1074).toNat + (last - place).toNat := by omega
        rw [x2, Nat.pow_zero, Nat.mul_one] at h
        rw [x3, Nat.pow_add, ← h, ← Nat.mul_assoc, Nat.mul_right_comm]
      · have x2 : (place + 1074).toNat = 0 := by omega
        have x3 : (last - place).toNat = (-1074 - place).toNat + L := by omega
        rw [x2, Nat.pow_zero, Nat.mul_one] at h
        rw [x3, Nat.pow_add, ← Nat.mul_assoc, ← h, Nat.mul_right_comm]
  · by_cases c : last ≤ place
    · have x1 : (last - place).toNat = 0 := by omega
      rw [x1, Nat.pow_zero, Nat.mul_one]
      have y : 2 ^ (lg + 1) * 2 ^ (place - last).toNat ≤ 2 ^ 53 := by rw [← Nat.pow_add]; exact Nat.pow_le_pow_right (by omega) (by omega)
      exact Nat.lt_of_lt_of_le (Nat.mul_lt_mul_of_pos_right hl2 (Nat.two_pow_pos _)) y
    · have x1 : (place - last).toNat = 0 := by omega
      rw [x1, Nat.pow_zero, Nat.mul_one]
      have y : 2 ^ (lg + 1) ≤ 2 ^ 53 * 2 ^ (last - place).toNat := by rw [← Nat.pow_add]; exact Nat.pow_le_pow_right (by omega) (by omega)
      exact Nat.lt_of_lt_of_le hl2 y
  · intro hp
    by_cases c : last ≤ place
    · have x1 : (last - place).toNat = 0 := by omega
      rw [x1, Nat.pow_zero, Nat.mul_one]
      have y : 2 ^ 52 ≤ 2 ^ lg * 2 ^ (place - last).toNat := by rw [← Nat.pow_add]; exact Nat.pow_le_pow_right (by omega) (by omega)
      exact Nat.le_trans y (Nat.mul_le_mul_right _ hl1)
    · have x1 : (place - last).toNat = 0 := by omega
      rw [x1, Nat.pow_zero, Nat.mul_one]
      have y : 2 ^ 52 * 2 ^ (last - place).toNat ≤ 2 ^ lg := by rw [← Nat.pow_add]; exact Nat.pow_le_pow_right (by omega) (by omega)
      exact Nat.le_trans y hl1

/-! ### Words -/
theorem dlp : double.leastPlace = -1074 := by decide
theorem dir : double.infRung = 9218868437227405312 := by decide
theorem dbi : double.binade = 4503599627370496 := by decide
theorem dsw : double.signWeight = 9223372036854775808 := by decide
theorem word_pos (r : Nat) : double.word false r = r := rfl

/-- A finite word that is not negative. -/
theorem read_fin (r : Nat) (h : r < 9218868437227405312) : double.read r = .number false (so r) (-1074 + (eo r : Int)) := by
  unfold Format.read
  rw [dsw, dbi, dir, dlp]
  have e1 : r / 9223372036854775808 = 0 := Nat.div_eq_of_lt (by omega)
  have e2 : r % 9223372036854775808 = r := Nat.mod_eq_of_lt (by omega)
  rw [e1, e2]
  dsimp only
  by_cases c : r < 4503599627370496
  · rw [if_pos c]
    have h1 : eo r = 0 := by unfold eo; omega
    have h2 : so r = r := so_zero r h1
    rw [h1, h2]; rfl
  · rw [if_neg c, if_pos h]
    have h1 : eo r = r / 4503599627370496 - 1 := rfl
    have h2 : so r = 4503599627370496 + r % 4503599627370496 := by unfold so eo; omega
    rw [h1, h2]; rfl
theorem read_inf : double.read 9218868437227405312 = .infinity false := by
  unfold Format.read
  rw [dsw, dbi, dir]; decide

/-- What a word that is not above nought, or is no number, is. -/
theorem read_rest (x : Nat) (hx : x < 18446744073709551616) (h : ¬ (0 < x ∧ x ≤ 9218868437227405312)) :
    (∃ m p, double.read x = .number true m p) ∨ double.read x = .infinity true ∨ (∃ s t, double.read x = .nan s t) ∨ x = 0 := by
  by_cases h0 : x = 0
  · exact .inr (.inr (.inr h0))
  unfold Format.read
  rw [dsw, dbi, dir]
  dsimp only
  by_cases hn : x / 9223372036854775808 % 2 = 1
  · rw [show (x / 9223372036854775808 % 2 == 1) = true from beq_iff_eq.mpr hn]
    by_cases c : x % 9223372036854775808 < 4503599627370496
    · rw [if_pos c]; exact .inl ⟨_, _, rfl⟩
    · rw [if_neg c]
      by_cases c2 : x % 9223372036854775808 < 9218868437227405312
      · rw [if_pos c2]; exact .inl ⟨_, _, rfl⟩
      · rw [if_neg c2]
        by_cases c3 : x % 9223372036854775808 = 9218868437227405312
        · rw [if_pos c3]; exact .inr (.inl rfl)
        · rw [if_neg c3]; exact .inr (.inr (.inl ⟨_, _, rfl⟩))
  · have e1 : x / 9223372036854775808 = 0 := by omega
    have e2 : x % 9223372036854775808 = x := Nat.mod_eq_of_lt (by omega)
    rw [e2, if_neg (by omega), if_neg (by omega), if_neg (by omega)]
    exact .inr (.inr (.inl ⟨_, _, rfl⟩))

theorem signed_pos (m up : Nat) : signed false m up = ((m * 2 ^ up : Nat) : Int) := by
  unfold signed; rw [if_neg (by decide), Nat.shiftLeft_eq]

/-- The order of words that are not negative is that of their rungs. -/
theorem order_pos (x y : Nat) (hx : x ≤ 9218868437227405312) (hy : y ≤ 9218868437227405312) : double.order x y = some (compare x y) := by
  unfold Format.order
  rcases Nat.lt_or_eq_of_le hx with hx | hx <;> rcases Nat.lt_or_eq_of_le hy with hy | hy
  · rw [read_fin x hx, read_fin y hy]
    unfold Datum.order
    dsimp only
    rw [signed_pos, signed_pos]
    have hc : ∀ a b : Nat, (compare (a : Int) (b : Int)) = compare a b := by
      intro a b
      rcases Nat.lt_trichotomy a b with h | h | h
      · rw [Nat.compare_eq_lt.2 h]; exact Int.compare_eq_lt.2 (by omega)
      · rw [Nat.compare_eq_eq.2 h]; exact Int.compare_eq_eq.2 (by omega)
      · rw [Nat.compare_eq_gt.2 h]; exact Int.compare_eq_gt.2 (by omega)
    rw [hc]
    obtain ⟨b, hb, hb2⟩ : ∃ b : Nat, min (-1074 + (eo x : Int)) (-1074 + (eo y : Int)) = -1074 + (b : Int) ∧ b ≤ eo x ∧ b ≤ eo y := ⟨min (eo x) (eo y), by omega, by omega⟩
    rw [hb]
    have e1 : (-1074 + (eo x : Int) - (-1074 + (b : Int))).toNat = eo x - b := by omega
    have e2 : (-1074 + (eo y : Int) - (-1074 + (b : Int))).toNat = eo y - b := by omega
    rw [e1, e2]
    have u1 : so x * 2 ^ (eo x - b) * 2 ^ b = U x := by unfold U; rw [Nat.mul_assoc, ← Nat.pow_add]; congr 2; omega
    have u2 : so y * 2 ^ (eo y - b) * 2 ^ b = U y := by unfold U; rw [Nat.mul_assoc, ← Nat.pow_add]; congr 2; omega
    have hp : 0 < 2 ^ b := Nat.two_pow_pos _
    congr 1
    rcases Nat.lt_trichotomy x y with h | h | h
    · rw [Nat.compare_eq_lt.2 h]
      refine Nat.compare_eq_lt.2 (Nat.lt_of_mul_lt_mul_right (a := 2 ^ b) ?_)
      rw [u1, u2]; exact U_lt h
    · subst h; rw [Nat.compare_eq_eq.2 rfl, Nat.compare_eq_eq.2 rfl]
    · rw [Nat.compare_eq_gt.2 h]
      refine Nat.compare_eq_gt.2 (Nat.lt_of_mul_lt_mul_right (a := 2 ^ b) ?_)
      rw [u1, u2]; exact U_lt h
  · subst hy; rw [read_fin x hx, read_inf, Nat.compare_eq_lt.2 hx]; rfl
  · subst hx; rw [read_fin y hy, read_inf, Nat.compare_eq_gt.2 hy]; rfl
  · subst hx hy; rw [read_inf, Nat.compare_eq_eq.2 rfl]; rfl

/-- Above nought: a rung that is not nought. -/
theorem order_zero (x : Nat) (hx : x < 18446744073709551616) : double.order x 0 = some .gt ↔ 0 < x ∧ x ≤ 9218868437227405312 := by
  constructor
  · intro h
    refine Classical.byContradiction fun hn => ?_
    unfold Format.order at h
    rw [read_fin 0 (by decide)] at h
    have s0 : so 0 = 0 := by decide
    rcases read_rest x hx hn with ⟨m, p, e⟩ | e | ⟨s, t, e⟩ | e
    · rw [e, s0] at h
      unfold Datum.order at h
      dsimp only at h
      rw [signed_pos, Nat.zero_mul] at h
      unfold signed at h
      rw [if_pos rfl] at h
      generalize m <<< (p - min p (-1074 + (eo 0 : Int))).toNat = q at h
      have := Int.compare_eq_gt.1 (Option.some.inj h)
      omega
    · rw [e] at h; simp [Datum.order] at h
    · rw [e] at h; simp [Datum.order] at h
    · subst e
      rw [read_fin 0 (by decide)] at h
      unfold Datum.order at h
      dsimp only at h
      rw [signed_pos, s0, Nat.zero_mul] at h
      have := Int.compare_eq_gt.1 (Option.some.inj h)
      omega
  · intro h
    rw [order_pos x 0 h.2 (by decide), Nat.compare_eq_gt.2 h.1]

/-! ### The quotient -/
/-- The rung of a quotient: rounded from the exact one. -/
theorem quotient_rounds (x y : Nat) (hx0 : 0 < x) (hx : x < 9218868437227405312) (hy0 : 0 < y) (hy : y < 9218868437227405312) :
    ∃ N, Rounds (U x * 2 ^ ut) (U y) N ∧ double.div x y = some (min N 9218868437227405312) := by
  have hut := ut_eq
  unfold Format.div
  rw [read_fin x hx, read_fin y hy]
  unfold Datum.quotient
  have hn : 0 < so y := so_pos y hy0
  have hm : 0 < so x := so_pos x hx0
  dsimp only
  rw [if_neg (Nat.pos_iff_ne_zero.1 hn)]
  have hmL : (so x).log2 ≤ 53 := by
    have h1 := Nat.log2_self_le (Nat.pos_iff_ne_zero.1 hm)
    have h2 := so_lt x
    rcases Nat.lt_or_ge 53 (so x).log2 with h | h
    · have := Nat.pow_le_pow_right (n := 2) (by decide) h
      have e : 2 ^ (53 + 1) = 18014398509481984 := by decide
      rw [Nat.succ_eq_add_one, e] at this
      omega
    · exact h
  obtain ⟨more, hmore⟩ : ∃ more, double.fractionBits + 2 + (so y).log2 - (so x).log2 = more := ⟨_, rfl⟩
  have hmore2 : more + (so x).log2 = 54 + (so y).log2 := by
    have : double.fractionBits = 52 := rfl
    omega
  rw [hmore, Nat.shiftLeft_eq]
  obtain ⟨D, hD⟩ : ∃ D, so x * 2 ^ more = D := ⟨_, rfl⟩
  rw [hD]
  have hq : 9007199254740992 ≤ D / so y := by
    have h1 := Nat.log2_self_le (Nat.pos_iff_ne_zero.1 hm)
    have h2 : so y < 2 ^ ((so y).log2 + 1) := Nat.lt_log2_self
    have h3 : 2 ^ (so x).log2 * 2 ^ more ≤ D := by rw [← hD]; exact Nat.mul_le_mul_right _ h1
    rw [← Nat.pow_add, show (so x).log2 + more = 53 + ((so y).log2 + 1) by omega, Nat.pow_add] at h3
    rw [Nat.le_div_iff_mul_le hn]
    have h4 : 2 ^ 53 * so y ≤ 2 ^ 53 * 2 ^ ((so y).log2 + 1) := Nat.mul_le_mul_left _ (Nat.le_of_lt h2)
    have e53 : 2 ^ 53 = 9007199254740992 := by decide
    rw [e53] at h3 h4
    omega
  have hdm := Nat.div_add_mod D (so y)
  have hr := Nat.mod_lt D hn
  obtain ⟨st, hst, hst2⟩ : ∃ st : Nat, (D % so y != 0).toNat = st ∧ ((st = 0 ∧ D % so y = 0) ∨ (st = 1 ∧ 0 < D % so y)) := by
    by_cases c : D % so y = 0
    · exact ⟨0, by rw [c]; rfl, .inl ⟨rfl, c⟩⟩
    · exact ⟨1, by rw [bne_iff_ne.mpr c]; rfl, .inr ⟨rfl, by omega⟩⟩
  rw [hst]
  generalize D / so y = q at *
  generalize D % so y = r at *
  obtain ⟨p, hp⟩ : ∃ p : Int, (-1074 + (eo x : Int) - (-1074 + (eo y : Int)) - (more : Int) - 1) = p := ⟨_, rfl⟩
  rw [hp]
  obtain ⟨N, hN, hw⟩ := nearest_rounds (false ^^ false) (2 * q + st) p (by omega) ((2 * q + st) * 2 ^ (p + 1074).toNat) (2 ^ (-1074 - p).toNat) (Nat.two_pow_pos _) rfl
  refine ⟨N, ?_, ?_⟩
  · intro k
    rw [hN k]
    -- both sides, brought to one form
    obtain ⟨X, hX⟩ : ∃ X, (2 * so k + 1) * 2 ^ (eo k + (-1074 - p).toNat) = X := ⟨_, rfl⟩
    obtain ⟨Y, hY⟩ : ∃ Y, 2 ^ (p + 1074).toNat = Y := ⟨_, rfl⟩
    have hYp : 0 < Y := by rw [← hY]; exact Nat.two_pow_pos _
    have e1 : th k * 2 ^ (-1074 - p).toNat = X := by rw [← hX, Nat.pow_add, ← Nat.mul_assoc]; rfl
    have e2 : 2 * ((2 * q + st) * Y) = 2 * (2 * q + st) * Y := by rw [Nat.mul_assoc]
    -- the exact one
    have hC : 0 < 2 ^ more * 2 ^ (-1074 - p).toNat := Nat.mul_pos (Nat.two_pow_pos _) (Nat.two_pow_pos _)
    have hE : 0 < 2 ^ eo y * 2 ^ more := Nat.mul_pos (Nat.two_pow_pos _) (Nat.two_pow_pos _)
    have e3 : th k * U y * (2 ^ more * 2 ^ (-1074 - p).toNat) = X * so y * (2 ^ eo y * 2 ^ more) := by
      rw [← e1]; unfold U; ac_rfl
    have e4 : 2 * (U x * 2 ^ ut) * (2 ^ more * 2 ^ (-1074 - p).toNat) = 4 * D * Y * (2 ^ eo y * 2 ^ more) := by
      have z : 2 ^ eo x * 2 ^ ut * 2 ^ (-1074 - p).toNat = 2 * Y * 2 ^ eo y * 2 ^ more := by
        rw [← hY, show (2 : Nat) * 2 ^ (p + 1074).toNat = 2 ^ (1 + (p + 1074).toNat) from by rw [Nat.pow_add], ← Nat.pow_add, ← Nat.pow_add, ← Nat.pow_add, ← Nat.pow_add]
        congr 1
        omega
      have z2 : 2 * (U x * 2 ^ ut) * (2 ^ more * 2 ^ (-1074 - p).toNat) = 2 * (so x * 2 ^ more) * (2 ^ eo x * 2 ^ ut * 2 ^ (-1074 - p).toNat) := by unfold U; generalize 2 ^ ut = Z; ac_rfl
      rw [z2, hD, z]
      have : 4 * D * Y * (2 ^ eo y * 2 ^ more) = 2 * (2 * D) * Y * (2 ^ eo y * 2 ^ more) := by rw [← Nat.mul_assoc 2 2 D]
      rw [this]; ac_rfl
    have A1 : (th k * U y < 2 * (U x * 2 ^ ut)) ↔ X * so y < 4 * D * Y := by
      rw [← Nat.mul_lt_mul_right hC, e3, e4, Nat.mul_lt_mul_right hE]
    have A2 : (th k * U y = 2 * (U x * 2 ^ ut)) ↔ X * so y = 4 * D * Y := by
      rw [← Nat.mul_left_inj (Nat.pos_iff_ne_zero.1 hC), e3, e4, Nat.mul_left_inj (Nat.pos_iff_ne_zero.1 hE)]
    rw [A1, A2, hY, e1, e2]
    generalize so y = n at *
    clear A1 A2 e1 e2 e3 e4 hC hE hN hw
    by_cases c : (p + 1074).toNat + 2 ≤ eo k + (-1074 - p).toNat
    · obtain ⟨T, hT⟩ : ∃ T, (2 * so k + 1) * 2 ^ (eo k + (-1074 - p).toNat - ((p + 1074).toNat + 2)) = T := ⟨_, rfl⟩
      have hXT : X = 4 * T * Y := by
        rw [← hX, ← hT, ← hY, show eo k + (-1074 - p).toNat = (eo k + (-1074 - p).toNat - ((p + 1074).toNat + 2)) + 2 + (p + 1074).toNat by omega, Nat.pow_add, Nat.pow_add]
        have : eo k + (-1074 - p).toNat - ((p + 1074).toNat + 2) + 2 + (p + 1074).toNat - ((p + 1074).toNat + 2) = eo k + (-1074 - p).toNat - ((p + 1074).toNat + 2) := by omega
        rw [this]
        show (2 * so k + 1) * (2 ^ _ * 4 * 2 ^ _) = _
        ac_rfl
      have B1 : X * n < 4 * D * Y ↔ T * n < D := by
        rw [hXT, show 4 * T * Y * n = T * n * (4 * Y) by ac_rfl, show 4 * D * Y = D * (4 * Y) by ac_rfl, Nat.mul_lt_mul_right (by omega)]
      have B2 : X * n = 4 * D * Y ↔ T * n = D := by
        rw [hXT, show 4 * T * Y * n = T * n * (4 * Y) by ac_rfl, show 4 * D * Y = D * (4 * Y) by ac_rfl, Nat.mul_left_inj (by omega)]
      have C1 : X < 2 * (2 * q + st) * Y ↔ 2 * T < 2 * q + st := by
        rw [hXT, show 4 * T * Y = 2 * T * (2 * Y) by rw [show 4 * T = 2 * T * 2 by omega]; ac_rfl, show 2 * (2 * q + st) * Y = (2 * q + st) * (2 * Y) by ac_rfl, Nat.mul_lt_mul_right (by omega)]
      have C2 : X = 2 * (2 * q + st) * Y ↔ 2 * T = 2 * q + st := by
        rw [hXT, show 4 * T * Y = 2 * T * (2 * Y) by rw [show 4 * T = 2 * T * 2 by omega]; ac_rfl, show 2 * (2 * q + st) * Y = (2 * q + st) * (2 * Y) by ac_rfl, Nat.mul_left_inj (by omega)]
      rw [B1, B2, C1, C2, ← hdm, Nat.mul_comm T n]
      rcases Nat.lt_trichotomy T q with h | h | h
      · have h1 : n * (T + 1) ≤ n * q := Nat.mul_le_mul_left n h
        rw [Nat.mul_add, Nat.mul_one] at h1
        constructor <;> intro _ <;> left <;> omega
      · subst h
        constructor
        · intro h; rcases h with h | ⟨h, h2⟩
          · left; omega
          · right; exact ⟨by omega, h2⟩
        · intro h; rcases h with h | ⟨h, h2⟩
          · left; omega
          · right; exact ⟨by omega, h2⟩
      · have h1 : n * (q + 1) ≤ n * T := Nat.mul_le_mul_left n h
        rw [Nat.mul_add, Nat.mul_one] at h1
        constructor <;> intro h <;> exfalso <;> rcases h with h | ⟨h, _⟩ <;> omega
    · have hX2 : X < 36028797018963968 * Y := by
        have hs := so_lt k
        have h1 : 2 ^ (eo k + (-1074 - p).toNat) ≤ 2 ^ ((p + 1074).toNat + 1) := Nat.pow_le_pow_right (by decide) (by omega)
        rw [Nat.pow_add 2 _ 1, hY] at h1
        have h2 : (2 * so k + 1) * 2 ^ (eo k + (-1074 - p).toNat) ≤ 18014398509481983 * (Y * 2) := Nat.mul_le_mul (by omega) h1
        rw [hX] at h2
        omega
      have h1 : 9007199254740992 * Y ≤ q * Y := Nat.mul_le_mul_right _ hq
      have h2 : n * 1 ≤ n * q := Nat.mul_le_mul_left n (by omega)
      constructor
      · intro _; left
        have z1 : X * n < 36028797018963968 * Y * n := Nat.mul_lt_mul_of_pos_right hX2 hn
        have z2 : 36028797018963968 * Y * n ≤ 4 * (q * Y) * n := Nat.mul_le_mul_right _ (by omega)
        have z3 : 4 * (q * Y) * n = 4 * (n * q) * Y := by ac_rfl
        have z4 : 4 * (n * q) * Y ≤ 4 * D * Y := Nat.mul_le_mul_right _ (by omega)
        omega
      · intro _; left
        have z1 : 2 * (2 * q + st) * Y = 4 * (q * Y) + 2 * st * Y := by rw [Nat.mul_add, Nat.add_mul, ← Nat.mul_assoc 2 2 q, Nat.mul_assoc 4 q Y]
        omega
  · exact congrArg some hw

/-! ### Sums, whole numbers -/
theorem nearest_int (A : Nat) (place : Int) (mag : Nat) (hm : 0 < mag) (hp : -1074 ≤ place) (hA : A = mag * 2 ^ (place + 1074).toNat) :
    ∃ N, Rounds A 1 N ∧ double.nearest false mag place = min N 9218868437227405312 := by
  refine nearest_rounds false mag place hm A 1 (by decide) ?_
  have : (-1074 - place).toNat = 0 := by omega
  rw [this, hA]
theorem U_base (x b : Nat) (h : b ≤ eo x) : so x * 2 ^ (eo x - b) * 2 ^ b = U x := by unfold U; rw [Nat.mul_assoc, ← Nat.pow_add]; congr 2; omega
theorem sum_rounds (x y : Nat) (hx0 : 0 < x) (hx : x < 9218868437227405312) (hy : y < 9218868437227405312) :
    ∃ N, Rounds (U x + U y) 1 N ∧ double.add x y = some (min N 9218868437227405312) := by
  unfold Format.add
  rw [read_fin x hx, read_fin y hy]
  unfold Datum.sum
  dsimp only
  rw [signed_pos, signed_pos]
  obtain ⟨b, hb, hbx, hby⟩ : ∃ b : Nat, min (-1074 + (eo x : Int)) (-1074 + (eo y : Int)) = -1074 + (b : Int) ∧ b ≤ eo x ∧ b ≤ eo y := ⟨min (eo x) (eo y), by omega, by omega⟩
  rw [hb]
  have e1 : (-1074 + (eo x : Int) - (-1074 + (b : Int))).toNat = eo x - b := by omega
  have e2 : (-1074 + (eo y : Int) - (-1074 + (b : Int))).toNat = eo y - b := by omega
  rw [e1, e2]
  have p1 : 0 < so x * 2 ^ (eo x - b) := Nat.mul_pos (so_pos x hx0) (Nat.two_pow_pos _)
  obtain ⟨a, ha⟩ : ∃ a, so x * 2 ^ (eo x - b) = a := ⟨_, rfl⟩
  obtain ⟨c, hc⟩ : ∃ c, so y * 2 ^ (eo y - b) = c := ⟨_, rfl⟩
  have u1 := U_base x b hbx
  have u2 := U_base y b hby
  rw [ha] at u1 p1 ⊢
  rw [hc] at u2 ⊢
  have e3 : (((a : Nat) : Int) + ((c : Nat) : Int)).natAbs = a + c := by omega
  have e4 : ¬ (((a : Nat) : Int) + ((c : Nat) : Int) = 0) := by omega
  have e5 : decide (((a : Nat) : Int) + ((c : Nat) : Int) < 0) = false := decide_eq_false (by omega)
  rw [e3, if_neg e4, e5]
  obtain ⟨N, hN, hw⟩ := nearest_int (U x + U y) (-1074 + (b : Int)) (a + c) (by omega) (by omega) (by
    rw [show (-1074 + (b : Int) + 1074).toNat = b by omega, ← u1, ← u2, Nat.add_mul])
  exact ⟨N, hN, by simp only [Option.map_some, Format.write, hw]⟩

/-- A word's whole part. -/
def fl (x : Nat) : Nat := U x / 2 ^ ut
theorem cut_down (n drop : Nat) (way : Toward) (hw : way = .down ∨ way = .zero) : way.cut false n drop = n / 2 ^ drop := by
  unfold Toward.cut
  rw [Nat.one_shiftLeft]
  have key : ∀ g : Nat, (way.casesOn (motive := fun _ => Bool) (decide (g < 2 * (n % g)) || g == 2 * (n % g) && n / g % 2 == 1) (false && n % g != 0) (!false && n % g != 0) false) = false := by
    intro g; rcases hw with rfl | rfl <;> rfl
  by_cases h : drop ≤ n.log2 + 2
  · rw [Nat.min_eq_left h]
    rcases hw with rfl | rfl <;> simp
  · rw [Nat.min_eq_right (by omega)]
    have h1 : n < 2 ^ (n.log2 + 1) := Nat.lt_log2_self
    have h2 : 2 ^ (n.log2 + 2) = 2 * 2 ^ (n.log2 + 1) := by rw [Nat.pow_succ 2 (n.log2 + 1), Nat.mul_comm]
    have h3 : 2 ^ (n.log2 + 2) ≤ 2 ^ drop := Nat.pow_le_pow_right (by omega) (by omega)
    have a1 : n / 2 ^ (n.log2 + 2) = 0 := Nat.div_eq_of_lt (by omega)
    have a3 : n / 2 ^ drop = 0 := Nat.div_eq_of_lt (by omega)
    dsimp only
    rw [a1, a3]
    rcases hw with rfl | rfl <;> simp
theorem integral_fin (x : Nat) (h : x < 9218868437227405312) (way : Toward) (hw : way = .down ∨ way = .zero) : (double.read x).integral way = .number false (fl x) 0 := by
  rw [read_fin x h]
  unfold Datum.integral
  dsimp only
  rw [cut_down _ _ way hw, Nat.shiftLeft_eq]
  unfold fl U
  have hut := ut_eq
  by_cases c : 1074 ≤ eo x
  · have e1 : (-1074 + (eo x : Int)).toNat = eo x - ut := by omega
    have e2 : (-(-1074 + (eo x : Int))).toNat = 0 := by omega
    rw [e1, e2, Nat.pow_zero, Nat.div_one]
    have : 2 ^ eo x = 2 ^ (eo x - ut) * 2 ^ ut := by rw [← Nat.pow_add]; congr 1; omega
    rw [this, ← Nat.mul_assoc, Nat.mul_div_cancel _ (Nat.two_pow_pos _)]
  · have e1 : (-1074 + (eo x : Int)).toNat = 0 := by omega
    have e2 : (-(-1074 + (eo x : Int))).toNat = ut - eo x := by omega
    rw [e1, e2, Nat.pow_zero, Nat.mul_one]
    have : 2 ^ ut = 2 ^ (ut - eo x) * 2 ^ eo x := by rw [← Nat.pow_add]; congr 1; omega
    rw [this, Nat.mul_div_mul_right _ _ (Nat.two_pow_pos _)]

/-- The rung of a small whole number. -/
theorem small_rung (v : Nat) (h1 : 1 ≤ v) (h2 : v < 9007199254740992) : ∃ r, U r = v * 2 ^ ut ∧ r < 9218868437227405312 := by
  have l1 := Nat.log2_self_le (n := v) (by omega)
  have l2 : v < 2 ^ (v.log2 + 1) := Nat.lt_log2_self
  have l3 : v.log2 ≤ 52 := by
    rcases Nat.lt_or_ge 52 v.log2 with h | h
    · have := Nat.pow_le_pow_right (n := 2) (by decide) h
      have e : 2 ^ (Nat.succ 52) = 9007199254740992 := by decide
      omega
    · exact h
  generalize v.log2 = l at *
  have s1 : 4503599627370496 ≤ v * 2 ^ (52 - l) := by
    have := Nat.mul_le_mul_right (2 ^ (52 - l)) l1
    rw [← Nat.pow_add, show l + (52 - l) = 52 by omega] at this
    exact this
  have s2 : v * 2 ^ (52 - l) < 9007199254740992 := by
    have := Nat.mul_lt_mul_of_pos_right l2 (Nat.two_pow_pos (52 - l))
    rw [← Nat.pow_add, show l + 1 + (52 - l) = 53 by omega] at this
    exact this
  obtain ⟨s, hs⟩ : ∃ s, v * 2 ^ (52 - l) = s := ⟨_, rfl⟩
  rw [hs] at s1 s2
  have hut := ut_eq
  have ee : eo ((l + 1022) * 4503599627370496 + s) = l + 1022 := by unfold eo; omega
  have se : so ((l + 1022) * 4503599627370496 + s) = s := by unfold so; rw [ee]; omega
  refine ⟨(l + 1022) * 4503599627370496 + s, ?_, by omega⟩
  unfold U
  rw [ee, se, ← hs, Nat.mul_assoc, ← Nat.pow_add, show 52 - l + (l + 1022) = ut by omega]

/-- The word of a whole number, cut down. -/
def flr (x : Nat) : Nat := double.write (.number false (fl x) 0)
theorem flr_zero (x : Nat) (h : fl x = 0) : flr x = 0 := by unfold flr; rw [h]; decide
theorem flr_rounds (x : Nat) (h : 0 < fl x) : ∃ N, Rounds (fl x * 2 ^ ut) 1 N ∧ flr x = min N 9218868437227405312 :=
  nearest_int _ 0 _ h (by decide) (by rw [show ((0 : Int) + 1074).toNat = ut from rfl])
theorem flr_small (x : Nat) (h1 : 1 ≤ fl x) (h2 : fl x < 9007199254740992) : U (flr x) = fl x * 2 ^ ut ∧ flr x < 9218868437227405312 := by
  obtain ⟨r, hr, hr2⟩ := small_rung (fl x) h1 h2
  obtain ⟨N, hN, hf⟩ := flr_rounds x h1
  have hE : Rounds (fl x * 2 ^ ut) 1 r := by
    have := Rounds.exact (r := r) (B := 1) (by decide)
    rw [Nat.mul_one, hr] at this
    exact this
  have := hN.uniq hE (by decide)
  subst this
  rw [hf, Nat.min_eq_left (Nat.le_of_lt hr2)]
  exact ⟨hr, hr2⟩
theorem flr_big (x r v : Nat) (hv : U r = v * 2 ^ ut) (hr : r ≤ 9218868437227405312) (h0 : 0 < fl x) (h : v ≤ fl x) : r ≤ flr x ∧ flr x ≤ 9218868437227405312 := by
  obtain ⟨N, hN, hf⟩ := flr_rounds x h0
  have hE : Rounds (v * 2 ^ ut) 1 r := by
    have := Rounds.exact (r := r) (B := 1) (by decide)
    rw [Nat.mul_one, hv] at this
    exact this
  have := hE.mono hN (by decide) (by decide) (by rw [Nat.mul_one, Nat.mul_one]; exact Nat.mul_le_mul_right _ h)
  rw [hf]
  exact ⟨by omega, by omega⟩

/-! ### The cost of a speed -/
theorem div_inf (x : Nat) (hx : x < 9218868437227405312) : double.div x 9218868437227405312 = some 0 := by
  unfold Format.div
  rw [read_fin x hx, read_inf]
  rfl
theorem add_inf (y : Nat) (hy : y < 9218868437227405312) : double.add 9218868437227405312 y = some 9218868437227405312 := by
  unfold Format.add
  rw [read_fin y hy, read_inf]
  rfl
theorem read_zero : double.read 0 = .number false 0 (-1074) := by rw [read_fin 0 (by decide)]; rfl

/-- The words of 20000000, a half, 1, 2, 16777216. -/
def WH : Nat := 4716133919349538816
def HALF : Nat := 4602678819172646912
def ONE : Nat := 4607182418800017408
def TWO : Nat := 4611686018427387904
def MAXC : Nat := 4715268809856909312
theorem U_pow (r e k : Nat) (hs : so r = 4503599627370496) (he : eo r = e) (hk : 52 + e = k) : U r = 2 ^ k := by
  unfold U; rw [hs, he, show (4503599627370496 : Nat) = 2 ^ 52 by decide, ← Nat.pow_add, hk]
theorem U_ONE : U ONE = 1 * 2 ^ ut := by
  rw [U_pow ONE (ut - 52) ut (by decide) (by decide) (by decide), Nat.one_mul]
theorem U_TWO : U TWO = 2 * 2 ^ ut := by
  rw [U_pow TWO (ut - 51) (1 + ut) (by decide) (by decide) (by decide), Nat.pow_add]
theorem U_MAXC : U MAXC = 16777216 * 2 ^ ut := by
  rw [U_pow MAXC (ut - 28) (24 + ut) (by decide) (by decide) (by decide), Nat.pow_add]

/-- The quotient and the sum as rungs. -/
def qR (x : Nat) : Nat := (double.div WH x).getD 0
def cR (x : Nat) : Nat := (double.add (qR x) HALF).getD 0
theorem q_some (x : Nat) (h0 : 0 < x) (h1 : x ≤ 9218868437227405312) : double.div WH x = some (qR x) ∧ qR x ≤ 9218868437227405312 := by
  rcases Nat.lt_or_eq_of_le h1 with h | h
  · obtain ⟨N, -, hN⟩ := quotient_rounds WH x (by decide) (by decide) h0 h
    unfold qR; rw [hN]
    exact ⟨rfl, Nat.min_le_right _ _⟩
  · subst h
    unfold qR; rw [div_inf WH (by decide)]
    exact ⟨rfl, Nat.zero_le _⟩
theorem q_mono {x y : Nat} (h0 : 0 < x) (h : x ≤ y) (h1 : y ≤ 9218868437227405312) : qR y ≤ qR x := by
  rcases Nat.lt_or_eq_of_le h1 with h2 | h2
  · obtain ⟨N, hN, eN⟩ := quotient_rounds WH x (by decide) (by decide) h0 (by omega)
    obtain ⟨M, hM, eM⟩ := quotient_rounds WH y (by decide) (by decide) (by omega) h2
    have := hM.mono hN (U_pos y (by omega)) (U_pos x h0) (Nat.mul_le_mul_left _ (U_le h))
    unfold qR; rw [eN, eM]
    show min M _ ≤ min N _
    omega
  · subst h2
    have : qR 9218868437227405312 = 0 := by unfold qR; rw [div_inf WH (by decide)]; rfl
    omega
theorem c_some (q : Nat) (h1 : q ≤ 9218868437227405312) : ∃ c, double.add q HALF = some c ∧ c ≤ 9218868437227405312 := by
  rcases Nat.lt_or_eq_of_le h1 with h | h
  · rcases Nat.eq_zero_or_pos q with h0 | h0
    · subst h0
      refine ⟨HALF, ?_, by decide⟩
      unfold Format.add
      decide +kernel
    · obtain ⟨N, -, hN⟩ := sum_rounds q HALF h0 h (by decide)
      exact ⟨_, hN, Nat.min_le_right _ _⟩
  · subst h
    exact ⟨_, add_inf HALF (by decide), Nat.le_refl _⟩
theorem half_rounds : Rounds (U 0 + U HALF) 1 HALF := by
  have := Rounds.exact (r := HALF) (B := 1) (by decide)
  rw [U_zero, Nat.zero_add]; rw [Nat.mul_one] at this; exact this
theorem sum_any (q : Nat) (h : q < 9218868437227405312) : ∃ N, Rounds (U q + U HALF) 1 N ∧ double.add q HALF = some (min N 9218868437227405312) := by
  rcases Nat.eq_zero_or_pos q with h0 | h0
  · subst h0
    exact ⟨HALF, half_rounds, by unfold Format.add; decide +kernel⟩
  · exact sum_rounds q HALF h0 h (by decide)
theorem cR_some (x : Nat) (h0 : 0 < x) (h1 : x ≤ 9218868437227405312) : double.add (qR x) HALF = some (cR x) ∧ cR x ≤ 9218868437227405312 := by
  obtain ⟨c, hc, hc2⟩ := c_some (qR x) (q_some x h0 h1).2
  unfold cR; rw [hc]
  exact ⟨rfl, hc2⟩
theorem cR_mono {x y : Nat} (h0 : 0 < x) (h : x ≤ y) (h1 : y ≤ 9218868437227405312) : cR y ≤ cR x := by
  have hq := q_mono h0 h h1
  have b1 := (q_some x h0 (by omega)).2
  have b2 := (q_some y (by omega) h1).2
  unfold cR
  rcases Nat.lt_or_eq_of_le b1 with h2 | h2
  · obtain ⟨N, hN, eN⟩ := sum_any (qR x) h2
    obtain ⟨M, hM, eM⟩ := sum_any (qR y) (by omega)
    have := hM.mono hN (by decide) (by decide) (by have := U_le hq; omega)
    rw [eN, eM]
    show min M _ ≤ min N _
    omega
  · rw [h2, add_inf HALF (by decide)]
    obtain ⟨c, hc, hc2⟩ := c_some (qR y) b2
    rw [hc]
    exact hc2
theorem fl_mono {x y : Nat} (h : x ≤ y) : fl x ≤ fl y := Nat.div_le_div_right (U_le h)

def clampN (v : Nat) : Nat := if v < 1 then 1 else if 16777216 ≤ v then 16777216 else v
theorem clampN_mono {a b : Nat} (h : a ≤ b) : clampN a ≤ clampN b := by unfold clampN; split <;> split <;> (try split) <;> (try split) <;> omega
theorem clampN_in (a : Nat) : 1 ≤ clampN a ∧ clampN a ≤ 16777216 := by unfold clampN; split <;> (try split) <;> omega
/-- The cost by a word. -/
def ofV (x : Nat) : Nat := if 0 < x ∧ x ≤ 9218868437227405312 then (if cR x = 9218868437227405312 then 16777216 else clampN (fl (cR x))) else 16777216
theorem ofV_in (x : Nat) : 1 ≤ ofV x ∧ ofV x ≤ 16777216 := by
  have := clampN_in (fl (cR x))
  unfold ofV; split <;> (try split) <;> omega
theorem ofV_mono {x y : Nat} (h0 : 0 < x) (h : x ≤ y) (h1 : y ≤ 9218868437227405312) : ofV y ≤ ofV x := by
  have hc := cR_mono h0 h h1
  have b1 := (cR_some x h0 (by omega)).2
  have i1 := clampN_in (fl (cR y))
  have p1 : 0 < y ∧ y ≤ 9218868437227405312 := ⟨by omega, h1⟩
  have p2 : 0 < x ∧ x ≤ 9218868437227405312 := ⟨h0, by omega⟩
  unfold ofV
  rw [if_pos p1, if_pos p2]
  by_cases c1 : cR x = 9218868437227405312
  · rw [if_pos c1]; split <;> omega
  · rw [if_neg c1, if_neg (by omega)]
    exact clampN_mono (fl_mono hc)

/-! ### What the code asks of words -/
theorem fl_ge (x r v : Nat) (hv : U r = v * 2 ^ ut) : r ≤ x ↔ v ≤ fl x := by
  unfold fl
  rw [Nat.le_div_iff_mul_le (Nat.two_pow_pos _), ← hv]
  constructor
  · exact U_le
  · intro h
    rcases Nat.lt_or_ge x r with h1 | h1
    · have := U_lt h1; omega
    · exact h1
theorem fl_MAXC : fl MAXC = 16777216 := by unfold fl; rw [U_MAXC, Nat.mul_div_cancel _ (Nat.two_pow_pos _)]
theorem fl_ONE : fl ONE = 1 := by unfold fl; rw [U_ONE, Nat.mul_div_cancel _ (Nat.two_pow_pos _)]
/-- Floor, then at least 1, then at most 16777216, then as a whole number. -/
theorem floor_chain (c : Nat) : flr c ≤ 9218868437227405312 ∧
    (clampN (fl c) = 1 ∧ flr c < ONE ∨ clampN (fl c) = 16777216 ∧ MAXC ≤ flr c ∨ clampN (fl c) = fl c ∧ ONE ≤ flr c ∧ flr c < MAXC ∧ fl (flr c) = fl c) := by
  by_cases h0 : fl c = 0
  · rw [flr_zero c h0, h0]; exact ⟨by decide, .inl ⟨by decide, by decide⟩⟩
  · by_cases h1 : 16777216 ≤ fl c
    · obtain ⟨a, b⟩ := flr_big c MAXC 16777216 U_MAXC (by decide) (by omega) h1
      exact ⟨b, .inr (.inl ⟨by unfold clampN; rw [if_neg (by omega), if_pos h1], a⟩)⟩
    · obtain ⟨a, b⟩ := flr_small c (by omega) (by omega)
      have e : fl (flr c) = fl c := by
        show U (flr c) / 2 ^ ut = fl c
        rw [a, Nat.mul_div_cancel _ (Nat.two_pow_pos _)]
      refine ⟨Nat.le_of_lt b, .inr (.inr ⟨by unfold clampN; rw [if_neg (by omega), if_neg h1], ?_, ?_, e⟩)⟩
      · exact (fl_ge (flr c) ONE 1 U_ONE).2 (by omega)
      · rcases Nat.lt_or_ge (flr c) MAXC with h | h
        · exact h
        · have := (fl_ge (flr c) MAXC 16777216 U_MAXC).1 h; omega

end Go.Proofs.Ytfkehlhmephecaa.Flt
