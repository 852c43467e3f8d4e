/- The plain mathematics of the check sum: steps of one bit are linear over xor and lose nothing; a turned bit, two of them, or two bytes in a row never vanish. No program stands here. -/
import Derived.Laws.BitsAllLaws
namespace Go.Proofs.YtcginknabpgjnaaDoor.Crc
/-- The table of four bits. -/
def crcTab (k : Nat) : Nat := [0, 4129, 8258, 12387, 16516, 20645, 24774, 28903, 33032, 37161, 41290, 45419, 49548, 53677, 57806, 61935].getD k 0
/-- What four bits do to a sum. -/
def crcHalf (c h : Nat) : Nat := (c * 16 % 65536) ^^^ crcTab ((c / 4096) ^^^ h)
def crcByte (c b : Nat) : Nat := crcHalf (crcHalf c (b / 16)) (b % 16)
def crcOn (c : Nat) (l : List UInt8) : Nat := l.foldl (fun c b => crcByte c b.toNat) c
theorem crcTab_lt (k : Nat) : crcTab k < 65536 := by
  unfold crcTab
  by_cases h : k < 16
  · have : k = 0 ∨ k = 1 ∨ k = 2 ∨ k = 3 ∨ k = 4 ∨ k = 5 ∨ k = 6 ∨ k = 7 ∨ k = 8 ∨ k = 9 ∨ k = 10 ∨ k = 11 ∨ k = 12 ∨ k = 13 ∨ k = 14 ∨ k = 15 := by omega
    rcases this with rfl | rfl | rfl | rfl | rfl | rfl | rfl | rfl | rfl | rfl | rfl | rfl | rfl | rfl | rfl | rfl <;> decide
  · rw [List.getD_eq_getElem?_getD, List.getElem?_eq_none (by simp; omega)]; decide
theorem crcHalf_lt (c h : Nat) : crcHalf c h < 65536 := by
  unfold crcHalf
  exact Nat.xor_lt_two_pow (n := 16) (by omega) (crcTab_lt _)
theorem crcOn_lt (l : List UInt8) (c : Nat) (hc : c < 65536) : crcOn c l < 65536 := by
  unfold crcOn
  induction l generalizing c with
  | nil => exact hc
  | cons b l ih => exact ih _ (crcHalf_lt _ _)
theorem crcOn_snoc (l : List UInt8) (c : Nat) (b : UInt8) : crcOn c (l ++ [b]) = crcByte (crcOn c l) b.toNat := by unfold crcOn; rw [List.foldl_append]; rfl
/-- One bit's step. -/
def R (x : BitVec 16) : BitVec 16 := if x.msb then (x <<< 1) ^^^ 0x1021#16 else x <<< 1

theorem R_zero : R 0#16 = 0#16 := by decide

theorem R_xor (x y : BitVec 16) : R (x ^^^ y) = R x ^^^ R y := by
  unfold R
  rw [BitVec.msb_xor, BitVec.shiftLeft_xor_distrib]
  cases x.msb <;> cases y.msb <;> simp [BitVec.xor_assoc]
  · exact BitVec.xor_comm _ _
  · rw [BitVec.xor_comm (y <<< 1), ← BitVec.xor_assoc, BitVec.xor_self, BitVec.zero_xor]

theorem R_ne (x : BitVec 16) (h : x ≠ 0#16) : R x ≠ 0#16 := by
  unfold R
  split
  · intro e
    have h0 := congrArg (fun z : BitVec 16 => z.getLsbD 0) e
    simp at h0
  · intro e
    apply h
    apply BitVec.eq_of_toNat_eq
    have hm : x.msb = false := by simpa using ‹¬ x.msb = true›
    have hl : x.toNat < 32768 := by
      have := BitVec.msb_eq_false_iff_two_mul_lt.1 hm
      omega
    have := congrArg BitVec.toNat e
    simp [BitVec.toNat_shiftLeft, Nat.shiftLeft_eq] at this
    simp
    omega

def Rn : Nat → BitVec 16 → BitVec 16
  | 0, x => x
  | n + 1, x => Rn n (R x)

theorem Rn_zero (n : Nat) : Rn n 0#16 = 0#16 := by
  induction n with
  | zero => rfl
  | succ n ih => rw [Rn, R_zero, ih]

theorem Rn_xor (n : Nat) : ∀ x y, Rn n (x ^^^ y) = Rn n x ^^^ Rn n y := by
  induction n with
  | zero => intro x y; rfl
  | succ n ih => intro x y; rw [Rn, R_xor, ih]; rfl

theorem Rn_ne (n : Nat) : ∀ x, x ≠ 0#16 → Rn n x ≠ 0#16 := by
  induction n with
  | zero => intro x h; exact h
  | succ n ih => intro x h; exact ih _ (R_ne x h)

theorem Rn_add (m n : Nat) : ∀ x, Rn (m + n) x = Rn n (Rn m x) := by
  induction m with
  | zero => intro x; rw [Nat.zero_add]; rfl
  | succ m ih => intro x; rw [show m + 1 + n = (m + n) + 1 from by omega, Rn, ih]; rfl

theorem xor_eq_zero {x y : BitVec 16} (h : x ^^^ y = 0#16) : x = y := by
  have := congrArg (· ^^^ y) h
  simpa [BitVec.xor_assoc] using this

theorem Rn_inj (n : Nat) {x y : BitVec 16} (h : Rn n x = Rn n y) : x = y := by
  apply Classical.byContradiction
  intro hne
  have h1 : Rn n (x ^^^ y) = 0#16 := by rw [Rn_xor, h, BitVec.xor_self]
  exact Rn_ne n _ (fun e => hne (xor_eq_zero e)) h1

/-- A small number is only shifted. -/
theorem R_small (x : BitVec 16) (h : x.toNat < 32768) : R x = BitVec.ofNat 16 (2 * x.toNat) := by
  unfold R
  have hm : x.msb = false := BitVec.msb_eq_false_iff_two_mul_lt.2 (by omega)
  rw [hm]
  apply BitVec.eq_of_toNat_eq
  simp [BitVec.toNat_shiftLeft, Nat.shiftLeft_eq]
  omega

theorem Rn_small (n : Nat) : ∀ m : Nat, m * 2 ^ n < 65536 → Rn n (BitVec.ofNat 16 m) = BitVec.ofNat 16 (m * 2 ^ n) := by
  induction n with
  | zero => intro m _; simp [Rn]
  | succ n ih =>
    intro m h
    have hp : 0 < 2 ^ n := Nat.two_pow_pos n
    have h2 : m * 2 ^ (n + 1) = (2 * m) * 2 ^ n := by rw [Nat.pow_succ, Nat.mul_comm (2 ^ n) 2, ← Nat.mul_assoc, Nat.mul_comm m 2]
    have hm : 2 * m < 65536 := by
      rw [h2] at h
      exact Nat.lt_of_le_of_lt (Nat.le_mul_of_pos_right _ hp) h
    rw [Rn, R_small _ (by rw [BitVec.toNat_ofNat]; omega)]
    rw [BitVec.toNat_ofNat, Nat.mod_eq_of_lt (by omega), ih _ (by rw [← h2]; exact h), h2]

/-- The bit's orbit does not come back to 1 within 4100 steps. -/
def backIn : Nat → BitVec 16 → Bool
  | 0, _ => false
  | n + 1, x => let y := R x; y == 1#16 || backIn n y


def B (n : Nat) : BitVec 16 := BitVec.ofNat 16 n
theorem B_xor (a b : Nat) : B (a ^^^ b) = B a ^^^ B b := by
  apply BitVec.eq_of_toNat_eq
  simp [B, BitVec.toNat_xor]
theorem B_inj {a b : Nat} (ha : a < 65536) (hb : b < 65536) (h : B a = B b) : a = b := by
  have := congrArg BitVec.toNat h
  simp only [B, BitVec.toNat_ofNat] at this
  omega
theorem B_mod (a : Nat) : B (a % 65536) = B a := by
  apply BitVec.eq_of_toNat_eq
  simp [B]
theorem mul_xor (a b n : Nat) : (a ^^^ b) * 2 ^ n = a * 2 ^ n ^^^ b * 2 ^ n := by
  rw [← Nat.shiftLeft_eq, ← Nat.shiftLeft_eq, ← Nat.shiftLeft_eq, Nat.shiftLeft_xor_distrib]
theorem split_xor (h l n : Nat) (hl : l < 2 ^ n) : h * 2 ^ n + l = h * 2 ^ n ^^^ l := by
  rw [Nat.mul_comm, Nat.two_pow_add_eq_or_of_lt hl]
  apply Nat.eq_of_testBit_eq
  intro i
  rw [Nat.testBit_or, Nat.testBit_xor, Nat.testBit_two_pow_mul]
  by_cases hi : i < n
  · simp [Nat.not_le.2 hi]
  · have : l.testBit i = false := Nat.testBit_lt_two_pow (Nat.lt_of_lt_of_le hl (Nat.pow_le_pow_right (by decide) (by omega)))
    simp [this]
theorem tab4 (q : Nat) (hq : q < 16) : Rn 4 (B (q * 4096)) = B (crcTab q) := by
  have : q = 0 ∨ q = 1 ∨ q = 2 ∨ q = 3 ∨ q = 4 ∨ q = 5 ∨ q = 6 ∨ q = 7 ∨ q = 8 ∨ q = 9 ∨ q = 10 ∨ q = 11 ∨ q = 12 ∨ q = 13 ∨ q = 14 ∨ q = 15 := by omega
  rcases this with rfl | rfl | rfl | rfl | rfl | rfl | rfl | rfl | rfl | rfl | rfl | rfl | rfl | rfl | rfl | rfl <;> decide +kernel
theorem half_is (c h : Nat) (hc : c < 65536) (hh : h < 16) : B (crcHalf c h) = Rn 4 (B c ^^^ B (h * 4096)) := by
  have e1 : c = (c / 4096) * 2 ^ 12 ^^^ c % 4096 := by rw [← split_xor _ _ 12 (by omega)]; omega
  have hq : (c / 4096 ^^^ h) < 16 := Nat.xor_lt_two_pow (n := 4) (by omega) (by omega)
  have e2 : B c ^^^ B (h * 4096) = B ((c / 4096 ^^^ h) * 4096) ^^^ B (c % 4096) := by
    rw [show (4096 : Nat) = 2 ^ 12 from rfl, mul_xor, B_xor]
    conv => lhs; rw [e1]
    rw [B_xor, BitVec.xor_assoc, BitVec.xor_assoc, BitVec.xor_comm (B (c % 4096))]
  rw [e2, Rn_xor, tab4 _ hq]
  rw [show Rn 4 (B (c % 4096)) = B (c % 4096 * 2 ^ 4) from Rn_small 4 _ (by omega)]
  unfold crcHalf
  rw [B_xor, BitVec.xor_comm, show c * 16 % 65536 = c % 4096 * 2 ^ 4 from by omega]
/-- The sum's step by a byte. -/
theorem byte_is (c b : Nat) (hc : c < 65536) (hb : b < 256) : B (crcByte c b) = Rn 8 (B c ^^^ B (b * 256)) := by
  unfold crcByte
  rw [half_is _ _ (crcHalf_lt _ _) (by omega), half_is _ _ hc (by omega)]
  have e : B (b * 256) = B (b / 16 * 4096) ^^^ B (b % 16 * 256) := by
    rw [← B_xor, show b / 16 * 4096 = b / 16 * 2 ^ 12 from rfl, ← split_xor _ _ 12 (by omega), show b / 16 * 2 ^ 12 + b % 16 * 256 = b * 256 from by omega]
  rw [e, ← BitVec.xor_assoc, show (8 : Nat) = 4 + 4 from rfl, Rn_add, Rn_xor 4 (B c ^^^ B (b / 16 * 4096))]
  rw [show Rn 4 (B (b % 16 * 256)) = B (b % 16 * 256 * 2 ^ 4) from Rn_small 4 _ (by omega), show b % 16 * 256 * 2 ^ 4 = b % 16 * 4096 from by omega]
/-- The sum of bytes, from one on. -/
def S (x : BitVec 16) (l : List Nat) : BitVec 16 := l.foldl (fun x b => Rn 8 (x ^^^ B (b * 256))) x
theorem S_cons (x : BitVec 16) (b : Nat) (l : List Nat) : S x (b :: l) = S (Rn 8 (x ^^^ B (b * 256))) l := rfl
theorem S_append (x : BitVec 16) (l m : List Nat) : S x (l ++ m) = S (S x l) m := by unfold S; rw [List.foldl_append]
theorem on_is (l : List UInt8) : ∀ c, c < 65536 → B (crcOn c l) = S (B c) (l.map (·.toNat)) := by
  induction l with
  | nil => intro c _; rfl
  | cons b l ih =>
    intro c hc
    rw [List.map_cons, S_cons, ← byte_is c _ hc (UInt8.toNat_lt b)]
    exact ih _ (crcHalf_lt _ _)
theorem S_xor (l : List Nat) : ∀ x d, S (x ^^^ d) l = S x l ^^^ Rn (8 * l.length) d := by
  induction l with
  | nil => intro x d; rfl
  | cons b l ih =>
    intro x d
    rw [S_cons, S_cons, BitVec.xor_assoc, BitVec.xor_comm d, ← BitVec.xor_assoc, Rn_xor, ih]
    rw [List.length_cons, show 8 * (l.length + 1) = 8 + 8 * l.length from by omega, Rn_add]
/-- What a byte that is turned does to the sum. -/
theorem S_turn (l : List Nat) : ∀ (x : BitVec 16) (k t : Nat), k < l.length → S x (l.set k (l.getD k 0 ^^^ t)) = S x l ^^^ Rn (8 * (l.length - k)) (B (t * 256)) := by
  induction l with
  | nil => intro x k t h; simp at h
  | cons b l ih =>
    intro x k t h
    cases k with
    | zero =>
      rw [List.set_cons_zero, S_cons, S_cons, List.getD_cons_zero, show (b ^^^ t) * 256 = b * 256 ^^^ t * 256 from mul_xor b t 8, B_xor, ← BitVec.xor_assoc, Rn_xor, S_xor]
      rw [List.length_cons, Nat.sub_zero, show 8 * (l.length + 1) = 8 + 8 * l.length from by omega, Rn_add]
    | succ k =>
      rw [List.set_cons_succ, S_cons, S_cons, List.getD_cons_succ, ih _ k t (by simpa using h)]
      congr 3
      simp
theorem turn_ne (n t : Nat) (h0 : 0 < t) (h1 : t < 256) : Rn n (B (t * 256)) ≠ 0#16 := by
  apply Rn_ne
  intro e
  have := B_inj (a := t * 256) (b := 0) (by omega) (by omega) e
  omega
/-- A sealed text's sum is 0. -/
theorem sealed (l : List Nat) (x : BitVec 16) (c : Nat) (_ : c < 65536) (h : S x l = B c) : S x (l ++ [c / 256, c % 256]) = 0#16 := by
  rw [S_append, h, S_cons, S_cons]
  have e : B c = B (c / 256 * 256) ^^^ B (c % 256) := by
    rw [← B_xor, show c / 256 * 256 = c / 256 * 2 ^ 8 from rfl, ← split_xor _ _ 8 (by omega), show c / 256 * 2 ^ 8 + c % 256 = c from by omega]
  have e2 : B c ^^^ B (c / 256 * 256) = B (c % 256) := by rw [e, BitVec.xor_comm (B (c / 256 * 256)), BitVec.xor_assoc, BitVec.xor_self, BitVec.xor_zero]
  rw [e2, show Rn 8 (B (c % 256)) = B (c % 256 * 2 ^ 8) from Rn_small 8 _ (by omega), show c % 256 * 2 ^ 8 = c % 256 * 256 from rfl, BitVec.xor_self, Rn_zero]
  rfl
/-- Two bytes in a row. -/
theorem row_ne (n a b : Nat) (ha : a < 256) (hb : b < 256) (h : ¬ (a = 0 ∧ b = 0)) : Rn (n + 8) (B (a * 256)) ^^^ Rn n (B (b * 256)) ≠ 0#16 := by
  rw [Nat.add_comm, Rn_add, ← Rn_xor]
  apply Rn_ne
  have e : B (b * 256) = Rn 8 (B b) := (Rn_small 8 b (by omega)).symm
  rw [e, ← Rn_xor]
  apply Rn_ne
  rw [← B_xor, show a * 256 = a * 2 ^ 8 from rfl, ← split_xor _ _ 8 hb]
  intro e
  have := B_inj (a := a * 2 ^ 8 + b) (b := 0) (by omega) (by omega) e
  omega
/-- The bit's orbit. -/
theorem orbit_of (n : Nat) : ∀ (x : BitVec 16), backIn n x = false → ∀ d, 0 < d → d ≤ n → Rn d x ≠ 1#16 := by
  induction n with
  | zero => intro x _ d h0 h1; omega
  | succ n ih =>
    intro x h d h0 h1
    simp only [backIn, Bool.or_eq_false_iff, beq_eq_false_iff_ne] at h
    obtain ⟨d, rfl⟩ : ∃ e, d = e + 1 := ⟨d - 1, by omega⟩
    rw [Rn]
    by_cases hd : d = 0
    · subst hd; exact h.1
    · exact ih _ h.2 d (by omega) (by omega)
theorem orbit (d : Nat) (h0 : 0 < d) (h1 : d ≤ 4100) : Rn d 1#16 ≠ 1#16 := orbit_of 4100 1#16 (by decide +kernel) d h0 h1
theorem bit_is (n r : Nat) (hr : r < 8) : Rn n (B (2 ^ r * 256)) = Rn (n + 8 + r) 1#16 := by
  rw [show n + 8 + r = (8 + r) + n from by omega, Rn_add]
  congr 1
  have e := Rn_small (8 + r) 1 (by rw [Nat.one_mul]; exact Nat.lt_of_lt_of_le (Nat.pow_lt_pow_right (by decide) (show 8 + r < 16 by omega)) (by decide))
  rw [Nat.one_mul, Nat.pow_add, Nat.mul_comm] at e
  exact e.symm
theorem bits_ne (a b : Nat) (h : a ≠ b) (ha : a ≤ 4100) (hb : b ≤ 4100) : Rn a 1#16 ^^^ Rn b 1#16 ≠ 0#16 := by
  intro e
  have e := xor_eq_zero e
  rcases Nat.lt_or_gt_of_ne h with hl | hl
  · have e2 : Rn b 1#16 = Rn a (Rn (b - a) 1#16) := by rw [← Rn_add]; congr 1; omega
    rw [e2] at e
    exact orbit (b - a) (by omega) (by omega) (Rn_inj a e).symm
  · have e2 : Rn a 1#16 = Rn b (Rn (a - b) 1#16) := by rw [← Rn_add]; congr 1; omega
    rw [e2] at e
    exact orbit (a - b) (by omega) (by omega) (Rn_inj b e)
end Go.Proofs.YtcginknabpgjnaaDoor.Crc
