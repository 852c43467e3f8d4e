-- Written by a program of this session (see NOTES.md), which reads the translation's print; Lean checks it.
import Derived.Test.YtibeijfgjcakiaaPAddrParsesx0
import Derived.Test.YtibeijfgjcakiaaPAddrParsesx1
namespace Go.Proofs.Ytibeijfgjcakiaa.PAddrParses
open Go.RowKit Go.Proofs.YtibeijfgjcakiaaW.PrintWords Go.Proofs.YtibeijfgjcakiaaW.PrintLast Go.Proofs.YtibeijfgjcakiaaW.PrintMore
attribute [local go_sem] max2_int min2_int max_two min_two max_three min_three max_four min_four   -- for this text's walks alone
set_option linter.unusedVariables false
set_option linter.unusedSimpArgs false

/-! ### kissgatelaw02_AddrParses: function 7 -/
theorem wraps_i64 (n : Int) (h0 : 0 ≤ n) (h1 : n < 2 ^ 63) : IntKind.i64.wrap n = n := by rw [IntKind.wrap_i64]; omega
theorem and_one (x : Int) (h0 : 0 ≤ x) (h1 : x < 2 ^ 63) : Go.bits .and .i64 x 1 = x % 2 :=
  bits_mask .i64 63 (by decide) wraps_i64 1 (by decide) x h0 h1
theorem good_is (a : Int) : addr_Good.f a = some (decide (0 ≤ a ∧ a ≤ 281474976710655)) := by
  unfold addr_Good.f
  by_cases h : a ≥ 0
  · rw [if_pos h]; congr 1; rw [decide_eq_decide]; omega
  · rw [if_neg h]; congr 1; symm; rw [decide_eq_false_iff_not]; omega

theorem rgood_is (a : Int) : kissgateref02_Good.f a = some (decide (0 ≤ a ∧ a ≤ 281474976710655)) := by
  unfold kissgateref02_Good.f
  by_cases h : a ≥ 0
  · rw [if_pos h]; congr 1; rw [decide_eq_decide]; omega
  · rw [if_neg h]; congr 1; symm; rw [decide_eq_false_iff_not]; omega

def kept (a : Int) : Bool := decide ((1652522221568 ≤ a ∧ a ≤ 1652522221583) ∨ a = 1652522221600 ∨ a = 1652522221601)
theorem kept_is (a : Int) : addr_Kept.f a = some (kept a) := by
  unfold addr_Kept.f kept
  rw [good_is]; simp only [Option.bind_some]
  by_cases h : 0 ≤ a ∧ a ≤ 281474976710655
  · rw [if_pos (by simpa using h)]
    by_cases h1 : a / 16 = 103282638848
    · rw [if_pos h1]; congr 1; symm; rw [decide_eq_true_iff]; omega
    · rw [if_neg h1]
      by_cases h2 : a = 1652522221601
      · rw [if_pos h2]; congr 1; symm; rw [decide_eq_true_iff]; omega
      · rw [if_neg h2]; congr 1; rw [Bool.eq_iff_iff, beq_iff_eq, decide_eq_true_iff]; omega
  · rw [if_neg (by simpa using h)]; congr 1; symm; rw [decide_eq_false_iff_not]; omega
theorem show_is (a : Int) : addr_Show.f a = some (if 0 ≤ a ∧ a ≤ 281474976710655 then ⟨(showRest a 12).toArray⟩ else ⟨#[]⟩) := by
  unfold addr_Show.f
  rw [good_is]; simp only [Option.bind_some]
  by_cases h : 0 ≤ a ∧ a ≤ 281474976710655
  · rw [if_pos (by simpa using h), if_pos h]
  · rw [if_neg (by simpa using h), if_neg h]
theorem list_of (l : List UInt8) : (⟨l.toArray⟩ : ByteArray).toList = l := by rw [ByteArray.toList_eq]
theorem alive_is : kissgatelaw02_alive.f = some true := by
  unfold kissgatelaw02_alive.f
  rw [show_is, if_pos (by decide)]; simp only [Option.bind_some]
  rw [list_of, if_pos (by decide), kept_is]; simp only [Option.bind_some]
  rw [show kept 1652522221568 = true by decide, if_pos rfl]
  decide

theorem hex_inj {d e : Int} (h0 : 0 ≤ d) (h1 : d < 16) (k0 : 0 ≤ e) (k1 : e < 16) (h : hexDigit d = hexDigit e) : d = e := by
  obtain ⟨m, rfl⟩ := Int.eq_ofNat_of_zero_le h0
  obtain ⟨n, rfl⟩ := Int.eq_ofNat_of_zero_le k0
  have key : ∀ x y : Fin 16, hexDigit (x.val : Int) = hexDigit (y.val : Int) → x.val = y.val := by decide +kernel
  have := key ⟨m, by omega⟩ ⟨n, by omega⟩ h
  simp only at this; omega
theorem emod_16 (a z : Int) (hp : 0 < z) : a / z % 16 * z + a % z = a % (z * 16) := by
  have e1 : a % z + z * (a / z) = a := Int.emod_add_mul_ediv a z
  have hr0 : 0 ≤ a % z := Int.emod_nonneg a (Int.ne_of_gt hp)
  have hr1 : a % z < z := Int.emod_lt_of_pos a hp
  have hq : a / z = a / z % 16 + 16 * (a / z / 16) := (Int.emod_add_mul_ediv (a / z) 16).symm
  have hd0 : 0 ≤ a / z % 16 := by omega
  have hd1 : a / z % 16 < 16 := by omega
  revert e1 hr0 hr1 hq hd0 hd1
  generalize a / z % 16 = d
  generalize a / z / 16 = u
  generalize a % z = r
  generalize a / z = q
  intro e1 hr0 hr1 hq hd0 hd1
  subst hq
  subst e1
  rw [Int.mul_add, ← Int.mul_assoc z 16 u, Int.mul_comm z d, ← Int.add_assoc, Int.add_mul_emod_self_left]
  have h4 : 0 ≤ d * z := Int.mul_nonneg hd0 (Int.le_of_lt hp)
  have h6 : (d + 1) * z ≤ 16 * z := Int.mul_le_mul_of_nonneg_right hd1 (Int.le_of_lt hp)
  rw [Int.add_mul, Int.one_mul, Int.mul_comm 16 z] at h6
  rw [Int.emod_eq_of_lt (by omega) (by omega)]
  omega
theorem rest_inj (a b : Int) : ∀ m, showRest a m = showRest b m → a % 2 ^ (4 * m) = b % 2 ^ (4 * m)
  | 0, _ => by simp
  | m + 1, h => by
    simp only [showRest] at h
    obtain ⟨h1, h2⟩ := List.cons.inj h
    have ih := rest_inj a b m (List.append_cancel_left h2)
    have hd : a / 2 ^ (4 * m) % 16 = b / 2 ^ (4 * m) % 16 := hex_inj (by omega) (by omega) (by omega) (by omega) h1
    have hp : (0 : Int) < 2 ^ (4 * m) := Int.pow_pos (by decide)
    rw [show 4 * (m + 1) = 4 * m + 4 by omega, Int.pow_add, show (2 : Int) ^ 4 = 16 by decide, ← emod_16 a _ hp, ← emod_16 b _ hp, hd, ih]
theorem show_inj (a b : Int) (ha : 0 ≤ a ∧ a ≤ 281474976710655) (hb : 0 ≤ b ∧ b ≤ 281474976710655) : (showRest a 12 == showRest b 12) = (a == b) := by
  rw [Bool.eq_iff_iff, beq_iff_eq, beq_iff_eq]
  constructor
  · intro h
    have := rest_inj a b 12 h
    rw [show (2 : Int) ^ (4 * 12) = 281474976710656 by decide] at this; omega
  · rintro rfl; rfl
theorem digit_is (d : Int) (h0 : 0 ≤ d) (h1 : d < 16) : kissgateref02_digit.f d = some ⟨#[hexDigit d]⟩ := by
  have : d = 0 ∨ d = 1 ∨ d = 2 ∨ d = 3 ∨ d = 4 ∨ d = 5 ∨ d = 6 ∨ d = 7 ∨ d = 8 ∨ d = 9 ∨ d = 10 ∨ d = 11 ∨ d = 12 ∨ d = 13 ∨ d = 14 ∨ d = 15 := by omega
  rcases this with rfl | rfl | rfl | rfl | rfl | rfl | rfl | rfl | rfl | rfl | rfl | rfl | rfl | rfl | rfl | rfl <;> decide +kernel
theorem arr_app (l m : List UInt8) : (⟨l.toArray⟩ : ByteArray) ++ ⟨m.toArray⟩ = ⟨(l ++ m).toArray⟩ := by
  apply ByteArray.ext
  simp
theorem rest_size (a : Int) : ∀ m, (showRest a m).length ≤ 2 * m
  | 0 => Nat.le_refl _
  | m + 1 => by
    have := rest_size a m
    simp only [showRest, List.length_cons, List.length_append]
    split
    · simp only [List.length_cons, List.length_nil]; omega
    · simp only [List.length_nil]; omega
theorem rshow_step (a : Int) (k i : Nat) (hi : i < 6) (x : Int) (hx0 : 0 ≤ x) (hx : x = a / 2 ^ (8 * i)) (hxl : x ≤ 281474976710655) :
    kissgateref02_Show.l0 (k + 1) x ⟨(showRest a (2 * i)).toArray⟩ (i : Int) = kissgateref02_Show.l0 k (x / 256) ⟨(showRest a (2 * i + 2)).toArray⟩ ((i + 1 : Nat) : Int) := by
  have e1 : wrap64 (Int.tdiv (Int.tmod x 256) 16) = x % 256 / 16 := by
    rw [Int.tmod_eq_emod_of_nonneg hx0, Int.tdiv_eq_ediv_of_nonneg (by omega)]; unfold wrap64; omega
  have e2 : Int.tmod x 16 = x % 16 := Int.tmod_eq_emod_of_nonneg hx0
  have e3 : wrap64 (Int.tdiv x 256) = x / 256 := by rw [Int.tdiv_eq_ediv_of_nonneg hx0]; unfold wrap64; omega
  have e4 : wrap64 ((i : Int) + 1) = ((i + 1 : Nat) : Int) := by unfold wrap64; omega
  have d1 := digit_is (x % 256 / 16) (by omega) (by omega)
  have d2 := digit_is (x % 16) (by omega) (by omega)
  have hs := rest_size a (2 * i)
  have hsz : (⟨(showRest a (2 * i)).toArray⟩ : ByteArray).size = (showRest a (2 * i)).length := by show (showRest a (2 * i)).toArray.size = _; simp
  have s1 : (⟨#[hexDigit (x % 256 / 16)]⟩ : ByteArray).size = 1 := rfl
  have s2 : (⟨#[hexDigit (x % 16)]⟩ : ByteArray).size = 1 := rfl
  have p1 : a / 2 ^ (4 * (2 * i + 1)) % 16 = x % 256 / 16 := by
    rw [hx, show 4 * (2 * i + 1) = 8 * i + 4 by omega, Int.pow_add, show (2 : Int) ^ 4 = 16 by decide, ← Int.ediv_ediv_of_nonneg (Int.le_of_lt (Int.pow_pos (by decide)))]
    omega
  have p2 : a / 2 ^ (4 * (2 * i)) % 16 = x % 16 := by rw [hx, show 4 * (2 * i) = 8 * i by omega]
  have hr : showRest a (2 * i + 2) = hexDigit (x % 256 / 16) :: (hexDigit (x % 16) :: ((if 0 < 2 * i ∧ 2 * i % 2 = 0 then [58] else []) ++ showRest a (2 * i))) := by
    show showRest a (2 * i + 1 + 1) = _
    rw [showRest, showRest, p1, p2, if_neg (by omega : ¬ (0 < 2 * i + 1 ∧ (2 * i + 1) % 2 = 0))]
    rfl
  rw [kissgateref02_Show.l0, if_pos (show (i : Int) < 6 by omega)]
  by_cases c : i = 0
  · subst c
    rw [if_neg (by decide), e1, e2, e3, d1, d2]
    simp only [Option.bind_some]
    rw [s1, s2]
    rw [if_pos (by decide), if_pos (by rw [hsz]; omega), e4, hr, if_neg (by omega)]
    congr 1
  · rw [if_pos (show (i : Int) > 0 by omega), if_pos (by rw [hsz]; omega), e1, e2, e3, d1, d2]
    simp only [Option.bind_some]
    rw [s1, s2, if_pos (by decide), if_pos (by rw [hsz]; omega), e4, hr, if_pos (by omega)]
    congr 1
theorem rshow_is (a : Int) (h : 0 ≤ a ∧ a ≤ 281474976710655) : kissgateref02_Show.f 7 a = some ⟨(showRest a 12).toArray⟩ := by
  unfold kissgateref02_Show.f
  rw [rgood_is, decide_eq_true h]
  simp only [Option.bind_some]
  rw [if_pos trivial]
  have q0 := rshow_step a 6 0 (by decide) a h.1 (by simp) (by omega)
  have q1 := rshow_step a 5 1 (by decide) (a / 256) (by omega) (by rfl) (by omega)
  have q2 := rshow_step a 4 2 (by decide) (a / 256 / 256) (by omega) (by rw [Int.ediv_ediv_of_nonneg (by decide)]; rfl) (by omega)
  have q3 := rshow_step a 3 3 (by decide) (a / 256 / 256 / 256) (by omega) (by rw [Int.ediv_ediv_of_nonneg (by decide), Int.ediv_ediv_of_nonneg (by decide)]; rfl) (by omega)
  have q4 := rshow_step a 2 4 (by decide) (a / 256 / 256 / 256 / 256) (by omega) (by rw [Int.ediv_ediv_of_nonneg (by decide), Int.ediv_ediv_of_nonneg (by decide), Int.ediv_ediv_of_nonneg (by decide)]; rfl) (by omega)
  have q5 := rshow_step a 1 5 (by decide) (a / 256 / 256 / 256 / 256 / 256) (by omega) (by rw [Int.ediv_ediv_of_nonneg (by decide), Int.ediv_ediv_of_nonneg (by decide), Int.ediv_ediv_of_nonneg (by decide), Int.ediv_ediv_of_nonneg (by decide)]; rfl) (by omega)
  refine (Eq.trans q0 (Eq.trans q1 (Eq.trans q2 (Eq.trans q3 (Eq.trans q4 (Eq.trans q5 ?_))))))
  rw [kissgateref02_Show.l0, if_neg (by decide)]

/-! ### Reading -/
def hexVal (c : UInt8) : Int := if 48 ≤ c.toNat ∧ c.toNat ≤ 57 then (c.toNat : Int) - 48 else if 97 ≤ c.toNat ∧ c.toNat ≤ 102 then (c.toNat : Int) - 87 else -1
def parseGo : List UInt8 → Nat → Int → Option Int
  | [], _, a => some a
  | c :: l, i, a => if i % 3 = 2 then (if c = 58 then parseGo l (i + 1) a else none) else if hexVal c < 0 then none else parseGo l (i + 1) (a * 16 + hexVal c)
theorem hexVal_digit (d : Int) (h0 : 0 ≤ d) (h1 : d < 16) : hexVal (hexDigit d) = d := by
  have : d = 0 ∨ d = 1 ∨ d = 2 ∨ d = 3 ∨ d = 4 ∨ d = 5 ∨ d = 6 ∨ d = 7 ∨ d = 8 ∨ d = 9 ∨ d = 10 ∨ d = 11 ∨ d = 12 ∨ d = 13 ∨ d = 14 ∨ d = 15 := by omega
  rcases this with rfl | rfl | rfl | rfl | rfl | rfl | rfl | rfl | rfl | rfl | rfl | rfl | rfl | rfl | rfl | rfl <;> decide +kernel
theorem hexVal_le (c : UInt8) : hexVal c ≤ 15 := by unfold hexVal; repeat' split <;> omega
/-- Where the digits behind the first ones begin. -/
def posOf (j : Nat) : Nat := 3 * (j / 2) + j % 2
theorem parse_show (a : Int) : ∀ m, m ≤ 12 → ∀ acc : Int, parseGo (showRest a m) (if m = 0 then 17 else posOf (12 - m)) acc = some (acc * 2 ^ (4 * m) + a % 2 ^ (4 * m))
  | 0, _, acc => by simp [showRest, parseGo]
  | m + 1, hm, acc => by
    have ih := parse_show a m (by omega)
    have hd0 : 0 ≤ a / 2 ^ (4 * m) % 16 := by omega
    have hd1 : a / 2 ^ (4 * m) % 16 < 16 := by omega
    have hz : (0 : Int) < 2 ^ (4 * m) := Int.pow_pos (by decide)
    have hp : (acc * 16 + a / 2 ^ (4 * m) % 16) * 2 ^ (4 * m) + a % 2 ^ (4 * m) = acc * 2 ^ (4 * (m + 1)) + a % 2 ^ (4 * (m + 1)) := by
      rw [show 4 * (m + 1) = 4 * m + 4 by omega, Int.pow_add, show (2 : Int) ^ 4 = 16 by decide, ← emod_16 a _ hz, Int.add_mul, Int.add_assoc, Int.mul_assoc acc, Int.mul_comm 16]
    rw [if_neg (show ¬ (m + 1 = 0) by omega), showRest, parseGo, if_neg (show ¬ posOf (12 - (m + 1)) % 3 = 2 by unfold posOf; omega), hexVal_digit _ hd0 hd1, if_neg (by omega)]
    by_cases c : 0 < m ∧ m % 2 = 0
    · rw [if_pos c, List.singleton_append, parseGo, if_pos (show (posOf (12 - (m + 1)) + 1) % 3 = 2 by unfold posOf; omega), if_pos rfl]
      have e := ih (acc * 16 + a / 2 ^ (4 * m) % 16)
      rw [if_neg (by omega)] at e
      rw [show posOf (12 - (m + 1)) + 1 + 1 = posOf (12 - m) by unfold posOf; omega, e, hp]
    · rw [if_neg c, List.nil_append]
      have e := ih (acc * 16 + a / 2 ^ (4 * m) % 16)
      by_cases c0 : m = 0
      · subst c0
        rw [if_pos rfl] at e
        rw [show posOf (12 - (0 + 1)) + 1 = 17 by decide, e, hp]
      · rw [if_neg c0] at e
        rw [show posOf (12 - (m + 1)) + 1 = posOf (12 - m) by unfold posOf; omega, e, hp]
theorem parse_show12 (a : Int) (h : 0 ≤ a ∧ a ≤ 281474976710655) : parseGo (showRest a 12) 0 0 = some a := by
  have e := parse_show a 12 (Nat.le_refl _) 0
  rw [if_neg (by decide), show posOf (12 - 12) = 0 by decide, Int.zero_mul, Int.zero_add, Int.emod_eq_of_lt h.1 (by omega)] at e
  exact e
def valOf (R : Option Int) : Int := match R with | some a => a | none => 0
def errOf (R : Option Int) : Int := match R with | some _ => 0 | none => 4
def digitsB : ByteArray := ⟨#[48, 49, 50, 51, 52, 53, 54, 55, 56, 57, 97, 98, 99, 100, 101, 102]⟩
theorem index_hex (c : UInt8) (h : c.toNat < 128) : Lib.indexByte digitsB.data.toList ((c.toNat : Int)).toNat.toUInt8 = hexVal c := by
  have key : ∀ x : Fin 128, Lib.indexByte digitsB.data.toList (((UInt8.ofNat x.val).toNat : Int)).toNat.toUInt8 = hexVal (UInt8.ofNat x.val) := by decide +kernel
  have := key ⟨c.toNat, h⟩
  simpa using this
theorem hexVal_high (c : UInt8) (h : ¬ c.toNat < 128) : hexVal c = -1 ∧ c ≠ 58 := by
  refine ⟨by unfold hexVal; rw [if_neg (by omega), if_neg (by omega)], ?_⟩
  intro e; subst e; exact h (by decide)
theorem or_4 (x y : Int) (h0 : 0 ≤ x) (h1 : x < 2 ^ 55) (k0 : 0 ≤ y) (k1 : y < 16) : Go.bits .or .i64 (x * 16) y = x * 16 + y :=
  bits_join .i64 63 (by decide) wraps_i64 4 (x * 16) y (by omega) (by omega) (by omega) k0 k1 (by omega)
theorem pow_bound (a : Int) (k n : Nat) (hn : n ≤ 11) (h : a < 2 ^ (4 * n)) : a < 17592186044416 := by
  have : (2 : Nat) ^ (4 * n) ≤ 2 ^ 44 := Nat.pow_le_pow_right (by decide) (by omega)
  have h2 : ((2 : Int) ^ (4 * n)) ≤ 2 ^ 44 := by exact_mod_cast this
  have h3 : (2 : Int) ^ 44 = 17592186044416 := by decide
  omega
theorem drop_head (l : List UInt8) (k : Nat) (h : k < l.length) : l.drop k = l[k] :: l.drop (k + 1) := List.drop_eq_getElem_cons h
def posIn (wr : World) (g : Nat) : Nat := match wr.heap[g]? with | some (.stringIter _ p) => p | _ => 0
/-- What IndexRune answers where no ASCII character stands. -/
def NoAscii (s : ByteArray) : Prop := ∀ k, (h : k < s.size) → ¬ (s[k]'h).toNat < 128 → 128 ≤ (Utf8.decode s k).1 ∧ ∀ w : World, Calls Try.prog 23 #[.string digitsB, .int .i32 (Utf8.decode s k).1] w fun e w' => e = .returned (.int .i64 (-1)) ∧ Below w.heap.size w w'
set_option maxHeartbeats 8000000 in
set_option maxRecDepth 100000 in
theorem Parse_calls (s : ByteArray) (hN : NoAscii s) (R : Option Int) (hRR : (if s.size = 17 then parseGo s.data.toList 0 0 else none) = R) (w : World) :
    Calls Try.prog 19 #[.string s] w fun e w' => e = .returned (.tuple #[.int .i64 (valOf R), .int .i64 (errOf R)]) ∧ Below w.heap.size w w' := by
  have HN := Aside0.mk hN
  by_cases h17 : ¬ s.size = 17
  · rw [if_neg h17] at hRR
    subst hRR
    have hb : (s.size == 17) = false := beq_eq_false_iff_ne.mpr h17
    clear hN h17
    go_enter Try.func19, Try.ntmps19
    go_wp2_with fail
    go_ret2
    exact ⟨rfl, Below.refl _ _⟩
  have hs := Classical.not_not.1 h17
  rw [if_pos hs] at hRR
  have HRR := Aside0.mk hRR
  have HS := Aside0.mk hs
  clear hN h17 hRR
  go_enter Try.func19, Try.ntmps19
  go_upto_block 0 with (fail)
  have HZ := Aside0.mk (World.iter_heap w s 0)
  have HB := Aside0.mk (show Below w.heap.size w (w.iter s 0) from below_alloc (Below.refl _ _) _)
  have HG := Aside0.mk (Nat.le_refl w.heap.size)
  generalize w.iter s 0 = W at HZ HB ⊢
  obtain ⟨g, hg⟩ : ∃ g, g = w.heap.size := ⟨_, rfl⟩
  rw [← hg] at HZ ⊢
  replace HG := Aside0.mk (show w.heap.size ≤ g by omega)
  clear hg
  go_wp2_with fail
  go_loopw [4] (fun v4 wr => ∃ (k : Nat) (a : Int), k ≤ 17 ∧ v4 = .int .i64 a ∧ Aside0 (0 ≤ a ∧ a < 2 ^ (4 * (k - k / 3))) ∧ Aside0 (parseGo (s.data.toList.drop k) k a = R) ∧ Aside0 (wr.heap[g]? = some (.stringIter s k)) ∧ Aside0 (Below w.heap.size w wr)) (fun _ wr => 17 - posIn wr g)
  case atStart => exact ⟨0, 0, by decide, rfl, ⟨by decide⟩, HRR, HZ, HB⟩
  case round =>
    clear HZ HB
    obtain ⟨k, a, hk, rfl, HA, HP, HZ, HB⟩ := hrel
    have hm : posIn wr g = k := by unfold posIn; rw [HZ.out]
    rw [hm]
    clear hm
    by_cases hk17 : k = 17
    · subst hk17
      have hn : ∀ ty, (Instr.next (.pointer (some ⟨g, 0, none⟩)) true ty).run Try.prog wr = .ok (.tuple #[.bool false]) wr := fun ty => Lib.run_next_end_at wr g s 17 ty HZ.out (by rw [HS.out]; decide)
      have hr := HP.out
      rw [List.drop_of_length_le (by rw [Array.length_toList]; exact Nat.le_of_eq HS.out)] at hr
      rw [parseGo] at hr
      subst hr
      clear hk
      go_wp2_with fail
      go_ret2
      exact ⟨rfl, HB.out⟩
    · have hkl : k < s.size := by rw [HS.out]; omega
      have HK := Aside0.mk (show k < 17 by omega)
      have hkl2 : k < s.data.toList.length := by rw [Array.length_toList]; exact hkl
      have hr := HP.out
      rw [drop_head _ k hkl2, parseGo] at hr
      have hc : s.data.toList[k] = s[k]'hkl := by rw [Array.getElem_toList]; rfl
      rw [hc] at hr
      have hb44 := pow_bound a k (k - k / 3) (by omega) HA.out.2
      clear hk17 hk hc hkl2
      by_cases hascii : (s[k]'hkl).toNat < 128
      · have hn : ∀ ty, (Instr.next (.pointer (some ⟨g, 0, none⟩)) true ty).run Try.prog wr = .ok (.tuple #[.bool true, .int .i64 k, .int .i32 (s[k]'hkl).toNat]) (wr.iterAt g s (k + 1)) := fun ty => Lib.run_next_ascii_at wr g s k ty HZ.out hkl hascii
        have HI := Aside0.mk (index_hex _ hascii)
        generalize s[k]'hkl = c at hr hn HI hascii
        have HZ2 := Aside0.mk (Lib.iterAt_heap wr g s k (k + 1) HZ.out)
        have HB2 := Aside0.mk (Lib.below_iterAt HB.out HG.out s (k + 1))
        have HC := Aside0.mk (fun W => Try.strings_IndexRune_ascii digitsB (c.toNat : Int) W (by omega) (by omega))
        have HAS := Aside0.mk hascii
        by_cases h3 : k % 3 = 2
        · have m3 : ((k : Int) % 3 == 2) = true := beq_iff_eq.mpr (by omega)
          rw [if_pos h3] at hr
          have h3' := Aside0.mk h3
          by_cases h58 : c = 58
          · subst h58
            rw [if_pos rfl] at hr
            have HRN := Aside0.mk hr
            have c58 : (((58 : UInt8).toNat : Int) == 58) = true := rfl
            clear hr h3 hascii hkl hb44
            go_wp2_with fail
            go_at_call 23
            refine (HC.out _).mono ?_
            rw [HI.out]
            rintro e w5 ⟨rfl, rfl⟩
            go_wp2_with fail
            first
              | (go_roundw; case rel => exact ⟨k + 1, _, HK.out, rfl, ⟨by have := HA.out; rw [show k + 1 - (k + 1) / 3 = k - k / 3 by have := h3'.out; omega]; exact this⟩, HRN, HZ2, HB2⟩)
              | (refine ⟨?_, ?measure⟩; exact ⟨k + 1, _, HK.out, rfl, ⟨by have := HA.out; rw [show k + 1 - (k + 1) / 3 = k - k / 3 by have := h3'.out; omega]; exact this⟩, HRN, HZ2, HB2⟩)
            case measure => (rw [show posIn _ g = k + 1 from by unfold posIn; rw [HZ2.out]]; have := HK.out; omega)
          · rw [if_neg h58] at hr
            subst hr
            have c58n : c.toNat ≠ 58 := fun e => h58 (UInt8.toNat_inj.1 e)
            have c58 : ((c.toNat : Int) == 58) = false := beq_eq_false_iff_ne.mpr (by omega)
            clear c58n
            clear h3 hascii hkl hb44 h58
            go_wp2_with fail
            go_at_call 23
            refine (HC.out _).mono ?_
            rw [HI.out]
            rintro e w5 ⟨rfl, rfl⟩
            go_wp2_with fail
            go_ret2
            exact ⟨rfl, HB2.out⟩
        · have m3 : ((k : Int) % 3 == 2) = false := beq_eq_false_iff_ne.mpr (by omega)
          rw [if_neg h3] at hr
          have h3' := Aside0.mk h3
          by_cases hv : hexVal c < 0
          · have hvb : decide (hexVal c < 0) = true := decide_eq_true hv
            rw [if_pos hv] at hr
            subst hr
            clear h3 hascii hkl hb44 hv
            go_wp2_with fail
            go_at_call 23
            refine (HC.out _).mono ?_
            rw [HI.out]
            rintro e w5 ⟨rfl, rfl⟩
            go_wp2_with fail
            go_ret2
            exact ⟨rfl, HB2.out⟩
          · have hvb : decide (hexVal c < 0) = false := decide_eq_false hv
            rw [if_neg hv] at hr
            have hle := hexVal_le c
            have e1 : wrap64 (a * 16) = a * 16 := by have := HA.out.1; unfold wrap64; omega
            have e2 : Go.bits .or .i64 (a * 16) (hexVal c) = a * 16 + hexVal c := or_4 a (hexVal c) HA.out.1 (by omega) (by omega) (by omega)
            have HRN := Aside0.mk hr
            have HNA := Aside0.mk (show 0 ≤ a * 16 + hexVal c ∧ a * 16 + hexVal c < 2 ^ (4 * (k + 1 - (k + 1) / 3)) by
              have h1 := HA.out
              rw [show k + 1 - (k + 1) / 3 = (k - k / 3) + 1 by have := h3'.out; omega, show 4 * (k - k / 3 + 1) = 4 * (k - k / 3) + 4 by omega, Int.pow_add, show (2 : Int) ^ 4 = 16 by decide]
              generalize (2 : Int) ^ (4 * (k - k / 3)) = z at h1 ⊢
              omega)
            clear h3 hascii hkl hb44 hv hr hle
            go_wp2_with fail
            go_at_call 23
            refine (HC.out _).mono ?_
            rw [HI.out]
            rintro e w5 ⟨rfl, rfl⟩
            go_wp2_with fail
            first
              | (go_roundw; case rel => exact ⟨k + 1, _, HK.out, rfl, ⟨by first | exact HNA.out | (rw [e1, e2]; exact HNA.out) | (rw [e2]; exact HNA.out)⟩, ⟨by first | exact HRN.out | (rw [e1, e2]; exact HRN.out) | (rw [e2]; exact HRN.out)⟩, HZ2, HB2⟩)
              | (refine ⟨?_, ?measure⟩; exact ⟨k + 1, _, HK.out, rfl, ⟨by first | exact HNA.out | (rw [e1, e2]; exact HNA.out) | (rw [e2]; exact HNA.out)⟩, ⟨by first | exact HRN.out | (rw [e1, e2]; exact HRN.out) | (rw [e2]; exact HRN.out)⟩, HZ2, HB2⟩)
            case measure => (rw [show posIn _ g = k + 1 from by unfold posIn; rw [HZ2.out]]; have := HK.out; omega)
      · have hn : ∀ ty, (Instr.next (.pointer (some ⟨g, 0, none⟩)) true ty).run Try.prog wr = .ok (.tuple #[.bool true, .int .i64 k, .int .i32 (Utf8.decode s k).1]) (wr.iterAt g s (k + (Utf8.decode s k).2)) := fun ty => Lib.run_next_any_at wr g s k ty HZ.out hkl
        have hh := hexVal_high _ hascii
        obtain ⟨hr128, hIR⟩ := HN.out k hkl hascii
        have hRn : R = none := by
          rw [← hr]
          by_cases h3 : k % 3 = 2
          · rw [if_pos h3, if_neg hh.2]
          · rw [if_neg h3, if_pos (by rw [hh.1]; decide)]
        subst hRn
        obtain ⟨rn, hrn⟩ : ∃ rn : Nat, (Utf8.decode s k).1 = rn := ⟨_, rfl⟩
        rw [hrn] at hn hIR hr128
        have HC := Aside0.mk hIR
        generalize (Utf8.decode s k).2 = sz at hn
        have HB2 := Aside0.mk (Lib.below_iterAt HB.out HG.out s (k + sz))
        have c58 : ((rn : Int) == 58) = false := beq_eq_false_iff_ne.mpr (by omega)
        clear hr hh hr128 hIR hrn hascii hkl hb44
        by_cases h3 : k % 3 = 2
        · have m3 : ((k : Int) % 3 == 2) = true := beq_iff_eq.mpr (by omega)
          clear h3
          go_wp2_with fail
          go_at_call 23
          refine (HC.out _).mono ?_
          rintro e w5 ⟨rfl, hb⟩
          have HB2 := Aside0.mk (below_step HB2.out hb)
          clear hb
          go_wp2_with fail
          go_ret2
          exact ⟨rfl, HB2.out⟩
        · have m3 : ((k : Int) % 3 == 2) = false := beq_eq_false_iff_ne.mpr (by omega)
          clear h3
          go_wp2_with fail
          go_at_call 23
          refine (HC.out _).mono ?_
          rintro e w5 ⟨rfl, hb⟩
          have HB2 := Aside0.mk (below_step HB2.out hb)
          clear hb
          go_wp2_with fail
          go_ret2
          exact ⟨rfl, HB2.out⟩
theorem indexByte_digits (c : UInt8) (h : 128 ≤ c.toNat) : ∀ k, Lib.indexByte (digitsB.data.toList.drop k) c = -1 := by
  have key : ∀ x : Fin 256, 128 ≤ x.val → ∀ k : Fin 17, Lib.indexByte (digitsB.data.toList.drop k.val) (UInt8.ofNat x.val) = -1 := by decide +kernel
  intro k
  have hc : c = UInt8.ofNat c.toNat := by simp
  have := key ⟨c.toNat, UInt8.toNat_lt c⟩ h
  by_cases hk : k < 17
  · have := this ⟨k, hk⟩
    rw [hc]; exact this
  · rw [List.drop_of_length_le (by show 16 ≤ k; omega)]; rfl
def EncOk (s : ByteArray) : Prop := 2 ≤ s.size ∧ s.size ≤ 4 ∧ ∀ hl : s.size - 1 < s.size, 128 ≤ (s[s.size - 1]'hl).toNat
theorem encOk2 (a b : UInt8) (h : 128 ≤ b.toNat) : EncOk ⟨#[a, b]⟩ := ⟨Nat.le_refl 2, by show 2 ≤ 4; decide, fun _ => h⟩
theorem encOk3 (a c b : UInt8) (h : 128 ≤ b.toNat) : EncOk ⟨#[a, c, b]⟩ := ⟨by show 2 ≤ 3; decide, by show 3 ≤ 4; decide, fun _ => h⟩
theorem encOk4 (a c d b : UInt8) (h : 128 ≤ b.toNat) : EncOk ⟨#[a, c, d, b]⟩ := ⟨by show 2 ≤ 4; decide, Nat.le_refl 4, fun _ => h⟩
theorem enc_tail (n : Nat) : 128 ≤ (UInt8.ofNat (128 + n % 64)).toNat := by
  rw [UInt8.toNat_ofNat']; omega
theorem enc_size (r : Nat) (h : 128 ≤ r) : EncOk (Utf8.encode (r : Int)) := by
  have hc : ∀ c : Nat, 128 ≤ c → EncOk (if c < 0x80 then ⟨#[UInt8.ofNat c]⟩
    else if c < 0x800 then ⟨#[UInt8.ofNat (0xC0 + c / 64), UInt8.ofNat (0x80 + c % 64)]⟩
    else if c < 0x10000 then ⟨#[UInt8.ofNat (0xE0 + c / 4096), UInt8.ofNat (0x80 + c / 64 % 64), UInt8.ofNat (0x80 + c % 64)]⟩
    else ⟨#[UInt8.ofNat (0xF0 + c / 262144), UInt8.ofNat (0x80 + c / 4096 % 64), UInt8.ofNat (0x80 + c / 64 % 64), UInt8.ofNat (0x80 + c % 64)]⟩) := by
    intro c h128
    rw [if_neg (by omega)]
    split
    · exact encOk2 _ _ (enc_tail c)
    split
    · exact encOk3 _ _ _ (enc_tail c)
    · exact encOk4 _ _ _ _ (enc_tail c)
  have := hc (if Utf8.valid (r : Int) = true then (r : Int).toNat else Utf8.runeError) (by split <;> first | omega | decide)
  exact this
theorem decode_high (s : ByteArray) (k : Nat) (h : k < s.size) (hc : ¬ (s[k]'h).toNat < 128) : 128 ≤ (Utf8.decode s k).1 ∧ Lib.validRune ((Utf8.decode s k).1 : Int) = true := by
  rw [Lib.decode_at]
  have hb := Lib.decodeN_valid (s.size - k) (s.get! k).toNat (s.get! (k + 1)).toNat (s.get! (k + 2)).toNat (s.get! (k + 3)).toNat (UInt8.toNat_lt _)
  have h0 : s.get! k = s[k]'h := by
    show s.data[k]! = s.data[k]
    exact getElem!_pos s.data k h
  refine ⟨?_, ?_⟩
  · rw [h0]
    generalize (s[k]'h).toNat = b0 at hc
    unfold Lib.decodeN
    rw [if_neg hc]
    repeat' split
    all_goals (simp only; omega)
  · simp only [Lib.validRune, decide_eq_true_eq]
    omega
set_option maxHeartbeats 8000000 in
set_option maxRecDepth 100000 in
theorem IndexRune_high (r : Nat) (h1 : 128 ≤ r) (h2 : Lib.validRune (r : Int) = true) (w : World) :
    Calls Try.prog 23 #[.string digitsB, .int .i32 r] w fun e w' => e = .returned (.int .i64 (-1)) ∧ Below w.heap.size w w' := by
  have HV := Aside0.mk h2
  have c128 : decide ((r : Int) < 128) = false := decide_eq_false (by omega)
  have c0 : decide ((0 : Int) ≤ r) = true := decide_eq_true (by omega)
  by_cases hr : r = 65533
  · subst hr
    clear h1 h2 c128 c0
    go_enter Try.func23, Try.ntmps23
    go_upto_block 9 with (fail)
    have HZ := Aside0.mk (World.iter_heap w digitsB 0)
    have HB := Aside0.mk (show Below w.heap.size w (w.iter digitsB 0) from below_alloc (Below.refl _ _) _)
    have HG := Aside0.mk (Nat.le_refl w.heap.size)
    generalize w.iter digitsB 0 = W at HZ HB ⊢
    obtain ⟨g, hg⟩ : ∃ g, g = w.heap.size := ⟨_, rfl⟩
    rw [← hg] at HZ ⊢
    replace HG := Aside0.mk (show w.heap.size ≤ g by omega)
    clear hg
    go_wp2_with fail
    go_loopw [4] (fun v4 wr => ∃ (k : Nat), k ≤ 16 ∧ Aside0 (wr.heap[g]? = some (.stringIter digitsB k)) ∧ Aside0 (Below w.heap.size w wr)) (fun _ wr => 17 - posIn wr g)
    case atStart => exact ⟨0, by decide, HZ, HB⟩
    case round =>
      clear HZ HB
      obtain ⟨k, hk, HZ, HB⟩ := hrel
      have hm : posIn wr g = k := by unfold posIn; rw [HZ.out]
      rw [hm]
      clear hm
      by_cases hk16 : k = 16
      · subst hk16
        have hn : ∀ ty, (Instr.next (.pointer (some ⟨g, 0, none⟩)) true ty).run Try.prog wr = .ok (.tuple #[.bool false]) wr := fun ty => Lib.run_next_end_at wr g digitsB 16 ty HZ.out (by decide)
        clear hk
        go_wp2_with fail
        go_ret
        exact ⟨rfl, HB.out⟩
      · have hkl : k < digitsB.size := by show k < 16; omega
        have HK := Aside0.mk (show k < 16 by omega)
        have hlt : (digitsB[k]'hkl).toNat < 128 := by
          have key : ∀ x : Fin 16, (digitsB[x.val]'(by show x.val < 16; exact x.isLt)).toNat < 128 := by decide +kernel
          exact key ⟨k, by omega⟩
        have hn : ∀ ty, (Instr.next (.pointer (some ⟨g, 0, none⟩)) true ty).run Try.prog wr = .ok (.tuple #[.bool true, .int .i64 k, .int .i32 (digitsB[k]'hkl).toNat]) (wr.iterAt g digitsB (k + 1)) := fun ty => Lib.run_next_ascii_at wr g digitsB k ty HZ.out hkl hlt
        generalize digitsB[k]'hkl = c at hn hlt
        have cf : (((c.toNat : Nat) : Int) == 65533) = false := beq_eq_false_iff_ne.mpr (by omega)
        have HZ2 := Aside0.mk (Lib.iterAt_heap wr g digitsB k (k + 1) HZ.out)
        have HB2 := Aside0.mk (Lib.below_iterAt HB.out HG.out digitsB (k + 1))
        clear hlt hk hkl hk16
        go_wp2_with fail
        first
          | (go_roundw; case rel => exact ⟨k + 1, HK.out, HZ2, HB2⟩)
          | (refine ⟨?_, ?measure⟩; exact ⟨k + 1, HK.out, HZ2, HB2⟩)
        case measure => (rw [show posIn _ g = k + 1 from by unfold posIn; rw [HZ2.out]]; have := HK.out; omega)
  · have cr : ((r : Int) == 65533) = false := beq_eq_false_iff_ne.mpr (by omega)
    have HE := Aside0.mk (enc_size r h1)
    have HR := Aside0.mk h1
    clear hr h1 h2
    go_enter Try.func23, Try.ntmps23
    go_wp2_with fail
    go_at_call 27
    refine (Try.utf8_ValidRune (r : Int) w).mono ?_
    rw [HV.out]
    rintro e w5 ⟨rfl, rfl⟩
    obtain ⟨S, hS⟩ : ∃ S, Utf8.encode (r : Int) = S := ⟨_, rfl⟩
    rw [hS] at HE
    have hcv : (Go.convert 21 9 (.int .i32 (r : Int))).run Try.prog w5 = .ok (.string S) w5 := by
      rw [← hS]; exact run_convert_int_string w5 21 9 .i32 r (by rw [Try.underlying21]; rfl) Try.underlying9
    clear hS
    go_wp2_with fail
    go_step3
    go_wp2_with fail
    obtain ⟨hs2, hs4, hlast⟩ := HE.out
    obtain ⟨m, hm⟩ : ∃ m, S.size - 1 = m := ⟨_, rfl⟩
    have hmS : m < S.size := by omega
    obtain ⟨L, hL⟩ : ∃ L, S[m]'hmS = L := ⟨_, rfl⟩
    have hl : 128 ≤ L.toNat := by have := hlast (by omega); rw [← hL]; simp only [← hm]; exact this
    clear hlast
    have hw : wrap64 ((S.size : Int) - 1) = (m : Int) := by unfold wrap64; omega
    have hm16 : m < 16 := by omega
    have hmd : m < digitsB.size := hm16
    have hdec : decide ((m : Int) < digitsB.size) = true := decide_eq_true (by show (m : Int) < ((16 : Nat) : Int); omega)
    have hdl : (digitsB[m]'hmd).toNat < 128 := by
      have key : ∀ x : Fin 16, (digitsB[x.val]'(by show x.val < 16; exact x.isLt)).toNat < 128 := by decide +kernel
      exact key ⟨m, hm16⟩
    obtain ⟨D, hD⟩ : ∃ D, digitsB[m]'hmd = D := ⟨_, rfl⟩
    rw [hD] at hdl
    have hne : ((D.toNat : Int) == (L.toNat : Int)) = false := beq_eq_false_iff_ne.mpr (by omega)
    refine wp_loop_rounds 1 ?_
    rw [rounds_succ]
    clear hm hs2 hs4
    go_wp2_with fail
    go_step3
    go_wp2_with fail
    go_region
    go_wp2_with fail
    have hw2 : wrap64 ((m : Int) + 1) = (m : Int) + 1 := by unfold wrap64; omega
    have hw3 : IntKind.i64.wrap ((m : Int) + 1) = (m : Int) + 1 := (IntWalk.i64_left _).trans hw2
    have hz0 : (0 : Int) ≤ (m : Int) + 1 := by omega
    have hz1 : (m : Int) + 1 ≤ (digitsB.size : Int) := by show (m : Int) + 1 ≤ ((16 : Nat) : Int); omega
    have hI : Lib.indexByte (digitsB.extract (m + 1) digitsB.size).data.toList ((L.toNat : Int)).toNat.toUInt8 = -1 := by
      have key : ∀ x : Fin 16, (digitsB.extract (x.val + 1) digitsB.size).data.toList = digitsB.data.toList.drop (x.val + 1) := by decide +kernel
      have e := key ⟨m, hm16⟩
      simp only at e
      rw [e, show ((L.toNat : Int)).toNat.toUInt8 = L by simp]
      exact indexByte_digits L hl (m + 1)
    have hsl : ∀ W, (Instr.slice 9 (.string digitsB) (some (.int .i64 ((m : Int) + 1))) none none).run Try.prog W = .ok (.string (digitsB.extract (m + 1) digitsB.size)) W := by
      intro W
      have := run_slice_string_l (P := Try.prog) W 9 digitsB Try.underlying9 .i64 ((m : Int) + 1) hz0 hz1
      rw [show ((m : Int) + 1).toNat = m + 1 by omega] at this
      exact this
    go_region_with (go_at_call 26; refine (Try.strings_IndexByte _ _ _).mono ?_; rw [hI]; rintro e w6 ⟨rfl, rfl⟩)
    go_wp2_with fail
    repeat (first | rw [Exit.noGoto_ret] | simp only [Exit.then, Exit.inBlock, ↓reduceIte, Nat.reduceEqDiff, reduceCtorEq])
    go_ret
    exact ⟨rfl, by repeat (first | exact Below.refl _ _ | apply below_drew1)⟩
theorem noAscii_all (s : ByteArray) : NoAscii s := fun k h hc => ⟨(decode_high s k h hc).1, fun w => IndexRune_high _ (decode_high s k h hc).1 (decode_high s k h hc).2 w⟩
theorem hexDigit_val (c : UInt8) (h : ¬ hexVal c < 0) : hexDigit (hexVal c) = c := by
  have key : ∀ x : Fin 256, ¬ hexVal (UInt8.ofNat x.val) < 0 → hexDigit (hexVal (UInt8.ofNat x.val)) = UInt8.ofNat x.val := by decide +kernel
  have hc : UInt8.ofNat c.toNat = c := by simp
  have := key ⟨c.toNat, UInt8.toNat_lt c⟩
  simp only [hc] at this
  exact this h
theorem parse_inv (a : Int) : ∀ m, m ≤ 12 → ∀ (l : List UInt8) (acc : Int), l.length + (if m = 0 then 17 else posOf (12 - m)) = 17 → parseGo l (if m = 0 then 17 else posOf (12 - m)) acc = some a → l = showRest a m ∧ a / 2 ^ (4 * m) = acc
  | 0, _, l, acc, hl, h => by
    rw [if_pos rfl] at hl
    have : l = [] := List.length_eq_zero_iff.1 (by omega)
    subst this
    rw [parseGo] at h
    injection h with h
    subst h
    exact ⟨rfl, by simp⟩
  | m + 1, hm, l, acc, hl, h => by
    have ih := parse_inv a m (by omega)
    rw [if_neg (show ¬ (m + 1 = 0) by omega)] at hl h
    cases l with
    | nil => exfalso; rw [List.length_nil] at hl; unfold posOf at hl; omega
    | cons c l =>
      rw [List.length_cons] at hl
      rw [parseGo, if_neg (show ¬ posOf (12 - (m + 1)) % 3 = 2 by unfold posOf; omega)] at h
      by_cases hc : hexVal c < 0
      · rw [if_pos hc] at h; exact absurd h (by simp)
      rw [if_neg hc] at h
      have hd := hexDigit_val c hc
      have hle := hexVal_le c
      have fin : ∀ l', (l' = showRest a m ∧ a / 2 ^ (4 * m) = acc * 16 + hexVal c) → (c :: ((if 0 < m ∧ m % 2 = 0 then [58] else []) ++ l') = showRest a (m + 1) ∧ a / 2 ^ (4 * (m + 1)) = acc) := by
        rintro l' ⟨rfl, e⟩
        refine ⟨?_, ?_⟩
        · rw [showRest, e, show (acc * 16 + hexVal c) % 16 = hexVal c by omega, hd]
        · rw [show 4 * (m + 1) = 4 * m + 4 by omega, Int.pow_add, ← Int.ediv_ediv_of_nonneg (Int.le_of_lt (Int.pow_pos (by decide))), e, show (2 : Int) ^ 4 = 16 by decide]; omega
      by_cases k : 0 < m ∧ m % 2 = 0
      · rw [if_pos k] at fin
        cases l with
        | nil => exfalso; rw [List.length_nil] at hl; unfold posOf at hl; omega
        | cons d l =>
          rw [List.length_cons] at hl
          rw [parseGo, if_pos (show (posOf (12 - (m + 1)) + 1) % 3 = 2 by unfold posOf; omega)] at h
          by_cases k58 : d = 58
          · rw [if_pos k58, show posOf (12 - (m + 1)) + 1 + 1 = posOf (12 - m) by unfold posOf; omega] at h
            subst k58
            have e := ih l (acc * 16 + hexVal c)
            rw [if_neg (by omega)] at e
            exact fin l (e (by unfold posOf at hl ⊢; omega) h)
          · rw [if_neg k58] at h; exact absurd h (by simp)
      · rw [if_neg k] at fin
        have e := ih l (acc * 16 + hexVal c)
        have hp : posOf (12 - (m + 1)) + 1 = if m = 0 then 17 else posOf (12 - m) := by
          split
          · rename_i h0; subst h0; decide
          · unfold posOf; omega
        rw [hp] at h
        exact fin l (e (by rw [← hp]; omega) h)
theorem parse_inv12 (s : ByteArray) (hs : s.size = 17) (a : Int) (h : parseGo s.data.toList 0 0 = some a) : (0 ≤ a ∧ a ≤ 281474976710655) ∧ (⟨(showRest a 12).toArray⟩ : ByteArray) = s := by
  have e := parse_inv a 12 (Nat.le_refl _) s.data.toList 0
  rw [if_neg (by decide), show posOf (12 - 12) = 0 by decide] at e
  obtain ⟨e1, e2⟩ := e (by rw [Array.length_toList]; exact hs) h
  refine ⟨?_, ?_⟩
  · rw [show 4 * 12 = 48 by decide, show (2 : Int) ^ 48 = 281474976710656 by decide] at e2
    omega
  · rw [← e1, Array.toArray_toList]
def kissgatelaw02_AddrParses.Pure : Prop := True
set_option maxHeartbeats 8000000 in
set_option maxRecDepth 100000 in
theorem kissgatelaw02_AddrParses.walk (P : kissgatelaw02_AddrParses.Pure) (a0 : ByteArray) (w : World) (w0 : a0.size ≤ 140737488351232) :
    Calls Try.prog 7 #[.string a0] w fun e w' => e = .returned (.bool true) ∧ Below w.heap.size w w' := by
  have HA := Aside0.mk (kissgatelaw02_alive.calls true w alive_is)
  clear P w0
  obtain ⟨R, hR⟩ : ∃ R, (if a0.size = 17 then parseGo a0.data.toList 0 0 else none) = R := ⟨_, rfl⟩
  have HP := Aside0.mk (fun W => Parse_calls a0 (noAscii_all a0) R hR W)
  go_enter Try.func7, Try.ntmps7
  go_wp2_with fail
  go_at_call 8
  refine (HA.out).mono ?_
  rintro e w1 ⟨rfl, hb⟩
  have HB := Aside0.mk hb
  clear hb
  by_cases h100 : 100 < a0.size
  · have d100 : decide ((100 : Int) < a0.size) = true := decide_eq_true (by omega)
    clear h100 hR
    go_wp2_with fail
    go_ret
    exact ⟨rfl, HB.out⟩
  have d100 : decide ((100 : Int) < a0.size) = false := decide_eq_false (by omega)
  clear h100
  cases R with
  | none =>
    clear hR
    go_wp2_with fail
    go_at_call 19
    refine (HP.out _).mono ?_
    rw [show valOf none = 0 from rfl, show errOf none = 4 from rfl]
    rintro e w2 ⟨rfl, hb⟩
    have HB := Aside0.mk (below_step HB.out hb)
    clear hb
    go_wp2_with fail
    go_ret
    exact ⟨by first | rfl | simp, HB.out⟩
  | some a =>
    have h17 : a0.size = 17 := by
      by_cases h : a0.size = 17
      · exact h
      · rw [if_neg h] at hR; exact absurd hR (by simp)
    rw [if_pos h17] at hR
    obtain ⟨ha, hs⟩ := parse_inv12 a0 h17 a hR
    have h2 := rshow_is a ha
    rw [hs] at h2
    have H2 := Aside0.mk (fun W => kissgateref02_Show.calls 7 a a0 W h2)
    have hx : (a0.toList == a0.toList) = true := beq_self_eq_true _
    clear hR h17 ha hs h2
    go_wp2_with fail
    go_at_call 19
    refine (HP.out _).mono ?_
    rw [show valOf (some a) = a from rfl, show errOf (some a) = 0 from rfl]
    rintro e w2 ⟨rfl, hb⟩
    have HB := Aside0.mk (below_step HB.out hb)
    clear hb
    go_wp2_with fail
    go_at_call 20
    refine (H2.out _).mono ?_
    rintro e w2 ⟨rfl, hb⟩
    have HB := Aside0.mk (by first | exact below_step HB.out hb | exact below_step HB.out hb.below)
    clear hb
    go_wp2_with fail
    go_ret
    exact ⟨by first | rfl | simp, HB.out⟩


end Go.Proofs.Ytibeijfgjcakiaa.PAddrParses
