-- Written by a program of this session (see NOTES.md), which reads the translation's print; Lean checks it.
import Derived.Test.YtibeijfgjcakiaaPAddrNumbersx0
namespace Go.Proofs.Ytibeijfgjcakiaa.PAddrNumbers
open Go.RowKit Go.Proofs.YtibeijfgjcakiaaW.PrintWords Go.Proofs.YtibeijfgjcakiaaW.PrintLast Go.Proofs.YtibeijfgjcakiaaW.PrintMore
attribute [local go_sem] max2_int min2_int max_two min_two max_three min_three max_four min_four   -- for this text's walks alone
set_option linter.unusedVariables false
set_option linter.unusedSimpArgs false

/-! ### addr_Good: function 9 -/
def addr_Good.f (a0 : Int) : Option (Bool) := if a0 ≥ 0 then (some (decide (a0 ≤ 281474976710655))) else (some false)
set_option maxHeartbeats 8000000 in
set_option maxRecDepth 100000 in
theorem addr_Good.calls (a0 : Int) (r : Bool) (w : World) (h : addr_Good.f a0 = some r) :
    Calls Try.prog 9 #[.int .i64 a0] w fun e w' => e = .returned (.bool r) ∧ Drawn0 w w' := by
  have H : (if a0 ≥ 0 then (some (decide (a0 ≤ 281474976710655))) else (some false)) = some r := h
  clear h
  by_cases c2 : a0 ≥ 0
  · rw [if_pos c2] at H
    have c2b0 : decide (0 ≤ a0) = true := decide_eq_true c2
    clear c2
    obtain rfl := Option.some.inj H
    go_enter Try.func9, Try.ntmps9
    go_wp2
    go_ret
    exact ⟨by first | rfl | (simp; done) | (simp [show ∀ l_ : List UInt8, (l_ != []) = !l_.isEmpty from fun l_ => by cases l_ <;> rfl]; done) | (simp [*]; done), by repeat (first | exact Drawn0.refl _ | apply Drawn0.step)⟩
  · rw [if_neg c2] at H
    have c2b0 : decide (0 ≤ a0) = false := decide_eq_false c2
    clear c2
    obtain rfl := Option.some.inj H
    go_enter Try.func9, Try.ntmps9
    go_wp2
    go_ret
    exact ⟨by first | rfl | (simp; done) | (simp [show ∀ l_ : List UInt8, (l_ != []) = !l_.isEmpty from fun l_ => by cases l_ <;> rfl]; done) | (simp [*]; done), by repeat (first | exact Drawn0.refl _ | apply Drawn0.step)⟩

/-! ### addr_Kept: function 13 -/
def addr_Kept.f (a0 : Int) : Option (Bool) := (addr_Good.f a0).bind fun t101 => (if t101 = true then (if (a0 / 16) = 103282638848 then (some true) else (if a0 = 1652522221601 then (some true) else (some (a0 == 1652522221600)))) else (some false))
set_option maxHeartbeats 8000000 in
set_option maxRecDepth 100000 in
theorem addr_Kept.calls (a0 : Int) (r : Bool) (w : World) (h : addr_Kept.f a0 = some r) :
    Calls Try.prog 13 #[.int .i64 a0] w fun e w' => e = .returned (.bool r) ∧ Drawn0 w w' := by
  have H : ((addr_Good.f a0).bind fun t101 => (if t101 = true then (if (a0 / 16) = 103282638848 then (some true) else (if a0 = 1652522221601 then (some true) else (some (a0 == 1652522221600)))) else (some false))) = some r := h
  clear h
  replace H := Option.bind_eq_some_iff.mp H
  obtain ⟨t101, A20, H⟩ := H
  replace H : (if t101 = true then (if (a0 / 16) = 103282638848 then (some true) else (if a0 = 1652522221601 then (some true) else (some (a0 == 1652522221600)))) else (some false)) = some r := H
  have A2 := Aside0.mk A20
  clear A20
  by_cases c3 : t101 = true
  · subst c3
    have H1 : (if (a0 / 16) = 103282638848 then (some true) else (if a0 = 1652522221601 then (some true) else (some (a0 == 1652522221600)))) = some r := by rw [if_pos rfl] at H; exact H
    clear H
    have H := H1
    clear H1
    by_cases c4 : (a0 / 16) = 103282638848
    · rw [if_pos c4] at H
      have c4b0 : ((a0 / 16) == 103282638848) = true := beq_iff_eq.mpr c4
      have c4b1 : ((a0 / 16) != 103282638848) = false := bne_eq_false_iff_eq.mpr c4
      clear c4
      obtain rfl := Option.some.inj H
      go_enter Try.func13, Try.ntmps13
      go_wp2_with (first | ((with_reducible refine gate_callee (f := 9) rfl ?_); refine goesL_ (some 4) rfl rfl Try.func9 (by kernel_rfl) rfl #[.int .i64 a0] rfl (by (try simp only [List.map_toArray, List.map_cons, List.map_nil]); first | done | rfl | (simp only [List.length_drop, List.length_take]; rfl)) ?_; (with_reducible refine (addr_Good.calls a0 true _ A2.out).mono ?_); rintro e w' ⟨rfl, ⟨nd, rfl⟩⟩; refine ⟨_, rfl, ?_⟩))
      go_ret
      exact ⟨by first | rfl | (simp; done) | (simp [show ∀ l_ : List UInt8, (l_ != []) = !l_.isEmpty from fun l_ => by cases l_ <;> rfl]; done) | (simp [*]; done), by repeat (first | exact Drawn0.refl _ | apply Drawn0.step)⟩
    · rw [if_neg c4] at H
      have c4b0 : ((a0 / 16) == 103282638848) = false := beq_eq_false_iff_ne.mpr c4
      have c4b1 : ((a0 / 16) != 103282638848) = true := bne_iff_ne.mpr c4
      by_cases c5 : a0 = 1652522221601
      · rw [if_pos c5] at H
        have c5b0 : (a0 == 1652522221601) = true := beq_iff_eq.mpr c5
        have c5b1 : (a0 != 1652522221601) = false := bne_eq_false_iff_eq.mpr c5
        clear c5
        obtain rfl := Option.some.inj H
        go_enter Try.func13, Try.ntmps13
        go_wp2_with (first | ((with_reducible refine gate_callee (f := 9) rfl ?_); refine goesL_ (some 4) rfl rfl Try.func9 (by kernel_rfl) rfl #[.int .i64 a0] rfl (by (try simp only [List.map_toArray, List.map_cons, List.map_nil]); first | done | rfl | (simp only [List.length_drop, List.length_take]; rfl)) ?_; (with_reducible refine (addr_Good.calls a0 true _ A2.out).mono ?_); rintro e w' ⟨rfl, ⟨nd, rfl⟩⟩; refine ⟨_, rfl, ?_⟩))
        go_ret
        exact ⟨by first | rfl | (simp; done) | (simp [show ∀ l_ : List UInt8, (l_ != []) = !l_.isEmpty from fun l_ => by cases l_ <;> rfl]; done) | (simp [*]; done), by repeat (first | exact Drawn0.refl _ | apply Drawn0.step)⟩
      · rw [if_neg c5] at H
        have c5b0 : (a0 == 1652522221601) = false := beq_eq_false_iff_ne.mpr c5
        have c5b1 : (a0 != 1652522221601) = true := bne_iff_ne.mpr c5
        obtain rfl := Option.some.inj H
        go_enter Try.func13, Try.ntmps13
        go_wp2_with (first | ((with_reducible refine gate_callee (f := 9) rfl ?_); refine goesL_ (some 4) rfl rfl Try.func9 (by kernel_rfl) rfl #[.int .i64 a0] rfl (by (try simp only [List.map_toArray, List.map_cons, List.map_nil]); first | done | rfl | (simp only [List.length_drop, List.length_take]; rfl)) ?_; (with_reducible refine (addr_Good.calls a0 true _ A2.out).mono ?_); rintro e w' ⟨rfl, ⟨nd, rfl⟩⟩; refine ⟨_, rfl, ?_⟩))
        go_ret
        exact ⟨by first | rfl | (simp; done) | (simp [show ∀ l_ : List UInt8, (l_ != []) = !l_.isEmpty from fun l_ => by cases l_ <;> rfl]; done) | (simp [*]; done), by repeat (first | exact Drawn0.refl _ | apply Drawn0.step)⟩
  · replace c3 := Bool.eq_false_iff.mpr c3
    subst c3
    have H1 : (some false) = some r := by rw [if_neg (show ¬ (false = true) by decide)] at H; exact H
    clear H
    have H := H1
    clear H1
    obtain rfl := Option.some.inj H
    go_enter Try.func13, Try.ntmps13
    go_wp2_with (first | ((with_reducible refine gate_callee (f := 9) rfl ?_); refine goesL_ (some 4) rfl rfl Try.func9 (by kernel_rfl) rfl #[.int .i64 a0] rfl (by (try simp only [List.map_toArray, List.map_cons, List.map_nil]); first | done | rfl | (simp only [List.length_drop, List.length_take]; rfl)) ?_; (with_reducible refine (addr_Good.calls a0 false _ A2.out).mono ?_); rintro e w' ⟨rfl, ⟨nd, rfl⟩⟩; refine ⟨_, rfl, ?_⟩))
    go_ret
    exact ⟨by first | rfl | (simp; done) | (simp [show ∀ l_ : List UInt8, (l_ != []) = !l_.isEmpty from fun l_ => by cases l_ <;> rfl]; done) | (simp [*]; done), by repeat (first | exact Drawn0.refl _ | apply Drawn0.step)⟩

-- NOT PRINTED: function 30 (abi_NoEscape)

-- NOT PRINTED: function 25 (strings_Builder_copyCheck)

-- NOT PRINTED: function 21 (strings_Builder_WriteByte)

-- NOT PRINTED: function 22 (strings_Builder_String)

/-! ### addr_Show: function 15 -/
/-- The digit of a number below sixteen. -/
def hexDigit (d : Int) : UInt8 := (#[48, 49, 50, 51, 52, 53, 54, 55, 56, 57, 97, 98, 99, 100, 101, 102] : Array UInt8).getD d.toNat 48
/-- m digits of an address, with the colons between. -/
def showRest (a : Int) : Nat → List UInt8
  | 0 => []
  | m + 1 => hexDigit (a / 2 ^ (4 * m) % 16) :: ((if 0 < m ∧ m % 2 = 0 then [58] else []) ++ showRest a m)
def addr_Show.f (a0 : Int) : Option ByteArray := (addr_Good.f a0).bind fun t => if t = true then some ⟨(showRest a0 12).toArray⟩ else some (⟨#[]⟩ : ByteArray)
theorem and_16 (x : Int) (h0 : 0 ≤ x) (h1 : x < 2 ^ 63) : Go.bits .and .i64 x 15 = x % 16 :=
  bits_mask .i64 63 (by decide) (fun n h0 h1 => by rw [IntKind.wrap_i64]; omega) 4 (by decide) x h0 h1
theorem hex_at (d : Int) (h : d.toNat < (⟨#[48, 49, 50, 51, 52, 53, 54, 55, 56, 57, 97, 98, 99, 100, 101, 102]⟩ : ByteArray).size) : (⟨#[48, 49, 50, 51, 52, 53, 54, 55, 56, 57, 97, 98, 99, 100, 101, 102]⟩ : ByteArray)[d.toNat]'h = hexDigit d := by
  have h' : d.toNat < (#[48, 49, 50, 51, 52, 53, 54, 55, 56, 57, 97, 98, 99, 100, 101, 102] : Array UInt8).size := h
  unfold hexDigit
  rw [Array.getD_eq_getD_getElem?, Array.getElem?_eq_getElem h']; rfl
theorem cells_snoc (acc : List UInt8) (x : UInt8) : Lib.byteCells (acc ++ [x]) = Lib.byteCells acc ++ [.int .u8 (x.toNat : Int)] := by rw [Lib.byteCells_append]; rfl
set_option maxHeartbeats 4000000 in
set_option maxRecDepth 100000 in
theorem addr_Show.calls (a0 : Int) (r : ByteArray) (w : World) (h : addr_Show.f a0 = some r) :
    Calls Try.prog 15 #[.int .i64 a0] w fun e w' => e = .returned (.string r) ∧ Below w.heap.size w w' := by
  unfold addr_Show.f at h
  obtain ⟨t, ht, h⟩ := Option.bind_eq_some_iff.mp h
  have hu := Try.underlying34
  cases t with
  | false =>
    rw [if_neg (by decide)] at h
    simp only [Option.some.injEq] at h
    subst h
    have HT := Aside0.mk ht
    clear ht
    go_enter Try.func15, Try.ntmps15
    go_wp2_with fail
    refine (addr_Good.calls _ false _ HT.out).mono ?_
    rintro e w1 ⟨rfl, hb⟩
    go_wp2
    go_ret
    exact ⟨rfl, hb.below⟩
  | true =>
    rw [if_pos rfl] at h
    simp only [Option.some.injEq] at h
    have ha : 0 ≤ a0 ∧ a0 ≤ 281474976710655 := by
      unfold addr_Good.f at ht
      by_cases h0 : a0 ≥ 0
      · rw [if_pos h0] at ht; simp at ht; omega
      · rw [if_neg h0] at ht; simp at ht
    have HT := Aside0.mk ht
    have HR := Aside0.mk h
    clear ht h
    go_enter Try.func15, Try.ntmps15
    go_wp2_with fail
    refine (addr_Good.calls _ true _ HT.out).mono ?_
    rintro e w1 ⟨rfl, hb⟩
    have hs1 : w1.heap.size = w.heap.size := by obtain ⟨⟨n, hn⟩⟩ := hb; rw [hn]; rfl
    go_wp2
    go_loopw [4] (fun v4 wr => ∃ (m : Nat) (acc : List UInt8), m ≤ 12 ∧ v4 = .int .i64 ((m : Int) - 1) ∧ Aside0 (acc ++ showRest a0 m = showRest a0 12) ∧ Aside0 (acc.length + 2 * m ≤ 24) ∧ Aside0 (Lib.IsBuilder 34 5 w.heap.size w.heap.size (Lib.byteCells acc) wr) ∧ Aside0 (Below w.heap.size w wr)) (fun v4 _ => (intOf v4 + 1).toNat)
    case atStart =>
      refine ⟨12, [], Nat.le_refl _, rfl, ⟨rfl⟩, ⟨by decide⟩, ⟨?_⟩, ⟨?_⟩⟩
      · have f := Lib.fresh_isBuilder 34 5 w1; rw [hs1] at f; exact f
      · exact below_alloc hb.below _
    case round =>
      obtain ⟨m, acc, hm, rfl, HA, HL, HI, HB⟩ := hrel
      cases m with
      | zero =>
        go_wp2_with fail
        refine (Try.Builder_String_any w.heap.size w.heap.size acc _ HI.out HB.out.size).mono ?_
        rintro e w3 ⟨rfl, hb3⟩
        go_wp2
        go_ret
        have e1 := HA.out
        rw [show showRest a0 0 = [] from rfl, List.append_nil] at e1
        rw [e1]
        exact ⟨by rw [HR.out]; rfl, HB.out.trans hb3⟩
      | succ i =>
        rw [show ((i + 1 : Nat) : Int) - 1 = (i : Int) from by omega]
        have hi0 : 0 ≤ (i : Int) := by omega
        have hi11 : (i : Int) ≤ 11 := by omega
        have hw4 : IntKind.i64.wrap (4 * (i : Int)) = 4 * (i : Int) := by rw [IntKind.wrap_i64]; omega
        have hdiv : 0 ≤ a0 / 2 ^ (4 * i) ∧ a0 / 2 ^ (4 * i) < 2 ^ 63 := ⟨Int.ediv_nonneg ha.1 (Int.le_of_lt (Int.pow_pos (by decide))), Int.lt_of_le_of_lt (Int.ediv_le_self _ ha.1) (by omega)⟩
        obtain ⟨d, hd⟩ : ∃ d, d = a0 / 2 ^ (4 * i) % 16 := ⟨_, rfl⟩
        have hand : Go.bits .and .i64 (a0 / 2 ^ (4 * i)) 15 = d := by rw [hd]; exact and_16 _ hdiv.1 hdiv.2
        have hr0 : 0 ≤ d := by omega
        have hr1 : d < 16 := by omega
        have HD := Aside0.mk hd
        clear hd hdiv
        have hl1 : (Lib.byteCells acc).length + 1 ≤ 140737488355328 := by rw [Lib.byteCells_length]; have := HL.out; omega
        have hl2 : (Lib.byteCells (acc ++ [hexDigit d])).length + 1 ≤ 140737488355328 := by rw [Lib.byteCells_length, List.length_append]; have := HL.out; simp; omega
        have go : (0 < i ∧ i % 2 = 0) ∨ i = 0 ∨ i % 2 = 1 := by omega
        have C1 := Aside0.mk hl1
        have C2 := Aside0.mk hl2
        clear hl1 hl2
        go_wp2_with fail
        simp only [hex_at]
        refine (Try.Builder_WriteByte w.heap.size w.heap.size (Lib.byteCells acc) _ wr HI.out C1.out HB.out.size).mono ?_
        rintro e w3 ⟨rfl, hA3, hB3⟩
        have I3 := Aside0.mk (show Lib.IsBuilder 34 5 w.heap.size w.heap.size (Lib.byteCells (acc ++ [hexDigit d])) w3 by rw [cells_snoc]; exact Or.inr hA3)
        have B3 := Aside0.mk (HB.out.trans hB3)
        clear hA3 hB3
        rcases go with ⟨g1, g2⟩ | g1 | g1
        · have k1 : (i : Int) > 0 := by omega
          have k2 : Int.tmod (i : Int) 2 = 0 := by rw [Int.tmod_eq_emod_of_nonneg hi0]; omega
          go_wp2_with fail
          refine (Try.Builder_WriteByte w.heap.size w.heap.size (Lib.byteCells (acc ++ [hexDigit d])) _ w3 I3.out C2.out B3.out.size).mono ?_
          rintro e w4 ⟨rfl, hA4, hB4⟩
          go_wp2
          go_roundw
          case rel =>
            refine ⟨i, acc ++ [hexDigit d] ++ [58], by omega, by go_num, ⟨?_⟩, ⟨?_⟩, ⟨?_⟩, ⟨B3.out.trans hB4⟩⟩
            · rw [← HA.out]; simp only [showRest]; rw [if_pos ⟨g1, g2⟩, HD.out]; simp
            · have := HL.out; simp; omega
            · rw [cells_snoc]; exact Or.inr hA4
          case measure => simp [intOf]
        · have k1 : (i : Int) = 0 := by omega
          go_wp2
          go_roundw
          case rel =>
            refine ⟨i, acc ++ [hexDigit d], by omega, by go_num, ⟨?_⟩, ⟨?_⟩, I3, B3⟩
            · rw [← HA.out]; simp only [showRest]; rw [if_neg (by omega), HD.out]; simp
            · have := HL.out; simp; omega
          case measure => simp [intOf]
        · have k1 : (i : Int) > 0 := by omega
          have k2 : Int.tmod (i : Int) 2 = 1 := by rw [Int.tmod_eq_emod_of_nonneg hi0]; omega
          go_wp2
          go_roundw
          case rel =>
            refine ⟨i, acc ++ [hexDigit d], by omega, by go_num, ⟨?_⟩, ⟨?_⟩, I3, B3⟩
            · rw [← HA.out]; simp only [showRest]; rw [if_neg (by omega), HD.out]; simp
            · have := HL.out; simp; omega
          case measure => simp [intOf]


/-! ### addr_Vid: function 16 -/
def addr_Vid.f (a0 : Int) : Option (Bool) := if a0 ≥ 1 then (some (decide (a0 ≤ 4094))) else (some false)
set_option maxHeartbeats 8000000 in
set_option maxRecDepth 100000 in
theorem addr_Vid.calls (a0 : Int) (r : Bool) (w : World) (h : addr_Vid.f a0 = some r) :
    Calls Try.prog 16 #[.int .i64 a0] w fun e w' => e = .returned (.bool r) ∧ Drawn0 w w' := by
  have H : (if a0 ≥ 1 then (some (decide (a0 ≤ 4094))) else (some false)) = some r := h
  clear h
  by_cases c2 : a0 ≥ 1
  · rw [if_pos c2] at H
    have c2b0 : decide (1 ≤ a0) = true := decide_eq_true c2
    clear c2
    obtain rfl := Option.some.inj H
    go_enter Try.func16, Try.ntmps16
    go_wp2
    go_ret
    exact ⟨by first | rfl | (simp; done) | (simp [show ∀ l_ : List UInt8, (l_ != []) = !l_.isEmpty from fun l_ => by cases l_ <;> rfl]; done) | (simp [*]; done), by repeat (first | exact Drawn0.refl _ | apply Drawn0.step)⟩
  · rw [if_neg c2] at H
    have c2b0 : decide (1 ≤ a0) = false := decide_eq_false c2
    clear c2
    obtain rfl := Option.some.inj H
    go_enter Try.func16, Try.ntmps16
    go_wp2
    go_ret
    exact ⟨by first | rfl | (simp; done) | (simp [show ∀ l_ : List UInt8, (l_ != []) = !l_.isEmpty from fun l_ => by cases l_ <;> rfl]; done) | (simp [*]; done), by repeat (first | exact Drawn0.refl _ | apply Drawn0.step)⟩

/-! ### kissgatelaw02_alive: function 8 -/
def kissgatelaw02_alive.f  : Option (Bool) := (addr_Show.f 1).bind fun t102 => (if t102.toList = ([48, 48, 58, 48, 48, 58, 48, 48, 58, 48, 48, 58, 48, 48, 58, 48, 49] : List UInt8) then ((addr_Kept.f 1652522221568).bind fun t103 => (if t103 = true then ((addr_Vid.f 1).bind fun t104 => (some t104)) else (some false))) else (some false))
set_option maxHeartbeats 8000000 in
set_option maxRecDepth 100000 in
theorem kissgatelaw02_alive.calls  (r : Bool) (w : World) (h : kissgatelaw02_alive.f  = some r) :
    Calls Try.prog 8 #[] w fun e w' => e = .returned (.bool r) ∧ Below w.heap.size w w' := by
  have HB := Aside0.mk (Below.refl w.heap.size w)
  have H : ((addr_Show.f 1).bind fun t102 => (if t102.toList = ([48, 48, 58, 48, 48, 58, 48, 48, 58, 48, 48, 58, 48, 48, 58, 48, 49] : List UInt8) then ((addr_Kept.f 1652522221568).bind fun t103 => (if t103 = true then ((addr_Vid.f 1).bind fun t104 => (some t104)) else (some false))) else (some false))) = some r := h
  clear h
  replace H := Option.bind_eq_some_iff.mp H
  obtain ⟨t102, A10, H⟩ := H
  replace H : (if t102.toList = ([48, 48, 58, 48, 48, 58, 48, 48, 58, 48, 48, 58, 48, 48, 58, 48, 49] : List UInt8) then ((addr_Kept.f 1652522221568).bind fun t103 => (if t103 = true then ((addr_Vid.f 1).bind fun t104 => (some t104)) else (some false))) else (some false)) = some r := H
  have A1 := Aside0.mk A10
  clear A10
  by_cases c2 : t102.toList = ([48, 48, 58, 48, 48, 58, 48, 48, 58, 48, 48, 58, 48, 48, 58, 48, 49] : List UInt8)
  · rw [if_pos c2] at H
    have c2b0 : (t102.toList == ([48, 48, 58, 48, 48, 58, 48, 48, 58, 48, 48, 58, 48, 48, 58, 48, 49] : List UInt8)) = true := beq_iff_eq.mpr c2
    have c2b1 : (t102.toList != ([48, 48, 58, 48, 48, 58, 48, 48, 58, 48, 48, 58, 48, 48, 58, 48, 49] : List UInt8)) = false := bne_eq_false_iff_eq.mpr c2
    clear c2
    replace H := Option.bind_eq_some_iff.mp H
    obtain ⟨t103, A30, H⟩ := H
    replace H : (if t103 = true then ((addr_Vid.f 1).bind fun t104 => (some t104)) else (some false)) = some r := H
    have A3 := Aside0.mk A30
    clear A30
    by_cases c4 : t103 = true
    · subst c4
      have H1 : ((addr_Vid.f 1).bind fun t104 => (some t104)) = some r := by rw [if_pos rfl] at H; exact H
      clear H
      have H := H1
      clear H1
      replace H := Option.bind_eq_some_iff.mp H
      obtain ⟨t104, A50, H⟩ := H
      replace H : (some t104) = some r := H
      have A5 := Aside0.mk A50
      clear A50
      obtain rfl := Option.some.inj H
      go_enter Try.func8, Try.ntmps8
      go_wp2_with (first | ((with_reducible refine gate_callee (f := 15) rfl ?_); refine goesL_ (some 1) rfl rfl Try.func15 (by kernel_rfl) rfl #[.int .i64 1] rfl (by (try simp only [List.map_toArray, List.map_cons, List.map_nil]); first | done | rfl | (simp only [List.length_drop, List.length_take]; rfl)) ?_; (with_reducible refine (addr_Show.calls 1 t102 _ A1.out).mono ?_); rintro e w6 ⟨rfl, hb⟩; refine ⟨_, rfl, ?_⟩; have n0_ := Aside0.mk (below_step (by repeat (first | (with_reducible first | exact HB.out | apply below_alloc | apply pw_below_drewN | apply below_drew1) | exact HB.out)) hb); clear HB; have HB := n0_; clear n0_; (try clear hb); (try clear hb2); (try clear hk); (try clear hi)) | (go_at_call 13; (with_reducible refine (addr_Kept.calls 1652522221568 true _ A3.out).mono ?_); rintro e w' ⟨rfl, ⟨nd, rfl⟩⟩) | (go_at_call 16; (with_reducible refine (addr_Vid.calls 1 t104 _ A5.out).mono ?_); rintro e w' ⟨rfl, ⟨nd, rfl⟩⟩))
      go_ret
      exact ⟨by first | rfl | (simp [errW_none, errW_some] <;> rfl) | ((repeat rw [Int.tdiv_eq_ediv_of_nonneg (by omega)]); (repeat rw [Int.tmod_eq_emod_of_nonneg (by omega)]); first | rfl | (simp [errW_none, errW_some] <;> rfl)) | (simp [*, errW_none, errW_some] <;> rfl), by repeat (first | (with_reducible first | exact HB.out | apply below_alloc | apply pw_below_drewN | apply below_drew1) | exact HB.out)⟩
    · replace c4 := Bool.eq_false_iff.mpr c4
      subst c4
      have H1 : (some false) = some r := by rw [if_neg (show ¬ (false = true) by decide)] at H; exact H
      clear H
      have H := H1
      clear H1
      obtain rfl := Option.some.inj H
      go_enter Try.func8, Try.ntmps8
      go_wp2_with (first | ((with_reducible refine gate_callee (f := 15) rfl ?_); refine goesL_ (some 1) rfl rfl Try.func15 (by kernel_rfl) rfl #[.int .i64 1] rfl (by (try simp only [List.map_toArray, List.map_cons, List.map_nil]); first | done | rfl | (simp only [List.length_drop, List.length_take]; rfl)) ?_; (with_reducible refine (addr_Show.calls 1 t102 _ A1.out).mono ?_); rintro e w7 ⟨rfl, hb⟩; refine ⟨_, rfl, ?_⟩; have n0_ := Aside0.mk (below_step (by repeat (first | (with_reducible first | exact HB.out | apply below_alloc | apply pw_below_drewN | apply below_drew1) | exact HB.out)) hb); clear HB; have HB := n0_; clear n0_; (try clear hb); (try clear hb2); (try clear hk); (try clear hi)) | (go_at_call 13; (with_reducible refine (addr_Kept.calls 1652522221568 false _ A3.out).mono ?_); rintro e w' ⟨rfl, ⟨nd, rfl⟩⟩))
      go_ret
      exact ⟨by first | rfl | (simp [errW_none, errW_some] <;> rfl) | ((repeat rw [Int.tdiv_eq_ediv_of_nonneg (by omega)]); (repeat rw [Int.tmod_eq_emod_of_nonneg (by omega)]); first | rfl | (simp [errW_none, errW_some] <;> rfl)) | (simp [*, errW_none, errW_some] <;> rfl), by repeat (first | (with_reducible first | exact HB.out | apply below_alloc | apply pw_below_drewN | apply below_drew1) | exact HB.out)⟩
  · rw [if_neg c2] at H
    have c2b0 : (t102.toList == ([48, 48, 58, 48, 48, 58, 48, 48, 58, 48, 48, 58, 48, 48, 58, 48, 49] : List UInt8)) = false := beq_eq_false_iff_ne.mpr c2
    have c2b1 : (t102.toList != ([48, 48, 58, 48, 48, 58, 48, 48, 58, 48, 48, 58, 48, 48, 58, 48, 49] : List UInt8)) = true := bne_iff_ne.mpr c2
    obtain rfl := Option.some.inj H
    go_enter Try.func8, Try.ntmps8
    go_wp2_with (first | ((with_reducible refine gate_callee (f := 15) rfl ?_); refine goesL_ (some 1) rfl rfl Try.func15 (by kernel_rfl) rfl #[.int .i64 1] rfl (by (try simp only [List.map_toArray, List.map_cons, List.map_nil]); first | done | rfl | (simp only [List.length_drop, List.length_take]; rfl)) ?_; (with_reducible refine (addr_Show.calls 1 t102 _ A1.out).mono ?_); rintro e w8 ⟨rfl, hb⟩; refine ⟨_, rfl, ?_⟩; have n0_ := Aside0.mk (below_step (by repeat (first | (with_reducible first | exact HB.out | apply below_alloc | apply pw_below_drewN | apply below_drew1) | exact HB.out)) hb); clear HB; have HB := n0_; clear n0_; (try clear hb); (try clear hb2); (try clear hk); (try clear hi)))
    go_ret
    exact ⟨by first | rfl | (simp [errW_none, errW_some] <;> rfl) | ((repeat rw [Int.tdiv_eq_ediv_of_nonneg (by omega)]); (repeat rw [Int.tmod_eq_emod_of_nonneg (by omega)]); first | rfl | (simp [errW_none, errW_some] <;> rfl)) | (simp [*, errW_none, errW_some] <;> rfl), by repeat (first | (with_reducible first | exact HB.out | apply below_alloc | apply pw_below_drewN | apply below_drew1) | exact HB.out)⟩

/-! ### addr_Type: function 17 -/
def addr_Type.f (a0 : Int) : Option (Bool) := if a0 ≥ 1536 then (some (decide (a0 ≤ 65535))) else (some false)
set_option maxHeartbeats 8000000 in
set_option maxRecDepth 100000 in
theorem addr_Type.calls (a0 : Int) (r : Bool) (w : World) (h : addr_Type.f a0 = some r) :
    Calls Try.prog 17 #[.int .i64 a0] w fun e w' => e = .returned (.bool r) ∧ Drawn0 w w' := by
  have H : (if a0 ≥ 1536 then (some (decide (a0 ≤ 65535))) else (some false)) = some r := h
  clear h
  by_cases c2 : a0 ≥ 1536
  · rw [if_pos c2] at H
    have c2b0 : decide (1536 ≤ a0) = true := decide_eq_true c2
    clear c2
    obtain rfl := Option.some.inj H
    go_enter Try.func17, Try.ntmps17
    go_wp2
    go_ret
    exact ⟨by first | rfl | (simp; done) | (simp [show ∀ l_ : List UInt8, (l_ != []) = !l_.isEmpty from fun l_ => by cases l_ <;> rfl]; done) | (simp [*]; done), by repeat (first | exact Drawn0.refl _ | apply Drawn0.step)⟩
  · rw [if_neg c2] at H
    have c2b0 : decide (1536 ≤ a0) = false := decide_eq_false c2
    clear c2
    obtain rfl := Option.some.inj H
    go_enter Try.func17, Try.ntmps17
    go_wp2
    go_ret
    exact ⟨by first | rfl | (simp; done) | (simp [show ∀ l_ : List UInt8, (l_ != []) = !l_.isEmpty from fun l_ => by cases l_ <;> rfl]; done) | (simp [*]; done), by repeat (first | exact Drawn0.refl _ | apply Drawn0.step)⟩

/-! ### addr_Length: function 18 -/
def addr_Length.f (a0 : Int) : Option (Bool) := if a0 ≥ 0 then (some (decide (a0 ≤ 1500))) else (some false)
set_option maxHeartbeats 8000000 in
set_option maxRecDepth 100000 in
theorem addr_Length.calls (a0 : Int) (r : Bool) (w : World) (h : addr_Length.f a0 = some r) :
    Calls Try.prog 18 #[.int .i64 a0] w fun e w' => e = .returned (.bool r) ∧ Drawn0 w w' := by
  have H : (if a0 ≥ 0 then (some (decide (a0 ≤ 1500))) else (some false)) = some r := h
  clear h
  by_cases c2 : a0 ≥ 0
  · rw [if_pos c2] at H
    have c2b0 : decide (0 ≤ a0) = true := decide_eq_true c2
    clear c2
    obtain rfl := Option.some.inj H
    go_enter Try.func18, Try.ntmps18
    go_wp2
    go_ret
    exact ⟨by first | rfl | (simp; done) | (simp [show ∀ l_ : List UInt8, (l_ != []) = !l_.isEmpty from fun l_ => by cases l_ <;> rfl]; done) | (simp [*]; done), by repeat (first | exact Drawn0.refl _ | apply Drawn0.step)⟩
  · rw [if_neg c2] at H
    have c2b0 : decide (0 ≤ a0) = false := decide_eq_false c2
    clear c2
    obtain rfl := Option.some.inj H
    go_enter Try.func18, Try.ntmps18
    go_wp2
    go_ret
    exact ⟨by first | rfl | (simp; done) | (simp [show ∀ l_ : List UInt8, (l_ != []) = !l_.isEmpty from fun l_ => by cases l_ <;> rfl]; done) | (simp [*]; done), by repeat (first | exact Drawn0.refl _ | apply Drawn0.step)⟩

end Go.Proofs.Ytibeijfgjcakiaa.PAddrNumbers
