-- PRINTED BY print.sh 35421559b90ae4d0a3588c463048766b98c2df88dd9212a6774a882060cdf62d: not written by this session
import Derived.Test.YtjebdmfhnfbomaaPBpduNamesx0
namespace Go.Proofs.Ytjebdmfhnfbomaa.PBpduNames
open Go.RowKit Go.Proofs.YtjebdmfhnfbomaaW.PrintWords Go.Proofs.YtjebdmfhnfbomaaW.PrintLast Go.Proofs.YtjebdmfhnfbomaaW.PrintMore
attribute [local go_sem] max2_int min2_int max_two min_two max_three min_three max_four min_four   -- for this text's walks alone
set_option linter.unusedVariables false
set_option linter.unusedSimpArgs false

/-! ### addr_Good: function 19 -/
def addr_Good.f (a0 : Int) : Option (Bool) := if a0 ≥ 0 then (some (decide (a0 ≤ 281474976710655))) else (some false)
set_option maxHeartbeats 8000000 in
set_option maxRecDepth 100000 in
theorem addr_Good.calls (a0 : Int) (r : Bool) (w : World) (h : addr_Good.f a0 = some r) :
    Calls Try.prog 19 #[.int .i64 a0] w fun e w' => e = .returned (.bool r) ∧ Drawn0 w w' := by
  have H : (if a0 ≥ 0 then (some (decide (a0 ≤ 281474976710655))) else (some false)) = some r := h
  clear h
  by_cases c2 : a0 ≥ 0
  · rw [if_pos c2] at H
    have c2b0 : decide (0 ≤ a0) = true := decide_eq_true c2
    clear c2
    obtain rfl := Option.some.inj H
    go_enter Try.func19, Try.ntmps19
    go_wp2
    go_ret
    exact ⟨by first | rfl | (simp; done) | (simp [*]; done), by repeat (first | exact Drawn0.refl _ | apply Drawn0.step)⟩
  · rw [if_neg c2] at H
    have c2b0 : decide (0 ≤ a0) = false := decide_eq_false c2
    clear c2
    obtain rfl := Option.some.inj H
    go_enter Try.func19, Try.ntmps19
    go_wp2
    go_ret
    exact ⟨by first | rfl | (simp; done) | (simp [*]; done), by repeat (first | exact Drawn0.refl _ | apply Drawn0.step)⟩

/-! ### addr_Many: function 20 -/
def addr_Many.f (a0 : Int) : Option (Bool) := (addr_Good.f a0).bind fun t101 => (if t101 = true then (some ((Go.bits .and .i64 (a0 / 1099511627776) 1) == 1)) else (some false))
set_option maxHeartbeats 8000000 in
set_option maxRecDepth 100000 in
theorem addr_Many.calls (a0 : Int) (r : Bool) (w : World) (h : addr_Many.f a0 = some r) :
    Calls Try.prog 20 #[.int .i64 a0] w fun e w' => e = .returned (.bool r) ∧ Drawn0 w w' := by
  have H : ((addr_Good.f a0).bind fun t101 => (if t101 = true then (some ((Go.bits .and .i64 (a0 / 1099511627776) 1) == 1)) else (some false))) = some r := h
  clear h
  replace H := Option.bind_eq_some_iff.mp H
  obtain ⟨t101, A20, H⟩ := H
  replace H : (if t101 = true then (some ((Go.bits .and .i64 (a0 / 1099511627776) 1) == 1)) else (some false)) = some r := H
  have A2 := Aside0.mk A20
  clear A20
  by_cases c3 : t101 = true
  · subst c3
    have H1 : (some ((Go.bits .and .i64 (a0 / 1099511627776) 1) == 1)) = some r := by rw [if_pos rfl] at H; exact H
    clear H
    have H := H1
    clear H1
    obtain rfl := Option.some.inj H
    go_enter Try.func20, Try.ntmps20
    go_wp2_with (first | ((with_reducible refine gate_callee (f := 19) rfl ?_); refine goesL_ (some 4) rfl rfl Try.func19 (by kernel_rfl) rfl #[.int .i64 a0] rfl (by (try simp only [List.map_toArray, List.map_cons, List.map_nil]); first | done | rfl | (simp only [List.length_drop, List.length_take]; rfl)) ?_; (with_reducible refine (addr_Good.calls a0 true _ A2.out).mono ?_); rintro e w' ⟨rfl, ⟨nd, rfl⟩⟩; refine ⟨_, rfl, ?_⟩))
    go_ret
    exact ⟨by first | rfl | (simp; done) | (simp [*]; done), by repeat (first | exact Drawn0.refl _ | apply Drawn0.step)⟩
  · replace c3 := Bool.eq_false_iff.mpr c3
    subst c3
    have H1 : (some false) = some r := by rw [if_neg (show ¬ (false = true) by decide)] at H; exact H
    clear H
    have H := H1
    clear H1
    obtain rfl := Option.some.inj H
    go_enter Try.func20, Try.ntmps20
    go_wp2_with (first | ((with_reducible refine gate_callee (f := 19) rfl ?_); refine goesL_ (some 4) rfl rfl Try.func19 (by kernel_rfl) rfl #[.int .i64 a0] rfl (by (try simp only [List.map_toArray, List.map_cons, List.map_nil]); first | done | rfl | (simp only [List.length_drop, List.length_take]; rfl)) ?_; (with_reducible refine (addr_Good.calls a0 false _ A2.out).mono ?_); rintro e w' ⟨rfl, ⟨nd, rfl⟩⟩; refine ⟨_, rfl, ?_⟩))
    go_ret
    exact ⟨by first | rfl | (simp; done) | (simp [*]; done), by repeat (first | exact Drawn0.refl _ | apply Drawn0.step)⟩

/-! ### bpdu_Id: function 9 -/
def bpdu_Id.f (a0 : Int) (a1 : Int) : Option (Int) := if a0 < 0 then (some 0) else (if a0 > 15 then (some 0) else ((addr_Good.f a1).bind fun t102 => (if t102 = true then ((addr_Many.f a1).bind fun t103 => (if t103 = true then (some 0) else (some (Go.bits .or .i64 (wrap64 (a0 * 281474976710656)) a1)))) else (some 0))))
set_option maxHeartbeats 8000000 in
set_option maxRecDepth 100000 in
theorem bpdu_Id.calls (a0 : Int) (a1 : Int) (r : Int) (w : World) (h : bpdu_Id.f a0 a1 = some r) :
    Calls Try.prog 9 #[.int .i64 a0, .int .i64 a1] w fun e w' => e = .returned (.int .i64 r) ∧ Drawn0 w w' := by
  have H : (if a0 < 0 then (some 0) else (if a0 > 15 then (some 0) else ((addr_Good.f a1).bind fun t102 => (if t102 = true then ((addr_Many.f a1).bind fun t103 => (if t103 = true then (some 0) else (some (Go.bits .or .i64 (wrap64 (a0 * 281474976710656)) a1)))) else (some 0))))) = some r := h
  clear h
  by_cases c3 : a0 < 0
  · rw [if_pos c3] at H
    have c3b0 : decide (a0 < 0) = true := decide_eq_true c3
    clear c3
    obtain rfl := Option.some.inj H
    go_enter Try.func9, Try.ntmps9
    go_wp2
    go_ret
    exact ⟨by first | rfl | (simp; done) | (simp [*]; done), by repeat (first | exact Drawn0.refl _ | apply Drawn0.step)⟩
  · rw [if_neg c3] at H
    have c3b0 : decide (a0 < 0) = false := decide_eq_false c3
    clear c3
    by_cases c4 : a0 > 15
    · rw [if_pos c4] at H
      have c4b0 : decide (15 < a0) = true := decide_eq_true c4
      clear c4
      obtain rfl := Option.some.inj H
      go_enter Try.func9, Try.ntmps9
      go_wp2
      go_ret
      exact ⟨by first | rfl | (simp; done) | (simp [*]; done), by repeat (first | exact Drawn0.refl _ | apply Drawn0.step)⟩
    · rw [if_neg c4] at H
      have c4b0 : decide (15 < a0) = false := decide_eq_false c4
      clear c4
      replace H := Option.bind_eq_some_iff.mp H
      obtain ⟨t102, A50, H⟩ := H
      replace H : (if t102 = true then ((addr_Many.f a1).bind fun t103 => (if t103 = true then (some 0) else (some (Go.bits .or .i64 (wrap64 (a0 * 281474976710656)) a1)))) else (some 0)) = some r := H
      have A5 := Aside0.mk A50
      clear A50
      by_cases c6 : t102 = true
      · subst c6
        have H1 : ((addr_Many.f a1).bind fun t103 => (if t103 = true then (some 0) else (some (Go.bits .or .i64 (wrap64 (a0 * 281474976710656)) a1)))) = some r := by rw [if_pos rfl] at H; exact H
        clear H
        have H := H1
        clear H1
        replace H := Option.bind_eq_some_iff.mp H
        obtain ⟨t103, A70, H⟩ := H
        replace H : (if t103 = true then (some 0) else (some (Go.bits .or .i64 (wrap64 (a0 * 281474976710656)) a1))) = some r := H
        have A7 := Aside0.mk A70
        clear A70
        by_cases c8 : t103 = true
        · subst c8
          have H1 : (some 0) = some r := by rw [if_pos rfl] at H; exact H
          clear H
          have H := H1
          clear H1
          obtain rfl := Option.some.inj H
          go_enter Try.func9, Try.ntmps9
          go_wp2_with (first | (go_at_call 19; (with_reducible refine (addr_Good.calls a1 true _ A5.out).mono ?_); rintro e w' ⟨rfl, ⟨nd, rfl⟩⟩) | (go_at_call 20; (with_reducible refine (addr_Many.calls a1 true _ A7.out).mono ?_); rintro e w' ⟨rfl, ⟨nd, rfl⟩⟩))
          go_ret
          exact ⟨by first | rfl | (simp; done) | (simp [*]; done), by repeat (first | exact Drawn0.refl _ | apply Drawn0.step)⟩
        · replace c8 := Bool.eq_false_iff.mpr c8
          subst c8
          have H1 : (some (Go.bits .or .i64 (wrap64 (a0 * 281474976710656)) a1)) = some r := by rw [if_neg (show ¬ (false = true) by decide)] at H; exact H
          clear H
          have H := H1
          clear H1
          obtain rfl := Option.some.inj H
          go_enter Try.func9, Try.ntmps9
          go_wp2_with (first | (go_at_call 19; (with_reducible refine (addr_Good.calls a1 true _ A5.out).mono ?_); rintro e w' ⟨rfl, ⟨nd, rfl⟩⟩) | (go_at_call 20; (with_reducible refine (addr_Many.calls a1 false _ A7.out).mono ?_); rintro e w' ⟨rfl, ⟨nd, rfl⟩⟩))
          go_ret
          exact ⟨by first | rfl | (simp; done) | (simp [*]; done), by repeat (first | exact Drawn0.refl _ | apply Drawn0.step)⟩
      · replace c6 := Bool.eq_false_iff.mpr c6
        subst c6
        have H1 : (some 0) = some r := by rw [if_neg (show ¬ (false = true) by decide)] at H; exact H
        clear H
        have H := H1
        clear H1
        obtain rfl := Option.some.inj H
        go_enter Try.func9, Try.ntmps9
        go_wp2_with (first | (go_at_call 19; (with_reducible refine (addr_Good.calls a1 false _ A5.out).mono ?_); rintro e w' ⟨rfl, ⟨nd, rfl⟩⟩))
        go_ret
        exact ⟨by first | rfl | (simp; done) | (simp [*]; done), by repeat (first | exact Drawn0.refl _ | apply Drawn0.step)⟩

/-! ### bpdu_Bridge: function 12 -/
def bpdu_Bridge.f (a0 : Int) : Option (Bool) := if a0 > 0 then (if (a0 / 281474976710656) ≤ 15 then ((addr_Many.f (Go.bits .and .i64 a0 281474976710655)).bind fun t104 => (some (!t104))) else (some false)) else (some false)
set_option maxHeartbeats 8000000 in
set_option maxRecDepth 100000 in
theorem bpdu_Bridge.calls (a0 : Int) (r : Bool) (w : World) (h : bpdu_Bridge.f a0 = some r) :
    Calls Try.prog 12 #[.int .i64 a0] w fun e w' => e = .returned (.bool r) ∧ Drawn0 w w' := by
  have H : (if a0 > 0 then (if (a0 / 281474976710656) ≤ 15 then ((addr_Many.f (Go.bits .and .i64 a0 281474976710655)).bind fun t104 => (some (!t104))) else (some false)) else (some false)) = some r := h
  clear h
  by_cases c2 : a0 > 0
  · rw [if_pos c2] at H
    have c2b0 : decide (0 < a0) = true := decide_eq_true c2
    clear c2
    by_cases c3 : (a0 / 281474976710656) ≤ 15
    · rw [if_pos c3] at H
      have c3b0 : decide ((a0 / 281474976710656) ≤ 15) = true := decide_eq_true c3
      clear c3
      replace H := Option.bind_eq_some_iff.mp H
      obtain ⟨t104, A40, H⟩ := H
      replace H : (some (!t104)) = some r := H
      have A4 := Aside0.mk A40
      clear A40
      obtain rfl := Option.some.inj H
      go_enter Try.func12, Try.ntmps12
      go_wp2_with (first | (go_at_call 20; (with_reducible refine (addr_Many.calls (Go.bits .and .i64 a0 281474976710655) t104 _ A4.out).mono ?_); rintro e w' ⟨rfl, ⟨nd, rfl⟩⟩))
      go_ret
      exact ⟨by first | rfl | (simp; done) | (simp [*]; done), by repeat (first | exact Drawn0.refl _ | apply Drawn0.step)⟩
    · rw [if_neg c3] at H
      have c3b0 : decide ((a0 / 281474976710656) ≤ 15) = false := decide_eq_false c3
      clear c3
      obtain rfl := Option.some.inj H
      go_enter Try.func12, Try.ntmps12
      go_wp2
      go_ret
      exact ⟨by first | rfl | (simp; done) | (simp [*]; done), by repeat (first | exact Drawn0.refl _ | apply Drawn0.step)⟩
  · rw [if_neg c2] at H
    have c2b0 : decide (0 < a0) = false := decide_eq_false c2
    clear c2
    obtain rfl := Option.some.inj H
    go_enter Try.func12, Try.ntmps12
    go_wp2
    go_ret
    exact ⟨by first | rfl | (simp; done) | (simp [*]; done), by repeat (first | exact Drawn0.refl _ | apply Drawn0.step)⟩

/-! ### kissgatelaw08_alive: function 8 -/
def kissgatelaw08_alive.f  : Option (Bool) := (bpdu_Id.f 1 2).bind fun t105 => (if t105 = 281474976710658 then ((bpdu_Bridge.f 1).bind fun t106 => (some t106)) else (some false))
set_option maxHeartbeats 8000000 in
set_option maxRecDepth 100000 in
theorem kissgatelaw08_alive.calls  (r : Bool) (w : World) (h : kissgatelaw08_alive.f  = some r) :
    Calls Try.prog 8 #[] w fun e w' => e = .returned (.bool r) ∧ Drawn0 w w' := by
  have H : ((bpdu_Id.f 1 2).bind fun t105 => (if t105 = 281474976710658 then ((bpdu_Bridge.f 1).bind fun t106 => (some t106)) else (some false))) = some r := h
  clear h
  replace H := Option.bind_eq_some_iff.mp H
  obtain ⟨t105, A10, H⟩ := H
  replace H : (if t105 = 281474976710658 then ((bpdu_Bridge.f 1).bind fun t106 => (some t106)) else (some false)) = some r := H
  have A1 := Aside0.mk A10
  clear A10
  by_cases c2 : t105 = 281474976710658
  · rw [if_pos c2] at H
    have c2b0 : (t105 == 281474976710658) = true := beq_iff_eq.mpr c2
    have c2b1 : (t105 != 281474976710658) = false := bne_eq_false_iff_eq.mpr c2
    clear c2
    replace H := Option.bind_eq_some_iff.mp H
    obtain ⟨t106, A30, H⟩ := H
    replace H : (some t106) = some r := H
    have A3 := Aside0.mk A30
    clear A30
    obtain rfl := Option.some.inj H
    go_enter Try.func8, Try.ntmps8
    go_wp2_with (first | ((with_reducible refine gate_callee (f := 9) rfl ?_); refine goesL_ (some 1) rfl rfl Try.func9 (by kernel_rfl) rfl #[.int .i64 1, .int .i64 2] rfl (by (try simp only [List.map_toArray, List.map_cons, List.map_nil]); first | done | rfl | (simp only [List.length_drop, List.length_take]; rfl)) ?_; (with_reducible refine (bpdu_Id.calls 1 2 t105 _ A1.out).mono ?_); rintro e w' ⟨rfl, ⟨nd, rfl⟩⟩; refine ⟨_, rfl, ?_⟩) | (go_at_call 12; (with_reducible refine (bpdu_Bridge.calls 1 t106 _ A3.out).mono ?_); rintro e w' ⟨rfl, ⟨nd, rfl⟩⟩))
    go_ret
    exact ⟨by first | rfl | (simp; done) | (simp [*]; done), by repeat (first | exact Drawn0.refl _ | apply Drawn0.step)⟩
  · rw [if_neg c2] at H
    have c2b0 : (t105 == 281474976710658) = false := beq_eq_false_iff_ne.mpr c2
    have c2b1 : (t105 != 281474976710658) = true := bne_iff_ne.mpr c2
    obtain rfl := Option.some.inj H
    go_enter Try.func8, Try.ntmps8
    go_wp2_with (first | ((with_reducible refine gate_callee (f := 9) rfl ?_); refine goesL_ (some 1) rfl rfl Try.func9 (by kernel_rfl) rfl #[.int .i64 1, .int .i64 2] rfl (by (try simp only [List.map_toArray, List.map_cons, List.map_nil]); first | done | rfl | (simp only [List.length_drop, List.length_take]; rfl)) ?_; (with_reducible refine (bpdu_Id.calls 1 2 t105 _ A1.out).mono ?_); rintro e w' ⟨rfl, ⟨nd, rfl⟩⟩; refine ⟨_, rfl, ?_⟩))
    go_ret
    exact ⟨by first | rfl | (simp; done) | (simp [*]; done), by repeat (first | exact Drawn0.refl _ | apply Drawn0.step)⟩

/-! ### kissgateref02_Good: function 10 -/
def kissgateref02_Good.f (a0 : Int) : Option (Bool) := if a0 ≥ 0 then (some (decide (a0 < 281474976710656))) else (some false)
set_option maxHeartbeats 8000000 in
set_option maxRecDepth 100000 in
theorem kissgateref02_Good.calls (a0 : Int) (r : Bool) (w : World) (h : kissgateref02_Good.f a0 = some r) :
    Calls Try.prog 10 #[.int .i64 a0] w fun e w' => e = .returned (.bool r) ∧ Drawn0 w w' := by
  have H : (if a0 ≥ 0 then (some (decide (a0 < 281474976710656))) else (some false)) = some r := h
  clear h
  by_cases c2 : a0 ≥ 0
  · rw [if_pos c2] at H
    have c2b0 : decide (0 ≤ a0) = true := decide_eq_true c2
    clear c2
    obtain rfl := Option.some.inj H
    go_enter Try.func10, Try.ntmps10
    go_wp2
    go_ret
    exact ⟨by first | rfl | (simp; done) | (simp [*]; done), by repeat (first | exact Drawn0.refl _ | apply Drawn0.step)⟩
  · rw [if_neg c2] at H
    have c2b0 : decide (0 ≤ a0) = false := decide_eq_false c2
    clear c2
    obtain rfl := Option.some.inj H
    go_enter Try.func10, Try.ntmps10
    go_wp2
    go_ret
    exact ⟨by first | rfl | (simp; done) | (simp [*]; done), by repeat (first | exact Drawn0.refl _ | apply Drawn0.step)⟩

/-! ### kissgateref02_Many: function 11 -/
def kissgateref02_Many.f (a0 : Int) : Option (Bool) := (kissgateref02_Good.f a0).bind fun t107 => (if t107 = true then (some ((Int.tmod (wrap64 (Int.tdiv a0 1099511627776)) 2) == 1)) else (some false))
set_option maxHeartbeats 8000000 in
set_option maxRecDepth 100000 in
theorem kissgateref02_Many.calls (a0 : Int) (r : Bool) (w : World) (h : kissgateref02_Many.f a0 = some r) :
    Calls Try.prog 11 #[.int .i64 a0] w fun e w' => e = .returned (.bool r) ∧ Drawn0 w w' := by
  have H : ((kissgateref02_Good.f a0).bind fun t107 => (if t107 = true then (some ((Int.tmod (wrap64 (Int.tdiv a0 1099511627776)) 2) == 1)) else (some false))) = some r := h
  clear h
  replace H := Option.bind_eq_some_iff.mp H
  obtain ⟨t107, A20, H⟩ := H
  replace H : (if t107 = true then (some ((Int.tmod (wrap64 (Int.tdiv a0 1099511627776)) 2) == 1)) else (some false)) = some r := H
  have A2 := Aside0.mk A20
  clear A20
  by_cases c3 : t107 = true
  · subst c3
    have H1 : (some ((Int.tmod (wrap64 (Int.tdiv a0 1099511627776)) 2) == 1)) = some r := by rw [if_pos rfl] at H; exact H
    clear H
    have H := H1
    clear H1
    obtain rfl := Option.some.inj H
    go_enter Try.func11, Try.ntmps11
    go_wp2_with (first | ((with_reducible refine gate_callee (f := 10) rfl ?_); refine goesL_ (some 4) rfl rfl Try.func10 (by kernel_rfl) rfl #[.int .i64 a0] rfl (by (try simp only [List.map_toArray, List.map_cons, List.map_nil]); first | done | rfl | (simp only [List.length_drop, List.length_take]; rfl)) ?_; (with_reducible refine (kissgateref02_Good.calls a0 true _ A2.out).mono ?_); rintro e w' ⟨rfl, ⟨nd, rfl⟩⟩; refine ⟨_, rfl, ?_⟩))
    go_ret
    exact ⟨by first | rfl | (simp; done) | (simp [*]; done), by repeat (first | exact Drawn0.refl _ | apply Drawn0.step)⟩
  · replace c3 := Bool.eq_false_iff.mpr c3
    subst c3
    have H1 : (some false) = some r := by rw [if_neg (show ¬ (false = true) by decide)] at H; exact H
    clear H
    have H := H1
    clear H1
    obtain rfl := Option.some.inj H
    go_enter Try.func11, Try.ntmps11
    go_wp2_with (first | ((with_reducible refine gate_callee (f := 10) rfl ?_); refine goesL_ (some 4) rfl rfl Try.func10 (by kernel_rfl) rfl #[.int .i64 a0] rfl (by (try simp only [List.map_toArray, List.map_cons, List.map_nil]); first | done | rfl | (simp only [List.length_drop, List.length_take]; rfl)) ?_; (with_reducible refine (kissgateref02_Good.calls a0 false _ A2.out).mono ?_); rintro e w' ⟨rfl, ⟨nd, rfl⟩⟩; refine ⟨_, rfl, ?_⟩))
    go_ret
    exact ⟨by first | rfl | (simp; done) | (simp [*]; done), by repeat (first | exact Drawn0.refl _ | apply Drawn0.step)⟩

/-! ### kissgateref08_Bridge: function 13 -/
def kissgateref08_Bridge.f (a0 : Int) : Option (Bool) := if a0 ≤ 0 then (some false) else (if (wrap64 (Int.tdiv a0 281474976710656)) > 15 then (some false) else ((kissgateref02_Many.f (Int.tmod a0 281474976710656)).bind fun t108 => (some (!t108))))
set_option maxHeartbeats 8000000 in
set_option maxRecDepth 100000 in
theorem kissgateref08_Bridge.calls (a0 : Int) (r : Bool) (w : World) (h : kissgateref08_Bridge.f a0 = some r) :
    Calls Try.prog 13 #[.int .i64 a0] w fun e w' => e = .returned (.bool r) ∧ Drawn0 w w' := by
  have H : (if a0 ≤ 0 then (some false) else (if (wrap64 (Int.tdiv a0 281474976710656)) > 15 then (some false) else ((kissgateref02_Many.f (Int.tmod a0 281474976710656)).bind fun t108 => (some (!t108))))) = some r := h
  clear h
  by_cases c2 : a0 ≤ 0
  · rw [if_pos c2] at H
    have c2b0 : decide (a0 ≤ 0) = true := decide_eq_true c2
    clear c2
    obtain rfl := Option.some.inj H
    go_enter Try.func13, Try.ntmps13
    go_wp2
    go_ret
    exact ⟨by first | rfl | (simp; done) | (simp [*]; done), by repeat (first | exact Drawn0.refl _ | apply Drawn0.step)⟩
  · rw [if_neg c2] at H
    have c2b0 : decide (a0 ≤ 0) = false := decide_eq_false c2
    clear c2
    by_cases c3 : (wrap64 (Int.tdiv a0 281474976710656)) > 15
    · rw [if_pos c3] at H
      have c3b0 : decide (15 < (wrap64 (Int.tdiv a0 281474976710656))) = true := decide_eq_true c3
      clear c3
      obtain rfl := Option.some.inj H
      go_enter Try.func13, Try.ntmps13
      go_wp2
      go_ret
      exact ⟨by first | rfl | (simp; done) | (simp [*]; done), by repeat (first | exact Drawn0.refl _ | apply Drawn0.step)⟩
    · rw [if_neg c3] at H
      have c3b0 : decide (15 < (wrap64 (Int.tdiv a0 281474976710656))) = false := decide_eq_false c3
      clear c3
      replace H := Option.bind_eq_some_iff.mp H
      obtain ⟨t108, A40, H⟩ := H
      replace H : (some (!t108)) = some r := H
      have A4 := Aside0.mk A40
      clear A40
      obtain rfl := Option.some.inj H
      go_enter Try.func13, Try.ntmps13
      go_wp2_with (first | ((with_reducible refine gate_callee (f := 11) rfl ?_); refine goesL_ (some 12) rfl rfl Try.func11 (by kernel_rfl) rfl #[.int .i64 (Int.tmod a0 281474976710656)] rfl (by (try simp only [List.map_toArray, List.map_cons, List.map_nil]); first | done | rfl | (simp only [List.length_drop, List.length_take]; rfl)) ?_; (with_reducible refine (kissgateref02_Many.calls (Int.tmod a0 281474976710656) t108 _ A4.out).mono ?_); rintro e w' ⟨rfl, ⟨nd, rfl⟩⟩; refine ⟨_, rfl, ?_⟩))
      go_ret
      exact ⟨by first | rfl | (simp; done) | (simp [*]; done), by repeat (first | exact Drawn0.refl _ | apply Drawn0.step)⟩

/-! ### kissgatelaw08_BpduNames: function 3 -/
mutual
def kissgatelaw08_BpduNames.j0 : Nat → Int → Int → Int → Int → Int → Int → Bool → Option (Bool)
  | 0, _, _, _, _, _, _, _ => none
  | k + 1, x0, x1, x2, x3, x9, x10, x11 => if x11 = true then (if x9 = (wrap64 ((wrap64 (x0 * 281474976710656)) + x1)) then ((bpdu_Bridge.f x9).bind fun t114 => ((kissgateref08_Bridge.f x9).bind fun t115 => (if (t114 != t115) = true then (kissgatelaw08_BpduNames.j1 k x0 x1 x2 x3 x9 x10 true) else ((bpdu_Bridge.f x1).bind fun t116 => ((kissgateref08_Bridge.f x1).bind fun t117 => (kissgatelaw08_BpduNames.j1 k x0 x1 x2 x3 x9 x10 (t116 != t117))))))) else (kissgatelaw08_BpduNames.j1 k x0 x1 x2 x3 x9 x10 true)) else (if x9 = 0 then ((bpdu_Bridge.f x9).bind fun t118 => ((kissgateref08_Bridge.f x9).bind fun t119 => (if (t118 != t119) = true then (kissgatelaw08_BpduNames.j1 k x0 x1 x2 x3 x9 x10 true) else ((bpdu_Bridge.f x1).bind fun t120 => ((kissgateref08_Bridge.f x1).bind fun t121 => (kissgatelaw08_BpduNames.j1 k x0 x1 x2 x3 x9 x10 (t120 != t121))))))) else (kissgatelaw08_BpduNames.j1 k x0 x1 x2 x3 x9 x10 true))
def kissgatelaw08_BpduNames.j1 : Nat → Int → Int → Int → Int → Int → Int → Bool → Option (Bool)
  | 0, _, _, _, _, _, _, _ => none
  | k + 1, x0, x1, x2, x3, x9, x10, x65 => if x65 = true then (some false) else (if x9 = 0 then (some true) else (if x10 = 0 then (some true) else (if x0 = x2 then (if ((x9 == x10) == (x1 == x3)) = true then (if x0 < x2 then (some ((decide (x9 < x10)) == true)) else (some ((decide (x9 < x10)) == (decide (x1 < x3))))) else (some false)) else (if ((x9 == x10) == false) = true then (if x0 < x2 then (some ((decide (x9 < x10)) == true)) else (some ((decide (x9 < x10)) == false))) else (some false)))))
end
def kissgatelaw08_BpduNames.f (k : Nat) (a0 : Int) (a1 : Int) (a2 : Int) (a3 : Int) : Option (Bool) := (kissgatelaw08_alive.f).bind fun t109 => (if t109 = true then ((bpdu_Id.f a0 a1).bind fun t110 => ((bpdu_Id.f a2 a3).bind fun t111 => (if a0 ≥ 0 then (if a0 ≤ 15 then ((kissgateref02_Good.f a1).bind fun t112 => (if t112 = true then ((kissgateref02_Many.f a1).bind fun t113 => (kissgatelaw08_BpduNames.j0 k a0 a1 a2 a3 t110 t111 (!t113))) else (kissgatelaw08_BpduNames.j0 k a0 a1 a2 a3 t110 t111 false))) else (kissgatelaw08_BpduNames.j0 k a0 a1 a2 a3 t110 t111 false)) else (kissgatelaw08_BpduNames.j0 k a0 a1 a2 a3 t110 t111 false)))) else (some false))
theorem kissgatelaw08_BpduNames.mono_l : ∀ k, (∀ y0 y1 y2 y3 y4 y5 y6, LeO (kissgatelaw08_BpduNames.j0 k y0 y1 y2 y3 y4 y5 y6) (kissgatelaw08_BpduNames.j0 (k + 1) y0 y1 y2 y3 y4 y5 y6)) ∧ (∀ y0 y1 y2 y3 y4 y5 y6, LeO (kissgatelaw08_BpduNames.j1 k y0 y1 y2 y3 y4 y5 y6) (kissgatelaw08_BpduNames.j1 (k + 1) y0 y1 y2 y3 y4 y5 y6))
  | 0 => ⟨fun _ _ _ _ _ _ _ r h => by simp [kissgatelaw08_BpduNames.j0] at h, fun _ _ _ _ _ _ _ r h => by simp [kissgatelaw08_BpduNames.j1] at h⟩
  | k + 1 => by
    obtain ⟨ih0, ih1⟩ := kissgatelaw08_BpduNames.mono_l k
    refine ⟨?_, ?_⟩
    · intro y0 y1 y2 y3 y4 y5 y6
      unfold kissgatelaw08_BpduNames.j0
      repeat' first
      | (with_reducible exact ih0 _ _ _ _ _ _ _)
      | (with_reducible exact ih1 _ _ _ _ _ _ _)
      | (with_reducible exact LeO.refl _)
      | (with_reducible exact LeO.none _)
      | (with_reducible refine LeO.ite ?_ ?_)
      | (with_reducible refine LeO.bind ?_ (fun _ => ?_))
      | exact ih0 _ _ _ _ _ _ _
      | exact ih1 _ _ _ _ _ _ _
      | exact LeO.none _
      | refine LeO.ite ?_ ?_
      | refine LeO.bind ?_ (fun _ => ?_)
    · intro y0 y1 y2 y3 y4 y5 y6
      unfold kissgatelaw08_BpduNames.j1
      repeat' first
      | (with_reducible exact ih0 _ _ _ _ _ _ _)
      | (with_reducible exact ih1 _ _ _ _ _ _ _)
      | (with_reducible exact LeO.refl _)
      | (with_reducible exact LeO.none _)
      | (with_reducible refine LeO.ite ?_ ?_)
      | (with_reducible refine LeO.bind ?_ (fun _ => ?_))
      | exact ih0 _ _ _ _ _ _ _
      | exact ih1 _ _ _ _ _ _ _
      | exact LeO.none _
      | refine LeO.ite ?_ ?_
      | refine LeO.bind ?_ (fun _ => ?_)
theorem kissgatelaw08_BpduNames.mono : ∀ a0 a1 a2 a3 k, LeO (kissgatelaw08_BpduNames.f k a0 a1 a2 a3) (kissgatelaw08_BpduNames.f (k + 1) a0 a1 a2 a3) := by
  intro a0 a1 a2 a3 k
  obtain ⟨ih0, ih1⟩ := kissgatelaw08_BpduNames.mono_l k
  unfold kissgatelaw08_BpduNames.f
  repeat' first
      | (with_reducible exact ih0 _ _ _ _ _ _ _)
      | (with_reducible exact ih1 _ _ _ _ _ _ _)
      | (with_reducible exact LeO.refl _)
      | (with_reducible exact LeO.none _)
      | (with_reducible refine LeO.ite ?_ ?_)
      | (with_reducible refine LeO.bind ?_ (fun _ => ?_))
      | exact ih0 _ _ _ _ _ _ _
      | exact ih1 _ _ _ _ _ _ _
      | exact LeO.none _
      | refine LeO.ite ?_ ?_
      | refine LeO.bind ?_ (fun _ => ?_)
set_option maxHeartbeats 8000000 in
set_option maxRecDepth 100000 in
theorem kissgatelaw08_BpduNames.calls (k : Nat) (a0 : Int) (a1 : Int) (a2 : Int) (a3 : Int) (r : Bool) (w : World) (h : kissgatelaw08_BpduNames.f k a0 a1 a2 a3 = some r) :
    Calls Try.prog 3 #[.int .i64 a0, .int .i64 a1, .int .i64 a2, .int .i64 a3] w fun e w' => e = .returned (.bool r) ∧ Drawn0 w w' := by
  have H : ((kissgatelaw08_alive.f).bind fun t109 => (if t109 = true then ((bpdu_Id.f a0 a1).bind fun t110 => ((bpdu_Id.f a2 a3).bind fun t111 => (if a0 ≥ 0 then (if a0 ≤ 15 then ((kissgateref02_Good.f a1).bind fun t112 => (if t112 = true then ((kissgateref02_Many.f a1).bind fun t113 => (kissgatelaw08_BpduNames.j0 k a0 a1 a2 a3 t110 t111 (!t113))) else (kissgatelaw08_BpduNames.j0 k a0 a1 a2 a3 t110 t111 false))) else (kissgatelaw08_BpduNames.j0 k a0 a1 a2 a3 t110 t111 false)) else (kissgatelaw08_BpduNames.j0 k a0 a1 a2 a3 t110 t111 false)))) else (some false))) = some r := h
  clear h
  replace H := Option.bind_eq_some_iff.mp H
  obtain ⟨t109, A50, H⟩ := H
  replace H : (if t109 = true then ((bpdu_Id.f a0 a1).bind fun t110 => ((bpdu_Id.f a2 a3).bind fun t111 => (if a0 ≥ 0 then (if a0 ≤ 15 then ((kissgateref02_Good.f a1).bind fun t112 => (if t112 = true then ((kissgateref02_Many.f a1).bind fun t113 => (kissgatelaw08_BpduNames.j0 k a0 a1 a2 a3 t110 t111 (!t113))) else (kissgatelaw08_BpduNames.j0 k a0 a1 a2 a3 t110 t111 false))) else (kissgatelaw08_BpduNames.j0 k a0 a1 a2 a3 t110 t111 false)) else (kissgatelaw08_BpduNames.j0 k a0 a1 a2 a3 t110 t111 false)))) else (some false)) = some r := H
  have A5 := Aside0.mk A50
  clear A50
  by_cases c6 : t109 = true
  · subst c6
    have H1 : ((bpdu_Id.f a0 a1).bind fun t110 => ((bpdu_Id.f a2 a3).bind fun t111 => (if a0 ≥ 0 then (if a0 ≤ 15 then ((kissgateref02_Good.f a1).bind fun t112 => (if t112 = true then ((kissgateref02_Many.f a1).bind fun t113 => (kissgatelaw08_BpduNames.j0 k a0 a1 a2 a3 t110 t111 (!t113))) else (kissgatelaw08_BpduNames.j0 k a0 a1 a2 a3 t110 t111 false))) else (kissgatelaw08_BpduNames.j0 k a0 a1 a2 a3 t110 t111 false)) else (kissgatelaw08_BpduNames.j0 k a0 a1 a2 a3 t110 t111 false)))) = some r := by rw [if_pos rfl] at H; exact H
    clear H
    have H := H1
    clear H1
    replace H := Option.bind_eq_some_iff.mp H
    obtain ⟨t110, A70, H⟩ := H
    replace H : ((bpdu_Id.f a2 a3).bind fun t111 => (if a0 ≥ 0 then (if a0 ≤ 15 then ((kissgateref02_Good.f a1).bind fun t112 => (if t112 = true then ((kissgateref02_Many.f a1).bind fun t113 => (kissgatelaw08_BpduNames.j0 k a0 a1 a2 a3 t110 t111 (!t113))) else (kissgatelaw08_BpduNames.j0 k a0 a1 a2 a3 t110 t111 false))) else (kissgatelaw08_BpduNames.j0 k a0 a1 a2 a3 t110 t111 false)) else (kissgatelaw08_BpduNames.j0 k a0 a1 a2 a3 t110 t111 false))) = some r := H
    have A7 := Aside0.mk A70
    clear A70
    replace H := Option.bind_eq_some_iff.mp H
    obtain ⟨t111, A80, H⟩ := H
    replace H : (if a0 ≥ 0 then (if a0 ≤ 15 then ((kissgateref02_Good.f a1).bind fun t112 => (if t112 = true then ((kissgateref02_Many.f a1).bind fun t113 => (kissgatelaw08_BpduNames.j0 k a0 a1 a2 a3 t110 t111 (!t113))) else (kissgatelaw08_BpduNames.j0 k a0 a1 a2 a3 t110 t111 false))) else (kissgatelaw08_BpduNames.j0 k a0 a1 a2 a3 t110 t111 false)) else (kissgatelaw08_BpduNames.j0 k a0 a1 a2 a3 t110 t111 false)) = some r := H
    have A8 := Aside0.mk A80
    clear A80
    have HC9 := Aside0.mk H
    clear H
    go_enter Try.func3, Try.ntmps3
    go_upto_region 4 with (first | ((with_reducible refine gate_callee (f := 8) rfl ?_); refine goesL_ (some 12) rfl rfl Try.func8 (by kernel_rfl) rfl #[] rfl (by (try simp only [List.map_toArray, List.map_cons, List.map_nil]); first | done | rfl | (simp only [List.length_drop, List.length_take]; rfl)) ?_; (with_reducible refine (kissgatelaw08_alive.calls  true _ A5.out).mono ?_); rintro e w' ⟨rfl, ⟨nd, rfl⟩⟩; refine ⟨_, rfl, ?_⟩) | ((with_reducible refine gate_callee (f := 9) rfl ?_); refine goesL_ (some 16) rfl rfl Try.func9 (by kernel_rfl) rfl #[.int .i64 a0, .int .i64 a1] rfl (by (try simp only [List.map_toArray, List.map_cons, List.map_nil]); first | done | rfl | (simp only [List.length_drop, List.length_take]; rfl)) ?_; (with_reducible refine (bpdu_Id.calls a0 a1 t110 _ A7.out).mono ?_); rintro e w' ⟨rfl, ⟨nd, rfl⟩⟩; refine ⟨_, rfl, ?_⟩) | ((with_reducible refine gate_callee (f := 9) rfl ?_); refine goesL_ (some 19) rfl rfl Try.func9 (by kernel_rfl) rfl #[.int .i64 a2, .int .i64 a3] rfl (by (try simp only [List.map_toArray, List.map_cons, List.map_nil]); first | done | rfl | (simp only [List.length_drop, List.length_take]; rfl)) ?_; (with_reducible refine (bpdu_Id.calls a2 a3 t111 _ A8.out).mono ?_); rintro e w' ⟨rfl, ⟨nd, rfl⟩⟩; refine ⟨_, rfl, ?_⟩))
    (try simp only [Act.put, List.setIfInBounds_toArray, List.set_cons_zero, List.set_cons_succ])
    go_cut [11] (fun v11 wc => ∃ (kq : Nat) (x11_8 : Bool), v11 = .bool x11_8 ∧ Aside0 (kissgatelaw08_BpduNames.j0 kq a0 a1 a2 a3 t110 t111 x11_8 = some r) ∧ Aside0 (kq ≤ k) ∧ Drawn0 w wc)
    case first =>
      have H := HC9.out
      clear HC9
      by_cases c10 : a0 ≥ 0
      · rw [if_pos c10] at H
        have c10b0 : decide (0 ≤ a0) = true := decide_eq_true c10
        clear c10
        (first | rw [c10b0] | (simp only [i64_w, i32_w]; rw [c10b0]) | skip)
        by_cases c11 : a0 ≤ 15
        · rw [if_pos c11] at H
          have c11b0 : decide (a0 ≤ 15) = true := decide_eq_true c11
          clear c11
          replace H := Option.bind_eq_some_iff.mp H
          obtain ⟨t112, A120, H⟩ := H
          replace H : (if t112 = true then ((kissgateref02_Many.f a1).bind fun t113 => (kissgatelaw08_BpduNames.j0 k a0 a1 a2 a3 t110 t111 (!t113))) else (kissgatelaw08_BpduNames.j0 k a0 a1 a2 a3 t110 t111 false)) = some r := H
          have A12 := Aside0.mk A120
          clear A120
          by_cases c13 : t112 = true
          · subst c13
            have H1 : ((kissgateref02_Many.f a1).bind fun t113 => (kissgatelaw08_BpduNames.j0 k a0 a1 a2 a3 t110 t111 (!t113))) = some r := by rw [if_pos rfl] at H; exact H
            clear H
            have H := H1
            clear H1
            replace H := Option.bind_eq_some_iff.mp H
            obtain ⟨t113, A140, H⟩ := H
            replace H : (kissgatelaw08_BpduNames.j0 k a0 a1 a2 a3 t110 t111 (!t113)) = some r := H
            have A14 := Aside0.mk A140
            clear A140
            have H' := Aside0.mk H
            clear H
            go_wp2_with (first | (go_at_call 10; (with_reducible refine (kissgateref02_Good.calls a1 true _ A12.out).mono ?_); rintro e w' ⟨rfl, ⟨nd, rfl⟩⟩) | (go_at_call 11; (with_reducible refine (kissgateref02_Many.calls a1 t113 _ A14.out).mono ?_); rintro e w' ⟨rfl, ⟨nd, rfl⟩⟩))
            go_meet
            case rel => exact ⟨_, (!t113), (by first | rfl | (simp; done) | (simp [*]; done)), H', ⟨by first | omega | exact Nat.le_refl _⟩, by repeat (first | exact Drawn0.refl _ | apply Drawn0.step)⟩
          · replace c13 := Bool.eq_false_iff.mpr c13
            subst c13
            have H1 : (kissgatelaw08_BpduNames.j0 k a0 a1 a2 a3 t110 t111 false) = some r := by rw [if_neg (show ¬ (false = true) by decide)] at H; exact H
            clear H
            have H := H1
            clear H1
            have H' := Aside0.mk H
            clear H
            go_wp2_with (first | (go_at_call 10; (with_reducible refine (kissgateref02_Good.calls a1 false _ A12.out).mono ?_); rintro e w' ⟨rfl, ⟨nd, rfl⟩⟩))
            go_meet
            case rel => exact ⟨_, (false), (by first | rfl | (simp; done) | (simp [*]; done)), H', ⟨by first | omega | exact Nat.le_refl _⟩, by repeat (first | exact Drawn0.refl _ | apply Drawn0.step)⟩
        · rw [if_neg c11] at H
          have c11b0 : decide (a0 ≤ 15) = false := decide_eq_false c11
          clear c11
          have H' := Aside0.mk H
          clear H
          go_wp2
          go_meet
          case rel => exact ⟨_, (false), (by first | rfl | (simp; done) | (simp [*]; done)), H', ⟨by first | omega | exact Nat.le_refl _⟩, by repeat (first | exact Drawn0.refl _ | apply Drawn0.step)⟩
      · rw [if_neg c10] at H
        have c10b0 : decide (0 ≤ a0) = false := decide_eq_false c10
        clear c10
        (first | rw [c10b0] | (simp only [i64_w, i32_w]; rw [c10b0]) | skip)
        have H' := Aside0.mk H
        clear H
        go_wp2
        go_meet
        case rel => exact ⟨_, (false), (by first | rfl | (simp; done) | (simp [*]; done)), H', ⟨by first | omega | exact Nat.le_refl _⟩, by repeat (first | exact Drawn0.refl _ | apply Drawn0.step)⟩
    case rest =>
      clear HC9
      try clear c1
      try clear p2
      try clear c3
      try clear c6
      try clear c8
      try clear c9
      try clear c10
      try clear c10b0
      try clear c11
      try clear c11b0
      try clear c13
      obtain ⟨kq, x11_8, rfl, HA, HJ8, ⟨mc8, rfl⟩⟩ := hcut
      cases kq with
      | zero => exact absurd HA.out (by simp [kissgatelaw08_BpduNames.j0])
      | succ kj8 =>
        have H := HA.out
        clear HA
        simp only [kissgatelaw08_BpduNames.j0] at H
        have HC15 := Aside0.mk H
        clear H
        go_upto_region 5 with (fail)
        go_cut [65] (fun v65 wc => ∃ (kq : Nat) (x65_14 : Bool), v65 = .bool x65_14 ∧ Aside0 (kissgatelaw08_BpduNames.j1 kq a0 a1 a2 a3 t110 t111 x65_14 = some r) ∧ Aside0 (kq ≤ kj8) ∧ Drawn0 w wc)
        case first =>
          have H := HC15.out
          clear HC15
          by_cases c16 : x11_8 = true
          · subst c16
            have H1 : (if t110 = (wrap64 ((wrap64 (a0 * 281474976710656)) + a1)) then ((bpdu_Bridge.f t110).bind fun t114 => ((kissgateref08_Bridge.f t110).bind fun t115 => (if (t114 != t115) = true then (kissgatelaw08_BpduNames.j1 kj8 a0 a1 a2 a3 t110 t111 true) else ((bpdu_Bridge.f a1).bind fun t116 => ((kissgateref08_Bridge.f a1).bind fun t117 => (kissgatelaw08_BpduNames.j1 kj8 a0 a1 a2 a3 t110 t111 (t116 != t117))))))) else (kissgatelaw08_BpduNames.j1 kj8 a0 a1 a2 a3 t110 t111 true)) = some r := by rw [if_pos rfl] at H; exact H
            clear H
            have H := H1
            clear H1
            by_cases c17 : t110 = (wrap64 ((wrap64 (a0 * 281474976710656)) + a1))
            · rw [if_pos c17] at H
              have c17b0 : (t110 == (wrap64 ((wrap64 (a0 * 281474976710656)) + a1))) = true := beq_iff_eq.mpr c17
              have c17b1 : (t110 != (wrap64 ((wrap64 (a0 * 281474976710656)) + a1))) = false := bne_eq_false_iff_eq.mpr c17
              clear c17
              (first | rw [c17b0] | (simp only [i64_w, i32_w]; rw [c17b0]) | skip)
              replace H := Option.bind_eq_some_iff.mp H
              obtain ⟨t114, A180, H⟩ := H
              replace H : ((kissgateref08_Bridge.f t110).bind fun t115 => (if (t114 != t115) = true then (kissgatelaw08_BpduNames.j1 kj8 a0 a1 a2 a3 t110 t111 true) else ((bpdu_Bridge.f a1).bind fun t116 => ((kissgateref08_Bridge.f a1).bind fun t117 => (kissgatelaw08_BpduNames.j1 kj8 a0 a1 a2 a3 t110 t111 (t116 != t117)))))) = some r := H
              have A18 := Aside0.mk A180
              clear A180
              replace H := Option.bind_eq_some_iff.mp H
              obtain ⟨t115, A190, H⟩ := H
              replace H : (if (t114 != t115) = true then (kissgatelaw08_BpduNames.j1 kj8 a0 a1 a2 a3 t110 t111 true) else ((bpdu_Bridge.f a1).bind fun t116 => ((kissgateref08_Bridge.f a1).bind fun t117 => (kissgatelaw08_BpduNames.j1 kj8 a0 a1 a2 a3 t110 t111 (t116 != t117))))) = some r := H
              have A19 := Aside0.mk A190
              clear A190
              by_cases c20 : (t114 != t115) = true
              · rw [if_pos c20] at H
                have c20b0 : (t114 != t115) = true := c20
                (try (have c20b1 : decide (t114 = t115) = false := by simpa using c20))
                (try (have c20b2 : (t114 == t115) = false := by simpa using c20))
                (try (have c20b3 : ¬ (t114 = t115) := by simpa using c20))
                clear c20
                have H' := Aside0.mk H
                clear H
                go_wp2_with (first | (go_at_call 12; (with_reducible refine (bpdu_Bridge.calls t110 t114 _ A18.out).mono ?_); rintro e w' ⟨rfl, ⟨nd, rfl⟩⟩) | (go_at_call 13; (with_reducible refine (kissgateref08_Bridge.calls t110 t115 _ A19.out).mono ?_); rintro e w' ⟨rfl, ⟨nd, rfl⟩⟩))
                go_meet
                case rel => exact ⟨_, (true), (by first | rfl | (simp; done) | (simp [*]; done)), H', ⟨by have := HJ8.out; first | omega | exact Nat.le_refl _⟩, by repeat (first | exact Drawn0.refl _ | apply Drawn0.step)⟩
              · rw [if_neg c20] at H
                have c20b0 : (t114 != t115) = false := by simpa using c20
                (try (have c20b1 : decide (t114 = t115) = true := by simpa using c20))
                (try (have c20b2 : (t114 == t115) = true := by simpa using c20))
                clear c20
                replace H := Option.bind_eq_some_iff.mp H
                obtain ⟨t116, A210, H⟩ := H
                replace H : ((kissgateref08_Bridge.f a1).bind fun t117 => (kissgatelaw08_BpduNames.j1 kj8 a0 a1 a2 a3 t110 t111 (t116 != t117))) = some r := H
                have A21 := Aside0.mk A210
                clear A210
                replace H := Option.bind_eq_some_iff.mp H
                obtain ⟨t117, A220, H⟩ := H
                replace H : (kissgatelaw08_BpduNames.j1 kj8 a0 a1 a2 a3 t110 t111 (t116 != t117)) = some r := H
                have A22 := Aside0.mk A220
                clear A220
                have H' := Aside0.mk H
                clear H
                go_wp2_with (first | (go_at_call 12; (with_reducible refine (bpdu_Bridge.calls t110 t114 _ A18.out).mono ?_); rintro e w' ⟨rfl, ⟨nd, rfl⟩⟩) | (go_at_call 13; (with_reducible refine (kissgateref08_Bridge.calls t110 t115 _ A19.out).mono ?_); rintro e w' ⟨rfl, ⟨nd, rfl⟩⟩) | (go_at_call 12; (with_reducible refine (bpdu_Bridge.calls a1 t116 _ A21.out).mono ?_); rintro e w' ⟨rfl, ⟨nd, rfl⟩⟩) | (go_at_call 13; (with_reducible refine (kissgateref08_Bridge.calls a1 t117 _ A22.out).mono ?_); rintro e w' ⟨rfl, ⟨nd, rfl⟩⟩))
                go_meet
                case rel => exact ⟨_, ((t116 != t117)), (by first | rfl | (simp; done) | (simp [*]; done)), H', ⟨by have := HJ8.out; first | omega | exact Nat.le_refl _⟩, by repeat (first | exact Drawn0.refl _ | apply Drawn0.step)⟩
            · rw [if_neg c17] at H
              have c17b0 : (t110 == (wrap64 ((wrap64 (a0 * 281474976710656)) + a1))) = false := beq_eq_false_iff_ne.mpr c17
              have c17b1 : (t110 != (wrap64 ((wrap64 (a0 * 281474976710656)) + a1))) = true := bne_iff_ne.mpr c17
              (first | rw [c17b0] | (simp only [i64_w, i32_w]; rw [c17b0]) | skip)
              have H' := Aside0.mk H
              clear H
              go_wp2
              go_meet
              case rel => exact ⟨_, (true), (by first | rfl | (simp; done) | (simp [*]; done)), H', ⟨by have := HJ8.out; first | omega | exact Nat.le_refl _⟩, by repeat (first | exact Drawn0.refl _ | apply Drawn0.step)⟩
          · replace c16 := Bool.eq_false_iff.mpr c16
            subst c16
            have H1 : (if t110 = 0 then ((bpdu_Bridge.f t110).bind fun t118 => ((kissgateref08_Bridge.f t110).bind fun t119 => (if (t118 != t119) = true then (kissgatelaw08_BpduNames.j1 kj8 a0 a1 a2 a3 t110 t111 true) else ((bpdu_Bridge.f a1).bind fun t120 => ((kissgateref08_Bridge.f a1).bind fun t121 => (kissgatelaw08_BpduNames.j1 kj8 a0 a1 a2 a3 t110 t111 (t120 != t121))))))) else (kissgatelaw08_BpduNames.j1 kj8 a0 a1 a2 a3 t110 t111 true)) = some r := by rw [if_neg (show ¬ (false = true) by decide)] at H; exact H
            clear H
            have H := H1
            clear H1
            by_cases c23 : t110 = 0
            · rw [if_pos c23] at H
              have c23b0 : (t110 == 0) = true := beq_iff_eq.mpr c23
              have c23b1 : (t110 != 0) = false := bne_eq_false_iff_eq.mpr c23
              clear c23
              replace H := Option.bind_eq_some_iff.mp H
              obtain ⟨t118, A240, H⟩ := H
              replace H : ((kissgateref08_Bridge.f t110).bind fun t119 => (if (t118 != t119) = true then (kissgatelaw08_BpduNames.j1 kj8 a0 a1 a2 a3 t110 t111 true) else ((bpdu_Bridge.f a1).bind fun t120 => ((kissgateref08_Bridge.f a1).bind fun t121 => (kissgatelaw08_BpduNames.j1 kj8 a0 a1 a2 a3 t110 t111 (t120 != t121)))))) = some r := H
              have A24 := Aside0.mk A240
              clear A240
              replace H := Option.bind_eq_some_iff.mp H
              obtain ⟨t119, A250, H⟩ := H
              replace H : (if (t118 != t119) = true then (kissgatelaw08_BpduNames.j1 kj8 a0 a1 a2 a3 t110 t111 true) else ((bpdu_Bridge.f a1).bind fun t120 => ((kissgateref08_Bridge.f a1).bind fun t121 => (kissgatelaw08_BpduNames.j1 kj8 a0 a1 a2 a3 t110 t111 (t120 != t121))))) = some r := H
              have A25 := Aside0.mk A250
              clear A250
              by_cases c26 : (t118 != t119) = true
              · rw [if_pos c26] at H
                have c26b0 : (t118 != t119) = true := c26
                (try (have c26b1 : decide (t118 = t119) = false := by simpa using c26))
                (try (have c26b2 : (t118 == t119) = false := by simpa using c26))
                (try (have c26b3 : ¬ (t118 = t119) := by simpa using c26))
                clear c26
                have H' := Aside0.mk H
                clear H
                go_wp2_with (first | (go_at_call 12; (with_reducible refine (bpdu_Bridge.calls t110 t118 _ A24.out).mono ?_); rintro e w' ⟨rfl, ⟨nd, rfl⟩⟩) | (go_at_call 13; (with_reducible refine (kissgateref08_Bridge.calls t110 t119 _ A25.out).mono ?_); rintro e w' ⟨rfl, ⟨nd, rfl⟩⟩))
                go_meet
                case rel => exact ⟨_, (true), (by first | rfl | (simp; done) | (simp [*]; done)), H', ⟨by have := HJ8.out; first | omega | exact Nat.le_refl _⟩, by repeat (first | exact Drawn0.refl _ | apply Drawn0.step)⟩
              · rw [if_neg c26] at H
                have c26b0 : (t118 != t119) = false := by simpa using c26
                (try (have c26b1 : decide (t118 = t119) = true := by simpa using c26))
                (try (have c26b2 : (t118 == t119) = true := by simpa using c26))
                clear c26
                replace H := Option.bind_eq_some_iff.mp H
                obtain ⟨t120, A270, H⟩ := H
                replace H : ((kissgateref08_Bridge.f a1).bind fun t121 => (kissgatelaw08_BpduNames.j1 kj8 a0 a1 a2 a3 t110 t111 (t120 != t121))) = some r := H
                have A27 := Aside0.mk A270
                clear A270
                replace H := Option.bind_eq_some_iff.mp H
                obtain ⟨t121, A280, H⟩ := H
                replace H : (kissgatelaw08_BpduNames.j1 kj8 a0 a1 a2 a3 t110 t111 (t120 != t121)) = some r := H
                have A28 := Aside0.mk A280
                clear A280
                have H' := Aside0.mk H
                clear H
                go_wp2_with (first | (go_at_call 12; (with_reducible refine (bpdu_Bridge.calls t110 t118 _ A24.out).mono ?_); rintro e w' ⟨rfl, ⟨nd, rfl⟩⟩) | (go_at_call 13; (with_reducible refine (kissgateref08_Bridge.calls t110 t119 _ A25.out).mono ?_); rintro e w' ⟨rfl, ⟨nd, rfl⟩⟩) | (go_at_call 12; (with_reducible refine (bpdu_Bridge.calls a1 t120 _ A27.out).mono ?_); rintro e w' ⟨rfl, ⟨nd, rfl⟩⟩) | (go_at_call 13; (with_reducible refine (kissgateref08_Bridge.calls a1 t121 _ A28.out).mono ?_); rintro e w' ⟨rfl, ⟨nd, rfl⟩⟩))
                go_meet
                case rel => exact ⟨_, ((t120 != t121)), (by first | rfl | (simp; done) | (simp [*]; done)), H', ⟨by have := HJ8.out; first | omega | exact Nat.le_refl _⟩, by repeat (first | exact Drawn0.refl _ | apply Drawn0.step)⟩
            · rw [if_neg c23] at H
              have c23b0 : (t110 == 0) = false := beq_eq_false_iff_ne.mpr c23
              have c23b1 : (t110 != 0) = true := bne_iff_ne.mpr c23
              have H' := Aside0.mk H
              clear H
              go_wp2
              go_meet
              case rel => exact ⟨_, (true), (by first | rfl | (simp; done) | (simp [*]; done)), H', ⟨by have := HJ8.out; first | omega | exact Nat.le_refl _⟩, by repeat (first | exact Drawn0.refl _ | apply Drawn0.step)⟩
        case rest =>
          clear HC15
          try clear c1
          try clear c2
          try clear p2
          try clear c3
          try clear c6
          try clear p6
          try clear c8
          try clear c9
          try clear c10
          try clear c10b0
          try clear c11
          try clear c11b0
          try clear c13
          try clear c16
          try clear c17
          try clear c17b0
          try clear c17b1
          try clear c20
          try clear c20b0
          try clear c20b1
          try clear c20b2
          try clear c23
          try clear c23b0
          try clear c23b1
          try clear c26
          try clear c26b0
          try clear c26b1
          try clear c26b2
          try clear p2
          obtain ⟨kq, x65_14, rfl, HA, HJ14, ⟨mc14, rfl⟩⟩ := hcut
          cases kq with
          | zero => exact absurd HA.out (by simp [kissgatelaw08_BpduNames.j1])
          | succ kj14 =>
            have H := HA.out
            clear HA
            simp only [kissgatelaw08_BpduNames.j1] at H
            by_cases c29 : x65_14 = true
            · subst c29
              have H1 : (some false) = some r := by rw [if_pos rfl] at H; exact H
              clear H
              have H := H1
              clear H1
              obtain rfl := Option.some.inj H
              go_wp2
              go_ret
              exact ⟨by first | rfl | (simp; done) | (simp [*]; done), by repeat (first | exact Drawn0.refl _ | apply Drawn0.step)⟩
            · replace c29 := Bool.eq_false_iff.mpr c29
              subst c29
              have H1 : (if t110 = 0 then (some true) else (if t111 = 0 then (some true) else (if a0 = a2 then (if ((t110 == t111) == (a1 == a3)) = true then (if a0 < a2 then (some ((decide (t110 < t111)) == true)) else (some ((decide (t110 < t111)) == (decide (a1 < a3))))) else (some false)) else (if ((t110 == t111) == false) = true then (if a0 < a2 then (some ((decide (t110 < t111)) == true)) else (some ((decide (t110 < t111)) == false))) else (some false))))) = some r := by rw [if_neg (show ¬ (false = true) by decide)] at H; exact H
              clear H
              have H := H1
              clear H1
              by_cases c30 : t110 = 0
              · rw [if_pos c30] at H
                have c30b0 : (t110 == 0) = true := beq_iff_eq.mpr c30
                have c30b1 : (t110 != 0) = false := bne_eq_false_iff_eq.mpr c30
                clear c30
                obtain rfl := Option.some.inj H
                go_wp2
                go_ret
                exact ⟨by first | rfl | (simp; done) | (simp [*]; done), by repeat (first | exact Drawn0.refl _ | apply Drawn0.step)⟩
              · rw [if_neg c30] at H
                have c30b0 : (t110 == 0) = false := beq_eq_false_iff_ne.mpr c30
                have c30b1 : (t110 != 0) = true := bne_iff_ne.mpr c30
                by_cases c31 : t111 = 0
                · rw [if_pos c31] at H
                  have c31b0 : (t111 == 0) = true := beq_iff_eq.mpr c31
                  have c31b1 : (t111 != 0) = false := bne_eq_false_iff_eq.mpr c31
                  clear c31
                  obtain rfl := Option.some.inj H
                  go_wp2
                  go_ret
                  exact ⟨by first | rfl | (simp; done) | (simp [*]; done), by repeat (first | exact Drawn0.refl _ | apply Drawn0.step)⟩
                · rw [if_neg c31] at H
                  have c31b0 : (t111 == 0) = false := beq_eq_false_iff_ne.mpr c31
                  have c31b1 : (t111 != 0) = true := bne_iff_ne.mpr c31
                  by_cases c32 : a0 = a2
                  · rw [if_pos c32] at H
                    have c32b0 : (a0 == a2) = true := beq_iff_eq.mpr c32
                    have c32b1 : (a0 != a2) = false := bne_eq_false_iff_eq.mpr c32
                    clear c32
                    by_cases c33 : ((t110 == t111) == (a1 == a3)) = true
                    · rw [if_pos c33] at H
                      have c33b0 : ((t110 == t111) == (a1 == a3)) = true := c33
                      (try (have c33b1 : decide ((t110 == t111) = (a1 == a3)) = true := by simpa using c33))
                      (try (have c33b2 : ((t110 == t111) == (a1 == a3)) = true := by simpa using c33))
                      clear c33
                      by_cases c34 : a0 < a2
                      · rw [if_pos c34] at H
                        have c34b0 : decide (a0 < a2) = true := decide_eq_true c34
                        clear c34
                        obtain rfl := Option.some.inj H
                        go_wp2
                        go_ret
                        exact ⟨by first | rfl | (simp; done) | (simp [*]; done), by repeat (first | exact Drawn0.refl _ | apply Drawn0.step)⟩
                      · rw [if_neg c34] at H
                        have c34b0 : decide (a0 < a2) = false := decide_eq_false c34
                        clear c34
                        obtain rfl := Option.some.inj H
                        go_wp2
                        go_ret
                        exact ⟨by first | rfl | (simp; done) | (simp [*]; done), by repeat (first | exact Drawn0.refl _ | apply Drawn0.step)⟩
                    · rw [if_neg c33] at H
                      have c33b0 : ((t110 == t111) == (a1 == a3)) = false := by simpa using c33
                      (try (have c33b1 : decide ((t110 == t111) = (a1 == a3)) = false := by simpa using c33))
                      (try (have c33b2 : ((t110 == t111) == (a1 == a3)) = false := by simpa using c33))
                      (try (have c33b3 : ¬ ((t110 == t111) = (a1 == a3)) := by simpa using c33))
                      clear c33
                      obtain rfl := Option.some.inj H
                      go_wp2
                      go_ret
                      exact ⟨by first | rfl | (simp; done) | (simp [*]; done), by repeat (first | exact Drawn0.refl _ | apply Drawn0.step)⟩
                  · rw [if_neg c32] at H
                    have c32b0 : (a0 == a2) = false := beq_eq_false_iff_ne.mpr c32
                    have c32b1 : (a0 != a2) = true := bne_iff_ne.mpr c32
                    by_cases c35 : ((t110 == t111) == false) = true
                    · rw [if_pos c35] at H
                      have c35b0 : ((t110 == t111) == false) = true := c35
                      (try (have c35b1 : decide ((t110 == t111) = false) = true := by simpa using c35))
                      (try (have c35b2 : ((t110 == t111) == false) = true := by simpa using c35))
                      clear c35
                      by_cases c36 : a0 < a2
                      · rw [if_pos c36] at H
                        have c36b0 : decide (a0 < a2) = true := decide_eq_true c36
                        clear c36
                        obtain rfl := Option.some.inj H
                        go_wp2
                        go_ret
                        exact ⟨by first | rfl | (simp; done) | (simp [*]; done), by repeat (first | exact Drawn0.refl _ | apply Drawn0.step)⟩
                      · rw [if_neg c36] at H
                        have c36b0 : decide (a0 < a2) = false := decide_eq_false c36
                        clear c36
                        obtain rfl := Option.some.inj H
                        go_wp2
                        go_ret
                        exact ⟨by first | rfl | (simp; done) | (simp [*]; done), by repeat (first | exact Drawn0.refl _ | apply Drawn0.step)⟩
                    · rw [if_neg c35] at H
                      have c35b0 : ((t110 == t111) == false) = false := by simpa using c35
                      (try (have c35b1 : decide ((t110 == t111) = false) = false := by simpa using c35))
                      (try (have c35b2 : ((t110 == t111) == false) = false := by simpa using c35))
                      (try (have c35b3 : ¬ ((t110 == t111) = false) := by simpa using c35))
                      clear c35
                      obtain rfl := Option.some.inj H
                      go_wp2
                      go_ret
                      exact ⟨by first | rfl | (simp; done) | (simp [*]; done), by repeat (first | exact Drawn0.refl _ | apply Drawn0.step)⟩
  · replace c6 := Bool.eq_false_iff.mpr c6
    subst c6
    have H1 : (some false) = some r := by rw [if_neg (show ¬ (false = true) by decide)] at H; exact H
    clear H
    have H := H1
    clear H1
    obtain rfl := Option.some.inj H
    go_enter Try.func3, Try.ntmps3
    go_wp2_with (first | ((with_reducible refine gate_callee (f := 8) rfl ?_); refine goesL_ (some 12) rfl rfl Try.func8 (by kernel_rfl) rfl #[] rfl (by (try simp only [List.map_toArray, List.map_cons, List.map_nil]); first | done | rfl | (simp only [List.length_drop, List.length_take]; rfl)) ?_; (with_reducible refine (kissgatelaw08_alive.calls  false _ A5.out).mono ?_); rintro e w' ⟨rfl, ⟨nd, rfl⟩⟩; refine ⟨_, rfl, ?_⟩))
    go_ret
    exact ⟨by first | rfl | (simp; done) | (simp [*]; done), by repeat (first | exact Drawn0.refl _ | apply Drawn0.step)⟩

/-- THE ONE PURE STATEMENT of kissgatelaw08_BpduNames: yours. -/
def kissgatelaw08_BpduNames.Pure : Prop := ∀ (a0 : Int) (a1 : Int) (a2 : Int) (a3 : Int), (Lit.int .i64 a0).wf = true → (Lit.int .i64 a1).wf = true → (Lit.int .i64 a2).wf = true → (Lit.int .i64 a3).wf = true → ∃ k, kissgatelaw08_BpduNames.f k a0 a1 a2 a3 = some true
theorem kissgatelaw08_BpduNames.walk (P : kissgatelaw08_BpduNames.Pure) (a0 : Int) (a1 : Int) (a2 : Int) (a3 : Int) (w : World) (w0 : (Lit.int .i64 a0).wf = true) (w1 : (Lit.int .i64 a1).wf = true) (w2 : (Lit.int .i64 a2).wf = true) (w3 : (Lit.int .i64 a3).wf = true) :
    Calls Try.prog 3 #[.int .i64 a0, .int .i64 a1, .int .i64 a2, .int .i64 a3] w fun e w' => e = .returned (.bool true) ∧ Below w.heap.size w w' := by
  obtain ⟨k, h⟩ := P a0 a1 a2 a3 w0 w1 w2 w3
  refine (kissgatelaw08_BpduNames.calls k a0 a1 a2 a3 true w h).mono ?_
  rintro e w' ⟨rfl, hd⟩
  exact ⟨rfl, hd.below⟩

end Go.Proofs.Ytjebdmfhnfbomaa.PBpduNames
