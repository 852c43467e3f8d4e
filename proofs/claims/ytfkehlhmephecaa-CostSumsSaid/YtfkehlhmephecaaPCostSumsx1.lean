-- Written by a program of this session (see NOTES.md), which reads the translation's print; Lean checks it.
import Derived.Test.YtfkehlhmephecaaPCostSumsx0
namespace Go.Proofs.Ytfkehlhmephecaa.PCostSums
open Go.RowKit Go.Proofs.YtfkehlhmephecaaW.PrintWords Go.Proofs.YtfkehlhmephecaaW.PrintLast Go.Proofs.YtfkehlhmephecaaW.PrintMore
attribute [local go_sem] max2_int min2_int max_two min_two max_three min_three max_four min_four   -- for this text's walks alone
set_option linter.unusedVariables false
set_option linter.unusedSimpArgs false

-- NOT PRINTED: function 25 (math_archFloor)

-- NOT PRINTED: function 23 (math_Float64frombits)

-- NOT PRINTED: function 24 (math_Float64bits)

-- NOT PRINTED: function 21 (math_Abs)

-- NOT PRINTED: function 15 (math_IsInf)

-- NOT PRINTED: function 20 (math_IsNaN)

-- NOT PRINTED: function 22 (math_Copysign)

-- NOT PRINTED: function 29 (math_archTrunc)

-- NOT PRINTED: function 30 (math_trunc)

-- NOT PRINTED: function 28 (math_Trunc)

-- NOT PRINTED: function 27 (math_Modf)

-- NOT PRINTED: function 26 (math_floor)

-- NOT PRINTED: function 19 (math_Floor)

-- NOT PRINTED: function 10 (cost_Of)

-- NOT PRINTED: function 18 (math_NaN)

/-! ### kissgatelaw03_alive: function 9 -/
theorem fmt_double : FloatKind.f64.format = Ieee.double := rfl
theorem max2_lt {x y : Nat} (hx : x ≤ 9218868437227405312) (hy : y ≤ 9218868437227405312) (h : x < y) : Builtin.max2 (.float .f64 x) (.float .f64 y) = pure (.float .f64 y) := by
  simp only [Builtin.max2, fmt_double, Flt.order_pos x y hx hy, Nat.compare_eq_lt.2 h]
theorem dec_pos {x : Nat} (hx : x ≤ 9218868437227405312) : (FloatKind.f64.decode x).neg = false := by
  show (Ieee.double.read x).neg = false
  rcases Nat.lt_or_eq_of_le hx with h | h
  · rw [Flt.read_fin x h]; rfl
  · rw [h, Flt.read_inf]; rfl
theorem max2_ge {x y : Nat} (hx : x ≤ 9218868437227405312) (hy : y ≤ 9218868437227405312) (h : y ≤ x) : Builtin.max2 (.float .f64 x) (.float .f64 y) = pure (.float .f64 x) := by
  rcases Nat.lt_or_eq_of_le h with h1 | h1
  · simp only [Builtin.max2, fmt_double, Flt.order_pos x y hx hy, Nat.compare_eq_gt.2 h1]
  · subst h1; simp only [Builtin.max2, fmt_double, Flt.order_pos y y hx hy, Nat.compare_eq_eq.2 rfl, dec_pos hx, Bool.false_eq_true, if_false]
theorem min2_lt {x y : Nat} (hx : x ≤ 9218868437227405312) (hy : y ≤ 9218868437227405312) (h : x < y) : Builtin.min2 (.float .f64 x) (.float .f64 y) = pure (.float .f64 x) := by
  simp only [Builtin.min2, fmt_double, Flt.order_pos x y hx hy, Nat.compare_eq_lt.2 h]
theorem min2_ge {x y : Nat} (hx : x ≤ 9218868437227405312) (hy : y ≤ 9218868437227405312) (h : y ≤ x) : Builtin.min2 (.float .f64 x) (.float .f64 y) = pure (.float .f64 y) := by
  rcases Nat.lt_or_eq_of_le h with h1 | h1
  · simp only [Builtin.min2, fmt_double, Flt.order_pos x y hx hy, Nat.compare_eq_gt.2 h1]
  · subst h1; simp only [Builtin.min2, fmt_double, Flt.order_pos y y hx hy, Nat.compare_eq_eq.2 rfl, dec_pos hx, Bool.false_eq_true, if_false]
/-- What Floor gives. -/
def flW (c : Nat) : Nat := if c = 9218868437227405312 then c else Flt.flr c
theorem run_archFloor (c : Nat) (hc : c ≤ 9218868437227405312) (W : World) : (callFunc 25 #[.float .f64 c]).run Try.prog W = .ok (.value (.float .f64 (flW c))) W := by
  rw [run_callFunc_extern Try.func25 (by kernel_rfl) (by kernel_rfl) (by kernel_rfl) (e := Extern.MathFloor.toIntegral "math.archFloor" .down) (by kernel_rfl)]
  have h : (Extern.MathFloor.toIntegral "math.archFloor" .down #[.float .f64 c]).run Try.prog W = .ok (.float .f64 (flW c)) W := by
    change Sem.run Try.prog (match FloatKind.f64.decode c with | .nan s t => (if FloatKind.f64.format.quiet t = t then pure (Value.float .f64 c) else do
      let kept ← choose (.extern "math.Floor,Ceil,Trunc,RoundToEven.signallingNaN kept" 2)
      pure (Value.float .f64 (if kept == 1 then c else FloatKind.f64.encode (.nan s (FloatKind.f64.format.quiet t))))) | d => (pure (Value.float .f64 (FloatKind.f64.encode (d.integral .down))) : Sem Value)) W = _
    rcases Nat.lt_or_eq_of_le hc with h | h
    · have e : FloatKind.f64.decode c = .number false (Flt.so c) (-1074 + (Flt.eo c : Int)) := Flt.read_fin c h
      have e2 := Flt.integral_fin c h .down (.inl rfl)
      rw [Flt.read_fin c h] at e2
      rw [e]
      show Sem.run Try.prog (pure (Value.float .f64 (FloatKind.f64.encode ((Ieee.Datum.number false (Flt.so c) (-1074 + (Flt.eo c : Int))).integral .down)))) W = _
      rw [e2]
      unfold flW
      rw [if_neg (by omega)]
      rfl
    · subst h
      have e : FloatKind.f64.decode 9218868437227405312 = .infinity false := Flt.read_inf
      rw [e]
      rfl
  rw [h]; rfl
theorem run_frombits (n : Nat) (W : World) : (callFunc 23 #[.int .u64 n]).run Try.prog W = .ok (.value (.float .f64 n)) W := by
  rw [run_callFunc_extern Try.func23 (by kernel_rfl) (by kernel_rfl) (by kernel_rfl) (e := Extern.MathFloatBits.float64frombits) (by kernel_rfl)]
  rfl
theorem Floor_calls (c : Nat) (hc : c ≤ 9218868437227405312) (w : World) : Calls Try.prog 19 #[.float .f64 c] w fun e w' => e = .returned (.float .f64 (flW c)) ∧ w' = w := by
  have h := run_archFloor c hc
  go_enter Try.func19, Try.ntmps19
  go_wp2
  go_ret
  exact ⟨rfl, rfl⟩
theorem NaN_calls (w : World) : Calls Try.prog 18 #[] w fun e w' => e = .returned (.float .f64 9221120237041090561) ∧ w' = w := by
  have h : ∀ W : World, (callFunc 23 #[.int .u64 9221120237041090561]).run Try.prog W = .ok (.value (.float .f64 9221120237041090561)) W := fun W => run_frombits 9221120237041090561 W
  go_enter Try.func18, Try.ntmps18
  go_wp2
  go_ret
  exact ⟨rfl, rfl⟩
theorem lt64 {x : Nat} (h : (Lit.float .f64 x).wf = true) : x < 18446744073709551616 := by
  simp only [Lit.wf, decide_eq_true_eq] at h; exact h
theorem beq_gt {x : Nat} (hx : x < 18446744073709551616) : (FloatKind.f64.format.order x 0 == some .gt) = decide (0 < x ∧ x ≤ 9218868437227405312) := by
  rw [fmt_double]
  by_cases h : 0 < x ∧ x ≤ 9218868437227405312
  · rw [decide_eq_true h, (Flt.order_zero x hx).2 h]; rfl
  · rw [decide_eq_false h]
    exact beq_eq_false_iff_ne.mpr fun e => h ((Flt.order_zero x hx).1 e)
theorem toInt_fin (c n : Nat) (hc : c < 9218868437227405312) (hn : Flt.fl c = n) (hs : n ≤ 16777216) (W : World) : (convert 22 3 (.float .f64 c)).run Try.prog W = .ok (.int .i64 (n : Int)) W := by
  refine run_convert_float_int W _ _ .f64 .i64 c n (by kernel_rfl) Try.underlying3 ?_
  have e : (FloatKind.f64.decode c).toInt .zero = some (n : Int) := by
    show (Ieee.double.read c).toInt .zero = _
    unfold Ieee.Datum.toInt
    rw [Flt.integral_fin c hc .zero (.inr rfl), hn]
    dsimp only
    rw [Flt.signed_pos, Nat.pow_zero, Nat.mul_one]
  unfold floatToIntVal
  rw [e]
  dsimp only
  rw [if_pos (show IntKind.i64.min ≤ (n : Int) ∧ (n : Int) ≤ IntKind.i64.max by rw [show IntKind.i64.min = -9223372036854775808 by decide, show IntKind.i64.max = 9223372036854775807 by decide]; omega)]
set_option maxHeartbeats 4000000 in
theorem Of_calls (x : Nat) (hx : (Lit.float .f64 x).wf = true) (w : World) : Calls Try.prog 10 #[.float .f64 x] w fun e w' => e = .returned (.int .i64 (Flt.ofV x : Nat)) ∧ w' = w := by
  have h0 := beq_gt (lt64 hx)
  by_cases hp : 0 < x ∧ x ≤ 9218868437227405312
  · rw [decide_eq_true hp] at h0
    obtain ⟨hq, hq2⟩ := Flt.q_some x hp.1 hp.2
    obtain ⟨hc, hc2⟩ := Flt.cR_some x hp.1 hp.2
    have q0 : ∀ W : World, (binOp .quo 22 (.float .f64 4716133919349538816) (.float .f64 x)).run Try.prog W = .ok (.float .f64 (Flt.qR x)) W := fun W => run_float_arith W .quo _ .f64 _ _ _ hq
    have c0 : ∀ W : World, (binOp .add 22 (.float .f64 (Flt.qR x)) (.float .f64 4602678819172646912)).run Try.prog W = .ok (.float .f64 (Flt.cR x)) W := fun W => run_float_arith W .add _ .f64 _ _ _ hc
    have HF := Aside0.mk (fun w => Floor_calls (Flt.cR x) hc2 w)
    have key : ∃ m1 m2 : Nat, Builtin.max2 (.float .f64 (flW (Flt.cR x))) (.float .f64 4607182418800017408) = pure (.float .f64 m1) ∧ Builtin.min2 (.float .f64 m1) (.float .f64 4715268809856909312) = pure (.float .f64 m2) ∧ ∀ W : World, (convert 22 3 (.float .f64 m2)).run Try.prog W = .ok (.int .i64 (Flt.ofV x : Nat)) W := by
      have hv := (Flt.ofV_in x).2
      unfold Flt.ofV flW
      rw [if_pos hp]
      by_cases hi : Flt.cR x = 9218868437227405312
      · rw [if_pos hi, if_pos hi, hi]
        exact ⟨_, _, max2_ge (by decide) (by decide) (by decide), min2_ge (by decide) (by decide) (by decide), toInt_fin 4715268809856909312 16777216 (by decide) Flt.fl_MAXC (by decide)⟩
      · rw [if_neg hi, if_neg hi]
        obtain ⟨hb, hk⟩ := Flt.floor_chain (Flt.cR x)
        have hM : (4715268809856909312 : Nat) = Flt.MAXC := rfl
        have hO : (4607182418800017408 : Nat) = Flt.ONE := rfl
        rcases hk with ⟨e, h⟩ | ⟨e, h⟩ | ⟨e, h1, h2, h3⟩
        · rw [e]
          exact ⟨_, _, max2_lt hb (by decide) (by rw [hO]; exact h), min2_lt (by decide) (by decide) (by decide), toInt_fin 4607182418800017408 1 (by decide) Flt.fl_ONE (by decide)⟩
        · rw [e]
          have h4 : Flt.ONE ≤ Flt.MAXC := by decide
          exact ⟨_, _, max2_ge hb (by decide) (by rw [hO]; omega), min2_ge hb (by decide) (by rw [hM]; exact h), toInt_fin 4715268809856909312 16777216 (by decide) Flt.fl_MAXC (by decide)⟩
        · have hl := (Flt.clampN_in (Flt.fl (Flt.cR x))).2
          have h4 : Flt.MAXC < 9218868437227405312 := by decide
          exact ⟨_, _, max2_ge hb (by decide) (by rw [hO]; exact h1), min2_lt hb (by decide) (by rw [hM]; exact h2), toInt_fin _ _ (by omega) (by rw [h3, e]) hl⟩
    obtain ⟨m1, m2, k1, k2, k3⟩ := key
    clear hp hq hq2 hc hc2 hx
    go_enter Try.func10, Try.ntmps10
    go_wp2_with fail
    go_at_call 19
    refine (HF.out _).mono ?_
    rintro e w1 ⟨rfl, rfl⟩
    go_wp2_with fail
    go_ret
    exact ⟨rfl, rfl⟩
  · rw [decide_eq_false hp] at h0
    have hv : Flt.ofV x = 16777216 := by unfold Flt.ofV; rw [if_neg hp]
    rw [hv]
    clear hp hv hx
    go_enter Try.func10, Try.ntmps10
    go_wp2_with fail
    go_ret
    exact ⟨rfl, rfl⟩
set_option maxRecDepth 100000 in
theorem ofV_ten : Flt.ofV 4621819117588971520 = 2000000 := by decide +kernel
theorem ofV_nan : Flt.ofV 9221120237041090561 = 16777216 := by decide +kernel
theorem kissgatelaw03_alive.good (w : World) : Calls Try.prog 9 #[] w fun e w' => e = .returned (.bool true) ∧ w' = w := by
  have h1 := Aside0.mk (Of_calls 4621819117588971520 (by decide) w)
  have h2 := Aside0.mk (Of_calls 9221120237041090561 (by decide) w)
  rw [ofV_ten] at h1
  rw [ofV_nan] at h2
  go_enter Try.func9, Try.ntmps9
  go_wp2_with fail
  go_at_call 10
  refine (h1.out).mono ?_
  rintro e w1 ⟨rfl, rfl⟩
  go_wp2_with fail
  go_at_call 18
  refine (NaN_calls _).mono ?_
  rintro e w1 ⟨rfl, rfl⟩
  go_wp2_with fail
  go_at_call 10
  refine (h2.out).mono ?_
  rintro e w1 ⟨rfl, rfl⟩
  go_wp2_with fail
  go_ret
  exact ⟨rfl, rfl⟩


/-! ### cost_Sum: function 13 -/
def cost_Sum.f (a0 : Int) (a1 : Int) : Option (Int) := if a0 > (wrap64 (9223372036854775807 - (mx a1 0))) then (some 9223372036854775807) else (some (wrap64 ((mx a0 0) + (mx a1 0))))
set_option maxHeartbeats 8000000 in
set_option maxRecDepth 100000 in
theorem cost_Sum.calls (a0 : Int) (a1 : Int) (r : Int) (w : World) (h : cost_Sum.f a0 a1 = some r) :
    Calls Try.prog 13 #[.int .i64 a0, .int .i64 a1] w fun e w' => e = .returned (.int .i64 r) ∧ Below w.heap.size w w' := by
  have HB := Aside0.mk (Below.refl w.heap.size w)
  have H : (if a0 > (wrap64 (9223372036854775807 - (mx a1 0))) then (some 9223372036854775807) else (some (wrap64 ((mx a0 0) + (mx a1 0))))) = some r := h
  clear h
  obtain ⟨ji3, hji3⟩ : ∃ j_ : Int, (mx a1 0) = j_ := ⟨_, rfl⟩
  replace H : (if a0 > (wrap64 (9223372036854775807 - (ji3))) then (some 9223372036854775807) else (some (wrap64 ((mx a0 0) + (ji3))))) = some r := by first | (rw [hji3] at H; exact H) | (simp only [hji3] at H ⊢; exact H)
  (try (have hji3l : 0 ≤ ji3 := by (rw [← hji3]; unfold mx; (repeat' split) <;> omega)))
  (try (have hji3m : 0 ≤ ji3 := by omega))
  have hji3_ : (if a1 < 0 then 0 else a1) = ji3 := hji3
  by_cases c4 : a0 > (wrap64 (9223372036854775807 - (ji3)))
  · rw [if_pos c4] at H
    have c4b0 : decide ((wrap64 (9223372036854775807 - (ji3))) < a0) = true := decide_eq_true c4
    clear c4
    obtain rfl := Option.some.inj H
    go_enter Try.func13, Try.ntmps13
    go_wp2
    go_ret
    exact ⟨by first | rfl | (simp [show ∀ l_ : List UInt8, (l_ == []) = l_.isEmpty from fun l_ => by cases l_ <;> rfl]; done) | (simp [errW_none, errW_some] <;> rfl) | (simp only [← hji3]; first | rfl | (simp [errW_none, errW_some] <;> rfl)) | ((repeat rw [Int.tdiv_eq_ediv_of_nonneg (by omega)]); (repeat rw [Int.tmod_eq_emod_of_nonneg (by omega)]); first | rfl | (simp [errW_none, errW_some] <;> rfl)) | (simp [*, errW_none, errW_some] <;> rfl), by repeat (first | (with_reducible first | exact HB.out | apply below_alloc | apply pw_below_drewN | apply below_drew1) | exact HB.out)⟩
  · rw [if_neg c4] at H
    have c4b0 : decide ((wrap64 (9223372036854775807 - (ji3))) < a0) = false := decide_eq_false c4
    clear c4
    obtain ⟨ji5, hji5⟩ : ∃ j_ : Int, (mx a0 0) = j_ := ⟨_, rfl⟩
    replace H : (some (wrap64 ((ji5) + (ji3)))) = some r := by first | (rw [hji5] at H; exact H) | (simp only [hji5] at H ⊢; exact H)
    (try (have hji5l : 0 ≤ ji5 := by (rw [← hji5]; unfold mx; (repeat' split) <;> omega)))
    (try (have hji5m : 0 ≤ ji5 := by omega))
    have hji5_ : (if a0 < 0 then 0 else a0) = ji5 := hji5
    obtain rfl := Option.some.inj H
    go_enter Try.func13, Try.ntmps13
    go_wp2
    go_ret
    exact ⟨by first | rfl | (simp [show ∀ l_ : List UInt8, (l_ == []) = l_.isEmpty from fun l_ => by cases l_ <;> rfl]; done) | (simp [errW_none, errW_some] <;> rfl) | (simp only [← hji3, ← hji5]; first | rfl | (simp [errW_none, errW_some] <;> rfl)) | ((repeat rw [Int.tdiv_eq_ediv_of_nonneg (by omega)]); (repeat rw [Int.tmod_eq_emod_of_nonneg (by omega)]); first | rfl | (simp [errW_none, errW_some] <;> rfl)) | (simp [*, errW_none, errW_some] <;> rfl), by repeat (first | (with_reducible first | exact HB.out | apply below_alloc | apply pw_below_drewN | apply below_drew1) | exact HB.out)⟩

/-! ### kissgatelaw03_CostSums: function 6 -/
def kissgatelaw03_CostSums.Pure : Prop := True
def sumV (a b : Int) : Int := if mx a 0 + mx b 0 > 9223372036854775807 then 9223372036854775807 else mx a 0 + mx b 0
theorem sumV_comm (a b : Int) : sumV b a = sumV a b := by unfold sumV; rw [Int.add_comm]
theorem sum_eq (a b : Int) (ha : -9223372036854775808 ≤ a ∧ a ≤ 9223372036854775807) (hb : -9223372036854775808 ≤ b ∧ b ≤ 9223372036854775807) : cost_Sum.f a b = some (sumV a b) := by
  unfold cost_Sum.f sumV
  have h1 : 0 ≤ mx b 0 ∧ mx b 0 ≤ 9223372036854775807 := by unfold mx; split <;> omega
  have h2 : 0 ≤ mx a 0 ∧ mx a 0 ≤ 9223372036854775807 ∧ (a = mx a 0 ∨ a < 0 ∧ mx a 0 = 0) := by unfold mx; split <;> omega
  have e1 : wrap64 (9223372036854775807 - mx b 0) = 9223372036854775807 - mx b 0 := by unfold wrap64; omega
  rw [e1]
  by_cases h : mx a 0 + mx b 0 > 9223372036854775807
  · rw [if_pos h, if_pos (by omega)]
  · have e2 : wrap64 (mx a 0 + mx b 0) = mx a 0 + mx b 0 := by unfold wrap64; omega
    rw [if_neg h, if_neg (by omega), e2]
theorem int_wf {a : Int} (h : (Lit.int .i64 a).wf = true) : -9223372036854775808 ≤ a ∧ a ≤ 9223372036854775807 := by
  have hb : IntKind.i64.min ≤ a ∧ a ≤ IntKind.i64.max := by simpa [Lit.wf] using h
  rw [show IntKind.i64.min = -9223372036854775808 by decide, show IntKind.i64.max = 9223372036854775807 by decide] at hb
  exact hb
set_option maxHeartbeats 4000000 in
theorem kissgatelaw03_CostSums.walk (P : kissgatelaw03_CostSums.Pure) (a0 a1 : Int) (w : World) (w0 : (Lit.int .i64 a0).wf = true) (w1 : (Lit.int .i64 a1).wf = true) :
    Calls Try.prog 6 #[.int .i64 a0, .int .i64 a1] w fun e w' => e = .returned (.bool true) ∧ Below w.heap.size w w' := by
  have HA := Aside0.mk (kissgatelaw03_alive.good w)
  have b0 := int_wf w0
  have b1 := int_wf w1
  have HS := Aside0.mk (cost_Sum.calls a0 a1 (sumV a0 a1) w (sum_eq a0 a1 b0 b1))
  have HS2 := Aside0.mk (fun w' => cost_Sum.calls a1 a0 (sumV a0 a1) w' (by rw [sum_eq a1 a0 b1 b0, sumV_comm]))
  obtain ⟨X, hX⟩ : ∃ X, mx a0 0 = X := ⟨_, rfl⟩
  obtain ⟨Y, hY⟩ : ∃ Y, mx a1 0 = Y := ⟨_, rfl⟩
  have hX2 : (if a0 < 0 then 0 else a0) = X := hX
  have hY2 : (if a1 < 0 then 0 else a1) = Y := hY
  have hx : 0 ≤ X ∧ X ≤ 9223372036854775807 := by rw [← hX2]; split <;> omega
  have hy : 0 ≤ Y ∧ Y ≤ 9223372036854775807 := by rw [← hY2]; split <;> omega
  obtain ⟨Z, hZ⟩ : ∃ Z, wrap64 (X + Y) = Z := ⟨_, rfl⟩
  obtain ⟨S, hS⟩ : ∃ S, sumV a0 a1 = S := ⟨_, rfl⟩
  rw [hS] at HS HS2
  unfold sumV at hS
  rw [hX, hY] at hS
  by_cases c : X + Y > 9223372036854775807
  · rw [if_pos c] at hS
    subst hS
    have hZ0 : Z < 0 := by rw [← hZ]; unfold wrap64; omega
    have f1 : decide (Z < 0) = true := decide_eq_true hZ0
    clear c hZ0 hx hy hX hY b0 b1 w0 w1 P
    go_enter Try.func6, Try.ntmps6
    go_wp2_with fail
    go_at_call 9
    refine (HA.out).mono ?_
    rintro e w1 ⟨rfl, rfl⟩
    go_wp2_with fail
    go_at_call 13
    refine (HS.out).mono ?_
    rintro e w1 ⟨rfl, hb⟩
    have HB := Aside0.mk hb
    clear hb
    go_wp2_with fail
    go_at_call 13
    refine (HS2.out _).mono ?_
    rintro e w2 ⟨rfl, hb⟩
    have HB := Aside0.mk (below_step HB.out hb)
    clear hb
    go_wp2_with fail
    go_ret
    exact ⟨by first | rfl | simp, HB.out⟩
  · rw [if_neg c] at hS
    have hZ1 : Z = S := by rw [← hZ, ← hS]; unfold wrap64; omega
    have hZ0 : ¬ Z < 0 := by rw [hZ1, ← hS]; omega
    subst hZ1
    have f1 : decide (Z < 0) = false := decide_eq_false hZ0
    clear c hZ0 hx hy hX hY b0 b1 w0 w1 P hS
    go_enter Try.func6, Try.ntmps6
    go_wp2_with fail
    go_at_call 9
    refine (HA.out).mono ?_
    rintro e w1 ⟨rfl, rfl⟩
    go_wp2_with fail
    go_at_call 13
    refine (HS.out).mono ?_
    rintro e w1 ⟨rfl, hb⟩
    have HB := Aside0.mk hb
    clear hb
    go_wp2_with fail
    go_at_call 13
    refine (HS2.out _).mono ?_
    rintro e w2 ⟨rfl, hb⟩
    have HB := Aside0.mk (below_step HB.out hb)
    clear hb
    go_wp2_with fail
    go_ret
    exact ⟨by first | rfl | simp, HB.out⟩


end Go.Proofs.Ytfkehlhmephecaa.PCostSums
