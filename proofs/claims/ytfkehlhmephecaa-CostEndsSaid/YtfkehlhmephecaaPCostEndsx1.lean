-- Written by a program of this session (see NOTES.md), which reads the translation's print; Lean checks it.
import Derived.Test.YtfkehlhmephecaaPCostEndsx0
namespace Go.Proofs.Ytfkehlhmephecaa.PCostEnds
open Go.RowKit Go.Proofs.YtfkehlhmephecaaW.PrintWords Go.Proofs.YtfkehlhmephecaaW.PrintLast Go.Proofs.YtfkehlhmephecaaW.PrintMore
attribute [local go_sem] max2_int min2_int max_two min_two max_three min_three max_four min_four   -- for this text's walks alone
set_option linter.unusedVariables false
set_option linter.unusedSimpArgs false

-- NOT PRINTED: function 25 (math_archFloor)

-- NOT PRINTED: function 23 (math_Float64frombits)

-- NOT PRINTED: function 24 (math_Float64bits)

-- NOT PRINTED: function 21 (math_Abs)

-- NOT PRINTED: function 15 (math_IsInf)

-- NOT PRINTED: function 20 (math_IsNaN)

-- NOT PRINTED: function 22 (math_Copysign)

-- NOT PRINTED: function 29 (math_archTrunc)

-- NOT PRINTED: function 30 (math_trunc)

-- NOT PRINTED: function 28 (math_Trunc)

-- NOT PRINTED: function 27 (math_Modf)

-- NOT PRINTED: function 26 (math_floor)

-- NOT PRINTED: function 19 (math_Floor)

-- NOT PRINTED: function 10 (cost_Of)

-- NOT PRINTED: function 18 (math_NaN)

/-! ### kissgatelaw03_alive: function 9 -/
theorem fmt_double : FloatKind.f64.format = Ieee.double := rfl
theorem max2_lt {x y : Nat} (hx : x ≤ 9218868437227405312) (hy : y ≤ 9218868437227405312) (h : x < y) : Builtin.max2 (.float .f64 x) (.float .f64 y) = pure (.float .f64 y) := by
  simp only [Builtin.max2, fmt_double, Flt.order_pos x y hx hy, Nat.compare_eq_lt.2 h]
theorem dec_pos {x : Nat} (hx : x ≤ 9218868437227405312) : (FloatKind.f64.decode x).neg = false := by
  show (Ieee.double.read x).neg = false
  rcases Nat.lt_or_eq_of_le hx with h | h
  · rw [Flt.read_fin x h]; rfl
  · rw [h, Flt.read_inf]; rfl
theorem max2_ge {x y : Nat} (hx : x ≤ 9218868437227405312) (hy : y ≤ 9218868437227405312) (h : y ≤ x) : Builtin.max2 (.float .f64 x) (.float .f64 y) = pure (.float .f64 x) := by
  rcases Nat.lt_or_eq_of_le h with h1 | h1
  · simp only [Builtin.max2, fmt_double, Flt.order_pos x y hx hy, Nat.compare_eq_gt.2 h1]
  · subst h1; simp only [Builtin.max2, fmt_double, Flt.order_pos y y hx hy, Nat.compare_eq_eq.2 rfl, dec_pos hx, Bool.false_eq_true, if_false]
theorem min2_lt {x y : Nat} (hx : x ≤ 9218868437227405312) (hy : y ≤ 9218868437227405312) (h : x < y) : Builtin.min2 (.float .f64 x) (.float .f64 y) = pure (.float .f64 x) := by
  simp only [Builtin.min2, fmt_double, Flt.order_pos x y hx hy, Nat.compare_eq_lt.2 h]
theorem min2_ge {x y : Nat} (hx : x ≤ 9218868437227405312) (hy : y ≤ 9218868437227405312) (h : y ≤ x) : Builtin.min2 (.float .f64 x) (.float .f64 y) = pure (.float .f64 y) := by
  rcases Nat.lt_or_eq_of_le h with h1 | h1
  · simp only [Builtin.min2, fmt_double, Flt.order_pos x y hx hy, Nat.compare_eq_gt.2 h1]
  · subst h1; simp only [Builtin.min2, fmt_double, Flt.order_pos y y hx hy, Nat.compare_eq_eq.2 rfl, dec_pos hx, Bool.false_eq_true, if_false]
/-- What Floor gives. -/
def flW (c : Nat) : Nat := if c = 9218868437227405312 then c else Flt.flr c
theorem run_archFloor (c : Nat) (hc : c ≤ 9218868437227405312) (W : World) : (callFunc 25 #[.float .f64 c]).run Try.prog W = .ok (.value (.float .f64 (flW c))) W := by
  rw [run_callFunc_extern Try.func25 (by kernel_rfl) (by kernel_rfl) (by kernel_rfl) (e := Extern.MathFloor.toIntegral "math.archFloor" .down) (by kernel_rfl)]
  have h : (Extern.MathFloor.toIntegral "math.archFloor" .down #[.float .f64 c]).run Try.prog W = .ok (.float .f64 (flW c)) W := by
    change Sem.run Try.prog (match FloatKind.f64.decode c with | .nan s t => (if FloatKind.f64.format.quiet t = t then pure (Value.float .f64 c) else do
      let kept ← choose (.extern "math.Floor,Ceil,Trunc,RoundToEven.signallingNaN kept" 2)
      pure (Value.float .f64 (if kept == 1 then c else FloatKind.f64.encode (.nan s (FloatKind.f64.format.quiet t))))) | d => (pure (Value.float .f64 (FloatKind.f64.encode (d.integral .down))) : Sem Value)) W = _
    rcases Nat.lt_or_eq_of_le hc with h | h
    · have e : FloatKind.f64.decode c = .number false (Flt.so c) (-1074 + (Flt.eo c : Int)) := Flt.read_fin c h
      have e2 := Flt.integral_fin c h .down (.inl rfl)
      rw [Flt.read_fin c h] at e2
      rw [e]
      show Sem.run Try.prog (pure (Value.float .f64 (FloatKind.f64.encode ((Ieee.Datum.number false (Flt.so c) (-1074 + (Flt.eo c : Int))).integral .down)))) W = _
      rw [e2]
      unfold flW
      rw [if_neg (by omega)]
      rfl
    · subst h
      have e : FloatKind.f64.decode 9218868437227405312 = .infinity false := Flt.read_inf
      rw [e]
      rfl
  rw [h]; rfl
theorem run_frombits (n : Nat) (W : World) : (callFunc 23 #[.int .u64 n]).run Try.prog W = .ok (.value (.float .f64 n)) W := by
  rw [run_callFunc_extern Try.func23 (by kernel_rfl) (by kernel_rfl) (by kernel_rfl) (e := Extern.MathFloatBits.float64frombits) (by kernel_rfl)]
  rfl
theorem Floor_calls (c : Nat) (hc : c ≤ 9218868437227405312) (w : World) : Calls Try.prog 19 #[.float .f64 c] w fun e w' => e = .returned (.float .f64 (flW c)) ∧ w' = w := by
  have h := run_archFloor c hc
  go_enter Try.func19, Try.ntmps19
  go_wp2
  go_ret
  exact ⟨rfl, rfl⟩
theorem NaN_calls (w : World) : Calls Try.prog 18 #[] w fun e w' => e = .returned (.float .f64 9221120237041090561) ∧ w' = w := by
  have h : ∀ W : World, (callFunc 23 #[.int .u64 9221120237041090561]).run Try.prog W = .ok (.value (.float .f64 9221120237041090561)) W := fun W => run_frombits 9221120237041090561 W
  go_enter Try.func18, Try.ntmps18
  go_wp2
  go_ret
  exact ⟨rfl, rfl⟩
theorem lt64 {x : Nat} (h : (Lit.float .f64 x).wf = true) : x < 18446744073709551616 := by
  simp only [Lit.wf, decide_eq_true_eq] at h; exact h
theorem beq_gt {x : Nat} (hx : x < 18446744073709551616) : (FloatKind.f64.format.order x 0 == some .gt) = decide (0 < x ∧ x ≤ 9218868437227405312) := by
  rw [fmt_double]
  by_cases h : 0 < x ∧ x ≤ 9218868437227405312
  · rw [decide_eq_true h, (Flt.order_zero x hx).2 h]; rfl
  · rw [decide_eq_false h]
    exact beq_eq_false_iff_ne.mpr fun e => h ((Flt.order_zero x hx).1 e)
theorem toInt_fin (c n : Nat) (hc : c < 9218868437227405312) (hn : Flt.fl c = n) (hs : n ≤ 16777216) (W : World) : (convert 22 3 (.float .f64 c)).run Try.prog W = .ok (.int .i64 (n : Int)) W := by
  refine run_convert_float_int W _ _ .f64 .i64 c n (by kernel_rfl) Try.underlying3 ?_
  have e : (FloatKind.f64.decode c).toInt .zero = some (n : Int) := by
    show (Ieee.double.read c).toInt .zero = _
    unfold Ieee.Datum.toInt
    rw [Flt.integral_fin c hc .zero (.inr rfl), hn]
    dsimp only
    rw [Flt.signed_pos, Nat.pow_zero, Nat.mul_one]
  unfold floatToIntVal
  rw [e]
  dsimp only
  rw [if_pos (show IntKind.i64.min ≤ (n : Int) ∧ (n : Int) ≤ IntKind.i64.max by rw [show IntKind.i64.min = -9223372036854775808 by decide, show IntKind.i64.max = 9223372036854775807 by decide]; omega)]
set_option maxHeartbeats 4000000 in
theorem Of_calls (x : Nat) (hx : (Lit.float .f64 x).wf = true) (w : World) : Calls Try.prog 10 #[.float .f64 x] w fun e w' => e = .returned (.int .i64 (Flt.ofV x : Nat)) ∧ w' = w := by
  have h0 := beq_gt (lt64 hx)
  by_cases hp : 0 < x ∧ x ≤ 9218868437227405312
  · rw [decide_eq_true hp] at h0
    obtain ⟨hq, hq2⟩ := Flt.q_some x hp.1 hp.2
    obtain ⟨hc, hc2⟩ := Flt.cR_some x hp.1 hp.2
    have q0 : ∀ W : World, (binOp .quo 22 (.float .f64 4716133919349538816) (.float .f64 x)).run Try.prog W = .ok (.float .f64 (Flt.qR x)) W := fun W => run_float_arith W .quo _ .f64 _ _ _ hq
    have c0 : ∀ W : World, (binOp .add 22 (.float .f64 (Flt.qR x)) (.float .f64 4602678819172646912)).run Try.prog W = .ok (.float .f64 (Flt.cR x)) W := fun W => run_float_arith W .add _ .f64 _ _ _ hc
    have HF := Aside0.mk (fun w => Floor_calls (Flt.cR x) hc2 w)
    have key : ∃ m1 m2 : Nat, Builtin.max2 (.float .f64 (flW (Flt.cR x))) (.float .f64 4607182418800017408) = pure (.float .f64 m1) ∧ Builtin.min2 (.float .f64 m1) (.float .f64 4715268809856909312) = pure (.float .f64 m2) ∧ ∀ W : World, (convert 22 3 (.float .f64 m2)).run Try.prog W = .ok (.int .i64 (Flt.ofV x : Nat)) W := by
      have hv := (Flt.ofV_in x).2
      unfold Flt.ofV flW
      rw [if_pos hp]
      by_cases hi : Flt.cR x = 9218868437227405312
      · rw [if_pos hi, if_pos hi, hi]
        exact ⟨_, _, max2_ge (by decide) (by decide) (by decide), min2_ge (by decide) (by decide) (by decide), toInt_fin 4715268809856909312 16777216 (by decide) Flt.fl_MAXC (by decide)⟩
      · rw [if_neg hi, if_neg hi]
        obtain ⟨hb, hk⟩ := Flt.floor_chain (Flt.cR x)
        have hM : (4715268809856909312 : Nat) = Flt.MAXC := rfl
        have hO : (4607182418800017408 : Nat) = Flt.ONE := rfl
        rcases hk with ⟨e, h⟩ | ⟨e, h⟩ | ⟨e, h1, h2, h3⟩
        · rw [e]
          exact ⟨_, _, max2_lt hb (by decide) (by rw [hO]; exact h), min2_lt (by decide) (by decide) (by decide), toInt_fin 4607182418800017408 1 (by decide) Flt.fl_ONE (by decide)⟩
        · rw [e]
          have h4 : Flt.ONE ≤ Flt.MAXC := by decide
          exact ⟨_, _, max2_ge hb (by decide) (by rw [hO]; omega), min2_ge hb (by decide) (by rw [hM]; exact h), toInt_fin 4715268809856909312 16777216 (by decide) Flt.fl_MAXC (by decide)⟩
        · have hl := (Flt.clampN_in (Flt.fl (Flt.cR x))).2
          have h4 : Flt.MAXC < 9218868437227405312 := by decide
          exact ⟨_, _, max2_ge hb (by decide) (by rw [hO]; exact h1), min2_lt hb (by decide) (by rw [hM]; exact h2), toInt_fin _ _ (by omega) (by rw [h3, e]) hl⟩
    obtain ⟨m1, m2, k1, k2, k3⟩ := key
    clear hp hq hq2 hc hc2 hx
    go_enter Try.func10, Try.ntmps10
    go_wp2_with fail
    go_at_call 19
    refine (HF.out _).mono ?_
    rintro e w1 ⟨rfl, rfl⟩
    go_wp2_with fail
    go_ret
    exact ⟨rfl, rfl⟩
  · rw [decide_eq_false hp] at h0
    have hv : Flt.ofV x = 16777216 := by unfold Flt.ofV; rw [if_neg hp]
    rw [hv]
    clear hp hv hx
    go_enter Try.func10, Try.ntmps10
    go_wp2_with fail
    go_ret
    exact ⟨rfl, rfl⟩
set_option maxRecDepth 100000 in
theorem ofV_ten : Flt.ofV 4621819117588971520 = 2000000 := by decide +kernel
theorem ofV_nan : Flt.ofV 9221120237041090561 = 16777216 := by decide +kernel
theorem kissgatelaw03_alive.good (w : World) : Calls Try.prog 9 #[] w fun e w' => e = .returned (.bool true) ∧ w' = w := by
  have h1 := Aside0.mk (Of_calls 4621819117588971520 (by decide) w)
  have h2 := Aside0.mk (Of_calls 9221120237041090561 (by decide) w)
  rw [ofV_ten] at h1
  rw [ofV_nan] at h2
  go_enter Try.func9, Try.ntmps9
  go_wp2_with fail
  go_at_call 10
  refine (h1.out).mono ?_
  rintro e w1 ⟨rfl, rfl⟩
  go_wp2_with fail
  go_at_call 18
  refine (NaN_calls _).mono ?_
  rintro e w1 ⟨rfl, rfl⟩
  go_wp2_with fail
  go_at_call 10
  refine (h2.out).mono ?_
  rintro e w1 ⟨rfl, rfl⟩
  go_wp2_with fail
  go_ret
  exact ⟨rfl, rfl⟩


-- NOT PRINTED: function 17 (math_Inf)

-- NOT PRINTED: function 14 (cost_Speed)

/-! ### kissgatelaw03_CostEnds: function 7 -/
theorem sp_order_ge {x y : Nat} (hx : x ≤ 9218868437227405312) (hy : y ≤ 9218868437227405312) : (FloatKind.f64.format.order x y == some .gt || FloatKind.f64.format.order x y == some .eq) = decide (y ≤ x) := by
  rw [fmt_double, Flt.order_pos x y hx hy]
  rcases Nat.lt_trichotomy x y with h | h | h
  · rw [Nat.compare_eq_lt.2 h, decide_eq_false (by omega)]; rfl
  · rw [Nat.compare_eq_eq.2 h, decide_eq_true (by omega)]; rfl
  · rw [Nat.compare_eq_gt.2 h, decide_eq_true (by omega)]; rfl
theorem sp_order_le {x y : Nat} (hx : x ≤ 9218868437227405312) (hy : y ≤ 9218868437227405312) : (FloatKind.f64.format.order x y == some .lt || FloatKind.f64.format.order x y == some .eq) = decide (x ≤ y) := by
  rw [fmt_double, Flt.order_pos x y hx hy]
  rcases Nat.lt_trichotomy x y with h | h | h
  · rw [Nat.compare_eq_lt.2 h, decide_eq_true (by omega)]; rfl
  · rw [Nat.compare_eq_eq.2 h, decide_eq_true (by omega)]; rfl
  · rw [Nat.compare_eq_gt.2 h, decide_eq_false (by omega)]; rfl
theorem Inf_calls (w : World) : Calls Try.prog 17 #[.int .i64 1] w fun e w' => e = .returned (.float .f64 9218868437227405312) ∧ w' = w := by
  have h : ∀ W : World, (callFunc 23 #[.int .u64 9218868437227405312]).run Try.prog W = .ok (.value (.float .f64 9218868437227405312)) W := fun W => run_frombits 9218868437227405312 W
  go_enter Try.func17, Try.ntmps17
  go_wp2
  go_ret
  exact ⟨rfl, rfl⟩
def cntOf (v : Value) : Nat := match v with | .int _ n => (2200 - n).toNat | _ => 0
theorem wf_of {x : Nat} (h : x ≤ 9218868437227405312) : (Lit.float .f64 x).wf = true := by
  simp only [Lit.wf, decide_eq_true_eq]; omega
set_option maxHeartbeats 4000000 in
set_option maxRecDepth 100000 in
theorem Speed_calls (c : Nat) (h2 : 2 ≤ c) (hc : c ≤ 16777216) (w : World) : Calls Try.prog 14 #[.int .i64 c] w fun e w' => (∃ l, e = .returned (.float .f64 l) ∧ Flt.Ends c l) ∧ w' = w := by
  have d1 : decide ((c : Int) < 1) = false := decide_eq_false (by omega)
  have d2 : decide ((16777216 : Int) < (c : Int)) = false := decide_eq_false (by omega)
  have d3 : ((c : Int) == 1) = false := beq_eq_false_iff_ne.mpr (by omega)
  have H2 := Aside0.mk h2
  have HC := Aside0.mk hc
  have HS := Aside0.mk (Flt.inv_start c h2)
  clear h2 hc
  go_enter Try.func14, Try.ntmps14
  go_wp2_with fail
  go_loopw [3, 4, 17] (fun v3 v4 v17 wr => ∃ (i l h : Nat), v3 = .float .f64 l ∧ v4 = .float .f64 h ∧ v17 = .int .i64 i ∧ Aside0 (Flt.Inv c i l h) ∧ wr = w) (fun _ _ v17 _ => cntOf v17)
  case atStart => exact ⟨0, 0, _, rfl, rfl, rfl, HS, rfl⟩
  case round =>
    clear HS
    obtain ⟨i, l, h, rfl, rfl, rfl, HI, rfl⟩ := hrel
    obtain ⟨l', h', m, e1, e2, e3, hm, hl, hh, hi, hend, hgo⟩ := Flt.inv_step c i l h H2.out HC.out HI.out
    have q1 : ∀ W : World, (binOp .quo 22 (.float .f64 l) (.float .f64 4611686018427387904)).run Try.prog W = .ok (.float .f64 l') W := fun W => run_float_arith W .quo _ .f64 _ _ _ e1
    have q2 : ∀ W : World, (binOp .quo 22 (.float .f64 h) (.float .f64 4611686018427387904)).run Try.prog W = .ok (.float .f64 h') W := fun W => run_float_arith W .quo _ .f64 _ _ _ e2
    have q3 : ∀ W : World, (binOp .add 22 (.float .f64 l') (.float .f64 h')).run Try.prog W = .ok (.float .f64 m) W := fun W => run_float_arith W .add _ .f64 _ _ _ e3
    have o1 := sp_order_le (x := m) (y := l) (by omega) (by omega)
    have o2 := sp_order_ge (x := m) (y := h) (by omega) (by omega)
    have di : decide ((i : Int) < 2200) = true := decide_eq_true (by omega)
    have hw : wrap64 ((i : Int) + 1) = (i : Int) + 1 := by unfold wrap64; omega
    have HM := Aside0.mk (show cntOf (.int .i64 ((i : Int) + 1)) < cntOf (.int .i64 (i : Int)) by show (2200 - ((i : Int) + 1)).toNat < (2200 - (i : Int)).toNat; omega)
    by_cases hs : m ≤ l ∨ h ≤ m
    · have HE := Aside0.mk (hend hs)
      clear hend hgo hm hl hh hi e1 e2 e3
      by_cases hs1 : m ≤ l
      · rw [decide_eq_true hs1] at o1
        clear hs hs1 o2
        go_wp2_with fail
        go_ret
        exact ⟨⟨l, rfl, HE.out⟩, rfl⟩
      · rw [decide_eq_false hs1] at o1
        have hs2 : h ≤ m := by omega
        rw [decide_eq_true hs2] at o2
        clear hs hs1 hs2
        go_wp2_with fail
        go_ret
        exact ⟨⟨l, rfl, HE.out⟩, rfl⟩
    · obtain ⟨hm0, ha, hb⟩ := hgo hs
      rw [decide_eq_false (show ¬ m ≤ l by omega)] at o1
      rw [decide_eq_false (show ¬ h ≤ m by omega)] at o2
      have HO := Aside0.mk (fun W => Of_calls m (wf_of (by omega)) W)
      have HA := Aside0.mk ha
      have HB := Aside0.mk hb
      clear hend hgo hm hl hh hi e1 e2 e3 hs hm0 ha hb
      by_cases hv : c ≤ Flt.ofV m
      · have dv : decide ((c : Int) ≤ (Flt.ofV m : Nat)) = true := decide_eq_true (by omega)
        have dn : decide (c ≤ Flt.ofV m) = true := decide_eq_true hv
        have HV := Aside0.mk hv
        go_wp2_with fail
        go_at_call 10
        refine (HO.out _).mono ?_
        rintro e w1 ⟨rfl, rfl⟩
        go_wp2_with fail
        try rw [hw]
        first
          | (go_roundw; case rel => exact ⟨i + 1, m, h, rfl, rfl, by first | rfl | (rw [hw]; rfl), ⟨HA.out HV.out⟩, by first | trivial | rfl⟩)
          | (refine ⟨?rel2, ?measure⟩; case rel2 => exact ⟨i + 1, m, h, rfl, rfl, by first | rfl | (rw [hw]; rfl), ⟨HA.out HV.out⟩, by first | trivial | rfl⟩)
        case measure => first | exact HM.out | (rw [hw]; exact HM.out)
      · have dv : decide ((c : Int) ≤ (Flt.ofV m : Nat)) = false := decide_eq_false (by omega)
        have dn : decide (c ≤ Flt.ofV m) = false := decide_eq_false hv
        have HV := Aside0.mk hv
        go_wp2_with fail
        go_at_call 10
        refine (HO.out _).mono ?_
        rintro e w1 ⟨rfl, rfl⟩
        go_wp2_with fail
        try rw [hw]
        first
          | (go_roundw; case rel => exact ⟨i + 1, l, m, rfl, rfl, by first | rfl | (rw [hw]; rfl), ⟨HB.out HV.out⟩, by first | trivial | rfl⟩)
          | (refine ⟨?rel2, ?measure⟩; case rel2 => exact ⟨i + 1, l, m, rfl, rfl, by first | rfl | (rw [hw]; rfl), ⟨HB.out HV.out⟩, by first | trivial | rfl⟩)
        case measure => first | exact HM.out | (rw [hw]; exact HM.out)
set_option maxHeartbeats 4000000 in
set_option maxRecDepth 100000 in
theorem Speed_one (w : World) : Calls Try.prog 14 #[.int .i64 1] w fun e w' => e = .returned (.float .f64 9218868437227405312) ∧ w' = w := by
  have HI := Aside0.mk (fun W => Inf_calls W)
  go_enter Try.func14, Try.ntmps14
  go_wp2_with fail
  go_at_call 17
  refine (HI.out _).mono ?_
  rintro e w1 ⟨rfl, rfl⟩
  go_wp2_with fail
  go_ret
  exact ⟨rfl, rfl⟩
def kissgatelaw03_CostEnds.Pure : Prop := True
theorem X1_pos : 0 < Flt.X1 := by decide
set_option maxHeartbeats 4000000 in
set_option maxRecDepth 100000 in
theorem Speed_less (c l : Nat) (h2 : 2 ≤ c) (hc : c ≤ 16777216) (hE : Flt.Ends c l) (w : World) : Calls Try.prog 14 #[.int .i64 ((c : Int) - 1)] w fun e w' => (∃ s : Nat, e = .returned (.float .f64 s) ∧ l ≤ s ∧ s ≤ 9218868437227405312) ∧ w' = w := by
  obtain ⟨hx, hl, hc1, hc2⟩ := hE
  by_cases h : c = 2
  · subst h
    exact (Speed_one w).mono fun e w' he => ⟨⟨_, he.1, by omega, Nat.le_refl _⟩, he.2⟩
  · have hcast : (c : Int) - 1 = ((c - 1 : Nat) : Int) := by omega
    rw [hcast]
    refine (Speed_calls (c - 1) (by omega) (by omega) w).mono ?_
    rintro e w' ⟨⟨s, rfl, hx2, hs, hs1, hs2⟩, rfl⟩
    refine ⟨⟨s, rfl, ?_, by omega⟩, rfl⟩
    rcases Nat.lt_or_ge s l with k | k
    · exfalso
      have := Flt.ofV_mono (x := s + 1) (y := l) (by omega) (by omega) (by omega)
      omega
    · exact k
set_option maxHeartbeats 4000000 in
set_option maxRecDepth 100000 in
theorem kissgatelaw03_CostEnds.walk (P : kissgatelaw03_CostEnds.Pure) (a0 : Int) (w : World) (w0 : (Lit.int .i64 a0).wf = true) :
    Calls Try.prog 7 #[.int .i64 a0] w fun e w' => e = .returned (.bool true) ∧ Below w.heap.size w w' := by
  have HA := Aside0.mk (kissgatelaw03_alive.good w)
  clear P w0
  by_cases h1 : a0 < 2
  · have d1 : decide (a0 < 2) = true := decide_eq_true h1
    go_enter Try.func7, Try.ntmps7
    go_wp2_with fail
    go_at_call 9
    refine (HA.out).mono ?_
    rintro e w1 ⟨rfl, rfl⟩
    go_wp2_with fail
    go_ret
    exact ⟨by first | rfl | simp, Below.refl _ _⟩
  have d1 : decide (a0 < 2) = false := decide_eq_false h1
  by_cases h3 : 16777216 < a0
  · have d2 : decide (16777216 < a0) = true := decide_eq_true h3
    go_enter Try.func7, Try.ntmps7
    go_wp2_with fail
    go_at_call 9
    refine (HA.out).mono ?_
    rintro e w1 ⟨rfl, rfl⟩
    go_wp2_with fail
    go_ret
    exact ⟨by first | rfl | simp, Below.refl _ _⟩
  obtain ⟨c, rfl⟩ := Int.eq_ofNat_of_zero_le (show 0 ≤ a0 by omega)
  have d1' : decide (c < 2) = false := decide_eq_false (by omega)
  have d2 : decide ((16777216 : Int) < (c : Int)) = false := decide_eq_false h3
  have d2' : decide (16777216 < c) = false := decide_eq_false (by omega)
  have hw : wrap64 ((c : Int) - 1) = (c : Int) - 1 := by unfold wrap64; omega
  have h2 : 2 ≤ c := by omega
  have hc : c ≤ 16777216 := by omega
  have HS := Aside0.mk (fun W => Speed_calls c h2 hc W)
  have HL := Aside0.mk (fun l hE W => Speed_less c l h2 hc hE W)
  clear h1 h3 h2 hc
  go_enter Try.func7, Try.ntmps7
  go_wp2_with fail
  go_at_call 9
  refine (HA.out).mono ?_
  rintro e w1 ⟨rfl, rfl⟩
  go_wp2_with fail
  go_at_call 14
  refine (HS.out _).mono ?_
  rintro e w1 ⟨⟨l, rfl, hE⟩, rfl⟩
  have HL2 := Aside0.mk (fun W => HL.out l hE W)
  obtain ⟨hx, hl, hc1, hc2⟩ := hE
  obtain ⟨p, t, e1, e2, ht1, ht2⟩ := Flt.ends_next l hx hl
  have hx0 : 0 < l := by have := X1_pos; omega
  have hmono := Flt.ofV_mono (x := l + 1) (y := t) (by omega) ht1 ht2
  have q1 : ∀ W : World, (binOp .mul 22 (.float .f64 l) (.float .f64 4607182419250377371)).run Try.prog W = .ok (.float .f64 p) W := fun W => run_float_arith W .mul _ .f64 _ _ _ e1
  have q2 : ∀ W : World, (binOp .add 22 (.float .f64 p) (.float .f64 4472406533629990549)).run Try.prog W = .ok (.float .f64 t) W := fun W => run_float_arith W .add _ .f64 _ _ _ e2
  have HO0 := Aside0.mk (fun W => Of_calls l (wf_of (by omega)) W)
  have HO1 := Aside0.mk (fun W => Of_calls t (wf_of (by omega)) W)
  have HO3 := Aside0.mk (fun (s : Nat) (hs : s ≤ 9218868437227405312) (hls : l ≤ s) => (sp_order_ge (x := s) (y := l) hs (by omega)).trans (decide_eq_true hls))
  generalize Flt.ofV l = x at HO0 hc1
  generalize Flt.ofV t = y at HO1 hmono
  have t1 : decide ((c : Int) ≤ (x : Nat)) = true := decide_eq_true (by omega)
  have t2 : decide (c ≤ x) = true := decide_eq_true (by omega)
  have t3 : decide (((y : Nat) : Int) ≤ (c : Int)) = true := decide_eq_true (by omega)
  have t4 : decide (y ≤ c) = true := decide_eq_true (by omega)
  clear hx hl hx0 hc1 hc2 hmono ht1 ht2 e1 e2
  go_wp2_with fail
  go_at_call 10
  refine (HO0.out _).mono ?_
  rintro e w1 ⟨rfl, rfl⟩
  go_wp2_with fail
  go_at_call 10
  refine (HO1.out _).mono ?_
  rintro e w1 ⟨rfl, rfl⟩
  go_wp2_with fail
  go_at_call 14
  try rw [hw]
  refine (HL2.out _).mono ?_
  rintro e w1 ⟨⟨s, rfl, hls, hs⟩, rfl⟩
  have o3 := HO3.out s hs hls
  go_wp2_with fail
  go_ret
  exact ⟨by first | rfl | simp, Below.refl _ _⟩


end Go.Proofs.Ytfkehlhmephecaa.PCostEnds
