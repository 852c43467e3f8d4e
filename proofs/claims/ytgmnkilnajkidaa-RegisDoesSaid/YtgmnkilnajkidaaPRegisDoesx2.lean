-- Written by a program of this session (see NOTES.md), which reads the translation's print; Lean checks it.
import Derived.Test.YtgmnkilnajkidaaPRegisDoesx0
import Derived.Test.YtgmnkilnajkidaaPRegisDoesx1
namespace Go.Proofs.Ytgmnkilnajkidaa.PRegisDoes
open Go.RowKit Go.Proofs.YtgmnkilnajkidaaW.PrintWords Go.Proofs.YtgmnkilnajkidaaW.PrintLast Go.Proofs.YtgmnkilnajkidaaW.PrintMore
attribute [local go_sem] max2_int min2_int max_two min_two max_three min_three max_four min_four   -- for this text's walks alone
set_option linter.unusedVariables false
set_option linter.unusedSimpArgs false

/-! ### regis_Reg_Tick: function 11 -/
mutual
def regis_Reg_Tick.j0 : Nat → Int → Bool → Bool → Int → Int → Int → Int → Option (Bool × Int × Int × Int × Int)
  | 0, _, _, _, _, _, _, _ => none
  | k + 1, x1, x5, x22, x1000, x1001, x1002, x1003 => if x22 = true then ((regis_Reg_step.f x1000 x1001 x1002 x1003 3 x1).bind fun bt165 => (regis_Reg_Tick.j1 k x1 x5 bt165.1 bt165.2.1 bt165.2.2.1 bt165.2.2.2)) else (regis_Reg_Tick.j1 k x1 x5 x1000 x1001 x1002 x1003)
def regis_Reg_Tick.j1 : Nat → Int → Bool → Int → Int → Int → Int → Option (Bool × Int × Int × Int × Int)
  | 0, _, _, _, _, _, _ => none
  | k + 1, x1, x5, x1000, x1001, x1002, x1003 => if x1001 = 0 then (regis_Reg_Tick.j2 k x1 x5 false x1000 x1001 x1002 x1003) else ((regis_old.f x1002 x1).bind fun t169 => (regis_Reg_Tick.j2 k x1 x5 t169 x1000 x1001 x1002 x1003))
def regis_Reg_Tick.j2 : Nat → Int → Bool → Bool → Int → Int → Int → Int → Option (Bool × Int × Int × Int × Int)
  | 0, _, _, _, _, _, _, _ => none
  | k + 1, x1, x5, x38, x1000, x1001, x1002, x1003 => if x38 = true then ((regis_Reg_step.f x1000 x1001 x1002 x1003 4 x1).bind fun bt170 => ((regis_Reg_Has.f bt170.1 bt170.2.1 bt170.2.2.1 bt170.2.2.2).bind fun bt174 => (some ((bt174.1 != x5), bt174.2.1, bt174.2.2.1, bt174.2.2.2.1, bt174.2.2.2.2)))) else ((regis_Reg_Has.f x1000 x1001 x1002 x1003).bind fun bt179 => (some ((bt179.1 != x5), bt179.2.1, bt179.2.2.1, bt179.2.2.2.1, bt179.2.2.2.2)))
end
def regis_Reg_Tick.f (k : Nat) (s0_0 : Int) (s0_1 : Int) (s0_2 : Int) (s0_3 : Int) (a1 : Int) : Option (Bool × Int × Int × Int × Int) := (regis_Reg_Has.f s0_0 s0_1 s0_2 s0_3).bind fun bt160 => (if bt160.2.2.1 = 1 then (regis_Reg_Tick.j0 k a1 bt160.1 (decide (a1 ≥ bt160.2.2.2.2)) bt160.2.1 bt160.2.2.1 bt160.2.2.2.1 bt160.2.2.2.2) else (regis_Reg_Tick.j0 k a1 bt160.1 false bt160.2.1 bt160.2.2.1 bt160.2.2.2.1 bt160.2.2.2.2))
theorem regis_Reg_Tick.mono_l : ∀ k, (∀ y0 y1 y2 y3 y4 y5 y6, LeO (regis_Reg_Tick.j0 k y0 y1 y2 y3 y4 y5 y6) (regis_Reg_Tick.j0 (k + 1) y0 y1 y2 y3 y4 y5 y6)) ∧ (∀ y0 y1 y2 y3 y4 y5, LeO (regis_Reg_Tick.j1 k y0 y1 y2 y3 y4 y5) (regis_Reg_Tick.j1 (k + 1) y0 y1 y2 y3 y4 y5)) ∧ (∀ y0 y1 y2 y3 y4 y5 y6, LeO (regis_Reg_Tick.j2 k y0 y1 y2 y3 y4 y5 y6) (regis_Reg_Tick.j2 (k + 1) y0 y1 y2 y3 y4 y5 y6))
  | 0 => ⟨fun _ _ _ _ _ _ _ r h => by simp [regis_Reg_Tick.j0] at h, fun _ _ _ _ _ _ r h => by simp [regis_Reg_Tick.j1] at h, fun _ _ _ _ _ _ _ r h => by simp [regis_Reg_Tick.j2] at h⟩
  | k + 1 => by
    obtain ⟨ih0, ih1, ih2⟩ := regis_Reg_Tick.mono_l k
    refine ⟨?_, ?_, ?_⟩
    · intro y0 y1 y2 y3 y4 y5 y6
      unfold regis_Reg_Tick.j0
      repeat' first
      | (with_reducible exact ih0 _ _ _ _ _ _ _)
      | (with_reducible exact ih1 _ _ _ _ _ _)
      | (with_reducible exact ih2 _ _ _ _ _ _ _)
      | (with_reducible exact LeO.refl _)
      | (with_reducible exact LeO.none _)
      | (with_reducible refine LeO.ite ?_ ?_)
      | (with_reducible refine LeO.bind ?_ (fun _ => ?_))
      | exact ih0 _ _ _ _ _ _ _
      | exact ih1 _ _ _ _ _ _
      | exact ih2 _ _ _ _ _ _ _
      | exact LeO.none _
      | refine LeO.ite ?_ ?_
      | refine LeO.bind ?_ (fun _ => ?_)
    · intro y0 y1 y2 y3 y4 y5
      unfold regis_Reg_Tick.j1
      repeat' first
      | (with_reducible exact ih0 _ _ _ _ _ _ _)
      | (with_reducible exact ih1 _ _ _ _ _ _)
      | (with_reducible exact ih2 _ _ _ _ _ _ _)
      | (with_reducible exact LeO.refl _)
      | (with_reducible exact LeO.none _)
      | (with_reducible refine LeO.ite ?_ ?_)
      | (with_reducible refine LeO.bind ?_ (fun _ => ?_))
      | exact ih0 _ _ _ _ _ _ _
      | exact ih1 _ _ _ _ _ _
      | exact ih2 _ _ _ _ _ _ _
      | exact LeO.none _
      | refine LeO.ite ?_ ?_
      | refine LeO.bind ?_ (fun _ => ?_)
    · intro y0 y1 y2 y3 y4 y5 y6
      unfold regis_Reg_Tick.j2
      repeat' first
      | (with_reducible exact ih0 _ _ _ _ _ _ _)
      | (with_reducible exact ih1 _ _ _ _ _ _)
      | (with_reducible exact ih2 _ _ _ _ _ _ _)
      | (with_reducible exact LeO.refl _)
      | (with_reducible exact LeO.none _)
      | (with_reducible refine LeO.ite ?_ ?_)
      | (with_reducible refine LeO.bind ?_ (fun _ => ?_))
      | exact ih0 _ _ _ _ _ _ _
      | exact ih1 _ _ _ _ _ _
      | exact ih2 _ _ _ _ _ _ _
      | exact LeO.none _
      | refine LeO.ite ?_ ?_
      | refine LeO.bind ?_ (fun _ => ?_)
theorem regis_Reg_Tick.mono : ∀ a0 a1 a2 a3 a4 k, LeO (regis_Reg_Tick.f k a0 a1 a2 a3 a4) (regis_Reg_Tick.f (k + 1) a0 a1 a2 a3 a4) := by
  intro a0 a1 a2 a3 a4 k
  obtain ⟨ih0, ih1, ih2⟩ := regis_Reg_Tick.mono_l k
  unfold regis_Reg_Tick.f
  repeat' first
      | (with_reducible exact ih0 _ _ _ _ _ _ _)
      | (with_reducible exact ih1 _ _ _ _ _ _)
      | (with_reducible exact ih2 _ _ _ _ _ _ _)
      | (with_reducible exact LeO.refl _)
      | (with_reducible exact LeO.none _)
      | (with_reducible refine LeO.ite ?_ ?_)
      | (with_reducible refine LeO.bind ?_ (fun _ => ?_))
      | exact ih0 _ _ _ _ _ _ _
      | exact ih1 _ _ _ _ _ _
      | exact ih2 _ _ _ _ _ _ _
      | exact LeO.none _
      | refine LeO.ite ?_ ?_
      | refine LeO.bind ?_ (fun _ => ?_)
set_option maxHeartbeats 8000000 in
set_option maxRecDepth 100000 in
theorem regis_Reg_Tick.calls (k : Nat) (g : Nat) (s0_0 : Int) (s0_1 : Int) (s0_2 : Int) (s0_3 : Int) (a1 : Int) (r1 : Bool) (r2 : Int) (r3 : Int) (r4 : Int) (r5 : Int) (w0 w : World) (hI : IsS49 w0 w g s0_0 s0_1 s0_2 s0_3) (hB : Below w0.heap.size w0 w) (h : regis_Reg_Tick.f k s0_0 s0_1 s0_2 s0_3 a1 = some (r1, r2, r3, r4, r5)) :
    Calls Try.prog 11 #[.pointer (some ⟨g, 0, none⟩), .int .i64 a1] w fun e w' => e = .returned (.bool r1) ∧ IsS49 w0 w' g r2 r3 r4 r5 ∧ Below w0.heap.size w0 w' ∧ KeepBut w w' g none := by
  have HI0 := Aside0.mk hI
  have HK := Aside0.mk (KeepBut.refl w g none)
  have HL := Aside0.mk hB.size
  clear hI
  have HW0 := Aside0.mk hB.size
  have HB := Aside0.mk hB
  clear hB
  have H : ((regis_Reg_Has.f s0_0 s0_1 s0_2 s0_3).bind fun bt160 => (if bt160.2.2.1 = 1 then (regis_Reg_Tick.j0 k a1 bt160.1 (decide (a1 ≥ bt160.2.2.2.2)) bt160.2.1 bt160.2.2.1 bt160.2.2.2.1 bt160.2.2.2.2) else (regis_Reg_Tick.j0 k a1 bt160.1 false bt160.2.1 bt160.2.2.1 bt160.2.2.2.1 bt160.2.2.2.2))) = some (r1, r2, r3, r4, r5) := h
  clear h
  replace H := Option.bind_eq_some_iff.mp H
  obtain ⟨⟨t160, t161, t162, t163, t164⟩, A30, H⟩ := H
  replace H : (if t162 = 1 then (regis_Reg_Tick.j0 k a1 t160 (decide (a1 ≥ t164)) t161 t162 t163 t164) else (regis_Reg_Tick.j0 k a1 t160 false t161 t162 t163 t164)) = some (r1, r2, r3, r4, r5) := H
  have A3 := Aside0.mk A30
  clear A30
  have HC4 := Aside0.mk H
  clear H
  go_enter Try.func11, Try.ntmps11
  go_upto_region 4 with (first | ((with_reducible refine gate_callee (f := 12) rfl ?_); refine goesL_ (some 9) rfl rfl Try.func12 (by kernel_rfl) rfl #[.pointer (some ⟨g, 0, none⟩)] rfl (by (try simp only [List.map_toArray, List.map_cons, List.map_nil]); first | done | rfl | (simp only [List.length_drop, List.length_take]; rfl) | (go_simp; first | done | (unfold wrap64; omega))) ?_; (with_reducible refine (regis_Reg_Has.calls g s0_0 s0_1 s0_2 s0_3 t160 t161 t162 t163 t164 w0 _ ?side1 ?side2 A3.out).mono ?_); (case side1 => repeat (first | (with_reducible first | exact HI0.out | apply IsS49.alloc | apply IsS49.drewN | apply IsS49.drew | apply IsS49.set_0 | apply IsS49.set_1 | apply IsS49.set_2 | apply IsS49.set_3) | exact HI0.out)); (case side2 => repeat (first | (with_reducible first | exact HB.out | apply below_alloc | apply pw_below_drewN | apply below_drew1 | refine below_set ?_ (IsS49.ge HI0.out)) | exact HB.out)); rintro e w5 ⟨rfl, hi, hb, hk⟩; refine ⟨_, rfl, ?_⟩; have n0_ := Aside0.mk (KeepBut.trans (by repeat (first | (with_reducible first | exact HK.out | apply KeepBut.set_ | apply keep_drewN | apply keep_drew | apply keep_alloc) | exact HK.out)) hk (.inl rfl)); have n1_ := Aside0.mk (hb); have n2_ := Aside0.mk (hi); clear HK; clear HB; clear HI0; have HK := n0_; have HB := n1_; have HI0 := n2_; clear n0_ n1_ n2_; (try clear hb); (try clear hb2); (try clear hk); (try clear hi)))
  (try simp only [Act.put, List.setIfInBounds_toArray, List.set_cons_zero, List.set_cons_succ])
  go_cut [22] (fun v22 wc => ∃ (kq : Nat) (x22_3 : Bool), v22 = .bool x22_3 ∧ Aside0 (regis_Reg_Tick.j0 kq a1 t160 x22_3 t161 t162 t163 t164 = some (r1, r2, r3, r4, r5)) ∧ Aside0 (kq ≤ k) ∧ Aside0 (IsS49 w0 wc g t161 t162 t163 t164) ∧ Aside0 (KeepBut w wc g none) ∧ Aside0 (Below w0.heap.size w0 wc))
  case first =>
    have H := HC4.out
    clear HC4
    by_cases c6 : t162 = 1
    · rw [if_pos c6] at H
      have c6b0 : (t162 == 1) = true := beq_iff_eq.mpr c6
      have c6b1 : (t162 != 1) = false := bne_eq_false_iff_eq.mpr c6
      clear c6
      (first | rw [c6b0] | (simp only [i64_w, i32_w]; rw [c6b0]) | skip)
      have H' := Aside0.mk H
      clear H
      obtain ⟨HGz7, hgz7⟩ := HI0.out
      have hcz7_0 := cellS49_0 HGz7
      have hcz7_1 := cellS49_1 HGz7
      have hcz7_2 := cellS49_2 HGz7
      have hcz7_3 := cellS49_3 HGz7
      have hfz7_0 := blk_frozen HGz7 0
      have hfz7_1 := blk_frozen HGz7 1
      have hfz7_2 := blk_frozen HGz7 2
      have hfz7_3 := blk_frozen HGz7 3
      clear HGz7 hgz7
      go_wp2
      go_meet
      case rel => exact ⟨_, (decide (a1 ≥ t164)), (by first | rfl | (simp; done) | (simp [show ∀ l_ : List UInt8, (l_ != []) = !l_.isEmpty from fun l_ => by cases l_ <;> rfl]; done) | (simp [*]; done)), H', ⟨by first | omega | exact Nat.le_refl _⟩, ⟨by repeat (first | (with_reducible first | exact HI0.out | apply IsS49.alloc | apply IsS49.drewN | apply IsS49.drew | apply IsS49.set_0 | apply IsS49.set_1 | apply IsS49.set_2 | apply IsS49.set_3) | exact HI0.out)⟩, ⟨by repeat (first | (with_reducible first | exact HK.out | apply KeepBut.set_ | apply keep_drewN | apply keep_drew | apply keep_alloc) | exact HK.out)⟩, ⟨by repeat (first | (with_reducible first | exact HB.out | apply below_alloc | apply pw_below_drewN | apply below_drew1 | refine below_set ?_ (IsS49.ge HI0.out)) | exact HB.out)⟩⟩
    · rw [if_neg c6] at H
      have c6b0 : (t162 == 1) = false := beq_eq_false_iff_ne.mpr c6
      have c6b1 : (t162 != 1) = true := bne_iff_ne.mpr c6
      (first | rw [c6b0] | (simp only [i64_w, i32_w]; rw [c6b0]) | skip)
      have H' := Aside0.mk H
      clear H
      obtain ⟨HGz8, hgz8⟩ := HI0.out
      have hcz8_0 := cellS49_0 HGz8
      have hcz8_1 := cellS49_1 HGz8
      have hcz8_2 := cellS49_2 HGz8
      have hcz8_3 := cellS49_3 HGz8
      have hfz8_0 := blk_frozen HGz8 0
      have hfz8_1 := blk_frozen HGz8 1
      have hfz8_2 := blk_frozen HGz8 2
      have hfz8_3 := blk_frozen HGz8 3
      clear HGz8 hgz8
      go_wp2
      go_meet
      case rel => exact ⟨_, (false), (by first | rfl | (simp; done) | (simp [show ∀ l_ : List UInt8, (l_ != []) = !l_.isEmpty from fun l_ => by cases l_ <;> rfl]; done) | (simp [*]; done)), H', ⟨by first | omega | exact Nat.le_refl _⟩, ⟨by repeat (first | (with_reducible first | exact HI0.out | apply IsS49.alloc | apply IsS49.drewN | apply IsS49.drew | apply IsS49.set_0 | apply IsS49.set_1 | apply IsS49.set_2 | apply IsS49.set_3) | exact HI0.out)⟩, ⟨by repeat (first | (with_reducible first | exact HK.out | apply KeepBut.set_ | apply keep_drewN | apply keep_drew | apply keep_alloc) | exact HK.out)⟩, ⟨by repeat (first | (with_reducible first | exact HB.out | apply below_alloc | apply pw_below_drewN | apply below_drew1 | refine below_set ?_ (IsS49.ge HI0.out)) | exact HB.out)⟩⟩
  case rest =>
    clear HC4
    try clear c1
    try clear p2
    try clear c6
    try clear c6b0
    try clear c6b1
    try clear p6
    try clear hcz7_0
    try clear hcz7_1
    try clear hcz7_2
    try clear hcz7_3
    try clear hcz8_0
    try clear hcz8_1
    try clear hcz8_2
    try clear hcz8_3
    try clear hfz7_0
    try clear hfz7_1
    try clear hfz7_2
    try clear hfz7_3
    try clear hfz8_0
    try clear hfz8_1
    try clear hfz8_2
    try clear hfz8_3
    obtain ⟨kq, x22_3, rfl, HA, HJ3, HI0, HK, HB⟩ := hcut
    cases kq with
    | zero => exact absurd HA.out (by simp [regis_Reg_Tick.j0])
    | succ kj3 =>
      have H := HA.out
      clear HA
      simp only [regis_Reg_Tick.j0] at H
      have HC9 := Aside0.mk H
      clear H
      go_upto_if 22 with (fail)
      go_cut [] (fun wc => ∃ (kq : Nat) (x1000_8 : Int) (x1001_8 : Int) (x1002_8 : Int) (x1003_8 : Int), Aside0 (regis_Reg_Tick.j1 kq a1 t160 x1000_8 x1001_8 x1002_8 x1003_8 = some (r1, r2, r3, r4, r5)) ∧ Aside0 (kq ≤ kj3) ∧ Aside0 (IsS49 w0 wc g x1000_8 x1001_8 x1002_8 x1003_8) ∧ Aside0 (KeepBut w wc g none) ∧ Aside0 (Below w0.heap.size w0 wc))
      case first =>
        have H := HC9.out
        clear HC9
        by_cases c10 : x22_3 = true
        · subst c10
          have H1 : ((regis_Reg_step.f t161 t162 t163 t164 3 a1).bind fun bt165 => (regis_Reg_Tick.j1 kj3 a1 t160 bt165.1 bt165.2.1 bt165.2.2.1 bt165.2.2.2)) = some (r1, r2, r3, r4, r5) := by rw [if_pos rfl] at H; exact H
          clear H
          have H := H1
          clear H1
          replace H := Option.bind_eq_some_iff.mp H
          obtain ⟨⟨t165, t166, t167, t168⟩, A110, H⟩ := H
          replace H : (regis_Reg_Tick.j1 kj3 a1 t160 t165 t166 t167 t168) = some (r1, r2, r3, r4, r5) := H
          have A11 := Aside0.mk A110
          clear A110
          have H' := Aside0.mk H
          clear H
          go_wp2_with (first | ((with_reducible refine gate_callee (f := 26) rfl ?_); refine goesL_ (some 25) rfl rfl Try.func26 (by kernel_rfl) rfl #[.pointer (some ⟨g, 0, none⟩), .int .i64 3, .int .i64 a1] rfl (by (try simp only [List.map_toArray, List.map_cons, List.map_nil]); first | done | rfl | (simp only [List.length_drop, List.length_take]; rfl) | (go_simp; first | done | (unfold wrap64; omega))) ?_; (with_reducible refine (regis_Reg_step.calls g t161 t162 t163 t164 3 a1 t165 t166 t167 t168 w0 _ ?side1 ?side2 A11.out).mono ?_); (case side1 => repeat (first | (with_reducible first | exact HI0.out | apply IsS49.alloc | apply IsS49.drewN | apply IsS49.drew | apply IsS49.set_0 | apply IsS49.set_1 | apply IsS49.set_2 | apply IsS49.set_3) | exact HI0.out)); (case side2 => repeat (first | (with_reducible first | exact HB.out | apply below_alloc | apply pw_below_drewN | apply below_drew1 | refine below_set ?_ (IsS49.ge HI0.out)) | exact HB.out)); rintro e w12 ⟨rfl, hi, hb, hk⟩; refine ⟨_, rfl, ?_⟩; have n0_ := Aside0.mk (KeepBut.trans (by repeat (first | (with_reducible first | exact HK.out | apply KeepBut.set_ | apply keep_drewN | apply keep_drew | apply keep_alloc) | exact HK.out)) hk (.inl rfl)); have n1_ := Aside0.mk (hb); have n2_ := Aside0.mk (hi); clear HK; clear HB; clear HI0; have HK := n0_; have HB := n1_; have HI0 := n2_; clear n0_ n1_ n2_; (try clear hb); (try clear hb2); (try clear hk); (try clear hi)))
          go_meet
          case rel => exact ⟨_, (t165), (t166), (t167), (t168), H', ⟨by have := HJ3.out; first | omega | exact Nat.le_refl _⟩, ⟨by repeat (first | (with_reducible first | exact HI0.out | apply IsS49.alloc | apply IsS49.drewN | apply IsS49.drew | apply IsS49.set_0 | apply IsS49.set_1 | apply IsS49.set_2 | apply IsS49.set_3) | exact HI0.out)⟩, ⟨by repeat (first | (with_reducible first | exact HK.out | apply KeepBut.set_ | apply keep_drewN | apply keep_drew | apply keep_alloc) | exact HK.out)⟩, ⟨by repeat (first | (with_reducible first | exact HB.out | apply below_alloc | apply pw_below_drewN | apply below_drew1 | refine below_set ?_ (IsS49.ge HI0.out)) | exact HB.out)⟩⟩
        · replace c10 := Bool.eq_false_iff.mpr c10
          subst c10
          have H1 : (regis_Reg_Tick.j1 kj3 a1 t160 t161 t162 t163 t164) = some (r1, r2, r3, r4, r5) := by rw [if_neg (show ¬ (false = true) by decide)] at H; exact H
          clear H
          have H := H1
          clear H1
          have H' := Aside0.mk H
          clear H
          go_wp2
          go_meet
          case rel => exact ⟨_, (t161), (t162), (t163), (t164), H', ⟨by have := HJ3.out; first | omega | exact Nat.le_refl _⟩, ⟨by repeat (first | (with_reducible first | exact HI0.out | apply IsS49.alloc | apply IsS49.drewN | apply IsS49.drew | apply IsS49.set_0 | apply IsS49.set_1 | apply IsS49.set_2 | apply IsS49.set_3) | exact HI0.out)⟩, ⟨by repeat (first | (with_reducible first | exact HK.out | apply KeepBut.set_ | apply keep_drewN | apply keep_drew | apply keep_alloc) | exact HK.out)⟩, ⟨by repeat (first | (with_reducible first | exact HB.out | apply below_alloc | apply pw_below_drewN | apply below_drew1 | refine below_set ?_ (IsS49.ge HI0.out)) | exact HB.out)⟩⟩
      case rest =>
        clear HC9
        try clear c1
        try clear c2
        try clear p2
        try clear c6
        try clear c6b0
        try clear c6b1
        try clear p6
        try clear c10
        try clear c11
        try clear c12
        try clear hcz7_0
        try clear hcz7_1
        try clear hcz7_2
        try clear hcz7_3
        try clear hcz8_0
        try clear hcz8_1
        try clear hcz8_2
        try clear hcz8_3
        try clear hfz7_0
        try clear hfz7_1
        try clear hfz7_2
        try clear hfz7_3
        try clear hfz8_0
        try clear hfz8_1
        try clear hfz8_2
        try clear hfz8_3
        try clear p2
        try clear p6
        obtain ⟨kq, x1000_8, x1001_8, x1002_8, x1003_8, HA, HJ8, HI0, HK, HB⟩ := hcut
        cases kq with
        | zero => exact absurd HA.out (by simp [regis_Reg_Tick.j1])
        | succ kj8 =>
          have H := HA.out
          clear HA
          simp only [regis_Reg_Tick.j1] at H
          have HC13 := Aside0.mk H
          clear H
          go_upto_region 6 with (fail)
          go_cut [38] (fun v38 wc => ∃ (kq : Nat) (x38_12 : Bool), v38 = .bool x38_12 ∧ Aside0 (regis_Reg_Tick.j2 kq a1 t160 x38_12 x1000_8 x1001_8 x1002_8 x1003_8 = some (r1, r2, r3, r4, r5)) ∧ Aside0 (kq ≤ kj8) ∧ Aside0 (IsS49 w0 wc g x1000_8 x1001_8 x1002_8 x1003_8) ∧ Aside0 (KeepBut w wc g none) ∧ Aside0 (Below w0.heap.size w0 wc))
          case first =>
            have H := HC13.out
            clear HC13
            by_cases c14 : x1001_8 = 0
            · rw [if_pos c14] at H
              have c14b0 : (x1001_8 == 0) = true := beq_iff_eq.mpr c14
              have c14b1 : (x1001_8 != 0) = false := bne_eq_false_iff_eq.mpr c14
              clear c14
              (first | rw [c14b0] | (simp only [i64_w, i32_w]; rw [c14b0]) | skip)
              have H' := Aside0.mk H
              clear H
              obtain ⟨HGz15, hgz15⟩ := HI0.out
              have hcz15_0 := cellS49_0 HGz15
              have hcz15_1 := cellS49_1 HGz15
              have hcz15_2 := cellS49_2 HGz15
              have hcz15_3 := cellS49_3 HGz15
              have hfz15_0 := blk_frozen HGz15 0
              have hfz15_1 := blk_frozen HGz15 1
              have hfz15_2 := blk_frozen HGz15 2
              have hfz15_3 := blk_frozen HGz15 3
              clear HGz15 hgz15
              go_wp2
              go_meet
              case rel => exact ⟨_, (false), (by first | rfl | (simp; done) | (simp [show ∀ l_ : List UInt8, (l_ != []) = !l_.isEmpty from fun l_ => by cases l_ <;> rfl]; done) | (simp [*]; done)), H', ⟨by have := HJ3.out; have := HJ8.out; first | omega | exact Nat.le_refl _⟩, ⟨by repeat (first | (with_reducible first | exact HI0.out | apply IsS49.alloc | apply IsS49.drewN | apply IsS49.drew | apply IsS49.set_0 | apply IsS49.set_1 | apply IsS49.set_2 | apply IsS49.set_3) | exact HI0.out)⟩, ⟨by repeat (first | (with_reducible first | exact HK.out | apply KeepBut.set_ | apply keep_drewN | apply keep_drew | apply keep_alloc) | exact HK.out)⟩, ⟨by repeat (first | (with_reducible first | exact HB.out | apply below_alloc | apply pw_below_drewN | apply below_drew1 | refine below_set ?_ (IsS49.ge HI0.out)) | exact HB.out)⟩⟩
            · rw [if_neg c14] at H
              have c14b0 : (x1001_8 == 0) = false := beq_eq_false_iff_ne.mpr c14
              have c14b1 : (x1001_8 != 0) = true := bne_iff_ne.mpr c14
              (first | rw [c14b0] | (simp only [i64_w, i32_w]; rw [c14b0]) | skip)
              replace H := Option.bind_eq_some_iff.mp H
              obtain ⟨t169, A160, H⟩ := H
              replace H : (regis_Reg_Tick.j2 kj8 a1 t160 t169 x1000_8 x1001_8 x1002_8 x1003_8) = some (r1, r2, r3, r4, r5) := H
              have A16 := Aside0.mk A160
              clear A160
              have H' := Aside0.mk H
              clear H
              obtain ⟨HGz17, hgz17⟩ := HI0.out
              have hcz17_0 := cellS49_0 HGz17
              have hcz17_1 := cellS49_1 HGz17
              have hcz17_2 := cellS49_2 HGz17
              have hcz17_3 := cellS49_3 HGz17
              have hfz17_0 := blk_frozen HGz17 0
              have hfz17_1 := blk_frozen HGz17 1
              have hfz17_2 := blk_frozen HGz17 2
              have hfz17_3 := blk_frozen HGz17 3
              clear HGz17 hgz17
              go_wp2_with (first | (go_at_call 25; (with_reducible refine (regis_old.calls x1002_8 a1 t169 _ A16.out).mono ?_); rintro e w' ⟨rfl, ⟨nd, rfl⟩⟩))
              go_meet
              case rel => exact ⟨_, (t169), (by first | rfl | (simp; done) | (simp [show ∀ l_ : List UInt8, (l_ != []) = !l_.isEmpty from fun l_ => by cases l_ <;> rfl]; done) | (simp [*]; done)), H', ⟨by have := HJ3.out; have := HJ8.out; first | omega | exact Nat.le_refl _⟩, ⟨by repeat (first | (with_reducible first | exact HI0.out | apply IsS49.alloc | apply IsS49.drewN | apply IsS49.drew | apply IsS49.set_0 | apply IsS49.set_1 | apply IsS49.set_2 | apply IsS49.set_3) | exact HI0.out)⟩, ⟨by repeat (first | (with_reducible first | exact HK.out | apply KeepBut.set_ | apply keep_drewN | apply keep_drew | apply keep_alloc) | exact HK.out)⟩, ⟨by repeat (first | (with_reducible first | exact HB.out | apply below_alloc | apply pw_below_drewN | apply below_drew1 | refine below_set ?_ (IsS49.ge HI0.out)) | exact HB.out)⟩⟩
          case rest =>
            clear HC13
            try clear c1
            try clear c2
            try clear p2
            try clear c6
            try clear c6b0
            try clear c6b1
            try clear p6
            try clear c10
            try clear c11
            try clear c12
            try clear c14
            try clear c14b0
            try clear c14b1
            try clear hcz15_0
            try clear hcz15_1
            try clear hcz15_2
            try clear hcz15_3
            try clear hcz17_0
            try clear hcz17_1
            try clear hcz17_2
            try clear hcz17_3
            try clear hcz7_0
            try clear hcz7_1
            try clear hcz7_2
            try clear hcz7_3
            try clear hcz8_0
            try clear hcz8_1
            try clear hcz8_2
            try clear hcz8_3
            try clear hfz15_0
            try clear hfz15_1
            try clear hfz15_2
            try clear hfz15_3
            try clear hfz17_0
            try clear hfz17_1
            try clear hfz17_2
            try clear hfz17_3
            try clear hfz7_0
            try clear hfz7_1
            try clear hfz7_2
            try clear hfz7_3
            try clear hfz8_0
            try clear hfz8_1
            try clear hfz8_2
            try clear hfz8_3
            try clear p2
            try clear p6
            obtain ⟨kq, x38_12, rfl, HA, HJ12, HI0, HK, HB⟩ := hcut
            cases kq with
            | zero => exact absurd HA.out (by simp [regis_Reg_Tick.j2])
            | succ kj12 =>
              have H := HA.out
              clear HA
              simp only [regis_Reg_Tick.j2] at H
              by_cases c18 : x38_12 = true
              · subst c18
                have H1 : ((regis_Reg_step.f x1000_8 x1001_8 x1002_8 x1003_8 4 a1).bind fun bt170 => ((regis_Reg_Has.f bt170.1 bt170.2.1 bt170.2.2.1 bt170.2.2.2).bind fun bt174 => (some ((bt174.1 != t160), bt174.2.1, bt174.2.2.1, bt174.2.2.2.1, bt174.2.2.2.2)))) = some (r1, r2, r3, r4, r5) := by rw [if_pos rfl] at H; exact H
                clear H
                have H := H1
                clear H1
                replace H := Option.bind_eq_some_iff.mp H
                obtain ⟨⟨t170, t171, t172, t173⟩, A190, H⟩ := H
                replace H : ((regis_Reg_Has.f t170 t171 t172 t173).bind fun bt174 => (some ((bt174.1 != t160), bt174.2.1, bt174.2.2.1, bt174.2.2.2.1, bt174.2.2.2.2))) = some (r1, r2, r3, r4, r5) := H
                have A19 := Aside0.mk A190
                clear A190
                replace H := Option.bind_eq_some_iff.mp H
                obtain ⟨⟨t174, t175, t176, t177, t178⟩, A200, H⟩ := H
                replace H : (some ((t174 != t160), t175, t176, t177, t178)) = some (r1, r2, r3, r4, r5) := H
                have A20 := Aside0.mk A200
                clear A200
                simp only [Option.some.injEq, Prod.mk.injEq] at H
                obtain ⟨rfl, rfl, rfl, rfl, rfl⟩ := H
                go_wp2_with (first | ((with_reducible refine gate_callee (f := 26) rfl ?_); refine goesL_ (some 41) rfl rfl Try.func26 (by kernel_rfl) rfl #[.pointer (some ⟨g, 0, none⟩), .int .i64 4, .int .i64 a1] rfl (by (try simp only [List.map_toArray, List.map_cons, List.map_nil]); first | done | rfl | (simp only [List.length_drop, List.length_take]; rfl) | (go_simp; first | done | (unfold wrap64; omega))) ?_; (with_reducible refine (regis_Reg_step.calls g x1000_8 x1001_8 x1002_8 x1003_8 4 a1 t170 t171 t172 t173 w0 _ ?side1 ?side2 A19.out).mono ?_); (case side1 => repeat (first | (with_reducible first | exact HI0.out | apply IsS49.alloc | apply IsS49.drewN | apply IsS49.drew | apply IsS49.set_0 | apply IsS49.set_1 | apply IsS49.set_2 | apply IsS49.set_3) | exact HI0.out)); (case side2 => repeat (first | (with_reducible first | exact HB.out | apply below_alloc | apply pw_below_drewN | apply below_drew1 | refine below_set ?_ (IsS49.ge HI0.out)) | exact HB.out)); rintro e w21 ⟨rfl, hi, hb, hk⟩; refine ⟨_, rfl, ?_⟩; have n0_ := Aside0.mk (KeepBut.trans (by repeat (first | (with_reducible first | exact HK.out | apply KeepBut.set_ | apply keep_drewN | apply keep_drew | apply keep_alloc) | exact HK.out)) hk (.inl rfl)); have n1_ := Aside0.mk (hb); have n2_ := Aside0.mk (hi); clear HK; clear HB; clear HI0; have HK := n0_; have HB := n1_; have HI0 := n2_; clear n0_ n1_ n2_; (try clear hb); (try clear hb2); (try clear hk); (try clear hi)) | ((with_reducible refine gate_callee (f := 12) rfl ?_); refine goesL_ (some 43) rfl rfl Try.func12 (by kernel_rfl) rfl #[.pointer (some ⟨g, 0, none⟩)] rfl (by (try simp only [List.map_toArray, List.map_cons, List.map_nil]); first | done | rfl | (simp only [List.length_drop, List.length_take]; rfl) | (go_simp; first | done | (unfold wrap64; omega))) ?_; (with_reducible refine (regis_Reg_Has.calls g t170 t171 t172 t173 t174 t175 t176 t177 t178 w0 _ ?side1 ?side2 A20.out).mono ?_); (case side1 => repeat (first | (with_reducible first | exact HI0.out | apply IsS49.alloc | apply IsS49.drewN | apply IsS49.drew | apply IsS49.set_0 | apply IsS49.set_1 | apply IsS49.set_2 | apply IsS49.set_3) | exact HI0.out)); (case side2 => repeat (first | (with_reducible first | exact HB.out | apply below_alloc | apply pw_below_drewN | apply below_drew1 | refine below_set ?_ (IsS49.ge HI0.out)) | exact HB.out)); rintro e w22 ⟨rfl, hi, hb, hk⟩; refine ⟨_, rfl, ?_⟩; have n0_ := Aside0.mk (KeepBut.trans (by repeat (first | (with_reducible first | exact HK.out | apply KeepBut.set_ | apply keep_drewN | apply keep_drew | apply keep_alloc) | exact HK.out)) hk (.inl rfl)); have n1_ := Aside0.mk (hb); have n2_ := Aside0.mk (hi); clear HK; clear HB; clear HI0; have HK := n0_; have HB := n1_; have HI0 := n2_; clear n0_ n1_ n2_; (try clear hb); (try clear hb2); (try clear hk); (try clear hi)))
                go_ret
                exact ⟨by first | rfl | (simp [show ∀ l_ : List UInt8, (l_ == []) = l_.isEmpty from fun l_ => by cases l_ <;> rfl]; done) | (simp [errW_none, errW_some] <;> rfl) | ((repeat rw [Int.tdiv_eq_ediv_of_nonneg (by omega)]); (repeat rw [Int.tmod_eq_emod_of_nonneg (by omega)]); first | rfl | (simp [errW_none, errW_some] <;> rfl)) | (simp [*, errW_none, errW_some] <;> rfl), by repeat (first | (with_reducible first | exact HI0.out | apply IsS49.alloc | apply IsS49.drewN | apply IsS49.drew | apply IsS49.set_0 | apply IsS49.set_1 | apply IsS49.set_2 | apply IsS49.set_3) | exact HI0.out), by repeat (first | (with_reducible first | exact HB.out | apply below_alloc | apply pw_below_drewN | apply below_drew1 | refine below_set ?_ (IsS49.ge HI0.out)) | exact HB.out), by repeat (first | (with_reducible first | exact HK.out | apply KeepBut.set_ | apply keep_drewN | apply keep_drew | apply keep_alloc) | exact HK.out)⟩
              · replace c18 := Bool.eq_false_iff.mpr c18
                subst c18
                have H1 : ((regis_Reg_Has.f x1000_8 x1001_8 x1002_8 x1003_8).bind fun bt179 => (some ((bt179.1 != t160), bt179.2.1, bt179.2.2.1, bt179.2.2.2.1, bt179.2.2.2.2))) = some (r1, r2, r3, r4, r5) := by rw [if_neg (show ¬ (false = true) by decide)] at H; exact H
                clear H
                have H := H1
                clear H1
                replace H := Option.bind_eq_some_iff.mp H
                obtain ⟨⟨t179, t180, t181, t182, t183⟩, A230, H⟩ := H
                replace H : (some ((t179 != t160), t180, t181, t182, t183)) = some (r1, r2, r3, r4, r5) := H
                have A23 := Aside0.mk A230
                clear A230
                simp only [Option.some.injEq, Prod.mk.injEq] at H
                obtain ⟨rfl, rfl, rfl, rfl, rfl⟩ := H
                go_wp2_with (first | ((with_reducible refine gate_callee (f := 12) rfl ?_); refine goesL_ (some 43) rfl rfl Try.func12 (by kernel_rfl) rfl #[.pointer (some ⟨g, 0, none⟩)] rfl (by (try simp only [List.map_toArray, List.map_cons, List.map_nil]); first | done | rfl | (simp only [List.length_drop, List.length_take]; rfl) | (go_simp; first | done | (unfold wrap64; omega))) ?_; (with_reducible refine (regis_Reg_Has.calls g x1000_8 x1001_8 x1002_8 x1003_8 t179 t180 t181 t182 t183 w0 _ ?side1 ?side2 A23.out).mono ?_); (case side1 => repeat (first | (with_reducible first | exact HI0.out | apply IsS49.alloc | apply IsS49.drewN | apply IsS49.drew | apply IsS49.set_0 | apply IsS49.set_1 | apply IsS49.set_2 | apply IsS49.set_3) | exact HI0.out)); (case side2 => repeat (first | (with_reducible first | exact HB.out | apply below_alloc | apply pw_below_drewN | apply below_drew1 | refine below_set ?_ (IsS49.ge HI0.out)) | exact HB.out)); rintro e w24 ⟨rfl, hi, hb, hk⟩; refine ⟨_, rfl, ?_⟩; have n0_ := Aside0.mk (KeepBut.trans (by repeat (first | (with_reducible first | exact HK.out | apply KeepBut.set_ | apply keep_drewN | apply keep_drew | apply keep_alloc) | exact HK.out)) hk (.inl rfl)); have n1_ := Aside0.mk (hb); have n2_ := Aside0.mk (hi); clear HK; clear HB; clear HI0; have HK := n0_; have HB := n1_; have HI0 := n2_; clear n0_ n1_ n2_; (try clear hb); (try clear hb2); (try clear hk); (try clear hi)))
                go_ret
                exact ⟨by first | rfl | (simp [show ∀ l_ : List UInt8, (l_ == []) = l_.isEmpty from fun l_ => by cases l_ <;> rfl]; done) | (simp [errW_none, errW_some] <;> rfl) | ((repeat rw [Int.tdiv_eq_ediv_of_nonneg (by omega)]); (repeat rw [Int.tmod_eq_emod_of_nonneg (by omega)]); first | rfl | (simp [errW_none, errW_some] <;> rfl)) | (simp [*, errW_none, errW_some] <;> rfl), by repeat (first | (with_reducible first | exact HI0.out | apply IsS49.alloc | apply IsS49.drewN | apply IsS49.drew | apply IsS49.set_0 | apply IsS49.set_1 | apply IsS49.set_2 | apply IsS49.set_3) | exact HI0.out), by repeat (first | (with_reducible first | exact HB.out | apply below_alloc | apply pw_below_drewN | apply below_drew1 | refine below_set ?_ (IsS49.ge HI0.out)) | exact HB.out), by repeat (first | (with_reducible first | exact HK.out | apply KeepBut.set_ | apply keep_drewN | apply keep_drew | apply keep_alloc) | exact HK.out)⟩

/-! ### kissgatelaw14_alive: function 8 -/
def hasB (m s : Int) : Bool := m == 1 || (m == 0 && s != 0)
def nx (s ev : Int) : Int := if s = 0 then (if ev = 0 then 2 else 0) else if s = 1 then (if ev = 0 then 2 else if ev ≤ 2 then 1 else 0) else (if ev = 0 ∨ ev = 3 then 2 else if ev ≤ 2 then 1 else 0)
def du (s d ev now : Int) : Int := if s = 2 ∧ (ev = 1 ∨ ev = 2) then wrap64 (now + 24) else d
theorem has_eq (m s b d : Int) : regis_Reg_Has.f m s b d = some (hasB m s, m, s, b, d) := by
  unfold regis_Reg_Has.f hasB
  by_cases h : m = 1
  · subst h; rfl
  · rw [if_neg h]
    by_cases h0 : m = 0
    · subst h0; rfl
    · rw [if_neg h0, beq_eq_false_iff_ne.mpr h, beq_eq_false_iff_ne.mpr h0]; rfl
theorem step_eq (m s b d ev now : Int) (hs : 0 ≤ s ∧ s ≤ 2) (he : 0 ≤ ev ∧ ev ≤ 4) : regis_Reg_step.f m s b d ev now = some (m, nx s ev, b, du s d ev now) := by
  have h1 : s = 0 ∨ s = 1 ∨ s = 2 := by omega
  have h2 : ev = 0 ∨ ev = 1 ∨ ev = 2 ∨ ev = 3 ∨ ev = 4 := by omega
  rcases h1 with rfl | rfl | rfl <;> rcases h2 with rfl | rfl | rfl | rfl | rfl <;> rfl
theorem nx_in (s ev : Int) : 0 ≤ nx s ev ∧ nx s ev ≤ 2 := by unfold nx; repeat' split <;> omega
theorem du_0 (s d now : Int) : du s d 0 now = d := by unfold du; rw [if_neg (by omega)]
theorem du_3 (s d now : Int) : du s d 3 now = d := by unfold du; rw [if_neg (by omega)]
theorem du_4 (s d now : Int) : du s d 4 now = d := by unfold du; rw [if_neg (by omega)]
theorem nx_0 (s : Int) : nx s 0 = 2 := by unfold nx; repeat' split <;> omega
theorem nx_4 (s : Int) : nx s 4 = 0 := by unfold nx; repeat' split <;> omega
def hearS (s b d ev bn now : Int) : Int × Int × Int :=
  if ev = 0 ∨ ev = 1 ∨ ev = 3 then
    (if ¬ wrap64 (now - mn bn now) > 120 ∧ mn bn now ≥ 0 then (2, if s = 0 then mn bn now else mx b (mn bn now), d) else (s, b, d))
  else if ev = 5 then (nx s 1, b, du s d 1 now) else (s, b, d)
def tickS (s b d now : Int) : Int × Int × Int :=
  if (if s = 1 ∧ now ≥ d then 0 else s) ≠ 0 ∧ wrap64 (now - b) > 120 then (0, b, d) else (if s = 1 ∧ now ≥ d then 0 else s, b, d)
theorem hearS_in (s b d ev bn now : Int) (hs : 0 ≤ s ∧ s ≤ 2) : 0 ≤ (hearS s b d ev bn now).1 ∧ (hearS s b d ev bn now).1 ≤ 2 := by
  have := nx_in s 1
  unfold hearS; by_cases h1 : ev = 0 ∨ ev = 1 ∨ ev = 3
  · rw [if_pos h1]; split <;> first | exact hs | (simp; done)
  · rw [if_neg h1]; split <;> first | exact hs | exact this
theorem tickS_in (s b d now : Int) (hs : 0 ≤ s ∧ s ≤ 2) : 0 ≤ (tickS s b d now).1 ∧ (tickS s b d now).1 ≤ 2 := by
  have h : 0 ≤ (if s = 1 ∧ now ≥ d then (0 : Int) else s) ∧ (if s = 1 ∧ now ≥ d then (0 : Int) else s) ≤ 2 := by split <;> first | exact hs | (simp; done)
  unfold tickS
  generalize (if s = 1 ∧ now ≥ d then (0 : Int) else s) = s1 at h ⊢
  split
  · simp
  · exact h
theorem mx_self (a : Int) : mx a a = a := by unfold mx; simp
theorem hear_j1 (k : Nat) (m s b d x now : Int) (t o : Bool) (hs : 0 ≤ s ∧ s ≤ 2) : regis_Reg_Hear.j1 (k + 1) x now t o m s b d =
    some (if o = true then (hasB m 2 != t, m, 2, if s = 0 then x else mx b x, d) else (hasB m s != t, m, s, b, d)) := by
  rw [regis_Reg_Hear.j1]
  cases o
  · simp only [has_eq, Option.bind_some, Bool.false_eq_true, if_false]
  · rw [if_pos rfl, if_pos rfl]
    by_cases h : s = 0
    · rw [if_pos h, if_pos h, step_eq _ _ _ _ _ _ hs (by omega), mx_self, nx_0, du_0]; simp only [Option.bind_some, has_eq]
    · rw [if_neg h, if_neg h, step_eq _ _ _ _ _ _ hs (by omega), nx_0, du_0]; simp only [Option.bind_some, has_eq]
theorem hear_j0 (k : Nat) (m s b d bn now ev : Int) (t q : Bool) (hs : 0 ≤ s ∧ s ≤ 2) : regis_Reg_Hear.j0 (k + 2) bn now t ev q m s b d =
    some (if q = true then (if ¬ wrap64 (now - mn bn now) > 120 ∧ mn bn now ≥ 0 then (hasB m 2 != t, m, 2, if s = 0 then mn bn now else mx b (mn bn now), d) else (hasB m s != t, m, s, b, d))
      else if ev = 5 then (hasB m (nx s 1) != t, m, nx s 1, b, du s d 1 now) else (hasB m s != t, m, s, b, d)) := by
  rw [show k + 2 = (k + 1) + 1 from rfl, regis_Reg_Hear.j0]; unfold regis_old.f
  cases q
  · rw [if_neg Bool.false_ne_true, if_neg Bool.false_ne_true]
    by_cases h : ev = 5
    · rw [if_pos h, if_pos h, step_eq _ _ _ _ _ _ hs (by omega)]; simp only [Option.bind_some, has_eq]
    · rw [if_neg h, if_neg h]; simp only [Option.bind_some, has_eq]
  · rw [if_pos rfl, if_pos rfl]
    simp only [Option.bind_some, hear_j1 _ _ _ _ _ _ _ _ _ hs]
    by_cases h1 : wrap64 (now - mn bn now) > 120
    · simp [h1]
    · by_cases h2 : mn bn now ≥ 0
      · simp [h1, h2]
      · simp [h1, h2]
theorem hear_eq (m s b d ev bn now : Int) (hs : 0 ≤ s ∧ s ≤ 2) : regis_Reg_Hear.f 2 m s b d ev bn now =
    some (hasB m (hearS s b d ev bn now).1 != hasB m s, m, (hearS s b d ev bn now).1, (hearS s b d ev bn now).2.1, (hearS s b d ev bn now).2.2) := by
  unfold regis_Reg_Hear.f
  simp only [has_eq, Option.bind_some, hear_j0 0 _ _ _ _ _ _ _ _ _ hs]
  unfold hearS
  by_cases h0 : ev = 0
  · subst h0; simp; split <;> simp
  · by_cases h1 : ev = 1
    · subst h1; simp; split <;> simp
    · by_cases h3 : ev = 3
      · subst h3; simp; split <;> simp
      · simp only [h0, h1, h3, if_false, or_self, beq_eq_false_iff_ne.mpr h3]
        by_cases h5 : ev = 5 <;> simp [h5]
theorem tick_j2 (k : Nat) (m s b d now : Int) (t o : Bool) (hs : 0 ≤ s ∧ s ≤ 2) : regis_Reg_Tick.j2 (k + 1) now t o m s b d =
    some (if o = true then (hasB m 0 != t, m, 0, b, d) else (hasB m s != t, m, s, b, d)) := by
  rw [regis_Reg_Tick.j2]
  cases o
  · simp only [has_eq, Option.bind_some, Bool.false_eq_true, if_false]
  · rw [if_pos rfl, if_pos rfl, step_eq _ _ _ _ _ _ hs (by omega), nx_4, du_4]; simp only [Option.bind_some, has_eq]
theorem tick_j1 (k : Nat) (m s b d now : Int) (t : Bool) (hs : 0 ≤ s ∧ s ≤ 2) : regis_Reg_Tick.j1 (k + 2) now t m s b d =
    some (if s ≠ 0 ∧ wrap64 (now - b) > 120 then (hasB m 0 != t, m, 0, b, d) else (hasB m s != t, m, s, b, d)) := by
  rw [show k + 2 = (k + 1) + 1 from rfl, regis_Reg_Tick.j1]; unfold regis_old.f
  simp only [Option.bind_some, tick_j2 _ _ _ _ _ _ _ _ hs]
  by_cases h : s = 0
  · simp [h]
  · simp [h]
theorem tick_j0 (k : Nat) (m s b d now : Int) (t q : Bool) (hs : 0 ≤ s ∧ s ≤ 2) (hq : q = true → s = 1) : regis_Reg_Tick.j0 (k + 3) now t q m s b d =
    some (if (if q = true then 0 else s) ≠ 0 ∧ wrap64 (now - b) > 120 then (hasB m 0 != t, m, 0, b, d) else (hasB m (if q = true then 0 else s) != t, m, (if q = true then 0 else s), b, d)) := by
  rw [show k + 3 = (k + 2) + 1 from rfl, regis_Reg_Tick.j0]
  cases q
  · rw [if_neg (by decide), tick_j1 _ _ _ _ _ _ _ hs]; simp
  · have := hq rfl; subst this
    rw [if_pos rfl, step_eq _ _ _ _ _ _ hs (by omega), Option.bind_some, du_3, show nx 1 3 = 0 from rfl, tick_j1 _ _ _ _ _ _ _ (show (0 : Int) ≤ 0 ∧ (0 : Int) ≤ 2 by decide)]; simp
theorem tick_eq (m s b d now : Int) (hs : 0 ≤ s ∧ s ≤ 2) : regis_Reg_Tick.f 3 m s b d now =
    some (hasB m (tickS s b d now).1 != hasB m s, m, (tickS s b d now).1, (tickS s b d now).2.1, (tickS s b d now).2.2) := by
  unfold regis_Reg_Tick.f tickS
  simp only [has_eq, Option.bind_some]
  by_cases h : s = 1
  · subst h
    rw [if_pos rfl, tick_j0 0 _ _ _ _ _ _ _ hs (fun _ => rfl)]
    by_cases hd : now ≥ d <;> simp [hd] <;> split <;> simp_all
  · rw [if_neg h, tick_j0 0 _ _ _ _ _ _ _ hs (by simp)]
    simp [h]; split <;> simp_all
theorem Has_nice {g : Nat} {m s b d : Int} {w0 w : World} (hI : IsS49 w0 w g m s b d) (hB : Below w0.heap.size w0 w) :
    Calls Try.prog 12 #[.pointer (some ⟨g, 0, none⟩)] w fun e w' => e = .returned (.bool (hasB m s)) ∧ IsS49 w0 w' g m s b d ∧ Below w0.heap.size w0 w' ∧ KeepBut w w' g none :=
  regis_Reg_Has.calls g m s b d _ _ _ _ _ w0 w hI hB (has_eq m s b d)
theorem Hear_nice {g : Nat} {m s b d : Int} {w0 w : World} (hI : IsS49 w0 w g m s b d) (hB : Below w0.heap.size w0 w) (hs : 0 ≤ s ∧ s ≤ 2) (ev bn now : Int) :
    Calls Try.prog 10 #[.pointer (some ⟨g, 0, none⟩), .int .i64 ev, .int .i64 bn, .int .i64 now] w fun e w' => e = .returned (.bool (hasB m (hearS s b d ev bn now).1 != hasB m s)) ∧ IsS49 w0 w' g m (hearS s b d ev bn now).1 (hearS s b d ev bn now).2.1 (hearS s b d ev bn now).2.2 ∧ Below w0.heap.size w0 w' ∧ KeepBut w w' g none :=
  regis_Reg_Hear.calls 2 g m s b d ev bn now _ _ _ _ _ w0 w hI hB (hear_eq m s b d ev bn now hs)
theorem Tick_nice {g : Nat} {m s b d : Int} {w0 w : World} (hI : IsS49 w0 w g m s b d) (hB : Below w0.heap.size w0 w) (hs : 0 ≤ s ∧ s ≤ 2) (now : Int) :
    Calls Try.prog 11 #[.pointer (some ⟨g, 0, none⟩), .int .i64 now] w fun e w' => e = .returned (.bool (hasB m (tickS s b d now).1 != hasB m s)) ∧ IsS49 w0 w' g m (tickS s b d now).1 (tickS s b d now).2.1 (tickS s b d now).2.2 ∧ Below w0.heap.size w0 w' ∧ KeepBut w w' g none :=
  regis_Reg_Tick.calls 3 g m s b d now _ _ _ _ _ w0 w hI hB (tick_eq m s b d now hs)
set_option maxHeartbeats 4000000 in
set_option maxRecDepth 100000 in
theorem kissgatelaw14_alive.good (w0 w : World) (hB : Below w0.heap.size w0 w) :
    Calls Try.prog 8 #[] w fun e w' => e = .returned (.bool true) ∧ Below w0.heap.size w0 w' ∧ Below w.heap.size w w' := by
  have HB := Aside0.mk (Below.refl w.heap.size w)
  have HB0 := Aside0.mk hB
  go_enter Try.func8, Try.ntmps8
  go_wp2_with fail
  go_at_call 9
  refine (regis_New.good 0 (by decide) (by decide) w _ HB.out).mono ?_
  rintro e w1 ⟨g, rfl, hg, hi, hb, _⟩
  have HI := Aside0.mk hi
  have HB := Aside0.mk hb
  clear hi hb
  go_wp2_with fail
  go_at_call 10
  refine (Hear_nice HI.out HB.out (by decide) 1 5 6).mono ?_
  rw [show hearS 0 0 0 1 5 6 = (2, 5, 0) by decide +kernel, show (hasB 0 (2, (5 : Int), (0 : Int)).1 != hasB 0 0) = true by decide +kernel]
  rintro e w2 ⟨rfl, hi, hb, _⟩
  have HI := Aside0.mk hi
  have HB := Aside0.mk hb
  clear hi hb
  go_wp2_with fail
  go_at_call 11
  refine (Tick_nice HI.out HB.out (by decide) 125).mono ?_
  rw [show tickS 2 5 0 125 = (2, 5, 0) by decide +kernel, show (hasB 0 (2, (5 : Int), (0 : Int)).1 != hasB 0 (2, (5 : Int), (0 : Int)).1) = false by decide +kernel]
  rintro e w3 ⟨rfl, hi, hb, _⟩
  have HI := Aside0.mk hi
  have HB := Aside0.mk hb
  clear hi hb
  go_wp2_with fail
  go_at_call 12
  refine (Has_nice HI.out HB.out).mono ?_
  rw [show hasB 0 (2, (5 : Int), (0 : Int)).1 = true by decide +kernel]
  rintro e w4 ⟨rfl, hi, hb, _⟩
  have HI := Aside0.mk hi
  have HB := Aside0.mk hb
  clear hi hb
  go_wp2_with fail
  go_at_call 11
  refine (Tick_nice HI.out HB.out (by decide) 126).mono ?_
  rw [show tickS 2 5 0 126 = (0, 5, 0) by decide +kernel, show (hasB 0 (0, (5 : Int), (0 : Int)).1 != hasB 0 (2, (5 : Int), (0 : Int)).1) = true by decide +kernel]
  rintro e w5 ⟨rfl, hi, hb, _⟩
  have HI := Aside0.mk hi
  have HB := Aside0.mk hb
  clear hi hb
  go_wp2_with fail
  go_at_call 12
  refine (Has_nice HI.out HB.out).mono ?_
  rw [show hasB 0 (0, (5 : Int), (0 : Int)).1 = false by decide +kernel]
  rintro e w6 ⟨rfl, hi, hb, _⟩
  have HB := Aside0.mk hb
  clear hi hb
  go_wp2_with fail
  go_ret
  exact ⟨rfl, below_step HB0.out HB.out, HB.out⟩


/-! ### regis_Reg_All: function 13 -/
def regis_Reg_All.f (s0_0 : Int) (s0_1 : Int) (s0_2 : Int) (s0_3 : Int) (a1 : Int) : Option (Int × Int × Int × Int) := (regis_Reg_step.f s0_0 s0_1 s0_2 s0_3 2 a1).bind fun bt184 => (some (bt184.1, bt184.2.1, bt184.2.2.1, bt184.2.2.2))
set_option maxHeartbeats 8000000 in
set_option maxRecDepth 100000 in
theorem regis_Reg_All.calls (g : Nat) (s0_0 : Int) (s0_1 : Int) (s0_2 : Int) (s0_3 : Int) (a1 : Int) (r1 : Int) (r2 : Int) (r3 : Int) (r4 : Int) (w0 w : World) (hI : IsS49 w0 w g s0_0 s0_1 s0_2 s0_3) (hB : Below w0.heap.size w0 w) (h : regis_Reg_All.f s0_0 s0_1 s0_2 s0_3 a1 = some (r1, r2, r3, r4)) :
    Calls Try.prog 13 #[.pointer (some ⟨g, 0, none⟩), .int .i64 a1] w fun e w' => e = .returned (.tuple #[]) ∧ IsS49 w0 w' g r1 r2 r3 r4 ∧ Below w0.heap.size w0 w' ∧ KeepBut w w' g none := by
  have HI0 := Aside0.mk hI
  have HK := Aside0.mk (KeepBut.refl w g none)
  have HL := Aside0.mk hB.size
  clear hI
  have HW0 := Aside0.mk hB.size
  have HB := Aside0.mk hB
  clear hB
  have H : ((regis_Reg_step.f s0_0 s0_1 s0_2 s0_3 2 a1).bind fun bt184 => (some (bt184.1, bt184.2.1, bt184.2.2.1, bt184.2.2.2))) = some (r1, r2, r3, r4) := h
  clear h
  replace H := Option.bind_eq_some_iff.mp H
  obtain ⟨⟨t184, t185, t186, t187⟩, A30, H⟩ := H
  replace H : (some (t184, t185, t186, t187)) = some (r1, r2, r3, r4) := H
  have A3 := Aside0.mk A30
  clear A30
  simp only [Option.some.injEq, Prod.mk.injEq] at H
  obtain ⟨rfl, rfl, rfl, rfl⟩ := H
  go_enter Try.func13, Try.ntmps13
  go_wp2_with (first | ((with_reducible refine gate_callee (f := 26) rfl ?_); refine goesL_ (some 8) rfl rfl Try.func26 (by kernel_rfl) rfl #[.pointer (some ⟨g, 0, none⟩), .int .i64 2, .int .i64 a1] rfl (by (try simp only [List.map_toArray, List.map_cons, List.map_nil]); first | done | rfl | (simp only [List.length_drop, List.length_take]; rfl) | (go_simp; first | done | (unfold wrap64; omega))) ?_; (with_reducible refine (regis_Reg_step.calls g s0_0 s0_1 s0_2 s0_3 2 a1 t184 t185 t186 t187 w0 _ ?side1 ?side2 A3.out).mono ?_); (case side1 => repeat (first | (with_reducible first | exact HI0.out | apply IsS49.alloc | apply IsS49.drewN | apply IsS49.drew | apply IsS49.set_0 | apply IsS49.set_1 | apply IsS49.set_2 | apply IsS49.set_3) | exact HI0.out)); (case side2 => repeat (first | (with_reducible first | exact HB.out | apply below_alloc | apply pw_below_drewN | apply below_drew1 | refine below_set ?_ (IsS49.ge HI0.out)) | exact HB.out)); rintro e w4 ⟨rfl, hi, hb, hk⟩; refine ⟨_, rfl, ?_⟩; have n0_ := Aside0.mk (KeepBut.trans (by repeat (first | (with_reducible first | exact HK.out | apply KeepBut.set_ | apply keep_drewN | apply keep_drew | apply keep_alloc) | exact HK.out)) hk (.inl rfl)); have n1_ := Aside0.mk (hb); have n2_ := Aside0.mk (hi); clear HK; clear HB; clear HI0; have HK := n0_; have HB := n1_; have HI0 := n2_; clear n0_ n1_ n2_; (try clear hb); (try clear hb2); (try clear hk); (try clear hi)))
  first | go_end0 | ((try simp only [Exit.inBlock, Exit.then]); refine bodyPost_ret (results_none rfl _ _ _) rfl ?_)
  exact ⟨by first | rfl | (simp [show ∀ l_ : List UInt8, (l_ == []) = l_.isEmpty from fun l_ => by cases l_ <;> rfl]; done) | (simp [errW_none, errW_some] <;> rfl) | ((repeat rw [Int.tdiv_eq_ediv_of_nonneg (by omega)]); (repeat rw [Int.tmod_eq_emod_of_nonneg (by omega)]); first | rfl | (simp [errW_none, errW_some] <;> rfl)) | (simp [*, errW_none, errW_some] <;> rfl), by repeat (first | (with_reducible first | exact HI0.out | apply IsS49.alloc | apply IsS49.drewN | apply IsS49.drew | apply IsS49.set_0 | apply IsS49.set_1 | apply IsS49.set_2 | apply IsS49.set_3) | exact HI0.out), by repeat (first | (with_reducible first | exact HB.out | apply below_alloc | apply pw_below_drewN | apply below_drew1 | refine below_set ?_ (IsS49.ge HI0.out)) | exact HB.out), by repeat (first | (with_reducible first | exact HK.out | apply KeepBut.set_ | apply keep_drewN | apply keep_drew | apply keep_alloc) | exact HK.out)⟩

/-! ### regis_Reg_State: function 14 -/
def regis_Reg_State.f (s0_0 : Int) (s0_1 : Int) (s0_2 : Int) (s0_3 : Int) : Option (Int × Int × Int × Int × Int) := some (s0_1, s0_0, s0_1, s0_2, s0_3)
set_option maxHeartbeats 8000000 in
set_option maxRecDepth 100000 in
theorem regis_Reg_State.calls (g : Nat) (s0_0 : Int) (s0_1 : Int) (s0_2 : Int) (s0_3 : Int) (r1 : Int) (r2 : Int) (r3 : Int) (r4 : Int) (r5 : Int) (w0 w : World) (hI : IsS49 w0 w g s0_0 s0_1 s0_2 s0_3) (hB : Below w0.heap.size w0 w) (h : regis_Reg_State.f s0_0 s0_1 s0_2 s0_3 = some (r1, r2, r3, r4, r5)) :
    Calls Try.prog 14 #[.pointer (some ⟨g, 0, none⟩)] w fun e w' => e = .returned (.int .i64 r1) ∧ IsS49 w0 w' g r2 r3 r4 r5 ∧ Below w0.heap.size w0 w' ∧ KeepBut w w' g none := by
  have HI0 := Aside0.mk hI
  have HK := Aside0.mk (KeepBut.refl w g none)
  have HL := Aside0.mk hB.size
  clear hI
  have HW0 := Aside0.mk hB.size
  have HB := Aside0.mk hB
  clear hB
  have H : (some (s0_1, s0_0, s0_1, s0_2, s0_3)) = some (r1, r2, r3, r4, r5) := h
  clear h
  simp only [Option.some.injEq, Prod.mk.injEq] at H
  obtain ⟨rfl, rfl, rfl, rfl, rfl⟩ := H
  obtain ⟨HGz2, hgz2⟩ := HI0.out
  have hcz2_0 := cellS49_0 HGz2
  have hcz2_1 := cellS49_1 HGz2
  have hcz2_2 := cellS49_2 HGz2
  have hcz2_3 := cellS49_3 HGz2
  have hfz2_0 := blk_frozen HGz2 0
  have hfz2_1 := blk_frozen HGz2 1
  have hfz2_2 := blk_frozen HGz2 2
  have hfz2_3 := blk_frozen HGz2 3
  clear HGz2 hgz2
  go_enter Try.func14, Try.ntmps14
  go_wp2
  go_ret
  exact ⟨by first | rfl | (simp [show ∀ l_ : List UInt8, (l_ == []) = l_.isEmpty from fun l_ => by cases l_ <;> rfl]; done) | (simp [errW_none, errW_some] <;> rfl) | ((repeat rw [Int.tdiv_eq_ediv_of_nonneg (by omega)]); (repeat rw [Int.tmod_eq_emod_of_nonneg (by omega)]); first | rfl | (simp [errW_none, errW_some] <;> rfl)) | (simp [*, errW_none, errW_some] <;> rfl), by repeat (first | (with_reducible first | exact HI0.out | apply IsS49.alloc | apply IsS49.drewN | apply IsS49.drew | apply IsS49.set_0 | apply IsS49.set_1 | apply IsS49.set_2 | apply IsS49.set_3) | exact HI0.out), by repeat (first | (with_reducible first | exact HB.out | apply below_alloc | apply pw_below_drewN | apply below_drew1 | refine below_set ?_ (IsS49.ge HI0.out)) | exact HB.out), by repeat (first | (with_reducible first | exact HK.out | apply KeepBut.set_ | apply keep_drewN | apply keep_drew | apply keep_alloc) | exact HK.out)⟩

/-! ### kissgatelaw14_great: function 15 -/
def kissgatelaw14_great.l0 : Nat → List (S38) → List (S38) → Int → Int → Option (Bool)
  | 0, _, _, _, _ => none
  | k + 1, x0, x5, x6, x7 => if x7 < x6 then (if 0 ≤ x7 then (if x7 < (x5.length : Int) then (if ((rd_T38 x5 x7).f0) = 3 then (if ((rd_T38 x5 x7).f3) < 0 then (some true) else (if ((rd_T38 x5 x7).f3) > 1000 then (some true) else (kissgatelaw14_great.l0 k x0 x5 x6 (wrap64 (x7 + 1))))) else (kissgatelaw14_great.l0 k x0 x5 x6 (wrap64 (x7 + 1)))) else (none)) else (none)) else (some (decide ((x0.length : Int) > 100)))
def kissgatelaw14_great.f (k : Nat) (l0 : List (S38)) : Option (Bool) := kissgatelaw14_great.l0 k l0 l0 (l0.length : Int) 0
theorem kissgatelaw14_great.mono_l : ∀ k, (∀ y0 y1 y2 y3, LeO (kissgatelaw14_great.l0 k y0 y1 y2 y3) (kissgatelaw14_great.l0 (k + 1) y0 y1 y2 y3))
  | 0 => fun _ _ _ _ r h => by simp [kissgatelaw14_great.l0] at h
  | k + 1 => by
    have ih0 := kissgatelaw14_great.mono_l k
    · intro y0 y1 y2 y3
      unfold kissgatelaw14_great.l0
      repeat' first
      | (with_reducible exact ih0 _ _ _ _)
      | (with_reducible exact LeO.refl _)
      | (with_reducible exact LeO.none _)
      | (with_reducible refine LeO.ite ?_ ?_)
      | (with_reducible refine LeO.bind ?_ (fun _ => ?_))
      | exact ih0 _ _ _ _
      | exact LeO.none _
      | refine LeO.ite ?_ ?_
      | refine LeO.bind ?_ (fun _ => ?_)
theorem kissgatelaw14_great.mono : ∀ a0 k, LeO (kissgatelaw14_great.f k a0) (kissgatelaw14_great.f (k + 1) a0) := by
  intro a0 k
  have ih0 := kissgatelaw14_great.mono_l k
  unfold kissgatelaw14_great.f
  repeat' first
      | (with_reducible exact ih0 _ _ _ _)
      | (with_reducible exact LeO.refl _)
      | (with_reducible exact LeO.none _)
      | (with_reducible refine LeO.ite ?_ ?_)
      | (with_reducible refine LeO.bind ?_ (fun _ => ?_))
      | exact ih0 _ _ _ _
      | exact LeO.none _
      | refine LeO.ite ?_ ?_
      | refine LeO.bind ?_ (fun _ => ?_)
set_option maxHeartbeats 8000000 in
set_option maxRecDepth 100000 in
theorem kissgatelaw14_great.calls (k : Nat) (A0 : Option Addr) (c0 : Nat) (l0 : List (S38)) (r : Bool) (w : World) (hr0 : Kd.C k38 w A0 l0.length l0) (hc0 : l0.length ≤ c0) (h : kissgatelaw14_great.f k l0 = some r) :
    Calls Try.prog 15 #[.slice A0 l0.length c0] w fun e w' => e = .returned (.bool r) ∧ Below w.heap.size w w' := by
  have hu38 := Try.underlying38
  have HR0 := Aside0.mk hr0
  have HC0 := Aside0.mk hc0
  clear hr0 hc0
  have HB := Aside0.mk (Below.refl w.heap.size w)
  have H : (kissgatelaw14_great.l0 k l0 l0 (l0.length : Int) 0) = some r := h
  clear h
  have H' := Aside0.mk H
  clear H
  go_enter Try.func15, Try.ntmps15
  go_wp2
  go_loopg [7] k (fun kq v7 w' => ∃ (x7_1 : Int), v7 = .int .i64 x7_1 ∧ Aside0 (kissgatelaw14_great.l0 kq l0 l0 (l0.length : Int) x7_1 = some r) ∧ Aside0 (kq ≤ k) ∧ Aside0 (Below w.heap.size w w'))
  case atStart => exact ⟨(0), (by first | rfl | (simp; done) | (simp [show ∀ l_ : List UInt8, (l_ != []) = !l_.isEmpty from fun l_ => by cases l_ <;> rfl]; done) | (simp [*]; done)), H', ⟨Nat.le_refl _⟩, ⟨by repeat (first | (with_reducible first | exact HB.out | apply below_alloc | apply pw_below_drewN | apply below_drew1) | exact HB.out)⟩⟩
  case round =>
    clear H'
    try clear c1
    obtain ⟨x7_1, rfl, HA, HK1, HB⟩ := hrel
    cases gk with
    | zero => exact absurd HA.out (by simp [kissgatelaw14_great.l0])
    | succ k1 =>
      have H := HA.out
      clear HA
      simp only [kissgatelaw14_great.l0] at H
      by_cases c2 : x7_1 < (l0.length : Int)
      · rw [if_pos c2] at H
        have c2b0 : decide (x7_1 < (l0.length : Int)) = true := decide_eq_true c2
        clear c2
        by_cases c3 : 0 ≤ x7_1
        · rw [if_pos c3] at H
          have c3b0 : decide (0 ≤ x7_1) = true := decide_eq_true c3
          clear c3
          by_cases c4 : x7_1 < (l0.length : Int)
          · rw [if_pos c4] at H
            have c4b0 : decide (x7_1 < (l0.length : Int)) = true := decide_eq_true c4
            clear c4
            by_cases c5 : ((rd_T38 l0 x7_1).f0) = 3
            · rw [if_pos c5] at H
              have c5b0 : (((rd_T38 l0 x7_1).f0) == 3) = true := beq_iff_eq.mpr c5
              have c5b1 : (((rd_T38 l0 x7_1).f0) != 3) = false := bne_eq_false_iff_eq.mpr c5
              clear c5
              by_cases c6 : ((rd_T38 l0 x7_1).f3) < 0
              · rw [if_pos c6] at H
                have c6b0 : decide (((rd_T38 l0 x7_1).f3) < 0) = true := decide_eq_true c6
                clear c6
                obtain rfl := Option.some.inj H
                have p188 : 0 ≤ (x7_1 : Int) := of_decide_eq_true (by first | (with_reducible assumption) | assumption)
                have q188 : x7_1 < (l0.length : Int) := of_decide_eq_true (by first | (with_reducible assumption) | assumption)
                obtain ⟨ad188, e188, hx188_0, hx188_1, hx188_2, hx188_3⟩ := at_T38 HR0.out x7_1 p188 q188
                cases e188
                (try replace hx188_0 := (HB.out.cell (World.block_lt_of_cell? w _ hx188_0)).trans hx188_0)
                (try replace hx188_1 := (HB.out.cell (World.block_lt_of_cell? w _ hx188_1)).trans hx188_1)
                (try replace hx188_2 := (HB.out.cell (World.block_lt_of_cell? w _ hx188_2)).trans hx188_2)
                (try replace hx188_3 := (HB.out.cell (World.block_lt_of_cell? w _ hx188_3)).trans hx188_3)
                replace p188 := eq_true p188
                replace q188 := eq_true q188
                go_wp2_with (first | ((with_reducible refine gate_dst (N := 4) rfl ?_); refine box_event ?hg (N := 4) ?hd (cs := #[.int .i64 0, .int .i64 0, .int .i64 0, .int .i64 0]) (t := 38) ?hr ?_; (case hd => rfl); (case hg => rfl); (case hr => first | (go_simp; done) | (go_simp; rfl)); intro gb189 hg w7 hbox hb; have n0_ := Aside0.mk (below_step (by repeat (first | (with_reducible first | exact HB.out | apply below_alloc | apply pw_below_drewN | apply below_drew1) | exact HB.out)) hb); have n1_ := Aside0.mk (hbox); have n2_ := Aside0.mk ((by rw [hg]; exact (below_size (by repeat (first | (with_reducible first | exact HB.out | apply below_alloc | apply pw_below_drewN | apply below_drew1) | exact HB.out))) : w.heap.size ≤ gb189)); have n3_ := Aside0.mk ((by rw [hg]; exact (below_size (by repeat (first | (with_reducible first | exact HB.out | apply below_alloc | apply pw_below_drewN | apply below_drew1) | exact HB.out))) : w.heap.size ≤ gb189)); clear HB; have HB := n0_; have BK189 := n1_; have GW189 := n2_; have GE189 := n3_; clear n0_ n1_ n2_ n3_; clear hb hbox hg; have hcz8_0 : w7.cell? ⟨gb189, 0, none⟩ = some (.int .i64 0) := (blk_cell BK189.out 0).trans rfl; have hcz8_1 : w7.cell? ⟨gb189, 1, none⟩ = some (.int .i64 0) := (blk_cell BK189.out 1).trans rfl; have hcz8_2 : w7.cell? ⟨gb189, 2, none⟩ = some (.int .i64 0) := (blk_cell BK189.out 2).trans rfl; have hcz8_3 : w7.cell? ⟨gb189, 3, none⟩ = some (.int .i64 0) := (blk_cell BK189.out 3).trans rfl; have hfz8_0 := blk_frozen BK189.out 0; have hfz8_1 := blk_frozen BK189.out 1; have hfz8_2 := blk_frozen BK189.out 2; have hfz8_3 := blk_frozen BK189.out 3))
                go_ret
                exact ⟨by first | rfl | (simp [show ∀ l_ : List UInt8, (l_ == []) = l_.isEmpty from fun l_ => by cases l_ <;> rfl]; done) | (simp [errW_none, errW_some] <;> rfl) | ((repeat rw [Int.tdiv_eq_ediv_of_nonneg (by omega)]); (repeat rw [Int.tmod_eq_emod_of_nonneg (by omega)]); first | rfl | (simp [errW_none, errW_some] <;> rfl)) | (simp [*, errW_none, errW_some] <;> rfl), by repeat (first | (with_reducible first | exact HB.out | apply below_alloc | apply pw_below_drewN | apply below_drew1 | refine below_set ?_ GE189.out) | exact HB.out)⟩
              · rw [if_neg c6] at H
                have c6b0 : decide (((rd_T38 l0 x7_1).f3) < 0) = false := decide_eq_false c6
                clear c6
                by_cases c9 : ((rd_T38 l0 x7_1).f3) > 1000
                · rw [if_pos c9] at H
                  have c9b0 : decide (1000 < ((rd_T38 l0 x7_1).f3)) = true := decide_eq_true c9
                  clear c9
                  obtain rfl := Option.some.inj H
                  have p188 : 0 ≤ (x7_1 : Int) := of_decide_eq_true (by first | (with_reducible assumption) | assumption)
                  have q188 : x7_1 < (l0.length : Int) := of_decide_eq_true (by first | (with_reducible assumption) | assumption)
                  obtain ⟨ad188, e188, hx188_0, hx188_1, hx188_2, hx188_3⟩ := at_T38 HR0.out x7_1 p188 q188
                  cases e188
                  (try replace hx188_0 := (HB.out.cell (World.block_lt_of_cell? w _ hx188_0)).trans hx188_0)
                  (try replace hx188_1 := (HB.out.cell (World.block_lt_of_cell? w _ hx188_1)).trans hx188_1)
                  (try replace hx188_2 := (HB.out.cell (World.block_lt_of_cell? w _ hx188_2)).trans hx188_2)
                  (try replace hx188_3 := (HB.out.cell (World.block_lt_of_cell? w _ hx188_3)).trans hx188_3)
                  replace p188 := eq_true p188
                  replace q188 := eq_true q188
                  go_wp2_with (first | ((with_reducible refine gate_dst (N := 4) rfl ?_); refine box_event ?hg (N := 4) ?hd (cs := #[.int .i64 0, .int .i64 0, .int .i64 0, .int .i64 0]) (t := 38) ?hr ?_; (case hd => rfl); (case hg => rfl); (case hr => first | (go_simp; done) | (go_simp; rfl)); intro gb189 hg w10 hbox hb; have n0_ := Aside0.mk (below_step (by repeat (first | (with_reducible first | exact HB.out | apply below_alloc | apply pw_below_drewN | apply below_drew1) | exact HB.out)) hb); have n1_ := Aside0.mk (hbox); have n2_ := Aside0.mk ((by rw [hg]; exact (below_size (by repeat (first | (with_reducible first | exact HB.out | apply below_alloc | apply pw_below_drewN | apply below_drew1) | exact HB.out))) : w.heap.size ≤ gb189)); have n3_ := Aside0.mk ((by rw [hg]; exact (below_size (by repeat (first | (with_reducible first | exact HB.out | apply below_alloc | apply pw_below_drewN | apply below_drew1) | exact HB.out))) : w.heap.size ≤ gb189)); clear HB; have HB := n0_; have BK189 := n1_; have GW189 := n2_; have GE189 := n3_; clear n0_ n1_ n2_ n3_; clear hb hbox hg; have hcz11_0 : w10.cell? ⟨gb189, 0, none⟩ = some (.int .i64 0) := (blk_cell BK189.out 0).trans rfl; have hcz11_1 : w10.cell? ⟨gb189, 1, none⟩ = some (.int .i64 0) := (blk_cell BK189.out 1).trans rfl; have hcz11_2 : w10.cell? ⟨gb189, 2, none⟩ = some (.int .i64 0) := (blk_cell BK189.out 2).trans rfl; have hcz11_3 : w10.cell? ⟨gb189, 3, none⟩ = some (.int .i64 0) := (blk_cell BK189.out 3).trans rfl; have hfz11_0 := blk_frozen BK189.out 0; have hfz11_1 := blk_frozen BK189.out 1; have hfz11_2 := blk_frozen BK189.out 2; have hfz11_3 := blk_frozen BK189.out 3))
                  go_ret
                  exact ⟨by first | rfl | (simp [show ∀ l_ : List UInt8, (l_ == []) = l_.isEmpty from fun l_ => by cases l_ <;> rfl]; done) | (simp [errW_none, errW_some] <;> rfl) | ((repeat rw [Int.tdiv_eq_ediv_of_nonneg (by omega)]); (repeat rw [Int.tmod_eq_emod_of_nonneg (by omega)]); first | rfl | (simp [errW_none, errW_some] <;> rfl)) | (simp [*, errW_none, errW_some] <;> rfl), by repeat (first | (with_reducible first | exact HB.out | apply below_alloc | apply pw_below_drewN | apply below_drew1 | refine below_set ?_ GE189.out) | exact HB.out)⟩
                · rw [if_neg c9] at H
                  have c9b0 : decide (1000 < ((rd_T38 l0 x7_1).f3)) = false := decide_eq_false c9
                  clear c9
                  have H' := Aside0.mk H
                  clear H
                  have p188 : 0 ≤ (x7_1 : Int) := of_decide_eq_true (by first | (with_reducible assumption) | assumption)
                  have q188 : x7_1 < (l0.length : Int) := of_decide_eq_true (by first | (with_reducible assumption) | assumption)
                  obtain ⟨ad188, e188, hx188_0, hx188_1, hx188_2, hx188_3⟩ := at_T38 HR0.out x7_1 p188 q188
                  cases e188
                  (try replace hx188_0 := (HB.out.cell (World.block_lt_of_cell? w _ hx188_0)).trans hx188_0)
                  (try replace hx188_1 := (HB.out.cell (World.block_lt_of_cell? w _ hx188_1)).trans hx188_1)
                  (try replace hx188_2 := (HB.out.cell (World.block_lt_of_cell? w _ hx188_2)).trans hx188_2)
                  (try replace hx188_3 := (HB.out.cell (World.block_lt_of_cell? w _ hx188_3)).trans hx188_3)
                  replace p188 := eq_true p188
                  replace q188 := eq_true q188
                  go_wp2_with (first | ((with_reducible refine gate_dst (N := 4) rfl ?_); refine box_event ?hg (N := 4) ?hd (cs := #[.int .i64 0, .int .i64 0, .int .i64 0, .int .i64 0]) (t := 38) ?hr ?_; (case hd => rfl); (case hg => rfl); (case hr => first | (go_simp; done) | (go_simp; rfl)); intro gb189 hg w12 hbox hb; have n0_ := Aside0.mk (below_step (by repeat (first | (with_reducible first | exact HB.out | apply below_alloc | apply pw_below_drewN | apply below_drew1) | exact HB.out)) hb); have n1_ := Aside0.mk (hbox); have n2_ := Aside0.mk ((by rw [hg]; exact (below_size (by repeat (first | (with_reducible first | exact HB.out | apply below_alloc | apply pw_below_drewN | apply below_drew1) | exact HB.out))) : w.heap.size ≤ gb189)); have n3_ := Aside0.mk ((by rw [hg]; exact (below_size (by repeat (first | (with_reducible first | exact HB.out | apply below_alloc | apply pw_below_drewN | apply below_drew1) | exact HB.out))) : w.heap.size ≤ gb189)); clear HB; have HB := n0_; have BK189 := n1_; have GW189 := n2_; have GE189 := n3_; clear n0_ n1_ n2_ n3_; clear hb hbox hg; have hcz13_0 : w12.cell? ⟨gb189, 0, none⟩ = some (.int .i64 0) := (blk_cell BK189.out 0).trans rfl; have hcz13_1 : w12.cell? ⟨gb189, 1, none⟩ = some (.int .i64 0) := (blk_cell BK189.out 1).trans rfl; have hcz13_2 : w12.cell? ⟨gb189, 2, none⟩ = some (.int .i64 0) := (blk_cell BK189.out 2).trans rfl; have hcz13_3 : w12.cell? ⟨gb189, 3, none⟩ = some (.int .i64 0) := (blk_cell BK189.out 3).trans rfl; have hfz13_0 := blk_frozen BK189.out 0; have hfz13_1 := blk_frozen BK189.out 1; have hfz13_2 := blk_frozen BK189.out 2; have hfz13_3 := blk_frozen BK189.out 3))
                  go_roundg k1
                  case measure => have := HK1.out; omega
                  case rel => exact ⟨(wrap64 (x7_1 + 1)), (by first | rfl | (simp; done) | (simp [show ∀ l_ : List UInt8, (l_ != []) = !l_.isEmpty from fun l_ => by cases l_ <;> rfl]; done) | (simp [*]; done)), H', ⟨by have := HK1.out; omega⟩, ⟨by repeat (first | (with_reducible first | exact HB.out | apply below_alloc | apply pw_below_drewN | apply below_drew1 | refine below_set ?_ GE189.out) | exact HB.out)⟩⟩
            · rw [if_neg c5] at H
              have c5b0 : (((rd_T38 l0 x7_1).f0) == 3) = false := beq_eq_false_iff_ne.mpr c5
              have c5b1 : (((rd_T38 l0 x7_1).f0) != 3) = true := bne_iff_ne.mpr c5
              have H' := Aside0.mk H
              clear H
              have p188 : 0 ≤ (x7_1 : Int) := of_decide_eq_true (by first | (with_reducible assumption) | assumption)
              have q188 : x7_1 < (l0.length : Int) := of_decide_eq_true (by first | (with_reducible assumption) | assumption)
              obtain ⟨ad188, e188, hx188_0, hx188_1, hx188_2, hx188_3⟩ := at_T38 HR0.out x7_1 p188 q188
              cases e188
              (try replace hx188_0 := (HB.out.cell (World.block_lt_of_cell? w _ hx188_0)).trans hx188_0)
              (try replace hx188_1 := (HB.out.cell (World.block_lt_of_cell? w _ hx188_1)).trans hx188_1)
              (try replace hx188_2 := (HB.out.cell (World.block_lt_of_cell? w _ hx188_2)).trans hx188_2)
              (try replace hx188_3 := (HB.out.cell (World.block_lt_of_cell? w _ hx188_3)).trans hx188_3)
              replace p188 := eq_true p188
              replace q188 := eq_true q188
              go_wp2_with (first | ((with_reducible refine gate_dst (N := 4) rfl ?_); refine box_event ?hg (N := 4) ?hd (cs := #[.int .i64 0, .int .i64 0, .int .i64 0, .int .i64 0]) (t := 38) ?hr ?_; (case hd => rfl); (case hg => rfl); (case hr => first | (go_simp; done) | (go_simp; rfl)); intro gb189 hg w14 hbox hb; have n0_ := Aside0.mk (below_step (by repeat (first | (with_reducible first | exact HB.out | apply below_alloc | apply pw_below_drewN | apply below_drew1) | exact HB.out)) hb); have n1_ := Aside0.mk (hbox); have n2_ := Aside0.mk ((by rw [hg]; exact (below_size (by repeat (first | (with_reducible first | exact HB.out | apply below_alloc | apply pw_below_drewN | apply below_drew1) | exact HB.out))) : w.heap.size ≤ gb189)); have n3_ := Aside0.mk ((by rw [hg]; exact (below_size (by repeat (first | (with_reducible first | exact HB.out | apply below_alloc | apply pw_below_drewN | apply below_drew1) | exact HB.out))) : w.heap.size ≤ gb189)); clear HB; have HB := n0_; have BK189 := n1_; have GW189 := n2_; have GE189 := n3_; clear n0_ n1_ n2_ n3_; clear hb hbox hg; have hcz15_0 : w14.cell? ⟨gb189, 0, none⟩ = some (.int .i64 0) := (blk_cell BK189.out 0).trans rfl; have hcz15_1 : w14.cell? ⟨gb189, 1, none⟩ = some (.int .i64 0) := (blk_cell BK189.out 1).trans rfl; have hcz15_2 : w14.cell? ⟨gb189, 2, none⟩ = some (.int .i64 0) := (blk_cell BK189.out 2).trans rfl; have hcz15_3 : w14.cell? ⟨gb189, 3, none⟩ = some (.int .i64 0) := (blk_cell BK189.out 3).trans rfl; have hfz15_0 := blk_frozen BK189.out 0; have hfz15_1 := blk_frozen BK189.out 1; have hfz15_2 := blk_frozen BK189.out 2; have hfz15_3 := blk_frozen BK189.out 3))
              go_roundg k1
              case measure => have := HK1.out; omega
              case rel => exact ⟨(wrap64 (x7_1 + 1)), (by first | rfl | (simp; done) | (simp [show ∀ l_ : List UInt8, (l_ != []) = !l_.isEmpty from fun l_ => by cases l_ <;> rfl]; done) | (simp [*]; done)), H', ⟨by have := HK1.out; omega⟩, ⟨by repeat (first | (with_reducible first | exact HB.out | apply below_alloc | apply pw_below_drewN | apply below_drew1 | refine below_set ?_ GE189.out) | exact HB.out)⟩⟩
          · rw [if_neg c4] at H
            exact absurd H (by simp)
        · rw [if_neg c3] at H
          exact absurd H (by simp)
      · rw [if_neg c2] at H
        have c2b0 : decide (x7_1 < (l0.length : Int)) = false := decide_eq_false c2
        clear c2
        obtain rfl := Option.some.inj H
        go_wp2
        go_ret
        exact ⟨by first | rfl | (simp [show ∀ l_ : List UInt8, (l_ == []) = l_.isEmpty from fun l_ => by cases l_ <;> rfl]; done) | (simp [errW_none, errW_some] <;> rfl) | ((repeat rw [Int.tdiv_eq_ediv_of_nonneg (by omega)]); (repeat rw [Int.tmod_eq_emod_of_nonneg (by omega)]); first | rfl | (simp [errW_none, errW_some] <;> rfl)) | (simp [*, errW_none, errW_some] <;> rfl), by repeat (first | (with_reducible first | exact HB.out | apply below_alloc | apply pw_below_drewN | apply below_drew1) | exact HB.out)⟩

/-! ### regis_Reg_Flush: function 16 -/
def regis_Reg_Flush.f (s0_0 : Int) (s0_1 : Int) (s0_2 : Int) (s0_3 : Int) (a1 : Int) : Option (Bool × Int × Int × Int × Int) := (regis_Reg_Has.f s0_0 s0_1 s0_2 s0_3).bind fun bt190 => ((regis_Reg_step.f bt190.2.1 bt190.2.2.1 bt190.2.2.2.1 bt190.2.2.2.2 4 a1).bind fun bt195 => ((regis_Reg_Has.f bt195.1 bt195.2.1 bt195.2.2.1 bt195.2.2.2).bind fun bt199 => (some ((bt199.1 != bt190.1), bt199.2.1, bt199.2.2.1, bt199.2.2.2.1, bt199.2.2.2.2))))
set_option maxHeartbeats 8000000 in
set_option maxRecDepth 100000 in
theorem regis_Reg_Flush.calls (g : Nat) (s0_0 : Int) (s0_1 : Int) (s0_2 : Int) (s0_3 : Int) (a1 : Int) (r1 : Bool) (r2 : Int) (r3 : Int) (r4 : Int) (r5 : Int) (w0 w : World) (hI : IsS49 w0 w g s0_0 s0_1 s0_2 s0_3) (hB : Below w0.heap.size w0 w) (h : regis_Reg_Flush.f s0_0 s0_1 s0_2 s0_3 a1 = some (r1, r2, r3, r4, r5)) :
    Calls Try.prog 16 #[.pointer (some ⟨g, 0, none⟩), .int .i64 a1] w fun e w' => e = .returned (.bool r1) ∧ IsS49 w0 w' g r2 r3 r4 r5 ∧ Below w0.heap.size w0 w' ∧ KeepBut w w' g none := by
  have HI0 := Aside0.mk hI
  have HK := Aside0.mk (KeepBut.refl w g none)
  have HL := Aside0.mk hB.size
  clear hI
  have HW0 := Aside0.mk hB.size
  have HB := Aside0.mk hB
  clear hB
  have H : ((regis_Reg_Has.f s0_0 s0_1 s0_2 s0_3).bind fun bt190 => ((regis_Reg_step.f bt190.2.1 bt190.2.2.1 bt190.2.2.2.1 bt190.2.2.2.2 4 a1).bind fun bt195 => ((regis_Reg_Has.f bt195.1 bt195.2.1 bt195.2.2.1 bt195.2.2.2).bind fun bt199 => (some ((bt199.1 != bt190.1), bt199.2.1, bt199.2.2.1, bt199.2.2.2.1, bt199.2.2.2.2))))) = some (r1, r2, r3, r4, r5) := h
  clear h
  replace H := Option.bind_eq_some_iff.mp H
  obtain ⟨⟨t190, t191, t192, t193, t194⟩, A30, H⟩ := H
  replace H : ((regis_Reg_step.f t191 t192 t193 t194 4 a1).bind fun bt195 => ((regis_Reg_Has.f bt195.1 bt195.2.1 bt195.2.2.1 bt195.2.2.2).bind fun bt199 => (some ((bt199.1 != t190), bt199.2.1, bt199.2.2.1, bt199.2.2.2.1, bt199.2.2.2.2)))) = some (r1, r2, r3, r4, r5) := H
  have A3 := Aside0.mk A30
  clear A30
  replace H := Option.bind_eq_some_iff.mp H
  obtain ⟨⟨t195, t196, t197, t198⟩, A40, H⟩ := H
  replace H : ((regis_Reg_Has.f t195 t196 t197 t198).bind fun bt199 => (some ((bt199.1 != t190), bt199.2.1, bt199.2.2.1, bt199.2.2.2.1, bt199.2.2.2.2))) = some (r1, r2, r3, r4, r5) := H
  have A4 := Aside0.mk A40
  clear A40
  replace H := Option.bind_eq_some_iff.mp H
  obtain ⟨⟨t199, t200, t201, t202, t203⟩, A50, H⟩ := H
  replace H : (some ((t199 != t190), t200, t201, t202, t203)) = some (r1, r2, r3, r4, r5) := H
  have A5 := Aside0.mk A50
  clear A50
  simp only [Option.some.injEq, Prod.mk.injEq] at H
  obtain ⟨rfl, rfl, rfl, rfl, rfl⟩ := H
  go_enter Try.func16, Try.ntmps16
  go_wp2_with (first | ((with_reducible refine gate_callee (f := 12) rfl ?_); refine goesL_ (some 9) rfl rfl Try.func12 (by kernel_rfl) rfl #[.pointer (some ⟨g, 0, none⟩)] rfl (by (try simp only [List.map_toArray, List.map_cons, List.map_nil]); first | done | rfl | (simp only [List.length_drop, List.length_take]; rfl) | (go_simp; first | done | (unfold wrap64; omega))) ?_; (with_reducible refine (regis_Reg_Has.calls g s0_0 s0_1 s0_2 s0_3 t190 t191 t192 t193 t194 w0 _ ?side1 ?side2 A3.out).mono ?_); (case side1 => repeat (first | (with_reducible first | exact HI0.out | apply IsS49.alloc | apply IsS49.drewN | apply IsS49.drew | apply IsS49.set_0 | apply IsS49.set_1 | apply IsS49.set_2 | apply IsS49.set_3) | exact HI0.out)); (case side2 => repeat (first | (with_reducible first | exact HB.out | apply below_alloc | apply pw_below_drewN | apply below_drew1 | refine below_set ?_ (IsS49.ge HI0.out)) | exact HB.out)); rintro e w6 ⟨rfl, hi, hb, hk⟩; refine ⟨_, rfl, ?_⟩; have n0_ := Aside0.mk (KeepBut.trans (by repeat (first | (with_reducible first | exact HK.out | apply KeepBut.set_ | apply keep_drewN | apply keep_drew | apply keep_alloc) | exact HK.out)) hk (.inl rfl)); have n1_ := Aside0.mk (hb); have n2_ := Aside0.mk (hi); clear HK; clear HB; clear HI0; have HK := n0_; have HB := n1_; have HI0 := n2_; clear n0_ n1_ n2_; (try clear hb); (try clear hb2); (try clear hk); (try clear hi)) | ((with_reducible refine gate_callee (f := 26) rfl ?_); refine goesL_ (some 12) rfl rfl Try.func26 (by kernel_rfl) rfl #[.pointer (some ⟨g, 0, none⟩), .int .i64 4, .int .i64 a1] rfl (by (try simp only [List.map_toArray, List.map_cons, List.map_nil]); first | done | rfl | (simp only [List.length_drop, List.length_take]; rfl) | (go_simp; first | done | (unfold wrap64; omega))) ?_; (with_reducible refine (regis_Reg_step.calls g t191 t192 t193 t194 4 a1 t195 t196 t197 t198 w0 _ ?side1 ?side2 A4.out).mono ?_); (case side1 => repeat (first | (with_reducible first | exact HI0.out | apply IsS49.alloc | apply IsS49.drewN | apply IsS49.drew | apply IsS49.set_0 | apply IsS49.set_1 | apply IsS49.set_2 | apply IsS49.set_3) | exact HI0.out)); (case side2 => repeat (first | (with_reducible first | exact HB.out | apply below_alloc | apply pw_below_drewN | apply below_drew1 | refine below_set ?_ (IsS49.ge HI0.out)) | exact HB.out)); rintro e w7 ⟨rfl, hi, hb, hk⟩; refine ⟨_, rfl, ?_⟩; have n0_ := Aside0.mk (KeepBut.trans (by repeat (first | (with_reducible first | exact HK.out | apply KeepBut.set_ | apply keep_drewN | apply keep_drew | apply keep_alloc) | exact HK.out)) hk (.inl rfl)); have n1_ := Aside0.mk (hb); have n2_ := Aside0.mk (hi); clear HK; clear HB; clear HI0; have HK := n0_; have HB := n1_; have HI0 := n2_; clear n0_ n1_ n2_; (try clear hb); (try clear hb2); (try clear hk); (try clear hi)) | ((with_reducible refine gate_callee (f := 12) rfl ?_); refine goesL_ (some 14) rfl rfl Try.func12 (by kernel_rfl) rfl #[.pointer (some ⟨g, 0, none⟩)] rfl (by (try simp only [List.map_toArray, List.map_cons, List.map_nil]); first | done | rfl | (simp only [List.length_drop, List.length_take]; rfl) | (go_simp; first | done | (unfold wrap64; omega))) ?_; (with_reducible refine (regis_Reg_Has.calls g t195 t196 t197 t198 t199 t200 t201 t202 t203 w0 _ ?side1 ?side2 A5.out).mono ?_); (case side1 => repeat (first | (with_reducible first | exact HI0.out | apply IsS49.alloc | apply IsS49.drewN | apply IsS49.drew | apply IsS49.set_0 | apply IsS49.set_1 | apply IsS49.set_2 | apply IsS49.set_3) | exact HI0.out)); (case side2 => repeat (first | (with_reducible first | exact HB.out | apply below_alloc | apply pw_below_drewN | apply below_drew1 | refine below_set ?_ (IsS49.ge HI0.out)) | exact HB.out)); rintro e w8 ⟨rfl, hi, hb, hk⟩; refine ⟨_, rfl, ?_⟩; have n0_ := Aside0.mk (KeepBut.trans (by repeat (first | (with_reducible first | exact HK.out | apply KeepBut.set_ | apply keep_drewN | apply keep_drew | apply keep_alloc) | exact HK.out)) hk (.inl rfl)); have n1_ := Aside0.mk (hb); have n2_ := Aside0.mk (hi); clear HK; clear HB; clear HI0; have HK := n0_; have HB := n1_; have HI0 := n2_; clear n0_ n1_ n2_; (try clear hb); (try clear hb2); (try clear hk); (try clear hi)))
  go_ret
  exact ⟨by first | rfl | (simp [show ∀ l_ : List UInt8, (l_ == []) = l_.isEmpty from fun l_ => by cases l_ <;> rfl]; done) | (simp [errW_none, errW_some] <;> rfl) | ((repeat rw [Int.tdiv_eq_ediv_of_nonneg (by omega)]); (repeat rw [Int.tmod_eq_emod_of_nonneg (by omega)]); first | rfl | (simp [errW_none, errW_some] <;> rfl)) | (simp [*, errW_none, errW_some] <;> rfl), by repeat (first | (with_reducible first | exact HI0.out | apply IsS49.alloc | apply IsS49.drewN | apply IsS49.drew | apply IsS49.set_0 | apply IsS49.set_1 | apply IsS49.set_2 | apply IsS49.set_3) | exact HI0.out), by repeat (first | (with_reducible first | exact HB.out | apply below_alloc | apply pw_below_drewN | apply below_drew1 | refine below_set ?_ (IsS49.ge HI0.out)) | exact HB.out), by repeat (first | (with_reducible first | exact HK.out | apply KeepBut.set_ | apply keep_drewN | apply keep_drew | apply keep_alloc) | exact HK.out)⟩

/-! ### regis_Reg_Born: function 17 -/
def regis_Reg_Born.f (s0_0 : Int) (s0_1 : Int) (s0_2 : Int) (s0_3 : Int) (a1 : Int) : Option (Int × Int × Int × Int × Int) := (regis_Reg_Has.f s0_0 s0_1 s0_2 s0_3).bind fun bt204 => (if bt204.1 = true then (if bt204.2.1 = 1 then (some (a1, bt204.2.1, bt204.2.2.1, bt204.2.2.2.1, bt204.2.2.2.2)) else (some (bt204.2.2.2.1, bt204.2.1, bt204.2.2.1, bt204.2.2.2.1, bt204.2.2.2.2))) else (some ((-1), bt204.2.1, bt204.2.2.1, bt204.2.2.2.1, bt204.2.2.2.2)))
set_option maxHeartbeats 8000000 in
set_option maxRecDepth 100000 in
theorem regis_Reg_Born.calls (g : Nat) (s0_0 : Int) (s0_1 : Int) (s0_2 : Int) (s0_3 : Int) (a1 : Int) (r1 : Int) (r2 : Int) (r3 : Int) (r4 : Int) (r5 : Int) (w0 w : World) (hI : IsS49 w0 w g s0_0 s0_1 s0_2 s0_3) (hB : Below w0.heap.size w0 w) (h : regis_Reg_Born.f s0_0 s0_1 s0_2 s0_3 a1 = some (r1, r2, r3, r4, r5)) :
    Calls Try.prog 17 #[.pointer (some ⟨g, 0, none⟩), .int .i64 a1] w fun e w' => e = .returned (.int .i64 r1) ∧ IsS49 w0 w' g r2 r3 r4 r5 ∧ Below w0.heap.size w0 w' ∧ KeepBut w w' g none := by
  have HI0 := Aside0.mk hI
  have HK := Aside0.mk (KeepBut.refl w g none)
  have HL := Aside0.mk hB.size
  clear hI
  have HW0 := Aside0.mk hB.size
  have HB := Aside0.mk hB
  clear hB
  have H : ((regis_Reg_Has.f s0_0 s0_1 s0_2 s0_3).bind fun bt204 => (if bt204.1 = true then (if bt204.2.1 = 1 then (some (a1, bt204.2.1, bt204.2.2.1, bt204.2.2.2.1, bt204.2.2.2.2)) else (some (bt204.2.2.2.1, bt204.2.1, bt204.2.2.1, bt204.2.2.2.1, bt204.2.2.2.2))) else (some ((-1), bt204.2.1, bt204.2.2.1, bt204.2.2.2.1, bt204.2.2.2.2)))) = some (r1, r2, r3, r4, r5) := h
  clear h
  replace H := Option.bind_eq_some_iff.mp H
  obtain ⟨⟨t204, t205, t206, t207, t208⟩, A30, H⟩ := H
  replace H : (if t204 = true then (if t205 = 1 then (some (a1, t205, t206, t207, t208)) else (some (t207, t205, t206, t207, t208))) else (some ((-1), t205, t206, t207, t208))) = some (r1, r2, r3, r4, r5) := H
  have A3 := Aside0.mk A30
  clear A30
  by_cases c4 : t204 = true
  · subst c4
    have H1 : (if t205 = 1 then (some (a1, t205, t206, t207, t208)) else (some (t207, t205, t206, t207, t208))) = some (r1, r2, r3, r4, r5) := by rw [if_pos rfl] at H; exact H
    clear H
    have H := H1
    clear H1
    by_cases c5 : t205 = 1
    · rw [if_pos c5] at H
      have c5b0 : (t205 == 1) = true := beq_iff_eq.mpr c5
      have c5b1 : (t205 != 1) = false := bne_eq_false_iff_eq.mpr c5
      clear c5
      simp only [Option.some.injEq, Prod.mk.injEq] at H
      obtain ⟨rfl, rfl, rfl, rfl, rfl⟩ := H
      go_enter Try.func17, Try.ntmps17
      go_wp2_with (first | ((with_reducible refine gate_callee (f := 12) rfl ?_); refine goesL_ (some 7) rfl rfl Try.func12 (by kernel_rfl) rfl #[.pointer (some ⟨g, 0, none⟩)] rfl (by (try simp only [List.map_toArray, List.map_cons, List.map_nil]); first | done | rfl | (simp only [List.length_drop, List.length_take]; rfl) | (go_simp; first | done | (unfold wrap64; omega))) ?_; (with_reducible refine (regis_Reg_Has.calls g s0_0 s0_1 s0_2 s0_3 true t205 t206 t207 t208 w0 _ ?side1 ?side2 A3.out).mono ?_); (case side1 => repeat (first | (with_reducible first | exact HI0.out | apply IsS49.alloc | apply IsS49.drewN | apply IsS49.drew | apply IsS49.set_0 | apply IsS49.set_1 | apply IsS49.set_2 | apply IsS49.set_3) | exact HI0.out)); (case side2 => repeat (first | (with_reducible first | exact HB.out | apply below_alloc | apply pw_below_drewN | apply below_drew1 | refine below_set ?_ (IsS49.ge HI0.out)) | exact HB.out)); rintro e w6 ⟨rfl, hi, hb, hk⟩; refine ⟨_, rfl, ?_⟩; have n0_ := Aside0.mk (KeepBut.trans (by repeat (first | (with_reducible first | exact HK.out | apply KeepBut.set_ | apply keep_drewN | apply keep_drew | apply keep_alloc) | exact HK.out)) hk (.inl rfl)); have n1_ := Aside0.mk (hb); have n2_ := Aside0.mk (hi); clear HK; clear HB; clear HI0; have HK := n0_; have HB := n1_; have HI0 := n2_; clear n0_ n1_ n2_; (try clear hb); (try clear hb2); (try clear hk); (try clear hi); obtain ⟨HGz7, hgz7⟩ := HI0.out; have hcz7_0 := cellS49_0 HGz7; have hcz7_1 := cellS49_1 HGz7; have hcz7_2 := cellS49_2 HGz7; have hcz7_3 := cellS49_3 HGz7; have hfz7_0 := blk_frozen HGz7 0; have hfz7_1 := blk_frozen HGz7 1; have hfz7_2 := blk_frozen HGz7 2; have hfz7_3 := blk_frozen HGz7 3; clear HGz7 hgz7))
      go_ret
      exact ⟨by first | rfl | (simp [show ∀ l_ : List UInt8, (l_ == []) = l_.isEmpty from fun l_ => by cases l_ <;> rfl]; done) | (simp [errW_none, errW_some] <;> rfl) | ((repeat rw [Int.tdiv_eq_ediv_of_nonneg (by omega)]); (repeat rw [Int.tmod_eq_emod_of_nonneg (by omega)]); first | rfl | (simp [errW_none, errW_some] <;> rfl)) | (simp [*, errW_none, errW_some] <;> rfl), by repeat (first | (with_reducible first | exact HI0.out | apply IsS49.alloc | apply IsS49.drewN | apply IsS49.drew | apply IsS49.set_0 | apply IsS49.set_1 | apply IsS49.set_2 | apply IsS49.set_3) | exact HI0.out), by repeat (first | (with_reducible first | exact HB.out | apply below_alloc | apply pw_below_drewN | apply below_drew1 | refine below_set ?_ (IsS49.ge HI0.out)) | exact HB.out), by repeat (first | (with_reducible first | exact HK.out | apply KeepBut.set_ | apply keep_drewN | apply keep_drew | apply keep_alloc) | exact HK.out)⟩
    · rw [if_neg c5] at H
      have c5b0 : (t205 == 1) = false := beq_eq_false_iff_ne.mpr c5
      have c5b1 : (t205 != 1) = true := bne_iff_ne.mpr c5
      simp only [Option.some.injEq, Prod.mk.injEq] at H
      obtain ⟨rfl, rfl, rfl, rfl, rfl⟩ := H
      go_enter Try.func17, Try.ntmps17
      go_wp2_with (first | ((with_reducible refine gate_callee (f := 12) rfl ?_); refine goesL_ (some 7) rfl rfl Try.func12 (by kernel_rfl) rfl #[.pointer (some ⟨g, 0, none⟩)] rfl (by (try simp only [List.map_toArray, List.map_cons, List.map_nil]); first | done | rfl | (simp only [List.length_drop, List.length_take]; rfl) | (go_simp; first | done | (unfold wrap64; omega))) ?_; (with_reducible refine (regis_Reg_Has.calls g s0_0 s0_1 s0_2 s0_3 true t205 t206 t207 t208 w0 _ ?side1 ?side2 A3.out).mono ?_); (case side1 => repeat (first | (with_reducible first | exact HI0.out | apply IsS49.alloc | apply IsS49.drewN | apply IsS49.drew | apply IsS49.set_0 | apply IsS49.set_1 | apply IsS49.set_2 | apply IsS49.set_3) | exact HI0.out)); (case side2 => repeat (first | (with_reducible first | exact HB.out | apply below_alloc | apply pw_below_drewN | apply below_drew1 | refine below_set ?_ (IsS49.ge HI0.out)) | exact HB.out)); rintro e w8 ⟨rfl, hi, hb, hk⟩; refine ⟨_, rfl, ?_⟩; have n0_ := Aside0.mk (KeepBut.trans (by repeat (first | (with_reducible first | exact HK.out | apply KeepBut.set_ | apply keep_drewN | apply keep_drew | apply keep_alloc) | exact HK.out)) hk (.inl rfl)); have n1_ := Aside0.mk (hb); have n2_ := Aside0.mk (hi); clear HK; clear HB; clear HI0; have HK := n0_; have HB := n1_; have HI0 := n2_; clear n0_ n1_ n2_; (try clear hb); (try clear hb2); (try clear hk); (try clear hi); obtain ⟨HGz9, hgz9⟩ := HI0.out; have hcz9_0 := cellS49_0 HGz9; have hcz9_1 := cellS49_1 HGz9; have hcz9_2 := cellS49_2 HGz9; have hcz9_3 := cellS49_3 HGz9; have hfz9_0 := blk_frozen HGz9 0; have hfz9_1 := blk_frozen HGz9 1; have hfz9_2 := blk_frozen HGz9 2; have hfz9_3 := blk_frozen HGz9 3; clear HGz9 hgz9))
      go_ret
      exact ⟨by first | rfl | (simp [show ∀ l_ : List UInt8, (l_ == []) = l_.isEmpty from fun l_ => by cases l_ <;> rfl]; done) | (simp [errW_none, errW_some] <;> rfl) | ((repeat rw [Int.tdiv_eq_ediv_of_nonneg (by omega)]); (repeat rw [Int.tmod_eq_emod_of_nonneg (by omega)]); first | rfl | (simp [errW_none, errW_some] <;> rfl)) | (simp [*, errW_none, errW_some] <;> rfl), by repeat (first | (with_reducible first | exact HI0.out | apply IsS49.alloc | apply IsS49.drewN | apply IsS49.drew | apply IsS49.set_0 | apply IsS49.set_1 | apply IsS49.set_2 | apply IsS49.set_3) | exact HI0.out), by repeat (first | (with_reducible first | exact HB.out | apply below_alloc | apply pw_below_drewN | apply below_drew1 | refine below_set ?_ (IsS49.ge HI0.out)) | exact HB.out), by repeat (first | (with_reducible first | exact HK.out | apply KeepBut.set_ | apply keep_drewN | apply keep_drew | apply keep_alloc) | exact HK.out)⟩
  · replace c4 := Bool.eq_false_iff.mpr c4
    subst c4
    have H1 : (some ((-1), t205, t206, t207, t208)) = some (r1, r2, r3, r4, r5) := by rw [if_neg (show ¬ (false = true) by decide)] at H; exact H
    clear H
    have H := H1
    clear H1
    simp only [Option.some.injEq, Prod.mk.injEq] at H
    obtain ⟨rfl, rfl, rfl, rfl, rfl⟩ := H
    go_enter Try.func17, Try.ntmps17
    go_wp2_with (first | ((with_reducible refine gate_callee (f := 12) rfl ?_); refine goesL_ (some 7) rfl rfl Try.func12 (by kernel_rfl) rfl #[.pointer (some ⟨g, 0, none⟩)] rfl (by (try simp only [List.map_toArray, List.map_cons, List.map_nil]); first | done | rfl | (simp only [List.length_drop, List.length_take]; rfl) | (go_simp; first | done | (unfold wrap64; omega))) ?_; (with_reducible refine (regis_Reg_Has.calls g s0_0 s0_1 s0_2 s0_3 false t205 t206 t207 t208 w0 _ ?side1 ?side2 A3.out).mono ?_); (case side1 => repeat (first | (with_reducible first | exact HI0.out | apply IsS49.alloc | apply IsS49.drewN | apply IsS49.drew | apply IsS49.set_0 | apply IsS49.set_1 | apply IsS49.set_2 | apply IsS49.set_3) | exact HI0.out)); (case side2 => repeat (first | (with_reducible first | exact HB.out | apply below_alloc | apply pw_below_drewN | apply below_drew1 | refine below_set ?_ (IsS49.ge HI0.out)) | exact HB.out)); rintro e w10 ⟨rfl, hi, hb, hk⟩; refine ⟨_, rfl, ?_⟩; have n0_ := Aside0.mk (KeepBut.trans (by repeat (first | (with_reducible first | exact HK.out | apply KeepBut.set_ | apply keep_drewN | apply keep_drew | apply keep_alloc) | exact HK.out)) hk (.inl rfl)); have n1_ := Aside0.mk (hb); have n2_ := Aside0.mk (hi); clear HK; clear HB; clear HI0; have HK := n0_; have HB := n1_; have HI0 := n2_; clear n0_ n1_ n2_; (try clear hb); (try clear hb2); (try clear hk); (try clear hi)))
    go_ret
    exact ⟨by first | rfl | (simp [show ∀ l_ : List UInt8, (l_ == []) = l_.isEmpty from fun l_ => by cases l_ <;> rfl]; done) | (simp [errW_none, errW_some] <;> rfl) | ((repeat rw [Int.tdiv_eq_ediv_of_nonneg (by omega)]); (repeat rw [Int.tmod_eq_emod_of_nonneg (by omega)]); first | rfl | (simp [errW_none, errW_some] <;> rfl)) | (simp [*, errW_none, errW_some] <;> rfl), by repeat (first | (with_reducible first | exact HI0.out | apply IsS49.alloc | apply IsS49.drewN | apply IsS49.drew | apply IsS49.set_0 | apply IsS49.set_1 | apply IsS49.set_2 | apply IsS49.set_3) | exact HI0.out), by repeat (first | (with_reducible first | exact HB.out | apply below_alloc | apply pw_below_drewN | apply below_drew1 | refine below_set ?_ (IsS49.ge HI0.out)) | exact HB.out), by repeat (first | (with_reducible first | exact HK.out | apply KeepBut.set_ | apply keep_drewN | apply keep_drew | apply keep_alloc) | exact HK.out)⟩

end Go.Proofs.Ytgmnkilnajkidaa.PRegisDoes
