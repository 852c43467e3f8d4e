-- Written by a program of this session (see NOTES.md), which reads the translation's print; Lean checks it.
import Derived.Test.YtgmnkilnajkidaaPRegisDoesx0
import Derived.Test.YtgmnkilnajkidaaPRegisDoesx3
import Derived.Test.YtgmnkilnajkidaaPRegisDoesx4
namespace Go.Proofs.Ytgmnkilnajkidaa.PRegisDoes
open Go.RowKit Go.Proofs.YtgmnkilnajkidaaW.PrintWords Go.Proofs.YtgmnkilnajkidaaW.PrintLast Go.Proofs.YtgmnkilnajkidaaW.PrintMore
attribute [local go_sem] max2_int min2_int max_two min_two max_three min_three max_four min_four   -- for this text's walks alone
set_option linter.unusedVariables false
set_option linter.unusedSimpArgs false

/-! ### kissgateref14_Reg_Tick: function 24 -/
def kissgateref14_Reg_Tick.j0 : Nat → Int → Bool → Int → Int → Int → Int → Option (Int × Int × Int × Int)
  | 0, _, _, _, _, _, _ => none
  | k + 1, x1, x16, x1000, x1001, x1002, x1003 => if x16 = true then ((kissgateref14_Reg_Step.f x1000 x1001 x1002 x1003 3 x1).bind fun bt228 => (if bt228.2.1 = 0 then (some (bt228.1, bt228.2.1, bt228.2.2.1, bt228.2.2.2)) else (if (wrap64 (x1 - bt228.2.2.1)) > 120 then ((kissgateref14_Reg_Step.f bt228.1 bt228.2.1 bt228.2.2.1 bt228.2.2.2 4 x1).bind fun bt232 => (some (bt232.1, bt232.2.1, bt232.2.2.1, bt232.2.2.2))) else (some (bt228.1, bt228.2.1, bt228.2.2.1, bt228.2.2.2))))) else (if x1001 = 0 then (some (x1000, x1001, x1002, x1003)) else (if (wrap64 (x1 - x1002)) > 120 then ((kissgateref14_Reg_Step.f x1000 x1001 x1002 x1003 4 x1).bind fun bt236 => (some (bt236.1, bt236.2.1, bt236.2.2.1, bt236.2.2.2))) else (some (x1000, x1001, x1002, x1003))))
def kissgateref14_Reg_Tick.f (k : Nat) (s0_0 : Int) (s0_1 : Int) (s0_2 : Int) (s0_3 : Int) (a1 : Int) : Option (Int × Int × Int × Int) := if s0_1 = 1 then (kissgateref14_Reg_Tick.j0 k a1 (decide (a1 ≥ s0_3)) s0_0 s0_1 s0_2 s0_3) else (kissgateref14_Reg_Tick.j0 k a1 false s0_0 s0_1 s0_2 s0_3)
theorem kissgateref14_Reg_Tick.mono_l : ∀ k, (∀ y0 y1 y2 y3 y4 y5, LeO (kissgateref14_Reg_Tick.j0 k y0 y1 y2 y3 y4 y5) (kissgateref14_Reg_Tick.j0 (k + 1) y0 y1 y2 y3 y4 y5))
  | 0 => fun _ _ _ _ _ _ r h => by simp [kissgateref14_Reg_Tick.j0] at h
  | k + 1 => by
    have ih0 := kissgateref14_Reg_Tick.mono_l k
    · intro y0 y1 y2 y3 y4 y5
      unfold kissgateref14_Reg_Tick.j0
      repeat' first
      | (with_reducible exact ih0 _ _ _ _ _ _)
      | (with_reducible exact LeO.refl _)
      | (with_reducible exact LeO.none _)
      | (with_reducible refine LeO.ite ?_ ?_)
      | (with_reducible refine LeO.bind ?_ (fun _ => ?_))
      | exact ih0 _ _ _ _ _ _
      | exact LeO.none _
      | refine LeO.ite ?_ ?_
      | refine LeO.bind ?_ (fun _ => ?_)
theorem kissgateref14_Reg_Tick.mono : ∀ a0 a1 a2 a3 a4 k, LeO (kissgateref14_Reg_Tick.f k a0 a1 a2 a3 a4) (kissgateref14_Reg_Tick.f (k + 1) a0 a1 a2 a3 a4) := by
  intro a0 a1 a2 a3 a4 k
  have ih0 := kissgateref14_Reg_Tick.mono_l k
  unfold kissgateref14_Reg_Tick.f
  repeat' first
      | (with_reducible exact ih0 _ _ _ _ _ _)
      | (with_reducible exact LeO.refl _)
      | (with_reducible exact LeO.none _)
      | (with_reducible refine LeO.ite ?_ ?_)
      | (with_reducible refine LeO.bind ?_ (fun _ => ?_))
      | exact ih0 _ _ _ _ _ _
      | exact LeO.none _
      | refine LeO.ite ?_ ?_
      | refine LeO.bind ?_ (fun _ => ?_)
set_option maxHeartbeats 8000000 in
set_option maxRecDepth 100000 in
theorem kissgateref14_Reg_Tick.calls (k : Nat) (g : Nat) (s0_0 : Int) (s0_1 : Int) (s0_2 : Int) (s0_3 : Int) (a1 : Int) (r1 : Int) (r2 : Int) (r3 : Int) (r4 : Int) (w0 w : World) (hI : IsS45 w0 w g s0_0 s0_1 s0_2 s0_3) (hB : Below w0.heap.size w0 w) (h : kissgateref14_Reg_Tick.f k s0_0 s0_1 s0_2 s0_3 a1 = some (r1, r2, r3, r4)) :
    Calls Try.prog 24 #[.pointer (some ⟨g, 0, none⟩), .int .i64 a1] w fun e w' => e = .returned (.tuple #[]) ∧ IsS45 w0 w' g r1 r2 r3 r4 ∧ Below w0.heap.size w0 w' ∧ KeepBut w w' g none := by
  have HI0 := Aside0.mk hI
  have HK := Aside0.mk (KeepBut.refl w g none)
  have HL := Aside0.mk hB.size
  clear hI
  have HW0 := Aside0.mk hB.size
  have HB := Aside0.mk hB
  clear hB
  have H : (if s0_1 = 1 then (kissgateref14_Reg_Tick.j0 k a1 (decide (a1 ≥ s0_3)) s0_0 s0_1 s0_2 s0_3) else (kissgateref14_Reg_Tick.j0 k a1 false s0_0 s0_1 s0_2 s0_3)) = some (r1, r2, r3, r4) := h
  clear h
  have HC3 := Aside0.mk H
  clear H
  go_enter Try.func24, Try.ntmps24
  go_upto_region 0 with (fail)
  go_cut [16] (fun v16 wc => ∃ (kq : Nat) (x16_2 : Bool), v16 = .bool x16_2 ∧ Aside0 (kissgateref14_Reg_Tick.j0 kq a1 x16_2 s0_0 s0_1 s0_2 s0_3 = some (r1, r2, r3, r4)) ∧ Aside0 (kq ≤ k) ∧ Aside0 (IsS45 w0 wc g s0_0 s0_1 s0_2 s0_3) ∧ Aside0 (KeepBut w wc g none) ∧ Aside0 (Below w0.heap.size w0 wc))
  case first =>
    have H := HC3.out
    clear HC3
    by_cases c4 : s0_1 = 1
    · rw [if_pos c4] at H
      have c4b0 : (s0_1 == 1) = true := beq_iff_eq.mpr c4
      have c4b1 : (s0_1 != 1) = false := bne_eq_false_iff_eq.mpr c4
      clear c4
      (first | rw [c4b0] | (simp only [i64_w, i32_w]; rw [c4b0]) | skip)
      have H' := Aside0.mk H
      clear H
      obtain ⟨HGz5, hgz5⟩ := HI0.out
      have hcz5_0 := cellS45_0 HGz5
      have hcz5_1 := cellS45_1 HGz5
      have hcz5_2 := cellS45_2 HGz5
      have hcz5_3 := cellS45_3 HGz5
      have hfz5_0 := blk_frozen HGz5 0
      have hfz5_1 := blk_frozen HGz5 1
      have hfz5_2 := blk_frozen HGz5 2
      have hfz5_3 := blk_frozen HGz5 3
      clear HGz5 hgz5
      go_wp2
      go_meet
      case rel => exact ⟨_, (decide (a1 ≥ s0_3)), (by first | rfl | (simp; done) | (simp [show ∀ l_ : List UInt8, (l_ != []) = !l_.isEmpty from fun l_ => by cases l_ <;> rfl]; done) | (simp [*]; done)), H', ⟨by first | omega | exact Nat.le_refl _⟩, ⟨by repeat (first | (with_reducible first | exact HI0.out | apply IsS45.alloc | apply IsS45.drewN | apply IsS45.drew | apply IsS45.set_0 | apply IsS45.set_1 | apply IsS45.set_2 | apply IsS45.set_3) | exact HI0.out)⟩, ⟨by repeat (first | (with_reducible first | exact HK.out | apply KeepBut.set_ | apply keep_drewN | apply keep_drew | apply keep_alloc) | exact HK.out)⟩, ⟨by repeat (first | (with_reducible first | exact HB.out | apply below_alloc | apply pw_below_drewN | apply below_drew1 | refine below_set ?_ (IsS45.ge HI0.out)) | exact HB.out)⟩⟩
    · rw [if_neg c4] at H
      have c4b0 : (s0_1 == 1) = false := beq_eq_false_iff_ne.mpr c4
      have c4b1 : (s0_1 != 1) = true := bne_iff_ne.mpr c4
      (first | rw [c4b0] | (simp only [i64_w, i32_w]; rw [c4b0]) | skip)
      have H' := Aside0.mk H
      clear H
      obtain ⟨HGz6, hgz6⟩ := HI0.out
      have hcz6_0 := cellS45_0 HGz6
      have hcz6_1 := cellS45_1 HGz6
      have hcz6_2 := cellS45_2 HGz6
      have hcz6_3 := cellS45_3 HGz6
      have hfz6_0 := blk_frozen HGz6 0
      have hfz6_1 := blk_frozen HGz6 1
      have hfz6_2 := blk_frozen HGz6 2
      have hfz6_3 := blk_frozen HGz6 3
      clear HGz6 hgz6
      go_wp2
      go_meet
      case rel => exact ⟨_, (false), (by first | rfl | (simp; done) | (simp [show ∀ l_ : List UInt8, (l_ != []) = !l_.isEmpty from fun l_ => by cases l_ <;> rfl]; done) | (simp [*]; done)), H', ⟨by first | omega | exact Nat.le_refl _⟩, ⟨by repeat (first | (with_reducible first | exact HI0.out | apply IsS45.alloc | apply IsS45.drewN | apply IsS45.drew | apply IsS45.set_0 | apply IsS45.set_1 | apply IsS45.set_2 | apply IsS45.set_3) | exact HI0.out)⟩, ⟨by repeat (first | (with_reducible first | exact HK.out | apply KeepBut.set_ | apply keep_drewN | apply keep_drew | apply keep_alloc) | exact HK.out)⟩, ⟨by repeat (first | (with_reducible first | exact HB.out | apply below_alloc | apply pw_below_drewN | apply below_drew1 | refine below_set ?_ (IsS45.ge HI0.out)) | exact HB.out)⟩⟩
  case rest =>
    clear HC3
    try clear c2
    try clear p2
    try clear c4
    try clear c4b0
    try clear c4b1
    try clear hcz5_0
    try clear hcz5_1
    try clear hcz5_2
    try clear hcz5_3
    try clear hcz6_0
    try clear hcz6_1
    try clear hcz6_2
    try clear hcz6_3
    try clear hfz5_0
    try clear hfz5_1
    try clear hfz5_2
    try clear hfz5_3
    try clear hfz6_0
    try clear hfz6_1
    try clear hfz6_2
    try clear hfz6_3
    obtain ⟨kq, x16_2, rfl, HA, HJ2, HI0, HK, HB⟩ := hcut
    cases kq with
    | zero => exact absurd HA.out (by simp [kissgateref14_Reg_Tick.j0])
    | succ kj2 =>
      have H := HA.out
      clear HA
      simp only [kissgateref14_Reg_Tick.j0] at H
      by_cases c7 : x16_2 = true
      · subst c7
        have H1 : ((kissgateref14_Reg_Step.f s0_0 s0_1 s0_2 s0_3 3 a1).bind fun bt228 => (if bt228.2.1 = 0 then (some (bt228.1, bt228.2.1, bt228.2.2.1, bt228.2.2.2)) else (if (wrap64 (a1 - bt228.2.2.1)) > 120 then ((kissgateref14_Reg_Step.f bt228.1 bt228.2.1 bt228.2.2.1 bt228.2.2.2 4 a1).bind fun bt232 => (some (bt232.1, bt232.2.1, bt232.2.2.1, bt232.2.2.2))) else (some (bt228.1, bt228.2.1, bt228.2.2.1, bt228.2.2.2))))) = some (r1, r2, r3, r4) := by rw [if_pos rfl] at H; exact H
        clear H
        have H := H1
        clear H1
        replace H := Option.bind_eq_some_iff.mp H
        obtain ⟨⟨t228, t229, t230, t231⟩, A80, H⟩ := H
        replace H : (if t229 = 0 then (some (t228, t229, t230, t231)) else (if (wrap64 (a1 - t230)) > 120 then ((kissgateref14_Reg_Step.f t228 t229 t230 t231 4 a1).bind fun bt232 => (some (bt232.1, bt232.2.1, bt232.2.2.1, bt232.2.2.2))) else (some (t228, t229, t230, t231)))) = some (r1, r2, r3, r4) := H
        have A8 := Aside0.mk A80
        clear A80
        by_cases c9 : t229 = 0
        · rw [if_pos c9] at H
          have c9b0 : (t229 == 0) = true := beq_iff_eq.mpr c9
          have c9b1 : (t229 != 0) = false := bne_eq_false_iff_eq.mpr c9
          clear c9
          simp only [Option.some.injEq, Prod.mk.injEq] at H
          obtain ⟨rfl, rfl, rfl, rfl⟩ := H
          go_wp2_with (first | ((with_reducible refine gate_callee (f := 23) rfl ?_); refine goesL_ (some 19) rfl rfl Try.func23 (by kernel_rfl) rfl #[.pointer (some ⟨g, 0, none⟩), .int .i64 3, .int .i64 a1] rfl (by (try simp only [List.map_toArray, List.map_cons, List.map_nil]); first | done | rfl | (simp only [List.length_drop, List.length_take]; rfl) | (go_simp; first | done | (unfold wrap64; omega))) ?_; (with_reducible refine (kissgateref14_Reg_Step.calls g s0_0 s0_1 s0_2 s0_3 3 a1 t228 t229 t230 t231 w0 _ ?side1 ?side2 A8.out).mono ?_); (case side1 => repeat (first | (with_reducible first | exact HI0.out | apply IsS45.alloc | apply IsS45.drewN | apply IsS45.drew | apply IsS45.set_0 | apply IsS45.set_1 | apply IsS45.set_2 | apply IsS45.set_3) | exact HI0.out)); (case side2 => repeat (first | (with_reducible first | exact HB.out | apply below_alloc | apply pw_below_drewN | apply below_drew1 | refine below_set ?_ (IsS45.ge HI0.out)) | exact HB.out)); rintro e w10 ⟨rfl, hi, hb, hk⟩; refine ⟨_, rfl, ?_⟩; have n0_ := Aside0.mk (KeepBut.trans (by repeat (first | (with_reducible first | exact HK.out | apply KeepBut.set_ | apply keep_drewN | apply keep_drew | apply keep_alloc) | exact HK.out)) hk (.inl rfl)); have n1_ := Aside0.mk (hb); have n2_ := Aside0.mk (hi); clear HK; clear HB; clear HI0; have HK := n0_; have HB := n1_; have HI0 := n2_; clear n0_ n1_ n2_; (try clear hb); (try clear hb2); (try clear hk); (try clear hi); obtain ⟨HGz11, hgz11⟩ := HI0.out; have hcz11_0 := cellS45_0 HGz11; have hcz11_1 := cellS45_1 HGz11; have hcz11_2 := cellS45_2 HGz11; have hcz11_3 := cellS45_3 HGz11; have hfz11_0 := blk_frozen HGz11 0; have hfz11_1 := blk_frozen HGz11 1; have hfz11_2 := blk_frozen HGz11 2; have hfz11_3 := blk_frozen HGz11 3; clear HGz11 hgz11))
          first | go_end0 | ((try simp only [Exit.inBlock, Exit.then]); refine bodyPost_ret (results_none rfl _ _ _) rfl ?_)
          exact ⟨by first | rfl | (simp [show ∀ l_ : List UInt8, (l_ == []) = l_.isEmpty from fun l_ => by cases l_ <;> rfl]; done) | (simp [errW_none, errW_some] <;> rfl) | ((repeat rw [Int.tdiv_eq_ediv_of_nonneg (by omega)]); (repeat rw [Int.tmod_eq_emod_of_nonneg (by omega)]); first | rfl | (simp [errW_none, errW_some] <;> rfl)) | (simp [*, errW_none, errW_some] <;> rfl), by repeat (first | (with_reducible first | exact HI0.out | apply IsS45.alloc | apply IsS45.drewN | apply IsS45.drew | apply IsS45.set_0 | apply IsS45.set_1 | apply IsS45.set_2 | apply IsS45.set_3) | exact HI0.out), by repeat (first | (with_reducible first | exact HB.out | apply below_alloc | apply pw_below_drewN | apply below_drew1 | refine below_set ?_ (IsS45.ge HI0.out)) | exact HB.out), by repeat (first | (with_reducible first | exact HK.out | apply KeepBut.set_ | apply keep_drewN | apply keep_drew | apply keep_alloc) | exact HK.out)⟩
        · rw [if_neg c9] at H
          have c9b0 : (t229 == 0) = false := beq_eq_false_iff_ne.mpr c9
          have c9b1 : (t229 != 0) = true := bne_iff_ne.mpr c9
          by_cases c12 : (wrap64 (a1 - t230)) > 120
          · rw [if_pos c12] at H
            have c12b0 : decide (120 < (wrap64 (a1 - t230))) = true := decide_eq_true c12
            clear c12
            replace H := Option.bind_eq_some_iff.mp H
            obtain ⟨⟨t232, t233, t234, t235⟩, A130, H⟩ := H
            replace H : (some (t232, t233, t234, t235)) = some (r1, r2, r3, r4) := H
            have A13 := Aside0.mk A130
            clear A130
            simp only [Option.some.injEq, Prod.mk.injEq] at H
            obtain ⟨rfl, rfl, rfl, rfl⟩ := H
            go_wp2_with (first | ((with_reducible refine gate_callee (f := 23) rfl ?_); refine goesL_ (some 19) rfl rfl Try.func23 (by kernel_rfl) rfl #[.pointer (some ⟨g, 0, none⟩), .int .i64 3, .int .i64 a1] rfl (by (try simp only [List.map_toArray, List.map_cons, List.map_nil]); first | done | rfl | (simp only [List.length_drop, List.length_take]; rfl) | (go_simp; first | done | (unfold wrap64; omega))) ?_; (with_reducible refine (kissgateref14_Reg_Step.calls g s0_0 s0_1 s0_2 s0_3 3 a1 t228 t229 t230 t231 w0 _ ?side1 ?side2 A8.out).mono ?_); (case side1 => repeat (first | (with_reducible first | exact HI0.out | apply IsS45.alloc | apply IsS45.drewN | apply IsS45.drew | apply IsS45.set_0 | apply IsS45.set_1 | apply IsS45.set_2 | apply IsS45.set_3) | exact HI0.out)); (case side2 => repeat (first | (with_reducible first | exact HB.out | apply below_alloc | apply pw_below_drewN | apply below_drew1 | refine below_set ?_ (IsS45.ge HI0.out)) | exact HB.out)); rintro e w14 ⟨rfl, hi, hb, hk⟩; refine ⟨_, rfl, ?_⟩; have n0_ := Aside0.mk (KeepBut.trans (by repeat (first | (with_reducible first | exact HK.out | apply KeepBut.set_ | apply keep_drewN | apply keep_drew | apply keep_alloc) | exact HK.out)) hk (.inl rfl)); have n1_ := Aside0.mk (hb); have n2_ := Aside0.mk (hi); clear HK; clear HB; clear HI0; have HK := n0_; have HB := n1_; have HI0 := n2_; clear n0_ n1_ n2_; (try clear hb); (try clear hb2); (try clear hk); (try clear hi); obtain ⟨HGz15, hgz15⟩ := HI0.out; have hcz15_0 := cellS45_0 HGz15; have hcz15_1 := cellS45_1 HGz15; have hcz15_2 := cellS45_2 HGz15; have hcz15_3 := cellS45_3 HGz15; have hfz15_0 := blk_frozen HGz15 0; have hfz15_1 := blk_frozen HGz15 1; have hfz15_2 := blk_frozen HGz15 2; have hfz15_3 := blk_frozen HGz15 3; clear HGz15 hgz15) | ((with_reducible refine gate_callee (f := 23) rfl ?_); refine goesL_ (some 36) rfl rfl Try.func23 (by kernel_rfl) rfl #[.pointer (some ⟨g, 0, none⟩), .int .i64 4, .int .i64 a1] rfl (by (try simp only [List.map_toArray, List.map_cons, List.map_nil]); first | done | rfl | (simp only [List.length_drop, List.length_take]; rfl) | (go_simp; first | done | (unfold wrap64; omega))) ?_; (with_reducible refine (kissgateref14_Reg_Step.calls g t228 t229 t230 t231 4 a1 t232 t233 t234 t235 w0 _ ?side1 ?side2 A13.out).mono ?_); (case side1 => repeat (first | (with_reducible first | exact HI0.out | apply IsS45.alloc | apply IsS45.drewN | apply IsS45.drew | apply IsS45.set_0 | apply IsS45.set_1 | apply IsS45.set_2 | apply IsS45.set_3) | exact HI0.out)); (case side2 => repeat (first | (with_reducible first | exact HB.out | apply below_alloc | apply pw_below_drewN | apply below_drew1 | refine below_set ?_ (IsS45.ge HI0.out)) | exact HB.out)); rintro e w16 ⟨rfl, hi, hb, hk⟩; refine ⟨_, rfl, ?_⟩; have n0_ := Aside0.mk (KeepBut.trans (by repeat (first | (with_reducible first | exact HK.out | apply KeepBut.set_ | apply keep_drewN | apply keep_drew | apply keep_alloc) | exact HK.out)) hk (.inl rfl)); have n1_ := Aside0.mk (hb); have n2_ := Aside0.mk (hi); clear HK; clear HB; clear HI0; have HK := n0_; have HB := n1_; have HI0 := n2_; clear n0_ n1_ n2_; (try clear hb); (try clear hb2); (try clear hk); (try clear hi)))
            first | go_end0 | ((try simp only [Exit.inBlock, Exit.then]); refine bodyPost_ret (results_none rfl _ _ _) rfl ?_)
            exact ⟨by first | rfl | (simp [show ∀ l_ : List UInt8, (l_ == []) = l_.isEmpty from fun l_ => by cases l_ <;> rfl]; done) | (simp [errW_none, errW_some] <;> rfl) | ((repeat rw [Int.tdiv_eq_ediv_of_nonneg (by omega)]); (repeat rw [Int.tmod_eq_emod_of_nonneg (by omega)]); first | rfl | (simp [errW_none, errW_some] <;> rfl)) | (simp [*, errW_none, errW_some] <;> rfl), by repeat (first | (with_reducible first | exact HI0.out | apply IsS45.alloc | apply IsS45.drewN | apply IsS45.drew | apply IsS45.set_0 | apply IsS45.set_1 | apply IsS45.set_2 | apply IsS45.set_3) | exact HI0.out), by repeat (first | (with_reducible first | exact HB.out | apply below_alloc | apply pw_below_drewN | apply below_drew1 | refine below_set ?_ (IsS45.ge HI0.out)) | exact HB.out), by repeat (first | (with_reducible first | exact HK.out | apply KeepBut.set_ | apply keep_drewN | apply keep_drew | apply keep_alloc) | exact HK.out)⟩
          · rw [if_neg c12] at H
            have c12b0 : decide (120 < (wrap64 (a1 - t230))) = false := decide_eq_false c12
            clear c12
            simp only [Option.some.injEq, Prod.mk.injEq] at H
            obtain ⟨rfl, rfl, rfl, rfl⟩ := H
            go_wp2_with (first | ((with_reducible refine gate_callee (f := 23) rfl ?_); refine goesL_ (some 19) rfl rfl Try.func23 (by kernel_rfl) rfl #[.pointer (some ⟨g, 0, none⟩), .int .i64 3, .int .i64 a1] rfl (by (try simp only [List.map_toArray, List.map_cons, List.map_nil]); first | done | rfl | (simp only [List.length_drop, List.length_take]; rfl) | (go_simp; first | done | (unfold wrap64; omega))) ?_; (with_reducible refine (kissgateref14_Reg_Step.calls g s0_0 s0_1 s0_2 s0_3 3 a1 t228 t229 t230 t231 w0 _ ?side1 ?side2 A8.out).mono ?_); (case side1 => repeat (first | (with_reducible first | exact HI0.out | apply IsS45.alloc | apply IsS45.drewN | apply IsS45.drew | apply IsS45.set_0 | apply IsS45.set_1 | apply IsS45.set_2 | apply IsS45.set_3) | exact HI0.out)); (case side2 => repeat (first | (with_reducible first | exact HB.out | apply below_alloc | apply pw_below_drewN | apply below_drew1 | refine below_set ?_ (IsS45.ge HI0.out)) | exact HB.out)); rintro e w17 ⟨rfl, hi, hb, hk⟩; refine ⟨_, rfl, ?_⟩; have n0_ := Aside0.mk (KeepBut.trans (by repeat (first | (with_reducible first | exact HK.out | apply KeepBut.set_ | apply keep_drewN | apply keep_drew | apply keep_alloc) | exact HK.out)) hk (.inl rfl)); have n1_ := Aside0.mk (hb); have n2_ := Aside0.mk (hi); clear HK; clear HB; clear HI0; have HK := n0_; have HB := n1_; have HI0 := n2_; clear n0_ n1_ n2_; (try clear hb); (try clear hb2); (try clear hk); (try clear hi); obtain ⟨HGz18, hgz18⟩ := HI0.out; have hcz18_0 := cellS45_0 HGz18; have hcz18_1 := cellS45_1 HGz18; have hcz18_2 := cellS45_2 HGz18; have hcz18_3 := cellS45_3 HGz18; have hfz18_0 := blk_frozen HGz18 0; have hfz18_1 := blk_frozen HGz18 1; have hfz18_2 := blk_frozen HGz18 2; have hfz18_3 := blk_frozen HGz18 3; clear HGz18 hgz18))
            first | go_end0 | ((try simp only [Exit.inBlock, Exit.then]); refine bodyPost_ret (results_none rfl _ _ _) rfl ?_)
            exact ⟨by first | rfl | (simp [show ∀ l_ : List UInt8, (l_ == []) = l_.isEmpty from fun l_ => by cases l_ <;> rfl]; done) | (simp [errW_none, errW_some] <;> rfl) | ((repeat rw [Int.tdiv_eq_ediv_of_nonneg (by omega)]); (repeat rw [Int.tmod_eq_emod_of_nonneg (by omega)]); first | rfl | (simp [errW_none, errW_some] <;> rfl)) | (simp [*, errW_none, errW_some] <;> rfl), by repeat (first | (with_reducible first | exact HI0.out | apply IsS45.alloc | apply IsS45.drewN | apply IsS45.drew | apply IsS45.set_0 | apply IsS45.set_1 | apply IsS45.set_2 | apply IsS45.set_3) | exact HI0.out), by repeat (first | (with_reducible first | exact HB.out | apply below_alloc | apply pw_below_drewN | apply below_drew1 | refine below_set ?_ (IsS45.ge HI0.out)) | exact HB.out), by repeat (first | (with_reducible first | exact HK.out | apply KeepBut.set_ | apply keep_drewN | apply keep_drew | apply keep_alloc) | exact HK.out)⟩
      · replace c7 := Bool.eq_false_iff.mpr c7
        subst c7
        have H1 : (if s0_1 = 0 then (some (s0_0, s0_1, s0_2, s0_3)) else (if (wrap64 (a1 - s0_2)) > 120 then ((kissgateref14_Reg_Step.f s0_0 s0_1 s0_2 s0_3 4 a1).bind fun bt236 => (some (bt236.1, bt236.2.1, bt236.2.2.1, bt236.2.2.2))) else (some (s0_0, s0_1, s0_2, s0_3)))) = some (r1, r2, r3, r4) := by rw [if_neg (show ¬ (false = true) by decide)] at H; exact H
        clear H
        have H := H1
        clear H1
        by_cases c19 : s0_1 = 0
        · rw [if_pos c19] at H
          have c19b0 : (s0_1 == 0) = true := beq_iff_eq.mpr c19
          have c19b1 : (s0_1 != 0) = false := bne_eq_false_iff_eq.mpr c19
          clear c19
          simp only [Option.some.injEq, Prod.mk.injEq] at H
          obtain ⟨rfl, rfl, rfl, rfl⟩ := H
          obtain ⟨HGz20, hgz20⟩ := HI0.out
          have hcz20_0 := cellS45_0 HGz20
          have hcz20_1 := cellS45_1 HGz20
          have hcz20_2 := cellS45_2 HGz20
          have hcz20_3 := cellS45_3 HGz20
          have hfz20_0 := blk_frozen HGz20 0
          have hfz20_1 := blk_frozen HGz20 1
          have hfz20_2 := blk_frozen HGz20 2
          have hfz20_3 := blk_frozen HGz20 3
          clear HGz20 hgz20
          go_wp2
          first | go_end0 | ((try simp only [Exit.inBlock, Exit.then]); refine bodyPost_ret (results_none rfl _ _ _) rfl ?_)
          exact ⟨by first | rfl | (simp [show ∀ l_ : List UInt8, (l_ == []) = l_.isEmpty from fun l_ => by cases l_ <;> rfl]; done) | (simp [errW_none, errW_some] <;> rfl) | ((repeat rw [Int.tdiv_eq_ediv_of_nonneg (by omega)]); (repeat rw [Int.tmod_eq_emod_of_nonneg (by omega)]); first | rfl | (simp [errW_none, errW_some] <;> rfl)) | (simp [*, errW_none, errW_some] <;> rfl), by repeat (first | (with_reducible first | exact HI0.out | apply IsS45.alloc | apply IsS45.drewN | apply IsS45.drew | apply IsS45.set_0 | apply IsS45.set_1 | apply IsS45.set_2 | apply IsS45.set_3) | exact HI0.out), by repeat (first | (with_reducible first | exact HB.out | apply below_alloc | apply pw_below_drewN | apply below_drew1 | refine below_set ?_ (IsS45.ge HI0.out)) | exact HB.out), by repeat (first | (with_reducible first | exact HK.out | apply KeepBut.set_ | apply keep_drewN | apply keep_drew | apply keep_alloc) | exact HK.out)⟩
        · rw [if_neg c19] at H
          have c19b0 : (s0_1 == 0) = false := beq_eq_false_iff_ne.mpr c19
          have c19b1 : (s0_1 != 0) = true := bne_iff_ne.mpr c19
          by_cases c21 : (wrap64 (a1 - s0_2)) > 120
          · rw [if_pos c21] at H
            have c21b0 : decide (120 < (wrap64 (a1 - s0_2))) = true := decide_eq_true c21
            clear c21
            replace H := Option.bind_eq_some_iff.mp H
            obtain ⟨⟨t236, t237, t238, t239⟩, A220, H⟩ := H
            replace H : (some (t236, t237, t238, t239)) = some (r1, r2, r3, r4) := H
            have A22 := Aside0.mk A220
            clear A220
            simp only [Option.some.injEq, Prod.mk.injEq] at H
            obtain ⟨rfl, rfl, rfl, rfl⟩ := H
            obtain ⟨HGz23, hgz23⟩ := HI0.out
            have hcz23_0 := cellS45_0 HGz23
            have hcz23_1 := cellS45_1 HGz23
            have hcz23_2 := cellS45_2 HGz23
            have hcz23_3 := cellS45_3 HGz23
            have hfz23_0 := blk_frozen HGz23 0
            have hfz23_1 := blk_frozen HGz23 1
            have hfz23_2 := blk_frozen HGz23 2
            have hfz23_3 := blk_frozen HGz23 3
            clear HGz23 hgz23
            go_wp2_with (first | ((with_reducible refine gate_callee (f := 23) rfl ?_); refine goesL_ (some 36) rfl rfl Try.func23 (by kernel_rfl) rfl #[.pointer (some ⟨g, 0, none⟩), .int .i64 4, .int .i64 a1] rfl (by (try simp only [List.map_toArray, List.map_cons, List.map_nil]); first | done | rfl | (simp only [List.length_drop, List.length_take]; rfl) | (go_simp; first | done | (unfold wrap64; omega))) ?_; (with_reducible refine (kissgateref14_Reg_Step.calls g s0_0 s0_1 s0_2 s0_3 4 a1 t236 t237 t238 t239 w0 _ ?side1 ?side2 A22.out).mono ?_); (case side1 => repeat (first | (with_reducible first | exact HI0.out | apply IsS45.alloc | apply IsS45.drewN | apply IsS45.drew | apply IsS45.set_0 | apply IsS45.set_1 | apply IsS45.set_2 | apply IsS45.set_3) | exact HI0.out)); (case side2 => repeat (first | (with_reducible first | exact HB.out | apply below_alloc | apply pw_below_drewN | apply below_drew1 | refine below_set ?_ (IsS45.ge HI0.out)) | exact HB.out)); rintro e w24 ⟨rfl, hi, hb, hk⟩; refine ⟨_, rfl, ?_⟩; have n0_ := Aside0.mk (KeepBut.trans (by repeat (first | (with_reducible first | exact HK.out | apply KeepBut.set_ | apply keep_drewN | apply keep_drew | apply keep_alloc) | exact HK.out)) hk (.inl rfl)); have n1_ := Aside0.mk (hb); have n2_ := Aside0.mk (hi); clear HK; clear HB; clear HI0; have HK := n0_; have HB := n1_; have HI0 := n2_; clear n0_ n1_ n2_; (try clear hb); (try clear hb2); (try clear hk); (try clear hi)))
            first | go_end0 | ((try simp only [Exit.inBlock, Exit.then]); refine bodyPost_ret (results_none rfl _ _ _) rfl ?_)
            exact ⟨by first | rfl | (simp [show ∀ l_ : List UInt8, (l_ == []) = l_.isEmpty from fun l_ => by cases l_ <;> rfl]; done) | (simp [errW_none, errW_some] <;> rfl) | ((repeat rw [Int.tdiv_eq_ediv_of_nonneg (by omega)]); (repeat rw [Int.tmod_eq_emod_of_nonneg (by omega)]); first | rfl | (simp [errW_none, errW_some] <;> rfl)) | (simp [*, errW_none, errW_some] <;> rfl), by repeat (first | (with_reducible first | exact HI0.out | apply IsS45.alloc | apply IsS45.drewN | apply IsS45.drew | apply IsS45.set_0 | apply IsS45.set_1 | apply IsS45.set_2 | apply IsS45.set_3) | exact HI0.out), by repeat (first | (with_reducible first | exact HB.out | apply below_alloc | apply pw_below_drewN | apply below_drew1 | refine below_set ?_ (IsS45.ge HI0.out)) | exact HB.out), by repeat (first | (with_reducible first | exact HK.out | apply KeepBut.set_ | apply keep_drewN | apply keep_drew | apply keep_alloc) | exact HK.out)⟩
          · rw [if_neg c21] at H
            have c21b0 : decide (120 < (wrap64 (a1 - s0_2))) = false := decide_eq_false c21
            clear c21
            simp only [Option.some.injEq, Prod.mk.injEq] at H
            obtain ⟨rfl, rfl, rfl, rfl⟩ := H
            obtain ⟨HGz25, hgz25⟩ := HI0.out
            have hcz25_0 := cellS45_0 HGz25
            have hcz25_1 := cellS45_1 HGz25
            have hcz25_2 := cellS45_2 HGz25
            have hcz25_3 := cellS45_3 HGz25
            have hfz25_0 := blk_frozen HGz25 0
            have hfz25_1 := blk_frozen HGz25 1
            have hfz25_2 := blk_frozen HGz25 2
            have hfz25_3 := blk_frozen HGz25 3
            clear HGz25 hgz25
            go_wp2
            first | go_end0 | ((try simp only [Exit.inBlock, Exit.then]); refine bodyPost_ret (results_none rfl _ _ _) rfl ?_)
            exact ⟨by first | rfl | (simp [show ∀ l_ : List UInt8, (l_ == []) = l_.isEmpty from fun l_ => by cases l_ <;> rfl]; done) | (simp [errW_none, errW_some] <;> rfl) | ((repeat rw [Int.tdiv_eq_ediv_of_nonneg (by omega)]); (repeat rw [Int.tmod_eq_emod_of_nonneg (by omega)]); first | rfl | (simp [errW_none, errW_some] <;> rfl)) | (simp [*, errW_none, errW_some] <;> rfl), by repeat (first | (with_reducible first | exact HI0.out | apply IsS45.alloc | apply IsS45.drewN | apply IsS45.drew | apply IsS45.set_0 | apply IsS45.set_1 | apply IsS45.set_2 | apply IsS45.set_3) | exact HI0.out), by repeat (first | (with_reducible first | exact HB.out | apply below_alloc | apply pw_below_drewN | apply below_drew1 | refine below_set ?_ (IsS45.ge HI0.out)) | exact HB.out), by repeat (first | (with_reducible first | exact HK.out | apply KeepBut.set_ | apply keep_drewN | apply keep_drew | apply keep_alloc) | exact HK.out)⟩

end Go.Proofs.Ytgmnkilnajkidaa.PRegisDoes
