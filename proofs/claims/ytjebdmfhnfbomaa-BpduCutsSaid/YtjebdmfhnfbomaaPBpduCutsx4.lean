-- Written by a program of this session (see NOTES.md), which reads the translation's print; Lean checks it.
import Derived.Test.YtjebdmfhnfbomaaPBpduCutsx0
import Derived.Test.YtjebdmfhnfbomaaPBpduCutsx1
import Derived.Test.YtjebdmfhnfbomaaPBpduCutsx2
import Derived.Test.YtjebdmfhnfbomaaPBpduCutsx3
namespace Go.Proofs.Ytjebdmfhnfbomaa.PBpduCuts
open Go.RowKit Go.Proofs.YtjebdmfhnfbomaaW.PrintWords Go.Proofs.YtjebdmfhnfbomaaW.PrintLast Go.Proofs.YtjebdmfhnfbomaaW.PrintMore
attribute [local go_sem] max2_int min2_int max_two min_two max_three min_three max_four min_four   -- for this text's walks alone
set_option linter.unusedVariables false
set_option linter.unusedSimpArgs false

/-! ### kissgatelaw08_BpduCuts: function 6 -/
def kissgatelaw08_BpduCuts.j0 : Nat → Int → ByteArray → Bool → Int → Int → Int → Int → Int → Int → Bool → Option (Bool)
  | 0, _, _, _, _, _, _, _, _, _, _ => none
  | k + 1, x1, x2, x25, x213000, x213001, x213002, x213003, x213004, x213005, x213006 => if x25 = true then (some true) else ((kissgateref08_Bytes.f k x213000 x213001 x213002 x213003 x213004 x213005 x213006).bind fun t215 => (if 0 ≤ (wrap64 (Int.tmod (IntKind.u64.wrap (x1)) 36)) then (if (wrap64 (Int.tmod (IntKind.u64.wrap (x1)) 36)) ≤ (t215.size : Int) then ((bpdu_Read.f k (t215.extract 0 ((wrap64 (Int.tmod (IntKind.u64.wrap (x1)) 36)) : Int).toNat)).bind fun bt216 => (if t215.size + x2.size ≤ 9223372036854775807 then ((bpdu_Read.f k (t215 ++ x2)).bind fun bt225 => (if bt216.2.2.2.2.2.2.2 = 4 then (some (bt225.2.2.2.2.2.2.2 == 4)) else (some false))) else (none))) else (none)) else (none)))
def kissgatelaw08_BpduCuts.f (k : Nat) (a0_0 : Int) (a0_1 : Int) (a0_2 : Int) (a0_3 : Int) (a0_4 : Int) (a0_5 : Int) (a0_6 : Bool) (a1 : Int) (a2 : ByteArray) : Option (Bool) := (kissgatelaw08_alive.f k).bind fun t213 => (if t213 = true then ((kissgateref08_Good.f a0_0 a0_1 a0_2 a0_3 a0_4 a0_5 a0_6).bind fun t214 => (if t214 = true then (if (a2.size : Int) > 100 then (kissgatelaw08_BpduCuts.j0 k a1 a2 true a0_0 a0_1 a0_2 a0_3 a0_4 a0_5 a0_6) else (kissgatelaw08_BpduCuts.j0 k a1 a2 (a2.toList == ([] : List UInt8)) a0_0 a0_1 a0_2 a0_3 a0_4 a0_5 a0_6)) else (kissgatelaw08_BpduCuts.j0 k a1 a2 true a0_0 a0_1 a0_2 a0_3 a0_4 a0_5 a0_6))) else (some false))
theorem kissgatelaw08_BpduCuts.mono_l : ∀ k, (∀ y0 y1 y2 y3 y4 y5 y6 y7 y8 y9, LeO (kissgatelaw08_BpduCuts.j0 k y0 y1 y2 y3 y4 y5 y6 y7 y8 y9) (kissgatelaw08_BpduCuts.j0 (k + 1) y0 y1 y2 y3 y4 y5 y6 y7 y8 y9))
  | 0 => fun _ _ _ _ _ _ _ _ _ _ r h => by simp [kissgatelaw08_BpduCuts.j0] at h
  | k + 1 => by
    have ih0 := kissgatelaw08_BpduCuts.mono_l k
    · intro y0 y1 y2 y3 y4 y5 y6 y7 y8 y9
      unfold kissgatelaw08_BpduCuts.j0
      repeat' first
      | (with_reducible exact ih0 _ _ _ _ _ _ _ _ _ _)
      | (with_reducible exact bpdu_Read.mono _ _)
      | (with_reducible exact kissgatelaw08_alive.mono _)
      | (with_reducible exact kissgateref08_Bytes.mono _ _ _ _ _ _ _ _)
      | (with_reducible exact LeO.refl _)
      | (with_reducible exact LeO.none _)
      | (with_reducible refine LeO.ite ?_ ?_)
      | (with_reducible refine LeO.bind ?_ (fun _ => ?_))
      | exact ih0 _ _ _ _ _ _ _ _ _ _
      | exact bpdu_Read.mono _ _
      | exact kissgatelaw08_alive.mono _
      | exact kissgateref08_Bytes.mono _ _ _ _ _ _ _ _
      | exact LeO.none _
      | refine LeO.ite ?_ ?_
      | refine LeO.bind ?_ (fun _ => ?_)
theorem kissgatelaw08_BpduCuts.mono : ∀ a0 a1 a2 a3 a4 a5 a6 a7 a8 k, LeO (kissgatelaw08_BpduCuts.f k a0 a1 a2 a3 a4 a5 a6 a7 a8) (kissgatelaw08_BpduCuts.f (k + 1) a0 a1 a2 a3 a4 a5 a6 a7 a8) := by
  intro a0 a1 a2 a3 a4 a5 a6 a7 a8 k
  have ih0 := kissgatelaw08_BpduCuts.mono_l k
  unfold kissgatelaw08_BpduCuts.f
  repeat' first
      | (with_reducible exact ih0 _ _ _ _ _ _ _ _ _ _)
      | (with_reducible exact bpdu_Read.mono _ _)
      | (with_reducible exact kissgatelaw08_alive.mono _)
      | (with_reducible exact kissgateref08_Bytes.mono _ _ _ _ _ _ _ _)
      | (with_reducible exact LeO.refl _)
      | (with_reducible exact LeO.none _)
      | (with_reducible refine LeO.ite ?_ ?_)
      | (with_reducible refine LeO.bind ?_ (fun _ => ?_))
      | exact ih0 _ _ _ _ _ _ _ _ _ _
      | exact bpdu_Read.mono _ _
      | exact kissgatelaw08_alive.mono _
      | exact kissgateref08_Bytes.mono _ _ _ _ _ _ _ _
      | exact LeO.none _
      | refine LeO.ite ?_ ?_
      | refine LeO.bind ?_ (fun _ => ?_)
set_option maxHeartbeats 8000000 in
set_option maxRecDepth 100000 in
theorem kissgatelaw08_BpduCuts.calls (k : Nat) (a0_0 : Int) (a0_1 : Int) (a0_2 : Int) (a0_3 : Int) (a0_4 : Int) (a0_5 : Int) (a0_6 : Bool) (a1 : Int) (a2 : ByteArray) (r : Bool) (w : World) (h : kissgatelaw08_BpduCuts.f k a0_0 a0_1 a0_2 a0_3 a0_4 a0_5 a0_6 a1 a2 = some r) :
    Calls Try.prog 6 #[.agg #[.int .i64 a0_0, .int .i64 a0_1, .int .i64 a0_2, .int .i64 a0_3, .int .i64 a0_4, .int .i64 a0_5, .bool a0_6], .int .i64 a1, .string a2] w fun e w' => e = .returned (.bool r) ∧ Below w.heap.size w w' := by
  have hu29 := Try.underlying29
  have HB := Aside0.mk (Below.refl w.heap.size w)
  have H : ((kissgatelaw08_alive.f k).bind fun t213 => (if t213 = true then ((kissgateref08_Good.f a0_0 a0_1 a0_2 a0_3 a0_4 a0_5 a0_6).bind fun t214 => (if t214 = true then (if (a2.size : Int) > 100 then (kissgatelaw08_BpduCuts.j0 k a1 a2 true a0_0 a0_1 a0_2 a0_3 a0_4 a0_5 a0_6) else (kissgatelaw08_BpduCuts.j0 k a1 a2 (a2.toList == ([] : List UInt8)) a0_0 a0_1 a0_2 a0_3 a0_4 a0_5 a0_6)) else (kissgatelaw08_BpduCuts.j0 k a1 a2 true a0_0 a0_1 a0_2 a0_3 a0_4 a0_5 a0_6))) else (some false))) = some r := h
  clear h
  replace H := Option.bind_eq_some_iff.mp H
  obtain ⟨t213, A40, H⟩ := H
  replace H : (if t213 = true then ((kissgateref08_Good.f a0_0 a0_1 a0_2 a0_3 a0_4 a0_5 a0_6).bind fun t214 => (if t214 = true then (if (a2.size : Int) > 100 then (kissgatelaw08_BpduCuts.j0 k a1 a2 true a0_0 a0_1 a0_2 a0_3 a0_4 a0_5 a0_6) else (kissgatelaw08_BpduCuts.j0 k a1 a2 (a2.toList == ([] : List UInt8)) a0_0 a0_1 a0_2 a0_3 a0_4 a0_5 a0_6)) else (kissgatelaw08_BpduCuts.j0 k a1 a2 true a0_0 a0_1 a0_2 a0_3 a0_4 a0_5 a0_6))) else (some false)) = some r := H
  have A4 := Aside0.mk A40
  clear A40
  by_cases c5 : t213 = true
  · subst c5
    have H1 : ((kissgateref08_Good.f a0_0 a0_1 a0_2 a0_3 a0_4 a0_5 a0_6).bind fun t214 => (if t214 = true then (if (a2.size : Int) > 100 then (kissgatelaw08_BpduCuts.j0 k a1 a2 true a0_0 a0_1 a0_2 a0_3 a0_4 a0_5 a0_6) else (kissgatelaw08_BpduCuts.j0 k a1 a2 (a2.toList == ([] : List UInt8)) a0_0 a0_1 a0_2 a0_3 a0_4 a0_5 a0_6)) else (kissgatelaw08_BpduCuts.j0 k a1 a2 true a0_0 a0_1 a0_2 a0_3 a0_4 a0_5 a0_6))) = some r := by rw [if_pos rfl] at H; exact H
    clear H
    have H := H1
    clear H1
    have HC6 := Aside0.mk H
    clear H
    go_enter Try.func6, Try.ntmps6
    go_upto_region 3 with (first | ((with_reducible refine gate_dst (N := 3) rfl ?_); (try (refine gate_guard (by rfl) ?_; dsimp only)); refine box_event ?hg (N := 3) ?hd (cs := #[.int .i64 a0_0, .int .i64 a0_1, .int .i64 a0_2, .int .i64 a0_3, .int .i64 a0_4, .int .i64 a0_5, .bool a0_6]) (t := 29) ?hr ?_; (case hd => rfl); (case hg => rfl); (case hr => first | (go_simp; done) | (go_simp; rfl)); intro gb212 hg w7 hbox hb; have n0_ := Aside0.mk (below_step (by repeat (first | (with_reducible first | exact HB.out | apply below_alloc | apply pw_below_drewN | apply below_drew1) | exact HB.out)) hb); have n1_ := Aside0.mk (hbox); have n2_ := Aside0.mk ((by rw [hg]; exact (below_size (by repeat (first | (with_reducible first | exact HB.out | apply below_alloc | apply pw_below_drewN | apply below_drew1) | exact HB.out))) : w.heap.size ≤ gb212)); have n3_ := Aside0.mk ((by rw [hg]; exact (below_size (by repeat (first | (with_reducible first | exact HB.out | apply below_alloc | apply pw_below_drewN | apply below_drew1) | exact HB.out))) : w.heap.size ≤ gb212)); clear HB; have HB := n0_; have BK212 := n1_; have GW212 := n2_; have GE212 := n3_; clear n0_ n1_ n2_ n3_; clear hb hbox hg) | ((with_reducible refine gate_callee (f := 8) rfl ?_); refine goesL_ (some 12) rfl rfl Try.func8 (by kernel_rfl) rfl #[] rfl (by (try simp only [List.map_toArray, List.map_cons, List.map_nil]); first | done | rfl | (simp only [List.length_drop, List.length_take]; rfl)) ?_; (with_reducible refine (kissgatelaw08_alive.calls k  true _ A4.out).mono ?_); rintro e w' ⟨rfl, ⟨nd, rfl⟩⟩; refine ⟨_, rfl, ?_⟩))
    (try simp only [Act.put, List.setIfInBounds_toArray, List.set_cons_zero, List.set_cons_succ])
    go_cut [25] (fun v25 wc => ∃ (kq : Nat) (x25_5 : Bool), v25 = .bool x25_5 ∧ Aside0 (kissgatelaw08_BpduCuts.j0 kq a1 a2 x25_5 a0_0 a0_1 a0_2 a0_3 a0_4 a0_5 a0_6 = some r) ∧ Aside0 (kq ≤ k) ∧ Aside0 (wc.heap[gb212]? = some (.cells #[.int .i64 a0_0, .int .i64 a0_1, .int .i64 a0_2, .int .i64 a0_3, .int .i64 a0_4, .int .i64 a0_5, .bool a0_6] 29 (0, 0))) ∧ Aside0 (Below w.heap.size w wc))
    case first =>
      have H := HC6.out
      clear HC6
      replace H := Option.bind_eq_some_iff.mp H
      obtain ⟨t214, A80, H⟩ := H
      replace H : (if t214 = true then (if (a2.size : Int) > 100 then (kissgatelaw08_BpduCuts.j0 k a1 a2 true a0_0 a0_1 a0_2 a0_3 a0_4 a0_5 a0_6) else (kissgatelaw08_BpduCuts.j0 k a1 a2 (a2.toList == ([] : List UInt8)) a0_0 a0_1 a0_2 a0_3 a0_4 a0_5 a0_6)) else (kissgatelaw08_BpduCuts.j0 k a1 a2 true a0_0 a0_1 a0_2 a0_3 a0_4 a0_5 a0_6)) = some r := H
      have A8 := Aside0.mk A80
      clear A80
      by_cases c9 : t214 = true
      · subst c9
        have H1 : (if (a2.size : Int) > 100 then (kissgatelaw08_BpduCuts.j0 k a1 a2 true a0_0 a0_1 a0_2 a0_3 a0_4 a0_5 a0_6) else (kissgatelaw08_BpduCuts.j0 k a1 a2 (a2.toList == ([] : List UInt8)) a0_0 a0_1 a0_2 a0_3 a0_4 a0_5 a0_6)) = some r := by rw [if_pos rfl] at H; exact H
        clear H
        have H := H1
        clear H1
        by_cases c10 : (a2.size : Int) > 100
        · rw [if_pos c10] at H
          have c10b0 : decide (100 < (a2.size : Int)) = true := decide_eq_true c10
          have c10b1 : decide (100 < a2.size) = true := decide_eq_true (by omega)
          clear c10
          (first | rw [c10b0] | (simp only [i64_w, i32_w]; rw [c10b0]) | skip)
          have H' := Aside0.mk H
          clear H
          have hcz11_0 : w7.cell? ⟨gb212, 0, none⟩ = some (.int .i64 a0_0) := (blk_cell BK212.out 0).trans rfl
          have hcz11_1 : w7.cell? ⟨gb212, 1, none⟩ = some (.int .i64 a0_1) := (blk_cell BK212.out 1).trans rfl
          have hcz11_2 : w7.cell? ⟨gb212, 2, none⟩ = some (.int .i64 a0_2) := (blk_cell BK212.out 2).trans rfl
          have hcz11_3 : w7.cell? ⟨gb212, 3, none⟩ = some (.int .i64 a0_3) := (blk_cell BK212.out 3).trans rfl
          have hcz11_4 : w7.cell? ⟨gb212, 4, none⟩ = some (.int .i64 a0_4) := (blk_cell BK212.out 4).trans rfl
          have hcz11_5 : w7.cell? ⟨gb212, 5, none⟩ = some (.int .i64 a0_5) := (blk_cell BK212.out 5).trans rfl
          have hcz11_6 : w7.cell? ⟨gb212, 6, none⟩ = some (.bool a0_6) := (blk_cell BK212.out 6).trans rfl
          have hfz11_0 := blk_frozen BK212.out 0
          have hfz11_1 := blk_frozen BK212.out 1
          have hfz11_2 := blk_frozen BK212.out 2
          have hfz11_3 := blk_frozen BK212.out 3
          have hfz11_4 := blk_frozen BK212.out 4
          have hfz11_5 := blk_frozen BK212.out 5
          have hfz11_6 := blk_frozen BK212.out 6
          go_wp2_with (first | ((with_reducible refine gate_callee (f := 14) rfl ?_); refine goesL_ (some 15) rfl rfl Try.func14 (by kernel_rfl) rfl #[.agg #[.int .i64 a0_0, .int .i64 a0_1, .int .i64 a0_2, .int .i64 a0_3, .int .i64 a0_4, .int .i64 a0_5, .bool a0_6]] rfl (by (try simp only [List.map_toArray, List.map_cons, List.map_nil]); first | done | rfl | (simp only [List.length_drop, List.length_take]; rfl)) ?_; (with_reducible refine (kissgateref08_Good.calls a0_0 a0_1 a0_2 a0_3 a0_4 a0_5 a0_6 true _ A8.out).mono ?_); rintro e w12 ⟨rfl, hb⟩; refine ⟨_, rfl, ?_⟩; have n0_ := Aside0.mk (blk_below (g := gb212) (o := .cells #[.int .i64 a0_0, .int .i64 a0_1, .int .i64 a0_2, .int .i64 a0_3, .int .i64 a0_4, .int .i64 a0_5, .bool a0_6] 29 (0, 0)) (by (with_reducible repeat (first | refine blk_drewN ?_ _ | refine blk_drew ?_ | refine blk_alloc ?_ _)); exact BK212.out) hb); have n1_ := Aside0.mk (below_step (by repeat (first | (with_reducible first | exact HB.out | apply below_alloc | apply pw_below_drewN | apply below_drew1 | refine below_set ?_ GE212.out) | exact HB.out)) hb); clear BK212; clear HB; have BK212 := n0_; have HB := n1_; clear n0_ n1_; (try clear hb); (try clear hb2); (try clear hk); (try clear hi)))
          go_meet
          case rel => exact ⟨_, (true), (by first | rfl | (simp; done) | (simp [show ∀ l_ : List UInt8, (l_ != []) = !l_.isEmpty from fun l_ => by cases l_ <;> rfl]; done) | (simp [*]; done)), H', ⟨by first | omega | exact Nat.le_refl _⟩, ⟨by (with_reducible repeat (first | refine blk_drewN ?_ _ | refine blk_drew ?_ | refine blk_alloc ?_ _)); exact BK212.out⟩, ⟨by repeat (first | (with_reducible first | exact HB.out | apply below_alloc | apply pw_below_drewN | apply below_drew1 | refine below_set ?_ GE212.out) | exact HB.out)⟩⟩
        · rw [if_neg c10] at H
          have c10b0 : decide (100 < (a2.size : Int)) = false := decide_eq_false c10
          have c10b1 : decide (100 < a2.size) = false := decide_eq_false (by omega)
          clear c10
          (first | rw [c10b0] | (simp only [i64_w, i32_w]; rw [c10b0]) | skip)
          have H' := Aside0.mk H
          clear H
          have hcz13_0 : w7.cell? ⟨gb212, 0, none⟩ = some (.int .i64 a0_0) := (blk_cell BK212.out 0).trans rfl
          have hcz13_1 : w7.cell? ⟨gb212, 1, none⟩ = some (.int .i64 a0_1) := (blk_cell BK212.out 1).trans rfl
          have hcz13_2 : w7.cell? ⟨gb212, 2, none⟩ = some (.int .i64 a0_2) := (blk_cell BK212.out 2).trans rfl
          have hcz13_3 : w7.cell? ⟨gb212, 3, none⟩ = some (.int .i64 a0_3) := (blk_cell BK212.out 3).trans rfl
          have hcz13_4 : w7.cell? ⟨gb212, 4, none⟩ = some (.int .i64 a0_4) := (blk_cell BK212.out 4).trans rfl
          have hcz13_5 : w7.cell? ⟨gb212, 5, none⟩ = some (.int .i64 a0_5) := (blk_cell BK212.out 5).trans rfl
          have hcz13_6 : w7.cell? ⟨gb212, 6, none⟩ = some (.bool a0_6) := (blk_cell BK212.out 6).trans rfl
          have hfz13_0 := blk_frozen BK212.out 0
          have hfz13_1 := blk_frozen BK212.out 1
          have hfz13_2 := blk_frozen BK212.out 2
          have hfz13_3 := blk_frozen BK212.out 3
          have hfz13_4 := blk_frozen BK212.out 4
          have hfz13_5 := blk_frozen BK212.out 5
          have hfz13_6 := blk_frozen BK212.out 6
          go_wp2_with (first | ((with_reducible refine gate_callee (f := 14) rfl ?_); refine goesL_ (some 15) rfl rfl Try.func14 (by kernel_rfl) rfl #[.agg #[.int .i64 a0_0, .int .i64 a0_1, .int .i64 a0_2, .int .i64 a0_3, .int .i64 a0_4, .int .i64 a0_5, .bool a0_6]] rfl (by (try simp only [List.map_toArray, List.map_cons, List.map_nil]); first | done | rfl | (simp only [List.length_drop, List.length_take]; rfl)) ?_; (with_reducible refine (kissgateref08_Good.calls a0_0 a0_1 a0_2 a0_3 a0_4 a0_5 a0_6 true _ A8.out).mono ?_); rintro e w14 ⟨rfl, hb⟩; refine ⟨_, rfl, ?_⟩; have n0_ := Aside0.mk (blk_below (g := gb212) (o := .cells #[.int .i64 a0_0, .int .i64 a0_1, .int .i64 a0_2, .int .i64 a0_3, .int .i64 a0_4, .int .i64 a0_5, .bool a0_6] 29 (0, 0)) (by (with_reducible repeat (first | refine blk_drewN ?_ _ | refine blk_drew ?_ | refine blk_alloc ?_ _)); exact BK212.out) hb); have n1_ := Aside0.mk (below_step (by repeat (first | (with_reducible first | exact HB.out | apply below_alloc | apply pw_below_drewN | apply below_drew1 | refine below_set ?_ GE212.out) | exact HB.out)) hb); clear BK212; clear HB; have BK212 := n0_; have HB := n1_; clear n0_ n1_; (try clear hb); (try clear hb2); (try clear hk); (try clear hi)))
          go_meet
          case rel => exact ⟨_, ((a2.toList == ([] : List UInt8))), (by first | rfl | (simp; done) | (simp [show ∀ l_ : List UInt8, (l_ != []) = !l_.isEmpty from fun l_ => by cases l_ <;> rfl]; done) | (simp [*]; done)), H', ⟨by first | omega | exact Nat.le_refl _⟩, ⟨by (with_reducible repeat (first | refine blk_drewN ?_ _ | refine blk_drew ?_ | refine blk_alloc ?_ _)); exact BK212.out⟩, ⟨by repeat (first | (with_reducible first | exact HB.out | apply below_alloc | apply pw_below_drewN | apply below_drew1 | refine below_set ?_ GE212.out) | exact HB.out)⟩⟩
      · replace c9 := Bool.eq_false_iff.mpr c9
        subst c9
        have H1 : (kissgatelaw08_BpduCuts.j0 k a1 a2 true a0_0 a0_1 a0_2 a0_3 a0_4 a0_5 a0_6) = some r := by rw [if_neg (show ¬ (false = true) by decide)] at H; exact H
        clear H
        have H := H1
        clear H1
        have H' := Aside0.mk H
        clear H
        have hcz15_0 : w7.cell? ⟨gb212, 0, none⟩ = some (.int .i64 a0_0) := (blk_cell BK212.out 0).trans rfl
        have hcz15_1 : w7.cell? ⟨gb212, 1, none⟩ = some (.int .i64 a0_1) := (blk_cell BK212.out 1).trans rfl
        have hcz15_2 : w7.cell? ⟨gb212, 2, none⟩ = some (.int .i64 a0_2) := (blk_cell BK212.out 2).trans rfl
        have hcz15_3 : w7.cell? ⟨gb212, 3, none⟩ = some (.int .i64 a0_3) := (blk_cell BK212.out 3).trans rfl
        have hcz15_4 : w7.cell? ⟨gb212, 4, none⟩ = some (.int .i64 a0_4) := (blk_cell BK212.out 4).trans rfl
        have hcz15_5 : w7.cell? ⟨gb212, 5, none⟩ = some (.int .i64 a0_5) := (blk_cell BK212.out 5).trans rfl
        have hcz15_6 : w7.cell? ⟨gb212, 6, none⟩ = some (.bool a0_6) := (blk_cell BK212.out 6).trans rfl
        have hfz15_0 := blk_frozen BK212.out 0
        have hfz15_1 := blk_frozen BK212.out 1
        have hfz15_2 := blk_frozen BK212.out 2
        have hfz15_3 := blk_frozen BK212.out 3
        have hfz15_4 := blk_frozen BK212.out 4
        have hfz15_5 := blk_frozen BK212.out 5
        have hfz15_6 := blk_frozen BK212.out 6
        go_wp2_with (first | ((with_reducible refine gate_callee (f := 14) rfl ?_); refine goesL_ (some 15) rfl rfl Try.func14 (by kernel_rfl) rfl #[.agg #[.int .i64 a0_0, .int .i64 a0_1, .int .i64 a0_2, .int .i64 a0_3, .int .i64 a0_4, .int .i64 a0_5, .bool a0_6]] rfl (by (try simp only [List.map_toArray, List.map_cons, List.map_nil]); first | done | rfl | (simp only [List.length_drop, List.length_take]; rfl)) ?_; (with_reducible refine (kissgateref08_Good.calls a0_0 a0_1 a0_2 a0_3 a0_4 a0_5 a0_6 false _ A8.out).mono ?_); rintro e w16 ⟨rfl, hb⟩; refine ⟨_, rfl, ?_⟩; have n0_ := Aside0.mk (blk_below (g := gb212) (o := .cells #[.int .i64 a0_0, .int .i64 a0_1, .int .i64 a0_2, .int .i64 a0_3, .int .i64 a0_4, .int .i64 a0_5, .bool a0_6] 29 (0, 0)) (by (with_reducible repeat (first | refine blk_drewN ?_ _ | refine blk_drew ?_ | refine blk_alloc ?_ _)); exact BK212.out) hb); have n1_ := Aside0.mk (below_step (by repeat (first | (with_reducible first | exact HB.out | apply below_alloc | apply pw_below_drewN | apply below_drew1 | refine below_set ?_ GE212.out) | exact HB.out)) hb); clear BK212; clear HB; have BK212 := n0_; have HB := n1_; clear n0_ n1_; (try clear hb); (try clear hb2); (try clear hk); (try clear hi)))
        go_meet
        case rel => exact ⟨_, (true), (by first | rfl | (simp; done) | (simp [show ∀ l_ : List UInt8, (l_ != []) = !l_.isEmpty from fun l_ => by cases l_ <;> rfl]; done) | (simp [*]; done)), H', ⟨by first | omega | exact Nat.le_refl _⟩, ⟨by (with_reducible repeat (first | refine blk_drewN ?_ _ | refine blk_drew ?_ | refine blk_alloc ?_ _)); exact BK212.out⟩, ⟨by repeat (first | (with_reducible first | exact HB.out | apply below_alloc | apply pw_below_drewN | apply below_drew1 | refine below_set ?_ GE212.out) | exact HB.out)⟩⟩
    case rest =>
      clear HC6
      try clear c1
      try clear p2
      try clear c5
      try clear c6
      try clear c8
      try clear c9
      try clear c10
      try clear c10b0
      try clear c10b1
      try clear c14
      try clear hcz11_0
      try clear hcz11_1
      try clear hcz11_2
      try clear hcz11_3
      try clear hcz11_4
      try clear hcz11_5
      try clear hcz11_6
      try clear hcz13_0
      try clear hcz13_1
      try clear hcz13_2
      try clear hcz13_3
      try clear hcz13_4
      try clear hcz13_5
      try clear hcz13_6
      try clear hcz15_0
      try clear hcz15_1
      try clear hcz15_2
      try clear hcz15_3
      try clear hcz15_4
      try clear hcz15_5
      try clear hcz15_6
      try clear hfz11_0
      try clear hfz11_1
      try clear hfz11_2
      try clear hfz11_3
      try clear hfz11_4
      try clear hfz11_5
      try clear hfz11_6
      try clear hfz13_0
      try clear hfz13_1
      try clear hfz13_2
      try clear hfz13_3
      try clear hfz13_4
      try clear hfz13_5
      try clear hfz13_6
      try clear hfz15_0
      try clear hfz15_1
      try clear hfz15_2
      try clear hfz15_3
      try clear hfz15_4
      try clear hfz15_5
      try clear hfz15_6
      obtain ⟨kq, x25_5, rfl, HA, HJ5, BK212, HB⟩ := hcut
      cases kq with
      | zero => exact absurd HA.out (by simp [kissgatelaw08_BpduCuts.j0])
      | succ kj5 =>
        have H := HA.out
        clear HA
        simp only [kissgatelaw08_BpduCuts.j0] at H
        by_cases c17 : x25_5 = true
        · subst c17
          have H1 : (some true) = some r := by rw [if_pos rfl] at H; exact H
          clear H
          have H := H1
          clear H1
          obtain rfl := Option.some.inj H
          go_wp2
          go_ret
          exact ⟨by first | rfl | (simp [errW_none, errW_some] <;> rfl) | ((repeat rw [Int.tdiv_eq_ediv_of_nonneg (by omega)]); (repeat rw [Int.tmod_eq_emod_of_nonneg (by omega)]); first | rfl | (simp [errW_none, errW_some] <;> rfl)) | (simp [*, errW_none, errW_some] <;> rfl), by repeat (first | (with_reducible first | exact HB.out | apply below_alloc | apply pw_below_drewN | apply below_drew1 | refine below_set ?_ GE212.out) | exact HB.out)⟩
        · replace c17 := Bool.eq_false_iff.mpr c17
          subst c17
          have H1 : ((kissgateref08_Bytes.f kj5 a0_0 a0_1 a0_2 a0_3 a0_4 a0_5 a0_6).bind fun t215 => (if 0 ≤ (wrap64 (Int.tmod (IntKind.u64.wrap (a1)) 36)) then (if (wrap64 (Int.tmod (IntKind.u64.wrap (a1)) 36)) ≤ (t215.size : Int) then ((bpdu_Read.f kj5 (t215.extract 0 ((wrap64 (Int.tmod (IntKind.u64.wrap (a1)) 36)) : Int).toNat)).bind fun bt216 => (if t215.size + a2.size ≤ 9223372036854775807 then ((bpdu_Read.f kj5 (t215 ++ a2)).bind fun bt225 => (if bt216.2.2.2.2.2.2.2 = 4 then (some (bt225.2.2.2.2.2.2.2 == 4)) else (some false))) else (none))) else (none)) else (none))) = some r := by rw [if_neg (show ¬ (false = true) by decide)] at H; exact H
          clear H
          have H := H1
          clear H1
          replace H := Option.bind_eq_some_iff.mp H
          obtain ⟨t215, A180, H⟩ := H
          replace H : (if 0 ≤ (wrap64 (Int.tmod (IntKind.u64.wrap (a1)) 36)) then (if (wrap64 (Int.tmod (IntKind.u64.wrap (a1)) 36)) ≤ (t215.size : Int) then ((bpdu_Read.f kj5 (t215.extract 0 ((wrap64 (Int.tmod (IntKind.u64.wrap (a1)) 36)) : Int).toNat)).bind fun bt216 => (if t215.size + a2.size ≤ 9223372036854775807 then ((bpdu_Read.f kj5 (t215 ++ a2)).bind fun bt225 => (if bt216.2.2.2.2.2.2.2 = 4 then (some (bt225.2.2.2.2.2.2.2 == 4)) else (some false))) else (none))) else (none)) else (none)) = some r := H
          have A18 := Aside0.mk A180
          clear A180
          obtain ⟨ji19, hji19⟩ : ∃ j_ : Int, (wrap64 (Int.tmod (IntKind.u64.wrap (a1)) 36)) = j_ := ⟨_, rfl⟩
          replace H : (if 0 ≤ (ji19) then (if (ji19) ≤ (t215.size : Int) then ((bpdu_Read.f kj5 (t215.extract 0 ((ji19) : Int).toNat)).bind fun bt216 => (if t215.size + a2.size ≤ 9223372036854775807 then ((bpdu_Read.f kj5 (t215 ++ a2)).bind fun bt225 => (if bt216.2.2.2.2.2.2.2 = 4 then (some (bt225.2.2.2.2.2.2.2 == 4)) else (some false))) else (none))) else (none)) else (none)) = some r := by first | (rw [hji19] at H; exact H) | (simp only [hji19] at H ⊢; exact H)
          (try rw [hji19] at A18)
          have hji19w : (IntKind.i64.wrap (Int.tmod (IntKind.u64.wrap (a1)) 36)) = ji19 := (i64_w _).trans hji19
          by_cases c20 : 0 ≤ (ji19)
          · rw [if_pos c20] at H
            have c20b0 := eq_true c20
            have c20b1 : decide (0 ≤ (ji19)) = true := decide_eq_true c20
            clear c20
            by_cases c21 : (ji19) ≤ (t215.size : Int)
            · rw [if_pos c21] at H
              have c21b0 := eq_true c21
              have c21b1 : decide ((ji19) ≤ (t215.size : Int)) = true := decide_eq_true c21
              clear c21
              replace H := Option.bind_eq_some_iff.mp H
              obtain ⟨⟨t216, t217, t218, t219, t220, t221, t222, t223⟩, A220, H⟩ := H
              replace H : (if t215.size + a2.size ≤ 9223372036854775807 then ((bpdu_Read.f kj5 (t215 ++ a2)).bind fun bt225 => (if t223 = 4 then (some (bt225.2.2.2.2.2.2.2 == 4)) else (some false))) else (none)) = some r := H
              have A22 := Aside0.mk A220
              clear A220
              by_cases c23 : t215.size + a2.size ≤ 9223372036854775807
              · rw [if_pos c23] at H
                have c23b0 := eq_true c23
                have c23b1 : decide (t215.size + a2.size ≤ 9223372036854775807) = true := decide_eq_true c23
                try have c23b2 : (9223372036854775807 < t215.size + a2.size) = False := eq_false (Nat.not_lt.2 c23)
                replace H := Option.bind_eq_some_iff.mp H
                obtain ⟨⟨t225, t226, t227, t228, t229, t230, t231, t232⟩, A240, H⟩ := H
                replace H : (if t223 = 4 then (some (t232 == 4)) else (some false)) = some r := H
                have A24 := Aside0.mk A240
                clear A240
                by_cases c25 : t223 = 4
                · rw [if_pos c25] at H
                  have c25b0 : (t223 == 4) = true := beq_iff_eq.mpr c25
                  have c25b1 : (t223 != 4) = false := bne_eq_false_iff_eq.mpr c25
                  clear c25
                  obtain rfl := Option.some.inj H
                  have hcz26_0 : wc.cell? ⟨gb212, 0, none⟩ = some (.int .i64 a0_0) := (blk_cell BK212.out 0).trans rfl
                  have hcz26_1 : wc.cell? ⟨gb212, 1, none⟩ = some (.int .i64 a0_1) := (blk_cell BK212.out 1).trans rfl
                  have hcz26_2 : wc.cell? ⟨gb212, 2, none⟩ = some (.int .i64 a0_2) := (blk_cell BK212.out 2).trans rfl
                  have hcz26_3 : wc.cell? ⟨gb212, 3, none⟩ = some (.int .i64 a0_3) := (blk_cell BK212.out 3).trans rfl
                  have hcz26_4 : wc.cell? ⟨gb212, 4, none⟩ = some (.int .i64 a0_4) := (blk_cell BK212.out 4).trans rfl
                  have hcz26_5 : wc.cell? ⟨gb212, 5, none⟩ = some (.int .i64 a0_5) := (blk_cell BK212.out 5).trans rfl
                  have hcz26_6 : wc.cell? ⟨gb212, 6, none⟩ = some (.bool a0_6) := (blk_cell BK212.out 6).trans rfl
                  have hfz26_0 := blk_frozen BK212.out 0
                  have hfz26_1 := blk_frozen BK212.out 1
                  have hfz26_2 := blk_frozen BK212.out 2
                  have hfz26_3 := blk_frozen BK212.out 3
                  have hfz26_4 := blk_frozen BK212.out 4
                  have hfz26_5 := blk_frozen BK212.out 5
                  have hfz26_6 := blk_frozen BK212.out 6
                  go_wp2_with (first | ((with_reducible refine gate_callee (f := 17) rfl ?_); refine goesL_ (some 27) rfl rfl Try.func17 (by kernel_rfl) rfl #[.agg #[.int .i64 a0_0, .int .i64 a0_1, .int .i64 a0_2, .int .i64 a0_3, .int .i64 a0_4, .int .i64 a0_5, .bool a0_6]] rfl (by (try simp only [List.map_toArray, List.map_cons, List.map_nil]); first | done | rfl | (simp only [List.length_drop, List.length_take]; rfl)) ?_; (with_reducible refine (kissgateref08_Bytes.calls kj5 a0_0 a0_1 a0_2 a0_3 a0_4 a0_5 a0_6 t215 _ A18.out).mono ?_); rintro e w27 ⟨rfl, hb⟩; refine ⟨_, rfl, ?_⟩; have n0_ := Aside0.mk (blk_below (g := gb212) (o := .cells #[.int .i64 a0_0, .int .i64 a0_1, .int .i64 a0_2, .int .i64 a0_3, .int .i64 a0_4, .int .i64 a0_5, .bool a0_6] 29 (0, 0)) (by (with_reducible repeat (first | refine blk_drewN ?_ _ | refine blk_drew ?_ | refine blk_alloc ?_ _)); exact BK212.out) hb); have n1_ := Aside0.mk (below_step (by repeat (first | (with_reducible first | exact HB.out | apply below_alloc | apply pw_below_drewN | apply below_drew1 | refine below_set ?_ GE212.out) | exact HB.out)) hb); clear BK212; clear HB; have BK212 := n0_; have HB := n1_; clear n0_ n1_; (try clear hb); (try clear hb2); (try clear hk); (try clear hi)) | ((with_reducible refine gate_callee (f := 16) rfl ?_); refine goesL_ (some 35) rfl rfl Try.func16 (by kernel_rfl) rfl #[.string (t215.extract 0 ((ji19) : Int).toNat)] rfl (by (try simp only [List.map_toArray, List.map_cons, List.map_nil]); first | done | (simp only [hji19]; rfl) | rfl | (simp only [List.length_drop, List.length_take]; rfl)) ?_; (with_reducible refine (bpdu_Read.calls kj5 (t215.extract 0 ((ji19) : Int).toNat) t216 t217 t218 t219 t220 t221 t222 t223 _ A22.out).mono ?_); rintro e w28 ⟨rfl, hb⟩; refine ⟨_, rfl, ?_⟩; have n0_ := Aside0.mk (blk_below (g := gb212) (o := .cells #[.int .i64 a0_0, .int .i64 a0_1, .int .i64 a0_2, .int .i64 a0_3, .int .i64 a0_4, .int .i64 a0_5, .bool a0_6] 29 (0, 0)) (by (with_reducible repeat (first | refine blk_drewN ?_ _ | refine blk_drew ?_ | refine blk_alloc ?_ _)); exact BK212.out) hb); have n1_ := Aside0.mk (below_step (by repeat (first | (with_reducible first | exact HB.out | apply below_alloc | apply pw_below_drewN | apply below_drew1 | refine below_set ?_ GE212.out) | exact HB.out)) hb); clear BK212; clear HB; have BK212 := n0_; have HB := n1_; clear n0_ n1_; (try clear hb); (try clear hb2); (try clear hk); (try clear hi)) | ((with_reducible refine gate_dst (N := 8) rfl ?_); (try (refine gate_guard (by rfl) ?_; dsimp only)); refine box_event ?hg (N := 8) ?hd (cs := #[.int .i64 0, .int .i64 0, .int .i64 0, .int .i64 0, .int .i64 0, .int .i64 0, .bool false]) (t := 29) ?hr ?_; (case hd => rfl); (case hg => rfl); (case hr => first | (go_simp; done) | (go_simp; rfl)); intro gb224 hg w29 hbox hb; have n0_ := Aside0.mk (blk_below (g := gb212) (o := .cells #[.int .i64 a0_0, .int .i64 a0_1, .int .i64 a0_2, .int .i64 a0_3, .int .i64 a0_4, .int .i64 a0_5, .bool a0_6] 29 (0, 0)) (by (with_reducible repeat (first | refine blk_drewN ?_ _ | refine blk_drew ?_ | refine blk_alloc ?_ _)); exact BK212.out) hb); have n1_ := Aside0.mk (below_step (by repeat (first | (with_reducible first | exact HB.out | apply below_alloc | apply pw_below_drewN | apply below_drew1 | refine below_set ?_ GE212.out) | exact HB.out)) hb); have n2_ := Aside0.mk (hbox); have n3_ := Aside0.mk ((by rw [hg]; exact (below_size (by repeat (first | (with_reducible first | exact HB.out | apply below_alloc | apply pw_below_drewN | apply below_drew1 | refine below_set ?_ GE212.out) | exact HB.out))) : w.heap.size ≤ gb224)); have n4_ := Aside0.mk ((by rw [hg]; exact (below_size (by repeat (first | (with_reducible first | exact HB.out | apply below_alloc | apply pw_below_drewN | apply below_drew1 | refine below_set ?_ GE212.out) | exact HB.out))) : w.heap.size ≤ gb224)); have n5_ := Aside0.mk ((by rw [hg]; exact Nat.ne_of_lt (blk_lt (g := gb212) (o := .cells #[.int .i64 a0_0, .int .i64 a0_1, .int .i64 a0_2, .int .i64 a0_3, .int .i64 a0_4, .int .i64 a0_5, .bool a0_6] 29 (0, 0)) (by (with_reducible repeat (first | refine blk_drewN ?_ _ | refine blk_drew ?_ | refine blk_alloc ?_ _)); exact BK212.out)) : gb212 ≠ gb224)); have n6_ := Aside0.mk ((by rw [hg]; exact Nat.ne_of_gt (blk_lt (g := gb212) (o := .cells #[.int .i64 a0_0, .int .i64 a0_1, .int .i64 a0_2, .int .i64 a0_3, .int .i64 a0_4, .int .i64 a0_5, .bool a0_6] 29 (0, 0)) (by (with_reducible repeat (first | refine blk_drewN ?_ _ | refine blk_drew ?_ | refine blk_alloc ?_ _)); exact BK212.out)) : gb224 ≠ gb212)); clear BK212; clear HB; have BK212 := n0_; have HB := n1_; have BK224 := n2_; have GW224 := n3_; have GE224 := n4_; have NB212_224 := n5_; have NB224_212 := n6_; clear n0_ n1_ n2_ n3_ n4_ n5_ n6_; clear hb hbox hg; have hnb30 := NB224_212.out; have hnc30 := NB212_224.out; have hcz31_0 : w29.cell? ⟨gb224, 0, none⟩ = some (.int .i64 0) := (blk_cell BK224.out 0).trans rfl; have hcz31_1 : w29.cell? ⟨gb224, 1, none⟩ = some (.int .i64 0) := (blk_cell BK224.out 1).trans rfl; have hcz31_2 : w29.cell? ⟨gb224, 2, none⟩ = some (.int .i64 0) := (blk_cell BK224.out 2).trans rfl; have hcz31_3 : w29.cell? ⟨gb224, 3, none⟩ = some (.int .i64 0) := (blk_cell BK224.out 3).trans rfl; have hcz31_4 : w29.cell? ⟨gb224, 4, none⟩ = some (.int .i64 0) := (blk_cell BK224.out 4).trans rfl; have hcz31_5 : w29.cell? ⟨gb224, 5, none⟩ = some (.int .i64 0) := (blk_cell BK224.out 5).trans rfl; have hcz31_6 : w29.cell? ⟨gb224, 6, none⟩ = some (.bool false) := (blk_cell BK224.out 6).trans rfl; have hfz31_0 := blk_frozen BK224.out 0; have hfz31_1 := blk_frozen BK224.out 1; have hfz31_2 := blk_frozen BK224.out 2; have hfz31_3 := blk_frozen BK224.out 3; have hfz31_4 := blk_frozen BK224.out 4; have hfz31_5 := blk_frozen BK224.out 5; have hfz31_6 := blk_frozen BK224.out 6) | ((with_reducible refine gate_callee (f := 16) rfl ?_); refine goesL_ (some 42) rfl rfl Try.func16 (by kernel_rfl) rfl #[.string (t215 ++ a2)] rfl (by (try simp only [List.map_toArray, List.map_cons, List.map_nil]); first | done | rfl | (simp only [List.length_drop, List.length_take]; rfl)) ?_; (with_reducible refine (bpdu_Read.calls kj5 (t215 ++ a2) t225 t226 t227 t228 t229 t230 t231 t232 _ A24.out).mono ?_); rintro e w32 ⟨rfl, hb⟩; refine ⟨_, rfl, ?_⟩; have n0_ := Aside0.mk (blk_below (g := gb212) (o := .cells #[.int .i64 a0_0, .int .i64 a0_1, .int .i64 a0_2, .int .i64 a0_3, .int .i64 a0_4, .int .i64 a0_5, .bool a0_6] 29 (0, 0)) (by (with_reducible repeat (first | refine blk_drewN ?_ _ | refine blk_drew ?_ | refine blk_alloc ?_ _)); refine blk_far ?_ NB212_224.out _; (with_reducible repeat (first | refine blk_drewN ?_ _ | refine blk_drew ?_ | refine blk_alloc ?_ _)); refine blk_far ?_ NB212_224.out _; (with_reducible repeat (first | refine blk_drewN ?_ _ | refine blk_drew ?_ | refine blk_alloc ?_ _)); refine blk_far ?_ NB212_224.out _; (with_reducible repeat (first | refine blk_drewN ?_ _ | refine blk_drew ?_ | refine blk_alloc ?_ _)); refine blk_far ?_ NB212_224.out _; (with_reducible repeat (first | refine blk_drewN ?_ _ | refine blk_drew ?_ | refine blk_alloc ?_ _)); refine blk_far ?_ NB212_224.out _; (with_reducible repeat (first | refine blk_drewN ?_ _ | refine blk_drew ?_ | refine blk_alloc ?_ _)); refine blk_far ?_ NB212_224.out _; (with_reducible repeat (first | refine blk_drewN ?_ _ | refine blk_drew ?_ | refine blk_alloc ?_ _)); refine blk_far ?_ NB212_224.out _; (with_reducible repeat (first | refine blk_drewN ?_ _ | refine blk_drew ?_ | refine blk_alloc ?_ _)); exact BK212.out) hb); have n1_ := Aside0.mk (blk_below (g := gb224) (o := .cells #[.int .i64 t216, .int .i64 t217, .int .i64 t218, .int .i64 t219, .int .i64 t220, .int .i64 t221, .bool t222] 29 (0, 0)) (by (with_reducible repeat (first | refine blk_drewN ?_ _ | refine blk_drew ?_ | refine blk_alloc ?_ _)); refine blk_put (cs := #[.int .i64 t216, .int .i64 t217, .int .i64 t218, .int .i64 t219, .int .i64 t220, .int .i64 t221, .bool false]) ?_ 6 _ rfl; (with_reducible repeat (first | refine blk_drewN ?_ _ | refine blk_drew ?_ | refine blk_alloc ?_ _)); refine blk_put (cs := #[.int .i64 t216, .int .i64 t217, .int .i64 t218, .int .i64 t219, .int .i64 t220, .int .i64 0, .bool false]) ?_ 5 _ rfl; (with_reducible repeat (first | refine blk_drewN ?_ _ | refine blk_drew ?_ | refine blk_alloc ?_ _)); refine blk_put (cs := #[.int .i64 t216, .int .i64 t217, .int .i64 t218, .int .i64 t219, .int .i64 0, .int .i64 0, .bool false]) ?_ 4 _ rfl; (with_reducible repeat (first | refine blk_drewN ?_ _ | refine blk_drew ?_ | refine blk_alloc ?_ _)); refine blk_put (cs := #[.int .i64 t216, .int .i64 t217, .int .i64 t218, .int .i64 0, .int .i64 0, .int .i64 0, .bool false]) ?_ 3 _ rfl; (with_reducible repeat (first | refine blk_drewN ?_ _ | refine blk_drew ?_ | refine blk_alloc ?_ _)); refine blk_put (cs := #[.int .i64 t216, .int .i64 t217, .int .i64 0, .int .i64 0, .int .i64 0, .int .i64 0, .bool false]) ?_ 2 _ rfl; (with_reducible repeat (first | refine blk_drewN ?_ _ | refine blk_drew ?_ | refine blk_alloc ?_ _)); refine blk_put (cs := #[.int .i64 t216, .int .i64 0, .int .i64 0, .int .i64 0, .int .i64 0, .int .i64 0, .bool false]) ?_ 1 _ rfl; (with_reducible repeat (first | refine blk_drewN ?_ _ | refine blk_drew ?_ | refine blk_alloc ?_ _)); refine blk_put (cs := #[.int .i64 0, .int .i64 0, .int .i64 0, .int .i64 0, .int .i64 0, .int .i64 0, .bool false]) ?_ 0 _ rfl; (with_reducible repeat (first | refine blk_drewN ?_ _ | refine blk_drew ?_ | refine blk_alloc ?_ _)); exact BK224.out) hb); have n2_ := Aside0.mk (below_step (by repeat (first | (with_reducible first | exact HB.out | apply below_alloc | apply pw_below_drewN | apply below_drew1 | refine below_set ?_ GE212.out | refine below_set ?_ GE224.out) | exact HB.out)) hb); clear BK212; clear BK224; clear HB; have BK212 := n0_; have BK224 := n1_; have HB := n2_; clear n0_ n1_ n2_; (try clear hb); (try clear hb2); (try clear hk); (try clear hi)) | ((with_reducible refine gate_dst (N := 10) rfl ?_); (try (refine gate_guard (by rfl) ?_; dsimp only)); refine box_event ?hg (N := 10) ?hd (cs := #[.int .i64 0, .int .i64 0, .int .i64 0, .int .i64 0, .int .i64 0, .int .i64 0, .bool false]) (t := 29) ?hr ?_; (case hd => rfl); (case hg => rfl); (case hr => first | (go_simp; done) | (go_simp; rfl)); intro gb233 hg w33 hbox hb; have n0_ := Aside0.mk (blk_below (g := gb212) (o := .cells #[.int .i64 a0_0, .int .i64 a0_1, .int .i64 a0_2, .int .i64 a0_3, .int .i64 a0_4, .int .i64 a0_5, .bool a0_6] 29 (0, 0)) (by (with_reducible repeat (first | refine blk_drewN ?_ _ | refine blk_drew ?_ | refine blk_alloc ?_ _)); exact BK212.out) hb); have n1_ := Aside0.mk (blk_below (g := gb224) (o := .cells #[.int .i64 t216, .int .i64 t217, .int .i64 t218, .int .i64 t219, .int .i64 t220, .int .i64 t221, .bool t222] 29 (0, 0)) (by (with_reducible repeat (first | refine blk_drewN ?_ _ | refine blk_drew ?_ | refine blk_alloc ?_ _)); exact BK224.out) hb); have n2_ := Aside0.mk (below_step (by repeat (first | (with_reducible first | exact HB.out | apply below_alloc | apply pw_below_drewN | apply below_drew1 | refine below_set ?_ GE212.out | refine below_set ?_ GE224.out) | exact HB.out)) hb); have n3_ := Aside0.mk (hbox); have n4_ := Aside0.mk ((by rw [hg]; exact (below_size (by repeat (first | (with_reducible first | exact HB.out | apply below_alloc | apply pw_below_drewN | apply below_drew1 | refine below_set ?_ GE212.out | refine below_set ?_ GE224.out) | exact HB.out))) : w.heap.size ≤ gb233)); have n5_ := Aside0.mk ((by rw [hg]; exact (below_size (by repeat (first | (with_reducible first | exact HB.out | apply below_alloc | apply pw_below_drewN | apply below_drew1 | refine below_set ?_ GE212.out | refine below_set ?_ GE224.out) | exact HB.out))) : w.heap.size ≤ gb233)); have n6_ := Aside0.mk ((by rw [hg]; exact Nat.ne_of_lt (blk_lt (g := gb212) (o := .cells #[.int .i64 a0_0, .int .i64 a0_1, .int .i64 a0_2, .int .i64 a0_3, .int .i64 a0_4, .int .i64 a0_5, .bool a0_6] 29 (0, 0)) (by (with_reducible repeat (first | refine blk_drewN ?_ _ | refine blk_drew ?_ | refine blk_alloc ?_ _)); exact BK212.out)) : gb212 ≠ gb233)); have n7_ := Aside0.mk ((by rw [hg]; exact Nat.ne_of_gt (blk_lt (g := gb212) (o := .cells #[.int .i64 a0_0, .int .i64 a0_1, .int .i64 a0_2, .int .i64 a0_3, .int .i64 a0_4, .int .i64 a0_5, .bool a0_6] 29 (0, 0)) (by (with_reducible repeat (first | refine blk_drewN ?_ _ | refine blk_drew ?_ | refine blk_alloc ?_ _)); exact BK212.out)) : gb233 ≠ gb212)); have n8_ := Aside0.mk ((by rw [hg]; exact Nat.ne_of_lt (blk_lt (g := gb224) (o := .cells #[.int .i64 t216, .int .i64 t217, .int .i64 t218, .int .i64 t219, .int .i64 t220, .int .i64 t221, .bool t222] 29 (0, 0)) (by (with_reducible repeat (first | refine blk_drewN ?_ _ | refine blk_drew ?_ | refine blk_alloc ?_ _)); exact BK224.out)) : gb224 ≠ gb233)); have n9_ := Aside0.mk ((by rw [hg]; exact Nat.ne_of_gt (blk_lt (g := gb224) (o := .cells #[.int .i64 t216, .int .i64 t217, .int .i64 t218, .int .i64 t219, .int .i64 t220, .int .i64 t221, .bool t222] 29 (0, 0)) (by (with_reducible repeat (first | refine blk_drewN ?_ _ | refine blk_drew ?_ | refine blk_alloc ?_ _)); exact BK224.out)) : gb233 ≠ gb224)); clear BK212; clear BK224; clear HB; have BK212 := n0_; have BK224 := n1_; have HB := n2_; have BK233 := n3_; have GW233 := n4_; have GE233 := n5_; have NB212_233 := n6_; have NB233_212 := n7_; have NB224_233 := n8_; have NB233_224 := n9_; clear n0_ n1_ n2_ n3_ n4_ n5_ n6_ n7_ n8_ n9_; clear hb hbox hg; have hnb34 := NB233_212.out; have hnc34 := NB212_233.out; have hnb35 := NB233_224.out; have hnc35 := NB224_233.out; have hcz36_0 : w33.cell? ⟨gb233, 0, none⟩ = some (.int .i64 0) := (blk_cell BK233.out 0).trans rfl; have hcz36_1 : w33.cell? ⟨gb233, 1, none⟩ = some (.int .i64 0) := (blk_cell BK233.out 1).trans rfl; have hcz36_2 : w33.cell? ⟨gb233, 2, none⟩ = some (.int .i64 0) := (blk_cell BK233.out 2).trans rfl; have hcz36_3 : w33.cell? ⟨gb233, 3, none⟩ = some (.int .i64 0) := (blk_cell BK233.out 3).trans rfl; have hcz36_4 : w33.cell? ⟨gb233, 4, none⟩ = some (.int .i64 0) := (blk_cell BK233.out 4).trans rfl; have hcz36_5 : w33.cell? ⟨gb233, 5, none⟩ = some (.int .i64 0) := (blk_cell BK233.out 5).trans rfl; have hcz36_6 : w33.cell? ⟨gb233, 6, none⟩ = some (.bool false) := (blk_cell BK233.out 6).trans rfl; have hfz36_0 := blk_frozen BK233.out 0; have hfz36_1 := blk_frozen BK233.out 1; have hfz36_2 := blk_frozen BK233.out 2; have hfz36_3 := blk_frozen BK233.out 3; have hfz36_4 := blk_frozen BK233.out 4; have hfz36_5 := blk_frozen BK233.out 5; have hfz36_6 := blk_frozen BK233.out 6))
                  go_ret
                  exact ⟨by first | rfl | (simp [errW_none, errW_some] <;> rfl) | (simp only [← hji19]; first | rfl | (simp [errW_none, errW_some] <;> rfl)) | ((repeat rw [Int.tdiv_eq_ediv_of_nonneg (by omega)]); (repeat rw [Int.tmod_eq_emod_of_nonneg (by omega)]); first | rfl | (simp [errW_none, errW_some] <;> rfl)) | (simp [*, errW_none, errW_some] <;> rfl), by repeat (first | (with_reducible first | exact HB.out | apply below_alloc | apply pw_below_drewN | apply below_drew1 | refine below_set ?_ GE212.out | refine below_set ?_ GE224.out | refine below_set ?_ GE233.out) | exact HB.out)⟩
                · rw [if_neg c25] at H
                  have c25b0 : (t223 == 4) = false := beq_eq_false_iff_ne.mpr c25
                  have c25b1 : (t223 != 4) = true := bne_iff_ne.mpr c25
                  obtain rfl := Option.some.inj H
                  have hcz37_0 : wc.cell? ⟨gb212, 0, none⟩ = some (.int .i64 a0_0) := (blk_cell BK212.out 0).trans rfl
                  have hcz37_1 : wc.cell? ⟨gb212, 1, none⟩ = some (.int .i64 a0_1) := (blk_cell BK212.out 1).trans rfl
                  have hcz37_2 : wc.cell? ⟨gb212, 2, none⟩ = some (.int .i64 a0_2) := (blk_cell BK212.out 2).trans rfl
                  have hcz37_3 : wc.cell? ⟨gb212, 3, none⟩ = some (.int .i64 a0_3) := (blk_cell BK212.out 3).trans rfl
                  have hcz37_4 : wc.cell? ⟨gb212, 4, none⟩ = some (.int .i64 a0_4) := (blk_cell BK212.out 4).trans rfl
                  have hcz37_5 : wc.cell? ⟨gb212, 5, none⟩ = some (.int .i64 a0_5) := (blk_cell BK212.out 5).trans rfl
                  have hcz37_6 : wc.cell? ⟨gb212, 6, none⟩ = some (.bool a0_6) := (blk_cell BK212.out 6).trans rfl
                  have hfz37_0 := blk_frozen BK212.out 0
                  have hfz37_1 := blk_frozen BK212.out 1
                  have hfz37_2 := blk_frozen BK212.out 2
                  have hfz37_3 := blk_frozen BK212.out 3
                  have hfz37_4 := blk_frozen BK212.out 4
                  have hfz37_5 := blk_frozen BK212.out 5
                  have hfz37_6 := blk_frozen BK212.out 6
                  go_wp2_with (first | ((with_reducible refine gate_callee (f := 17) rfl ?_); refine goesL_ (some 27) rfl rfl Try.func17 (by kernel_rfl) rfl #[.agg #[.int .i64 a0_0, .int .i64 a0_1, .int .i64 a0_2, .int .i64 a0_3, .int .i64 a0_4, .int .i64 a0_5, .bool a0_6]] rfl (by (try simp only [List.map_toArray, List.map_cons, List.map_nil]); first | done | rfl | (simp only [List.length_drop, List.length_take]; rfl)) ?_; (with_reducible refine (kissgateref08_Bytes.calls kj5 a0_0 a0_1 a0_2 a0_3 a0_4 a0_5 a0_6 t215 _ A18.out).mono ?_); rintro e w38 ⟨rfl, hb⟩; refine ⟨_, rfl, ?_⟩; have n0_ := Aside0.mk (blk_below (g := gb212) (o := .cells #[.int .i64 a0_0, .int .i64 a0_1, .int .i64 a0_2, .int .i64 a0_3, .int .i64 a0_4, .int .i64 a0_5, .bool a0_6] 29 (0, 0)) (by (with_reducible repeat (first | refine blk_drewN ?_ _ | refine blk_drew ?_ | refine blk_alloc ?_ _)); exact BK212.out) hb); have n1_ := Aside0.mk (below_step (by repeat (first | (with_reducible first | exact HB.out | apply below_alloc | apply pw_below_drewN | apply below_drew1 | refine below_set ?_ GE212.out) | exact HB.out)) hb); clear BK212; clear HB; have BK212 := n0_; have HB := n1_; clear n0_ n1_; (try clear hb); (try clear hb2); (try clear hk); (try clear hi)) | ((with_reducible refine gate_callee (f := 16) rfl ?_); refine goesL_ (some 35) rfl rfl Try.func16 (by kernel_rfl) rfl #[.string (t215.extract 0 ((ji19) : Int).toNat)] rfl (by (try simp only [List.map_toArray, List.map_cons, List.map_nil]); first | done | (simp only [hji19]; rfl) | rfl | (simp only [List.length_drop, List.length_take]; rfl)) ?_; (with_reducible refine (bpdu_Read.calls kj5 (t215.extract 0 ((ji19) : Int).toNat) t216 t217 t218 t219 t220 t221 t222 t223 _ A22.out).mono ?_); rintro e w39 ⟨rfl, hb⟩; refine ⟨_, rfl, ?_⟩; have n0_ := Aside0.mk (blk_below (g := gb212) (o := .cells #[.int .i64 a0_0, .int .i64 a0_1, .int .i64 a0_2, .int .i64 a0_3, .int .i64 a0_4, .int .i64 a0_5, .bool a0_6] 29 (0, 0)) (by (with_reducible repeat (first | refine blk_drewN ?_ _ | refine blk_drew ?_ | refine blk_alloc ?_ _)); exact BK212.out) hb); have n1_ := Aside0.mk (below_step (by repeat (first | (with_reducible first | exact HB.out | apply below_alloc | apply pw_below_drewN | apply below_drew1 | refine below_set ?_ GE212.out) | exact HB.out)) hb); clear BK212; clear HB; have BK212 := n0_; have HB := n1_; clear n0_ n1_; (try clear hb); (try clear hb2); (try clear hk); (try clear hi)) | ((with_reducible refine gate_dst (N := 8) rfl ?_); (try (refine gate_guard (by rfl) ?_; dsimp only)); refine box_event ?hg (N := 8) ?hd (cs := #[.int .i64 0, .int .i64 0, .int .i64 0, .int .i64 0, .int .i64 0, .int .i64 0, .bool false]) (t := 29) ?hr ?_; (case hd => rfl); (case hg => rfl); (case hr => first | (go_simp; done) | (go_simp; rfl)); intro gb224 hg w40 hbox hb; have n0_ := Aside0.mk (blk_below (g := gb212) (o := .cells #[.int .i64 a0_0, .int .i64 a0_1, .int .i64 a0_2, .int .i64 a0_3, .int .i64 a0_4, .int .i64 a0_5, .bool a0_6] 29 (0, 0)) (by (with_reducible repeat (first | refine blk_drewN ?_ _ | refine blk_drew ?_ | refine blk_alloc ?_ _)); exact BK212.out) hb); have n1_ := Aside0.mk (below_step (by repeat (first | (with_reducible first | exact HB.out | apply below_alloc | apply pw_below_drewN | apply below_drew1 | refine below_set ?_ GE212.out) | exact HB.out)) hb); have n2_ := Aside0.mk (hbox); have n3_ := Aside0.mk ((by rw [hg]; exact (below_size (by repeat (first | (with_reducible first | exact HB.out | apply below_alloc | apply pw_below_drewN | apply below_drew1 | refine below_set ?_ GE212.out) | exact HB.out))) : w.heap.size ≤ gb224)); have n4_ := Aside0.mk ((by rw [hg]; exact (below_size (by repeat (first | (with_reducible first | exact HB.out | apply below_alloc | apply pw_below_drewN | apply below_drew1 | refine below_set ?_ GE212.out) | exact HB.out))) : w.heap.size ≤ gb224)); have n5_ := Aside0.mk ((by rw [hg]; exact Nat.ne_of_lt (blk_lt (g := gb212) (o := .cells #[.int .i64 a0_0, .int .i64 a0_1, .int .i64 a0_2, .int .i64 a0_3, .int .i64 a0_4, .int .i64 a0_5, .bool a0_6] 29 (0, 0)) (by (with_reducible repeat (first | refine blk_drewN ?_ _ | refine blk_drew ?_ | refine blk_alloc ?_ _)); exact BK212.out)) : gb212 ≠ gb224)); have n6_ := Aside0.mk ((by rw [hg]; exact Nat.ne_of_gt (blk_lt (g := gb212) (o := .cells #[.int .i64 a0_0, .int .i64 a0_1, .int .i64 a0_2, .int .i64 a0_3, .int .i64 a0_4, .int .i64 a0_5, .bool a0_6] 29 (0, 0)) (by (with_reducible repeat (first | refine blk_drewN ?_ _ | refine blk_drew ?_ | refine blk_alloc ?_ _)); exact BK212.out)) : gb224 ≠ gb212)); clear BK212; clear HB; have BK212 := n0_; have HB := n1_; have BK224 := n2_; have GW224 := n3_; have GE224 := n4_; have NB212_224 := n5_; have NB224_212 := n6_; clear n0_ n1_ n2_ n3_ n4_ n5_ n6_; clear hb hbox hg; have hnb41 := NB224_212.out; have hnc41 := NB212_224.out; have hcz42_0 : w40.cell? ⟨gb224, 0, none⟩ = some (.int .i64 0) := (blk_cell BK224.out 0).trans rfl; have hcz42_1 : w40.cell? ⟨gb224, 1, none⟩ = some (.int .i64 0) := (blk_cell BK224.out 1).trans rfl; have hcz42_2 : w40.cell? ⟨gb224, 2, none⟩ = some (.int .i64 0) := (blk_cell BK224.out 2).trans rfl; have hcz42_3 : w40.cell? ⟨gb224, 3, none⟩ = some (.int .i64 0) := (blk_cell BK224.out 3).trans rfl; have hcz42_4 : w40.cell? ⟨gb224, 4, none⟩ = some (.int .i64 0) := (blk_cell BK224.out 4).trans rfl; have hcz42_5 : w40.cell? ⟨gb224, 5, none⟩ = some (.int .i64 0) := (blk_cell BK224.out 5).trans rfl; have hcz42_6 : w40.cell? ⟨gb224, 6, none⟩ = some (.bool false) := (blk_cell BK224.out 6).trans rfl; have hfz42_0 := blk_frozen BK224.out 0; have hfz42_1 := blk_frozen BK224.out 1; have hfz42_2 := blk_frozen BK224.out 2; have hfz42_3 := blk_frozen BK224.out 3; have hfz42_4 := blk_frozen BK224.out 4; have hfz42_5 := blk_frozen BK224.out 5; have hfz42_6 := blk_frozen BK224.out 6) | ((with_reducible refine gate_callee (f := 16) rfl ?_); refine goesL_ (some 42) rfl rfl Try.func16 (by kernel_rfl) rfl #[.string (t215 ++ a2)] rfl (by (try simp only [List.map_toArray, List.map_cons, List.map_nil]); first | done | rfl | (simp only [List.length_drop, List.length_take]; rfl)) ?_; (with_reducible refine (bpdu_Read.calls kj5 (t215 ++ a2) t225 t226 t227 t228 t229 t230 t231 t232 _ A24.out).mono ?_); rintro e w43 ⟨rfl, hb⟩; refine ⟨_, rfl, ?_⟩; have n0_ := Aside0.mk (blk_below (g := gb212) (o := .cells #[.int .i64 a0_0, .int .i64 a0_1, .int .i64 a0_2, .int .i64 a0_3, .int .i64 a0_4, .int .i64 a0_5, .bool a0_6] 29 (0, 0)) (by (with_reducible repeat (first | refine blk_drewN ?_ _ | refine blk_drew ?_ | refine blk_alloc ?_ _)); refine blk_far ?_ NB212_224.out _; (with_reducible repeat (first | refine blk_drewN ?_ _ | refine blk_drew ?_ | refine blk_alloc ?_ _)); refine blk_far ?_ NB212_224.out _; (with_reducible repeat (first | refine blk_drewN ?_ _ | refine blk_drew ?_ | refine blk_alloc ?_ _)); refine blk_far ?_ NB212_224.out _; (with_reducible repeat (first | refine blk_drewN ?_ _ | refine blk_drew ?_ | refine blk_alloc ?_ _)); refine blk_far ?_ NB212_224.out _; (with_reducible repeat (first | refine blk_drewN ?_ _ | refine blk_drew ?_ | refine blk_alloc ?_ _)); refine blk_far ?_ NB212_224.out _; (with_reducible repeat (first | refine blk_drewN ?_ _ | refine blk_drew ?_ | refine blk_alloc ?_ _)); refine blk_far ?_ NB212_224.out _; (with_reducible repeat (first | refine blk_drewN ?_ _ | refine blk_drew ?_ | refine blk_alloc ?_ _)); refine blk_far ?_ NB212_224.out _; (with_reducible repeat (first | refine blk_drewN ?_ _ | refine blk_drew ?_ | refine blk_alloc ?_ _)); exact BK212.out) hb); have n1_ := Aside0.mk (blk_below (g := gb224) (o := .cells #[.int .i64 t216, .int .i64 t217, .int .i64 t218, .int .i64 t219, .int .i64 t220, .int .i64 t221, .bool t222] 29 (0, 0)) (by (with_reducible repeat (first | refine blk_drewN ?_ _ | refine blk_drew ?_ | refine blk_alloc ?_ _)); refine blk_put (cs := #[.int .i64 t216, .int .i64 t217, .int .i64 t218, .int .i64 t219, .int .i64 t220, .int .i64 t221, .bool false]) ?_ 6 _ rfl; (with_reducible repeat (first | refine blk_drewN ?_ _ | refine blk_drew ?_ | refine blk_alloc ?_ _)); refine blk_put (cs := #[.int .i64 t216, .int .i64 t217, .int .i64 t218, .int .i64 t219, .int .i64 t220, .int .i64 0, .bool false]) ?_ 5 _ rfl; (with_reducible repeat (first | refine blk_drewN ?_ _ | refine blk_drew ?_ | refine blk_alloc ?_ _)); refine blk_put (cs := #[.int .i64 t216, .int .i64 t217, .int .i64 t218, .int .i64 t219, .int .i64 0, .int .i64 0, .bool false]) ?_ 4 _ rfl; (with_reducible repeat (first | refine blk_drewN ?_ _ | refine blk_drew ?_ | refine blk_alloc ?_ _)); refine blk_put (cs := #[.int .i64 t216, .int .i64 t217, .int .i64 t218, .int .i64 0, .int .i64 0, .int .i64 0, .bool false]) ?_ 3 _ rfl; (with_reducible repeat (first | refine blk_drewN ?_ _ | refine blk_drew ?_ | refine blk_alloc ?_ _)); refine blk_put (cs := #[.int .i64 t216, .int .i64 t217, .int .i64 0, .int .i64 0, .int .i64 0, .int .i64 0, .bool false]) ?_ 2 _ rfl; (with_reducible repeat (first | refine blk_drewN ?_ _ | refine blk_drew ?_ | refine blk_alloc ?_ _)); refine blk_put (cs := #[.int .i64 t216, .int .i64 0, .int .i64 0, .int .i64 0, .int .i64 0, .int .i64 0, .bool false]) ?_ 1 _ rfl; (with_reducible repeat (first | refine blk_drewN ?_ _ | refine blk_drew ?_ | refine blk_alloc ?_ _)); refine blk_put (cs := #[.int .i64 0, .int .i64 0, .int .i64 0, .int .i64 0, .int .i64 0, .int .i64 0, .bool false]) ?_ 0 _ rfl; (with_reducible repeat (first | refine blk_drewN ?_ _ | refine blk_drew ?_ | refine blk_alloc ?_ _)); exact BK224.out) hb); have n2_ := Aside0.mk (below_step (by repeat (first | (with_reducible first | exact HB.out | apply below_alloc | apply pw_below_drewN | apply below_drew1 | refine below_set ?_ GE212.out | refine below_set ?_ GE224.out) | exact HB.out)) hb); clear BK212; clear BK224; clear HB; have BK212 := n0_; have BK224 := n1_; have HB := n2_; clear n0_ n1_ n2_; (try clear hb); (try clear hb2); (try clear hk); (try clear hi)) | ((with_reducible refine gate_dst (N := 10) rfl ?_); (try (refine gate_guard (by rfl) ?_; dsimp only)); refine box_event ?hg (N := 10) ?hd (cs := #[.int .i64 0, .int .i64 0, .int .i64 0, .int .i64 0, .int .i64 0, .int .i64 0, .bool false]) (t := 29) ?hr ?_; (case hd => rfl); (case hg => rfl); (case hr => first | (go_simp; done) | (go_simp; rfl)); intro gb233 hg w44 hbox hb; have n0_ := Aside0.mk (blk_below (g := gb212) (o := .cells #[.int .i64 a0_0, .int .i64 a0_1, .int .i64 a0_2, .int .i64 a0_3, .int .i64 a0_4, .int .i64 a0_5, .bool a0_6] 29 (0, 0)) (by (with_reducible repeat (first | refine blk_drewN ?_ _ | refine blk_drew ?_ | refine blk_alloc ?_ _)); exact BK212.out) hb); have n1_ := Aside0.mk (blk_below (g := gb224) (o := .cells #[.int .i64 t216, .int .i64 t217, .int .i64 t218, .int .i64 t219, .int .i64 t220, .int .i64 t221, .bool t222] 29 (0, 0)) (by (with_reducible repeat (first | refine blk_drewN ?_ _ | refine blk_drew ?_ | refine blk_alloc ?_ _)); exact BK224.out) hb); have n2_ := Aside0.mk (below_step (by repeat (first | (with_reducible first | exact HB.out | apply below_alloc | apply pw_below_drewN | apply below_drew1 | refine below_set ?_ GE212.out | refine below_set ?_ GE224.out) | exact HB.out)) hb); have n3_ := Aside0.mk (hbox); have n4_ := Aside0.mk ((by rw [hg]; exact (below_size (by repeat (first | (with_reducible first | exact HB.out | apply below_alloc | apply pw_below_drewN | apply below_drew1 | refine below_set ?_ GE212.out | refine below_set ?_ GE224.out) | exact HB.out))) : w.heap.size ≤ gb233)); have n5_ := Aside0.mk ((by rw [hg]; exact (below_size (by repeat (first | (with_reducible first | exact HB.out | apply below_alloc | apply pw_below_drewN | apply below_drew1 | refine below_set ?_ GE212.out | refine below_set ?_ GE224.out) | exact HB.out))) : w.heap.size ≤ gb233)); have n6_ := Aside0.mk ((by rw [hg]; exact Nat.ne_of_lt (blk_lt (g := gb212) (o := .cells #[.int .i64 a0_0, .int .i64 a0_1, .int .i64 a0_2, .int .i64 a0_3, .int .i64 a0_4, .int .i64 a0_5, .bool a0_6] 29 (0, 0)) (by (with_reducible repeat (first | refine blk_drewN ?_ _ | refine blk_drew ?_ | refine blk_alloc ?_ _)); exact BK212.out)) : gb212 ≠ gb233)); have n7_ := Aside0.mk ((by rw [hg]; exact Nat.ne_of_gt (blk_lt (g := gb212) (o := .cells #[.int .i64 a0_0, .int .i64 a0_1, .int .i64 a0_2, .int .i64 a0_3, .int .i64 a0_4, .int .i64 a0_5, .bool a0_6] 29 (0, 0)) (by (with_reducible repeat (first | refine blk_drewN ?_ _ | refine blk_drew ?_ | refine blk_alloc ?_ _)); exact BK212.out)) : gb233 ≠ gb212)); have n8_ := Aside0.mk ((by rw [hg]; exact Nat.ne_of_lt (blk_lt (g := gb224) (o := .cells #[.int .i64 t216, .int .i64 t217, .int .i64 t218, .int .i64 t219, .int .i64 t220, .int .i64 t221, .bool t222] 29 (0, 0)) (by (with_reducible repeat (first | refine blk_drewN ?_ _ | refine blk_drew ?_ | refine blk_alloc ?_ _)); exact BK224.out)) : gb224 ≠ gb233)); have n9_ := Aside0.mk ((by rw [hg]; exact Nat.ne_of_gt (blk_lt (g := gb224) (o := .cells #[.int .i64 t216, .int .i64 t217, .int .i64 t218, .int .i64 t219, .int .i64 t220, .int .i64 t221, .bool t222] 29 (0, 0)) (by (with_reducible repeat (first | refine blk_drewN ?_ _ | refine blk_drew ?_ | refine blk_alloc ?_ _)); exact BK224.out)) : gb233 ≠ gb224)); clear BK212; clear BK224; clear HB; have BK212 := n0_; have BK224 := n1_; have HB := n2_; have BK233 := n3_; have GW233 := n4_; have GE233 := n5_; have NB212_233 := n6_; have NB233_212 := n7_; have NB224_233 := n8_; have NB233_224 := n9_; clear n0_ n1_ n2_ n3_ n4_ n5_ n6_ n7_ n8_ n9_; clear hb hbox hg; have hnb45 := NB233_212.out; have hnc45 := NB212_233.out; have hnb46 := NB233_224.out; have hnc46 := NB224_233.out; have hcz47_0 : w44.cell? ⟨gb233, 0, none⟩ = some (.int .i64 0) := (blk_cell BK233.out 0).trans rfl; have hcz47_1 : w44.cell? ⟨gb233, 1, none⟩ = some (.int .i64 0) := (blk_cell BK233.out 1).trans rfl; have hcz47_2 : w44.cell? ⟨gb233, 2, none⟩ = some (.int .i64 0) := (blk_cell BK233.out 2).trans rfl; have hcz47_3 : w44.cell? ⟨gb233, 3, none⟩ = some (.int .i64 0) := (blk_cell BK233.out 3).trans rfl; have hcz47_4 : w44.cell? ⟨gb233, 4, none⟩ = some (.int .i64 0) := (blk_cell BK233.out 4).trans rfl; have hcz47_5 : w44.cell? ⟨gb233, 5, none⟩ = some (.int .i64 0) := (blk_cell BK233.out 5).trans rfl; have hcz47_6 : w44.cell? ⟨gb233, 6, none⟩ = some (.bool false) := (blk_cell BK233.out 6).trans rfl; have hfz47_0 := blk_frozen BK233.out 0; have hfz47_1 := blk_frozen BK233.out 1; have hfz47_2 := blk_frozen BK233.out 2; have hfz47_3 := blk_frozen BK233.out 3; have hfz47_4 := blk_frozen BK233.out 4; have hfz47_5 := blk_frozen BK233.out 5; have hfz47_6 := blk_frozen BK233.out 6))
                  go_ret
                  exact ⟨by first | rfl | (simp [errW_none, errW_some] <;> rfl) | (simp only [← hji19]; first | rfl | (simp [errW_none, errW_some] <;> rfl)) | ((repeat rw [Int.tdiv_eq_ediv_of_nonneg (by omega)]); (repeat rw [Int.tmod_eq_emod_of_nonneg (by omega)]); first | rfl | (simp [errW_none, errW_some] <;> rfl)) | (simp [*, errW_none, errW_some] <;> rfl), by repeat (first | (with_reducible first | exact HB.out | apply below_alloc | apply pw_below_drewN | apply below_drew1 | refine below_set ?_ GE212.out | refine below_set ?_ GE224.out | refine below_set ?_ GE233.out) | exact HB.out)⟩
              · rw [if_neg c23] at H
                exact absurd H (by simp)
            · rw [if_neg c21] at H
              exact absurd H (by simp)
          · rw [if_neg c20] at H
            exact absurd H (by simp)
  · replace c5 := Bool.eq_false_iff.mpr c5
    subst c5
    have H1 : (some false) = some r := by rw [if_neg (show ¬ (false = true) by decide)] at H; exact H
    clear H
    have H := H1
    clear H1
    obtain rfl := Option.some.inj H
    go_enter Try.func6, Try.ntmps6
    go_wp2_with (first | ((with_reducible refine gate_dst (N := 3) rfl ?_); (try (refine gate_guard (by rfl) ?_; dsimp only)); refine box_event ?hg (N := 3) ?hd (cs := #[.int .i64 a0_0, .int .i64 a0_1, .int .i64 a0_2, .int .i64 a0_3, .int .i64 a0_4, .int .i64 a0_5, .bool a0_6]) (t := 29) ?hr ?_; (case hd => rfl); (case hg => rfl); (case hr => first | (go_simp; done) | (go_simp; rfl)); intro gb212 hg w48 hbox hb; have n0_ := Aside0.mk (below_step (by repeat (first | (with_reducible first | exact HB.out | apply below_alloc | apply pw_below_drewN | apply below_drew1) | exact HB.out)) hb); have n1_ := Aside0.mk (hbox); have n2_ := Aside0.mk ((by rw [hg]; exact (below_size (by repeat (first | (with_reducible first | exact HB.out | apply below_alloc | apply pw_below_drewN | apply below_drew1) | exact HB.out))) : w.heap.size ≤ gb212)); have n3_ := Aside0.mk ((by rw [hg]; exact (below_size (by repeat (first | (with_reducible first | exact HB.out | apply below_alloc | apply pw_below_drewN | apply below_drew1) | exact HB.out))) : w.heap.size ≤ gb212)); clear HB; have HB := n0_; have BK212 := n1_; have GW212 := n2_; have GE212 := n3_; clear n0_ n1_ n2_ n3_; clear hb hbox hg) | ((with_reducible refine gate_callee (f := 8) rfl ?_); refine goesL_ (some 12) rfl rfl Try.func8 (by kernel_rfl) rfl #[] rfl (by (try simp only [List.map_toArray, List.map_cons, List.map_nil]); first | done | rfl | (simp only [List.length_drop, List.length_take]; rfl)) ?_; (with_reducible refine (kissgatelaw08_alive.calls k  false _ A4.out).mono ?_); rintro e w' ⟨rfl, ⟨nd, rfl⟩⟩; refine ⟨_, rfl, ?_⟩))
    go_ret
    exact ⟨by first | rfl | (simp [errW_none, errW_some] <;> rfl) | ((repeat rw [Int.tdiv_eq_ediv_of_nonneg (by omega)]); (repeat rw [Int.tmod_eq_emod_of_nonneg (by omega)]); first | rfl | (simp [errW_none, errW_some] <;> rfl)) | (simp [*, errW_none, errW_some] <;> rfl), by repeat (first | (with_reducible first | exact HB.out | apply below_alloc | apply pw_below_drewN | apply below_drew1 | refine below_set ?_ GE212.out) | exact HB.out)⟩

/-- THE ONE PURE STATEMENT of kissgatelaw08_BpduCuts: yours. -/
def kissgatelaw08_BpduCuts.Pure : Prop := ∀ (a0_0 : Int) (a0_1 : Int) (a0_2 : Int) (a0_3 : Int) (a0_4 : Int) (a0_5 : Int) (a0_6 : Bool) (a1 : Int) (a2 : ByteArray), (Lit.int .i64 a0_0).wf = true → (Lit.int .i64 a0_1).wf = true → (Lit.int .i64 a0_2).wf = true → (Lit.int .i64 a0_3).wf = true → (Lit.int .i64 a0_4).wf = true → (Lit.int .i64 a0_5).wf = true → (Lit.int .i64 a1).wf = true → a2.size ≤ 140737488351232 → ∃ k, kissgatelaw08_BpduCuts.f k a0_0 a0_1 a0_2 a0_3 a0_4 a0_5 a0_6 a1 a2 = some true
theorem kissgatelaw08_BpduCuts.walk (P : kissgatelaw08_BpduCuts.Pure) (a0_0 : Int) (a0_1 : Int) (a0_2 : Int) (a0_3 : Int) (a0_4 : Int) (a0_5 : Int) (a0_6 : Bool) (a1 : Int) (a2 : ByteArray) (w : World) (w0_0 : (Lit.int .i64 a0_0).wf = true) (w0_1 : (Lit.int .i64 a0_1).wf = true) (w0_2 : (Lit.int .i64 a0_2).wf = true) (w0_3 : (Lit.int .i64 a0_3).wf = true) (w0_4 : (Lit.int .i64 a0_4).wf = true) (w0_5 : (Lit.int .i64 a0_5).wf = true) (w1 : (Lit.int .i64 a1).wf = true) (w2 : a2.size ≤ 140737488351232) :
    Calls Try.prog 6 #[.agg #[.int .i64 a0_0, .int .i64 a0_1, .int .i64 a0_2, .int .i64 a0_3, .int .i64 a0_4, .int .i64 a0_5, .bool a0_6], .int .i64 a1, .string a2] w fun e w' => e = .returned (.bool true) ∧ Below w.heap.size w w' := by
  obtain ⟨k, h⟩ := P a0_0 a0_1 a0_2 a0_3 a0_4 a0_5 a0_6 a1 a2 w0_0 w0_1 w0_2 w0_3 w0_4 w0_5 w1 w2
  refine (kissgatelaw08_BpduCuts.calls k a0_0 a0_1 a0_2 a0_3 a0_4 a0_5 a0_6 a1 a2 true w h).mono ?_
  rintro e w' ⟨rfl, hd⟩
  exact ⟨rfl, hd⟩

end Go.Proofs.Ytjebdmfhnfbomaa.PBpduCuts
