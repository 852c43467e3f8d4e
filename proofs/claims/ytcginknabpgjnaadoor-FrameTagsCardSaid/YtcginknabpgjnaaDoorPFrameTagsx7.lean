-- Written by a program of this session (see NOTES.md), which reads the translation's print; Lean checks it.
import Derived.Test.YtcginknabpgjnaaDoorPFrameTagsx0
import Derived.Test.YtcginknabpgjnaaDoorPFrameTagsx6
namespace Go.Proofs.YtcginknabpgjnaaDoor.PFrameTags
open Go.RowKit Go.Proofs.YtcginknabpgjnaaDoorW.PrintWords Go.Proofs.YtcginknabpgjnaaDoorW.PrintLast Go.Proofs.YtcginknabpgjnaaDoorW.PrintMore
attribute [local go_sem] max2_int min2_int max_two min_two max_three min_three max_four min_four   -- for this text's walks alone
set_option linter.unusedVariables false
set_option linter.unusedSimpArgs false

/-! ### kissgateref05_Good: function 9 -/
def kissgateref05_Good.j0 : Nat → Bool → Int → Int → Bool → Int → Int → Int → ByteArray → Option (Bool)
  | 0, _, _, _, _, _, _, _, _ => none
  | k + 1, x23, x137000, x137001, x137002, x137003, x137004, x137005, x137006 => if x23 = true then (some false) else (if x137002 = true then (if x137003 < 0 then (some false) else (if x137003 > 4094 then (some false) else (if x137004 < 0 then (some false) else (if x137004 > 7 then (some false) else (if x137005 = 0 then (some true) else (if x137005 ≥ 1536 then (if x137005 < 65536 then (some (x137005 != 33024)) else (some false)) else (some false))))))) else (if x137003 = 0 then (if x137004 = 0 then (if x137005 = 0 then (some true) else (if x137005 ≥ 1536 then (if x137005 < 65536 then (some (x137005 != 33024)) else (some false)) else (some false))) else (some false)) else (some false)))
def kissgateref05_Good.f (k : Nat) (a0_0 : Int) (a0_1 : Int) (a0_2 : Bool) (a0_3 : Int) (a0_4 : Int) (a0_5 : Int) (a0_6 : ByteArray) : Option (Bool) := (kissgateref02_Good.f a0_0).bind fun t137 => (if t137 = true then ((kissgateref02_Good.f a0_1).bind fun t138 => (if t138 = true then ((kissgateref02_Many.f a0_1).bind fun t139 => (if t139 = true then (kissgateref05_Good.j0 k true a0_0 a0_1 a0_2 a0_3 a0_4 a0_5 a0_6) else (kissgateref05_Good.j0 k (decide ((a0_6.size : Int) > 400)) a0_0 a0_1 a0_2 a0_3 a0_4 a0_5 a0_6))) else (kissgateref05_Good.j0 k true a0_0 a0_1 a0_2 a0_3 a0_4 a0_5 a0_6))) else (kissgateref05_Good.j0 k true a0_0 a0_1 a0_2 a0_3 a0_4 a0_5 a0_6))
theorem kissgateref05_Good.mono_l : ∀ k, (∀ y0 y1 y2 y3 y4 y5 y6 y7, LeO (kissgateref05_Good.j0 k y0 y1 y2 y3 y4 y5 y6 y7) (kissgateref05_Good.j0 (k + 1) y0 y1 y2 y3 y4 y5 y6 y7))
  | 0 => fun _ _ _ _ _ _ _ _ r h => by simp [kissgateref05_Good.j0] at h
  | k + 1 => by
    have ih0 := kissgateref05_Good.mono_l k
    · intro y0 y1 y2 y3 y4 y5 y6 y7
      unfold kissgateref05_Good.j0
      repeat' first
      | (with_reducible exact ih0 _ _ _ _ _ _ _ _)
      | (with_reducible exact LeO.refl _)
      | (with_reducible exact LeO.none _)
      | (with_reducible refine LeO.ite ?_ ?_)
      | (with_reducible refine LeO.bind ?_ (fun _ => ?_))
      | exact ih0 _ _ _ _ _ _ _ _
      | exact LeO.none _
      | refine LeO.ite ?_ ?_
      | refine LeO.bind ?_ (fun _ => ?_)
theorem kissgateref05_Good.mono : ∀ a0 a1 a2 a3 a4 a5 a6 k, LeO (kissgateref05_Good.f k a0 a1 a2 a3 a4 a5 a6) (kissgateref05_Good.f (k + 1) a0 a1 a2 a3 a4 a5 a6) := by
  intro a0 a1 a2 a3 a4 a5 a6 k
  have ih0 := kissgateref05_Good.mono_l k
  unfold kissgateref05_Good.f
  repeat' first
      | (with_reducible exact ih0 _ _ _ _ _ _ _ _)
      | (with_reducible exact LeO.refl _)
      | (with_reducible exact LeO.none _)
      | (with_reducible refine LeO.ite ?_ ?_)
      | (with_reducible refine LeO.bind ?_ (fun _ => ?_))
      | exact ih0 _ _ _ _ _ _ _ _
      | exact LeO.none _
      | refine LeO.ite ?_ ?_
      | refine LeO.bind ?_ (fun _ => ?_)
set_option maxHeartbeats 8000000 in
set_option maxRecDepth 100000 in
theorem kissgateref05_Good.calls (k : Nat) (a0_0 : Int) (a0_1 : Int) (a0_2 : Bool) (a0_3 : Int) (a0_4 : Int) (a0_5 : Int) (a0_6 : ByteArray) (r : Bool) (w : World) (h : kissgateref05_Good.f k a0_0 a0_1 a0_2 a0_3 a0_4 a0_5 a0_6 = some r) :
    Calls Tryd.prog 9 #[.agg #[.int .i64 a0_0, .int .i64 a0_1, .bool a0_2, .int .i64 a0_3, .int .i64 a0_4, .int .i64 a0_5, .string a0_6]] w fun e w' => e = .returned (.bool r) ∧ Below w.heap.size w w' := by
  have hu23 := Tryd.underlying23
  have HB := Aside0.mk (Below.refl w.heap.size w)
  have H : ((kissgateref02_Good.f a0_0).bind fun t137 => (if t137 = true then ((kissgateref02_Good.f a0_1).bind fun t138 => (if t138 = true then ((kissgateref02_Many.f a0_1).bind fun t139 => (if t139 = true then (kissgateref05_Good.j0 k true a0_0 a0_1 a0_2 a0_3 a0_4 a0_5 a0_6) else (kissgateref05_Good.j0 k (decide ((a0_6.size : Int) > 400)) a0_0 a0_1 a0_2 a0_3 a0_4 a0_5 a0_6))) else (kissgateref05_Good.j0 k true a0_0 a0_1 a0_2 a0_3 a0_4 a0_5 a0_6))) else (kissgateref05_Good.j0 k true a0_0 a0_1 a0_2 a0_3 a0_4 a0_5 a0_6))) = some r := h
  clear h
  have HC2 := Aside0.mk H
  clear H
  go_enter Tryd.func9, Tryd.ntmps9
  go_upto_region 1 with (first | ((with_reducible refine gate_dst (N := 1) rfl ?_); (try (refine gate_guard (by rfl) ?_; dsimp only)); refine box_event ?hg (N := 1) ?hd (cs := #[.int .i64 a0_0, .int .i64 a0_1, .bool a0_2, .int .i64 a0_3, .int .i64 a0_4, .int .i64 a0_5, .string a0_6]) (t := 23) ?hr ?_; (case hd => rfl); (case hg => rfl); (case hr => first | (go_simp; done) | (go_simp; rfl)); intro gb136 hg w3 hbox hb; have n0_ := Aside0.mk (below_step (by repeat (first | (with_reducible first | exact HB.out | apply below_alloc | apply pw_below_drewN | apply below_drew1) | exact HB.out)) hb); have n1_ := Aside0.mk (hbox); have n2_ := Aside0.mk ((by rw [hg]; exact (below_size (by repeat (first | (with_reducible first | exact HB.out | apply below_alloc | apply pw_below_drewN | apply below_drew1) | exact HB.out))) : w.heap.size ≤ gb136)); have n3_ := Aside0.mk ((by rw [hg]; exact (below_size (by repeat (first | (with_reducible first | exact HB.out | apply below_alloc | apply pw_below_drewN | apply below_drew1) | exact HB.out))) : w.heap.size ≤ gb136)); clear HB; have HB := n0_; have BK136 := n1_; have GW136 := n2_; have GE136 := n3_; clear n0_ n1_ n2_ n3_; clear hb hbox hg))
  (try simp only [Act.put, List.setIfInBounds_toArray, List.set_cons_zero, List.set_cons_succ])
  go_cut [23] (fun v23 wc => ∃ (kq : Nat) (x23_1 : Bool), v23 = .bool x23_1 ∧ Aside0 (kissgateref05_Good.j0 kq x23_1 a0_0 a0_1 a0_2 a0_3 a0_4 a0_5 a0_6 = some r) ∧ Aside0 (kq ≤ k) ∧ Aside0 (wc.heap[gb136]? = some (.cells #[.int .i64 a0_0, .int .i64 a0_1, .bool a0_2, .int .i64 a0_3, .int .i64 a0_4, .int .i64 a0_5, .string a0_6] 23 (0, 0))) ∧ Aside0 (Below w.heap.size w wc))
  case first =>
    have H := HC2.out
    clear HC2
    replace H := Option.bind_eq_some_iff.mp H
    obtain ⟨t137, A40, H⟩ := H
    replace H : (if t137 = true then ((kissgateref02_Good.f a0_1).bind fun t138 => (if t138 = true then ((kissgateref02_Many.f a0_1).bind fun t139 => (if t139 = true then (kissgateref05_Good.j0 k true a0_0 a0_1 a0_2 a0_3 a0_4 a0_5 a0_6) else (kissgateref05_Good.j0 k (decide ((a0_6.size : Int) > 400)) a0_0 a0_1 a0_2 a0_3 a0_4 a0_5 a0_6))) else (kissgateref05_Good.j0 k true a0_0 a0_1 a0_2 a0_3 a0_4 a0_5 a0_6))) else (kissgateref05_Good.j0 k true a0_0 a0_1 a0_2 a0_3 a0_4 a0_5 a0_6)) = some r := H
    have A4 := Aside0.mk A40
    clear A40
    by_cases c5 : t137 = true
    · subst c5
      have H1 : ((kissgateref02_Good.f a0_1).bind fun t138 => (if t138 = true then ((kissgateref02_Many.f a0_1).bind fun t139 => (if t139 = true then (kissgateref05_Good.j0 k true a0_0 a0_1 a0_2 a0_3 a0_4 a0_5 a0_6) else (kissgateref05_Good.j0 k (decide ((a0_6.size : Int) > 400)) a0_0 a0_1 a0_2 a0_3 a0_4 a0_5 a0_6))) else (kissgateref05_Good.j0 k true a0_0 a0_1 a0_2 a0_3 a0_4 a0_5 a0_6))) = some r := by rw [if_pos rfl] at H; exact H
      clear H
      have H := H1
      clear H1
      replace H := Option.bind_eq_some_iff.mp H
      obtain ⟨t138, A60, H⟩ := H
      replace H : (if t138 = true then ((kissgateref02_Many.f a0_1).bind fun t139 => (if t139 = true then (kissgateref05_Good.j0 k true a0_0 a0_1 a0_2 a0_3 a0_4 a0_5 a0_6) else (kissgateref05_Good.j0 k (decide ((a0_6.size : Int) > 400)) a0_0 a0_1 a0_2 a0_3 a0_4 a0_5 a0_6))) else (kissgateref05_Good.j0 k true a0_0 a0_1 a0_2 a0_3 a0_4 a0_5 a0_6)) = some r := H
      have A6 := Aside0.mk A60
      clear A60
      by_cases c7 : t138 = true
      · subst c7
        have H1 : ((kissgateref02_Many.f a0_1).bind fun t139 => (if t139 = true then (kissgateref05_Good.j0 k true a0_0 a0_1 a0_2 a0_3 a0_4 a0_5 a0_6) else (kissgateref05_Good.j0 k (decide ((a0_6.size : Int) > 400)) a0_0 a0_1 a0_2 a0_3 a0_4 a0_5 a0_6))) = some r := by rw [if_pos rfl] at H; exact H
        clear H
        have H := H1
        clear H1
        replace H := Option.bind_eq_some_iff.mp H
        obtain ⟨t139, A80, H⟩ := H
        replace H : (if t139 = true then (kissgateref05_Good.j0 k true a0_0 a0_1 a0_2 a0_3 a0_4 a0_5 a0_6) else (kissgateref05_Good.j0 k (decide ((a0_6.size : Int) > 400)) a0_0 a0_1 a0_2 a0_3 a0_4 a0_5 a0_6)) = some r := H
        have A8 := Aside0.mk A80
        clear A80
        by_cases c9 : t139 = true
        · subst c9
          have H1 : (kissgateref05_Good.j0 k true a0_0 a0_1 a0_2 a0_3 a0_4 a0_5 a0_6) = some r := by rw [if_pos rfl] at H; exact H
          clear H
          have H := H1
          clear H1
          have H' := Aside0.mk H
          clear H
          have hcz10_0 : w3.cell? ⟨gb136, 0, none⟩ = some (.int .i64 a0_0) := (blk_cell BK136.out 0).trans rfl
          have hcz10_1 : w3.cell? ⟨gb136, 1, none⟩ = some (.int .i64 a0_1) := (blk_cell BK136.out 1).trans rfl
          have hcz10_2 : w3.cell? ⟨gb136, 2, none⟩ = some (.bool a0_2) := (blk_cell BK136.out 2).trans rfl
          have hcz10_3 : w3.cell? ⟨gb136, 3, none⟩ = some (.int .i64 a0_3) := (blk_cell BK136.out 3).trans rfl
          have hcz10_4 : w3.cell? ⟨gb136, 4, none⟩ = some (.int .i64 a0_4) := (blk_cell BK136.out 4).trans rfl
          have hcz10_5 : w3.cell? ⟨gb136, 5, none⟩ = some (.int .i64 a0_5) := (blk_cell BK136.out 5).trans rfl
          have hcz10_6 : w3.cell? ⟨gb136, 6, none⟩ = some (.string a0_6) := (blk_cell BK136.out 6).trans rfl
          have hfz10_0 := blk_frozen BK136.out 0
          have hfz10_1 := blk_frozen BK136.out 1
          have hfz10_2 := blk_frozen BK136.out 2
          have hfz10_3 := blk_frozen BK136.out 3
          have hfz10_4 := blk_frozen BK136.out 4
          have hfz10_5 := blk_frozen BK136.out 5
          have hfz10_6 := blk_frozen BK136.out 6
          go_wp2_with (first | ((with_reducible refine gate_callee (f := 16) rfl ?_); refine goesL_ (some 5) rfl rfl Tryd.func16 (by kernel_rfl) rfl #[.int .i64 a0_0] rfl (by (try simp only [List.map_toArray, List.map_cons, List.map_nil]); first | done | rfl | (simp only [List.length_drop, List.length_take]; rfl)) ?_; (with_reducible refine (kissgateref02_Good.calls a0_0 true _ A4.out).mono ?_); rintro e w' ⟨rfl, ⟨nd, rfl⟩⟩; refine ⟨_, rfl, ?_⟩) | (go_at_call 16; (with_reducible refine (kissgateref02_Good.calls a0_1 true _ A6.out).mono ?_); rintro e w' ⟨rfl, ⟨nd, rfl⟩⟩) | (go_at_call 17; (with_reducible refine (kissgateref02_Many.calls a0_1 true _ A8.out).mono ?_); rintro e w' ⟨rfl, ⟨nd, rfl⟩⟩))
          go_meet
          case rel => exact ⟨_, (true), (by first | rfl | (simp; done) | (simp [show ∀ l_ : List UInt8, (l_ != []) = !l_.isEmpty from fun l_ => by cases l_ <;> rfl]; done) | (simp [*]; done)), H', ⟨by first | omega | exact Nat.le_refl _⟩, ⟨by (with_reducible repeat (first | refine blk_drewN ?_ _ | refine blk_drew ?_ | refine blk_alloc ?_ _)); exact BK136.out⟩, ⟨by repeat (first | (with_reducible first | exact HB.out | apply below_alloc | apply pw_below_drewN | apply below_drew1 | refine below_set ?_ GE136.out) | exact HB.out)⟩⟩
        · replace c9 := Bool.eq_false_iff.mpr c9
          subst c9
          have H1 : (kissgateref05_Good.j0 k (decide ((a0_6.size : Int) > 400)) a0_0 a0_1 a0_2 a0_3 a0_4 a0_5 a0_6) = some r := by rw [if_neg (show ¬ (false = true) by decide)] at H; exact H
          clear H
          have H := H1
          clear H1
          have H' := Aside0.mk H
          clear H
          have hcz11_0 : w3.cell? ⟨gb136, 0, none⟩ = some (.int .i64 a0_0) := (blk_cell BK136.out 0).trans rfl
          have hcz11_1 : w3.cell? ⟨gb136, 1, none⟩ = some (.int .i64 a0_1) := (blk_cell BK136.out 1).trans rfl
          have hcz11_2 : w3.cell? ⟨gb136, 2, none⟩ = some (.bool a0_2) := (blk_cell BK136.out 2).trans rfl
          have hcz11_3 : w3.cell? ⟨gb136, 3, none⟩ = some (.int .i64 a0_3) := (blk_cell BK136.out 3).trans rfl
          have hcz11_4 : w3.cell? ⟨gb136, 4, none⟩ = some (.int .i64 a0_4) := (blk_cell BK136.out 4).trans rfl
          have hcz11_5 : w3.cell? ⟨gb136, 5, none⟩ = some (.int .i64 a0_5) := (blk_cell BK136.out 5).trans rfl
          have hcz11_6 : w3.cell? ⟨gb136, 6, none⟩ = some (.string a0_6) := (blk_cell BK136.out 6).trans rfl
          have hfz11_0 := blk_frozen BK136.out 0
          have hfz11_1 := blk_frozen BK136.out 1
          have hfz11_2 := blk_frozen BK136.out 2
          have hfz11_3 := blk_frozen BK136.out 3
          have hfz11_4 := blk_frozen BK136.out 4
          have hfz11_5 := blk_frozen BK136.out 5
          have hfz11_6 := blk_frozen BK136.out 6
          go_wp2_with (first | ((with_reducible refine gate_callee (f := 16) rfl ?_); refine goesL_ (some 5) rfl rfl Tryd.func16 (by kernel_rfl) rfl #[.int .i64 a0_0] rfl (by (try simp only [List.map_toArray, List.map_cons, List.map_nil]); first | done | rfl | (simp only [List.length_drop, List.length_take]; rfl)) ?_; (with_reducible refine (kissgateref02_Good.calls a0_0 true _ A4.out).mono ?_); rintro e w' ⟨rfl, ⟨nd, rfl⟩⟩; refine ⟨_, rfl, ?_⟩) | (go_at_call 16; (with_reducible refine (kissgateref02_Good.calls a0_1 true _ A6.out).mono ?_); rintro e w' ⟨rfl, ⟨nd, rfl⟩⟩) | (go_at_call 17; (with_reducible refine (kissgateref02_Many.calls a0_1 false _ A8.out).mono ?_); rintro e w' ⟨rfl, ⟨nd, rfl⟩⟩))
          go_meet
          case rel => exact ⟨_, (decide ((a0_6.size : Int) > 400)), (by first | rfl | (simp; done) | (simp [show ∀ l_ : List UInt8, (l_ != []) = !l_.isEmpty from fun l_ => by cases l_ <;> rfl]; done) | (simp [*]; done)), H', ⟨by first | omega | exact Nat.le_refl _⟩, ⟨by (with_reducible repeat (first | refine blk_drewN ?_ _ | refine blk_drew ?_ | refine blk_alloc ?_ _)); exact BK136.out⟩, ⟨by repeat (first | (with_reducible first | exact HB.out | apply below_alloc | apply pw_below_drewN | apply below_drew1 | refine below_set ?_ GE136.out) | exact HB.out)⟩⟩
      · replace c7 := Bool.eq_false_iff.mpr c7
        subst c7
        have H1 : (kissgateref05_Good.j0 k true a0_0 a0_1 a0_2 a0_3 a0_4 a0_5 a0_6) = some r := by rw [if_neg (show ¬ (false = true) by decide)] at H; exact H
        clear H
        have H := H1
        clear H1
        have H' := Aside0.mk H
        clear H
        have hcz12_0 : w3.cell? ⟨gb136, 0, none⟩ = some (.int .i64 a0_0) := (blk_cell BK136.out 0).trans rfl
        have hcz12_1 : w3.cell? ⟨gb136, 1, none⟩ = some (.int .i64 a0_1) := (blk_cell BK136.out 1).trans rfl
        have hcz12_2 : w3.cell? ⟨gb136, 2, none⟩ = some (.bool a0_2) := (blk_cell BK136.out 2).trans rfl
        have hcz12_3 : w3.cell? ⟨gb136, 3, none⟩ = some (.int .i64 a0_3) := (blk_cell BK136.out 3).trans rfl
        have hcz12_4 : w3.cell? ⟨gb136, 4, none⟩ = some (.int .i64 a0_4) := (blk_cell BK136.out 4).trans rfl
        have hcz12_5 : w3.cell? ⟨gb136, 5, none⟩ = some (.int .i64 a0_5) := (blk_cell BK136.out 5).trans rfl
        have hcz12_6 : w3.cell? ⟨gb136, 6, none⟩ = some (.string a0_6) := (blk_cell BK136.out 6).trans rfl
        have hfz12_0 := blk_frozen BK136.out 0
        have hfz12_1 := blk_frozen BK136.out 1
        have hfz12_2 := blk_frozen BK136.out 2
        have hfz12_3 := blk_frozen BK136.out 3
        have hfz12_4 := blk_frozen BK136.out 4
        have hfz12_5 := blk_frozen BK136.out 5
        have hfz12_6 := blk_frozen BK136.out 6
        go_wp2_with (first | ((with_reducible refine gate_callee (f := 16) rfl ?_); refine goesL_ (some 5) rfl rfl Tryd.func16 (by kernel_rfl) rfl #[.int .i64 a0_0] rfl (by (try simp only [List.map_toArray, List.map_cons, List.map_nil]); first | done | rfl | (simp only [List.length_drop, List.length_take]; rfl)) ?_; (with_reducible refine (kissgateref02_Good.calls a0_0 true _ A4.out).mono ?_); rintro e w' ⟨rfl, ⟨nd, rfl⟩⟩; refine ⟨_, rfl, ?_⟩) | (go_at_call 16; (with_reducible refine (kissgateref02_Good.calls a0_1 false _ A6.out).mono ?_); rintro e w' ⟨rfl, ⟨nd, rfl⟩⟩))
        go_meet
        case rel => exact ⟨_, (true), (by first | rfl | (simp; done) | (simp [show ∀ l_ : List UInt8, (l_ != []) = !l_.isEmpty from fun l_ => by cases l_ <;> rfl]; done) | (simp [*]; done)), H', ⟨by first | omega | exact Nat.le_refl _⟩, ⟨by (with_reducible repeat (first | refine blk_drewN ?_ _ | refine blk_drew ?_ | refine blk_alloc ?_ _)); exact BK136.out⟩, ⟨by repeat (first | (with_reducible first | exact HB.out | apply below_alloc | apply pw_below_drewN | apply below_drew1 | refine below_set ?_ GE136.out) | exact HB.out)⟩⟩
    · replace c5 := Bool.eq_false_iff.mpr c5
      subst c5
      have H1 : (kissgateref05_Good.j0 k true a0_0 a0_1 a0_2 a0_3 a0_4 a0_5 a0_6) = some r := by rw [if_neg (show ¬ (false = true) by decide)] at H; exact H
      clear H
      have H := H1
      clear H1
      have H' := Aside0.mk H
      clear H
      have hcz13_0 : w3.cell? ⟨gb136, 0, none⟩ = some (.int .i64 a0_0) := (blk_cell BK136.out 0).trans rfl
      have hcz13_1 : w3.cell? ⟨gb136, 1, none⟩ = some (.int .i64 a0_1) := (blk_cell BK136.out 1).trans rfl
      have hcz13_2 : w3.cell? ⟨gb136, 2, none⟩ = some (.bool a0_2) := (blk_cell BK136.out 2).trans rfl
      have hcz13_3 : w3.cell? ⟨gb136, 3, none⟩ = some (.int .i64 a0_3) := (blk_cell BK136.out 3).trans rfl
      have hcz13_4 : w3.cell? ⟨gb136, 4, none⟩ = some (.int .i64 a0_4) := (blk_cell BK136.out 4).trans rfl
      have hcz13_5 : w3.cell? ⟨gb136, 5, none⟩ = some (.int .i64 a0_5) := (blk_cell BK136.out 5).trans rfl
      have hcz13_6 : w3.cell? ⟨gb136, 6, none⟩ = some (.string a0_6) := (blk_cell BK136.out 6).trans rfl
      have hfz13_0 := blk_frozen BK136.out 0
      have hfz13_1 := blk_frozen BK136.out 1
      have hfz13_2 := blk_frozen BK136.out 2
      have hfz13_3 := blk_frozen BK136.out 3
      have hfz13_4 := blk_frozen BK136.out 4
      have hfz13_5 := blk_frozen BK136.out 5
      have hfz13_6 := blk_frozen BK136.out 6
      go_wp2_with (first | ((with_reducible refine gate_callee (f := 16) rfl ?_); refine goesL_ (some 5) rfl rfl Tryd.func16 (by kernel_rfl) rfl #[.int .i64 a0_0] rfl (by (try simp only [List.map_toArray, List.map_cons, List.map_nil]); first | done | rfl | (simp only [List.length_drop, List.length_take]; rfl)) ?_; (with_reducible refine (kissgateref02_Good.calls a0_0 false _ A4.out).mono ?_); rintro e w' ⟨rfl, ⟨nd, rfl⟩⟩; refine ⟨_, rfl, ?_⟩))
      go_meet
      case rel => exact ⟨_, (true), (by first | rfl | (simp; done) | (simp [show ∀ l_ : List UInt8, (l_ != []) = !l_.isEmpty from fun l_ => by cases l_ <;> rfl]; done) | (simp [*]; done)), H', ⟨by first | omega | exact Nat.le_refl _⟩, ⟨by (with_reducible repeat (first | refine blk_drewN ?_ _ | refine blk_drew ?_ | refine blk_alloc ?_ _)); exact BK136.out⟩, ⟨by repeat (first | (with_reducible first | exact HB.out | apply below_alloc | apply pw_below_drewN | apply below_drew1 | refine below_set ?_ GE136.out) | exact HB.out)⟩⟩
  case rest =>
    clear HC2
    try clear c1
    try clear p2
    try clear c5
    try clear c7
    try clear c9
    try clear hcz10_0
    try clear hcz10_1
    try clear hcz10_2
    try clear hcz10_3
    try clear hcz10_4
    try clear hcz10_5
    try clear hcz10_6
    try clear hcz11_0
    try clear hcz11_1
    try clear hcz11_2
    try clear hcz11_3
    try clear hcz11_4
    try clear hcz11_5
    try clear hcz11_6
    try clear hcz12_0
    try clear hcz12_1
    try clear hcz12_2
    try clear hcz12_3
    try clear hcz12_4
    try clear hcz12_5
    try clear hcz12_6
    try clear hcz13_0
    try clear hcz13_1
    try clear hcz13_2
    try clear hcz13_3
    try clear hcz13_4
    try clear hcz13_5
    try clear hcz13_6
    try clear hfz10_0
    try clear hfz10_1
    try clear hfz10_2
    try clear hfz10_3
    try clear hfz10_4
    try clear hfz10_5
    try clear hfz10_6
    try clear hfz11_0
    try clear hfz11_1
    try clear hfz11_2
    try clear hfz11_3
    try clear hfz11_4
    try clear hfz11_5
    try clear hfz11_6
    try clear hfz12_0
    try clear hfz12_1
    try clear hfz12_2
    try clear hfz12_3
    try clear hfz12_4
    try clear hfz12_5
    try clear hfz12_6
    try clear hfz13_0
    try clear hfz13_1
    try clear hfz13_2
    try clear hfz13_3
    try clear hfz13_4
    try clear hfz13_5
    try clear hfz13_6
    obtain ⟨kq, x23_1, rfl, HA, HJ1, BK136, HB⟩ := hcut
    cases kq with
    | zero => exact absurd HA.out (by simp [kissgateref05_Good.j0])
    | succ kj1 =>
      have H := HA.out
      clear HA
      simp only [kissgateref05_Good.j0] at H
      by_cases c14 : x23_1 = true
      · subst c14
        have H1 : (some false) = some r := by rw [if_pos rfl] at H; exact H
        clear H
        have H := H1
        clear H1
        obtain rfl := Option.some.inj H
        go_wp2
        go_ret
        exact ⟨by first | rfl | (simp [show ∀ l_ : List UInt8, (l_ == []) = l_.isEmpty from fun l_ => by cases l_ <;> rfl]; done) | (simp [errW_none, errW_some] <;> rfl) | ((repeat rw [Int.tdiv_eq_ediv_of_nonneg (by omega)]); (repeat rw [Int.tmod_eq_emod_of_nonneg (by omega)]); first | rfl | (simp [errW_none, errW_some] <;> rfl)) | (simp [*, errW_none, errW_some] <;> rfl), by repeat (first | (with_reducible first | exact HB.out | apply below_alloc | apply pw_below_drewN | apply below_drew1 | refine below_set ?_ GE136.out) | exact HB.out)⟩
      · replace c14 := Bool.eq_false_iff.mpr c14
        subst c14
        have H1 : (if a0_2 = true then (if a0_3 < 0 then (some false) else (if a0_3 > 4094 then (some false) else (if a0_4 < 0 then (some false) else (if a0_4 > 7 then (some false) else (if a0_5 = 0 then (some true) else (if a0_5 ≥ 1536 then (if a0_5 < 65536 then (some (a0_5 != 33024)) else (some false)) else (some false))))))) else (if a0_3 = 0 then (if a0_4 = 0 then (if a0_5 = 0 then (some true) else (if a0_5 ≥ 1536 then (if a0_5 < 65536 then (some (a0_5 != 33024)) else (some false)) else (some false))) else (some false)) else (some false))) = some r := by rw [if_neg (show ¬ (false = true) by decide)] at H; exact H
        clear H
        have H := H1
        clear H1
        by_cases c15 : a0_2 = true
        · subst c15
          have H1 : (if a0_3 < 0 then (some false) else (if a0_3 > 4094 then (some false) else (if a0_4 < 0 then (some false) else (if a0_4 > 7 then (some false) else (if a0_5 = 0 then (some true) else (if a0_5 ≥ 1536 then (if a0_5 < 65536 then (some (a0_5 != 33024)) else (some false)) else (some false))))))) = some r := by rw [if_pos rfl] at H; exact H
          clear H
          have H := H1
          clear H1
          by_cases c16 : a0_3 < 0
          · rw [if_pos c16] at H
            have c16b0 : decide (a0_3 < 0) = true := decide_eq_true c16
            clear c16
            obtain rfl := Option.some.inj H
            have hcz17_0 : wc.cell? ⟨gb136, 0, none⟩ = some (.int .i64 a0_0) := (blk_cell BK136.out 0).trans rfl
            have hcz17_1 : wc.cell? ⟨gb136, 1, none⟩ = some (.int .i64 a0_1) := (blk_cell BK136.out 1).trans rfl
            have hcz17_2 : wc.cell? ⟨gb136, 2, none⟩ = some (.bool true) := (blk_cell BK136.out 2).trans rfl
            have hcz17_3 : wc.cell? ⟨gb136, 3, none⟩ = some (.int .i64 a0_3) := (blk_cell BK136.out 3).trans rfl
            have hcz17_4 : wc.cell? ⟨gb136, 4, none⟩ = some (.int .i64 a0_4) := (blk_cell BK136.out 4).trans rfl
            have hcz17_5 : wc.cell? ⟨gb136, 5, none⟩ = some (.int .i64 a0_5) := (blk_cell BK136.out 5).trans rfl
            have hcz17_6 : wc.cell? ⟨gb136, 6, none⟩ = some (.string a0_6) := (blk_cell BK136.out 6).trans rfl
            have hfz17_0 := blk_frozen BK136.out 0
            have hfz17_1 := blk_frozen BK136.out 1
            have hfz17_2 := blk_frozen BK136.out 2
            have hfz17_3 := blk_frozen BK136.out 3
            have hfz17_4 := blk_frozen BK136.out 4
            have hfz17_5 := blk_frozen BK136.out 5
            have hfz17_6 := blk_frozen BK136.out 6
            go_wp2
            go_ret
            exact ⟨by first | rfl | (simp [show ∀ l_ : List UInt8, (l_ == []) = l_.isEmpty from fun l_ => by cases l_ <;> rfl]; done) | (simp [errW_none, errW_some] <;> rfl) | ((repeat rw [Int.tdiv_eq_ediv_of_nonneg (by omega)]); (repeat rw [Int.tmod_eq_emod_of_nonneg (by omega)]); first | rfl | (simp [errW_none, errW_some] <;> rfl)) | (simp [*, errW_none, errW_some] <;> rfl), by repeat (first | (with_reducible first | exact HB.out | apply below_alloc | apply pw_below_drewN | apply below_drew1 | refine below_set ?_ GE136.out) | exact HB.out)⟩
          · rw [if_neg c16] at H
            have c16b0 : decide (a0_3 < 0) = false := decide_eq_false c16
            clear c16
            by_cases c18 : a0_3 > 4094
            · rw [if_pos c18] at H
              have c18b0 : decide (4094 < a0_3) = true := decide_eq_true c18
              clear c18
              obtain rfl := Option.some.inj H
              have hcz19_0 : wc.cell? ⟨gb136, 0, none⟩ = some (.int .i64 a0_0) := (blk_cell BK136.out 0).trans rfl
              have hcz19_1 : wc.cell? ⟨gb136, 1, none⟩ = some (.int .i64 a0_1) := (blk_cell BK136.out 1).trans rfl
              have hcz19_2 : wc.cell? ⟨gb136, 2, none⟩ = some (.bool true) := (blk_cell BK136.out 2).trans rfl
              have hcz19_3 : wc.cell? ⟨gb136, 3, none⟩ = some (.int .i64 a0_3) := (blk_cell BK136.out 3).trans rfl
              have hcz19_4 : wc.cell? ⟨gb136, 4, none⟩ = some (.int .i64 a0_4) := (blk_cell BK136.out 4).trans rfl
              have hcz19_5 : wc.cell? ⟨gb136, 5, none⟩ = some (.int .i64 a0_5) := (blk_cell BK136.out 5).trans rfl
              have hcz19_6 : wc.cell? ⟨gb136, 6, none⟩ = some (.string a0_6) := (blk_cell BK136.out 6).trans rfl
              have hfz19_0 := blk_frozen BK136.out 0
              have hfz19_1 := blk_frozen BK136.out 1
              have hfz19_2 := blk_frozen BK136.out 2
              have hfz19_3 := blk_frozen BK136.out 3
              have hfz19_4 := blk_frozen BK136.out 4
              have hfz19_5 := blk_frozen BK136.out 5
              have hfz19_6 := blk_frozen BK136.out 6
              go_wp2
              go_ret
              exact ⟨by first | rfl | (simp [show ∀ l_ : List UInt8, (l_ == []) = l_.isEmpty from fun l_ => by cases l_ <;> rfl]; done) | (simp [errW_none, errW_some] <;> rfl) | ((repeat rw [Int.tdiv_eq_ediv_of_nonneg (by omega)]); (repeat rw [Int.tmod_eq_emod_of_nonneg (by omega)]); first | rfl | (simp [errW_none, errW_some] <;> rfl)) | (simp [*, errW_none, errW_some] <;> rfl), by repeat (first | (with_reducible first | exact HB.out | apply below_alloc | apply pw_below_drewN | apply below_drew1 | refine below_set ?_ GE136.out) | exact HB.out)⟩
            · rw [if_neg c18] at H
              have c18b0 : decide (4094 < a0_3) = false := decide_eq_false c18
              clear c18
              by_cases c20 : a0_4 < 0
              · rw [if_pos c20] at H
                have c20b0 : decide (a0_4 < 0) = true := decide_eq_true c20
                clear c20
                obtain rfl := Option.some.inj H
                have hcz21_0 : wc.cell? ⟨gb136, 0, none⟩ = some (.int .i64 a0_0) := (blk_cell BK136.out 0).trans rfl
                have hcz21_1 : wc.cell? ⟨gb136, 1, none⟩ = some (.int .i64 a0_1) := (blk_cell BK136.out 1).trans rfl
                have hcz21_2 : wc.cell? ⟨gb136, 2, none⟩ = some (.bool true) := (blk_cell BK136.out 2).trans rfl
                have hcz21_3 : wc.cell? ⟨gb136, 3, none⟩ = some (.int .i64 a0_3) := (blk_cell BK136.out 3).trans rfl
                have hcz21_4 : wc.cell? ⟨gb136, 4, none⟩ = some (.int .i64 a0_4) := (blk_cell BK136.out 4).trans rfl
                have hcz21_5 : wc.cell? ⟨gb136, 5, none⟩ = some (.int .i64 a0_5) := (blk_cell BK136.out 5).trans rfl
                have hcz21_6 : wc.cell? ⟨gb136, 6, none⟩ = some (.string a0_6) := (blk_cell BK136.out 6).trans rfl
                have hfz21_0 := blk_frozen BK136.out 0
                have hfz21_1 := blk_frozen BK136.out 1
                have hfz21_2 := blk_frozen BK136.out 2
                have hfz21_3 := blk_frozen BK136.out 3
                have hfz21_4 := blk_frozen BK136.out 4
                have hfz21_5 := blk_frozen BK136.out 5
                have hfz21_6 := blk_frozen BK136.out 6
                go_wp2
                go_ret
                exact ⟨by first | rfl | (simp [show ∀ l_ : List UInt8, (l_ == []) = l_.isEmpty from fun l_ => by cases l_ <;> rfl]; done) | (simp [errW_none, errW_some] <;> rfl) | ((repeat rw [Int.tdiv_eq_ediv_of_nonneg (by omega)]); (repeat rw [Int.tmod_eq_emod_of_nonneg (by omega)]); first | rfl | (simp [errW_none, errW_some] <;> rfl)) | (simp [*, errW_none, errW_some] <;> rfl), by repeat (first | (with_reducible first | exact HB.out | apply below_alloc | apply pw_below_drewN | apply below_drew1 | refine below_set ?_ GE136.out) | exact HB.out)⟩
              · rw [if_neg c20] at H
                have c20b0 : decide (a0_4 < 0) = false := decide_eq_false c20
                clear c20
                by_cases c22 : a0_4 > 7
                · rw [if_pos c22] at H
                  have c22b0 : decide (7 < a0_4) = true := decide_eq_true c22
                  clear c22
                  obtain rfl := Option.some.inj H
                  have hcz23_0 : wc.cell? ⟨gb136, 0, none⟩ = some (.int .i64 a0_0) := (blk_cell BK136.out 0).trans rfl
                  have hcz23_1 : wc.cell? ⟨gb136, 1, none⟩ = some (.int .i64 a0_1) := (blk_cell BK136.out 1).trans rfl
                  have hcz23_2 : wc.cell? ⟨gb136, 2, none⟩ = some (.bool true) := (blk_cell BK136.out 2).trans rfl
                  have hcz23_3 : wc.cell? ⟨gb136, 3, none⟩ = some (.int .i64 a0_3) := (blk_cell BK136.out 3).trans rfl
                  have hcz23_4 : wc.cell? ⟨gb136, 4, none⟩ = some (.int .i64 a0_4) := (blk_cell BK136.out 4).trans rfl
                  have hcz23_5 : wc.cell? ⟨gb136, 5, none⟩ = some (.int .i64 a0_5) := (blk_cell BK136.out 5).trans rfl
                  have hcz23_6 : wc.cell? ⟨gb136, 6, none⟩ = some (.string a0_6) := (blk_cell BK136.out 6).trans rfl
                  have hfz23_0 := blk_frozen BK136.out 0
                  have hfz23_1 := blk_frozen BK136.out 1
                  have hfz23_2 := blk_frozen BK136.out 2
                  have hfz23_3 := blk_frozen BK136.out 3
                  have hfz23_4 := blk_frozen BK136.out 4
                  have hfz23_5 := blk_frozen BK136.out 5
                  have hfz23_6 := blk_frozen BK136.out 6
                  go_wp2
                  go_ret
                  exact ⟨by first | rfl | (simp [show ∀ l_ : List UInt8, (l_ == []) = l_.isEmpty from fun l_ => by cases l_ <;> rfl]; done) | (simp [errW_none, errW_some] <;> rfl) | ((repeat rw [Int.tdiv_eq_ediv_of_nonneg (by omega)]); (repeat rw [Int.tmod_eq_emod_of_nonneg (by omega)]); first | rfl | (simp [errW_none, errW_some] <;> rfl)) | (simp [*, errW_none, errW_some] <;> rfl), by repeat (first | (with_reducible first | exact HB.out | apply below_alloc | apply pw_below_drewN | apply below_drew1 | refine below_set ?_ GE136.out) | exact HB.out)⟩
                · rw [if_neg c22] at H
                  have c22b0 : decide (7 < a0_4) = false := decide_eq_false c22
                  clear c22
                  by_cases c24 : a0_5 = 0
                  · rw [if_pos c24] at H
                    have c24b0 : (a0_5 == 0) = true := beq_iff_eq.mpr c24
                    have c24b1 : (a0_5 != 0) = false := bne_eq_false_iff_eq.mpr c24
                    clear c24
                    obtain rfl := Option.some.inj H
                    have hcz25_0 : wc.cell? ⟨gb136, 0, none⟩ = some (.int .i64 a0_0) := (blk_cell BK136.out 0).trans rfl
                    have hcz25_1 : wc.cell? ⟨gb136, 1, none⟩ = some (.int .i64 a0_1) := (blk_cell BK136.out 1).trans rfl
                    have hcz25_2 : wc.cell? ⟨gb136, 2, none⟩ = some (.bool true) := (blk_cell BK136.out 2).trans rfl
                    have hcz25_3 : wc.cell? ⟨gb136, 3, none⟩ = some (.int .i64 a0_3) := (blk_cell BK136.out 3).trans rfl
                    have hcz25_4 : wc.cell? ⟨gb136, 4, none⟩ = some (.int .i64 a0_4) := (blk_cell BK136.out 4).trans rfl
                    have hcz25_5 : wc.cell? ⟨gb136, 5, none⟩ = some (.int .i64 a0_5) := (blk_cell BK136.out 5).trans rfl
                    have hcz25_6 : wc.cell? ⟨gb136, 6, none⟩ = some (.string a0_6) := (blk_cell BK136.out 6).trans rfl
                    have hfz25_0 := blk_frozen BK136.out 0
                    have hfz25_1 := blk_frozen BK136.out 1
                    have hfz25_2 := blk_frozen BK136.out 2
                    have hfz25_3 := blk_frozen BK136.out 3
                    have hfz25_4 := blk_frozen BK136.out 4
                    have hfz25_5 := blk_frozen BK136.out 5
                    have hfz25_6 := blk_frozen BK136.out 6
                    go_wp2
                    go_ret
                    exact ⟨by first | rfl | (simp [show ∀ l_ : List UInt8, (l_ == []) = l_.isEmpty from fun l_ => by cases l_ <;> rfl]; done) | (simp [errW_none, errW_some] <;> rfl) | ((repeat rw [Int.tdiv_eq_ediv_of_nonneg (by omega)]); (repeat rw [Int.tmod_eq_emod_of_nonneg (by omega)]); first | rfl | (simp [errW_none, errW_some] <;> rfl)) | (simp [*, errW_none, errW_some] <;> rfl), by repeat (first | (with_reducible first | exact HB.out | apply below_alloc | apply pw_below_drewN | apply below_drew1 | refine below_set ?_ GE136.out) | exact HB.out)⟩
                  · rw [if_neg c24] at H
                    have c24b0 : (a0_5 == 0) = false := beq_eq_false_iff_ne.mpr c24
                    have c24b1 : (a0_5 != 0) = true := bne_iff_ne.mpr c24
                    by_cases c26 : a0_5 ≥ 1536
                    · rw [if_pos c26] at H
                      have c26b0 : decide (1536 ≤ a0_5) = true := decide_eq_true c26
                      clear c26
                      by_cases c27 : a0_5 < 65536
                      · rw [if_pos c27] at H
                        have c27b0 : decide (a0_5 < 65536) = true := decide_eq_true c27
                        clear c27
                        obtain rfl := Option.some.inj H
                        have hcz28_0 : wc.cell? ⟨gb136, 0, none⟩ = some (.int .i64 a0_0) := (blk_cell BK136.out 0).trans rfl
                        have hcz28_1 : wc.cell? ⟨gb136, 1, none⟩ = some (.int .i64 a0_1) := (blk_cell BK136.out 1).trans rfl
                        have hcz28_2 : wc.cell? ⟨gb136, 2, none⟩ = some (.bool true) := (blk_cell BK136.out 2).trans rfl
                        have hcz28_3 : wc.cell? ⟨gb136, 3, none⟩ = some (.int .i64 a0_3) := (blk_cell BK136.out 3).trans rfl
                        have hcz28_4 : wc.cell? ⟨gb136, 4, none⟩ = some (.int .i64 a0_4) := (blk_cell BK136.out 4).trans rfl
                        have hcz28_5 : wc.cell? ⟨gb136, 5, none⟩ = some (.int .i64 a0_5) := (blk_cell BK136.out 5).trans rfl
                        have hcz28_6 : wc.cell? ⟨gb136, 6, none⟩ = some (.string a0_6) := (blk_cell BK136.out 6).trans rfl
                        have hfz28_0 := blk_frozen BK136.out 0
                        have hfz28_1 := blk_frozen BK136.out 1
                        have hfz28_2 := blk_frozen BK136.out 2
                        have hfz28_3 := blk_frozen BK136.out 3
                        have hfz28_4 := blk_frozen BK136.out 4
                        have hfz28_5 := blk_frozen BK136.out 5
                        have hfz28_6 := blk_frozen BK136.out 6
                        go_wp2
                        go_ret
                        exact ⟨by first | rfl | (simp [show ∀ l_ : List UInt8, (l_ == []) = l_.isEmpty from fun l_ => by cases l_ <;> rfl]; done) | (simp [errW_none, errW_some] <;> rfl) | ((repeat rw [Int.tdiv_eq_ediv_of_nonneg (by omega)]); (repeat rw [Int.tmod_eq_emod_of_nonneg (by omega)]); first | rfl | (simp [errW_none, errW_some] <;> rfl)) | (simp [*, errW_none, errW_some] <;> rfl), by repeat (first | (with_reducible first | exact HB.out | apply below_alloc | apply pw_below_drewN | apply below_drew1 | refine below_set ?_ GE136.out) | exact HB.out)⟩
                      · rw [if_neg c27] at H
                        have c27b0 : decide (a0_5 < 65536) = false := decide_eq_false c27
                        clear c27
                        obtain rfl := Option.some.inj H
                        have hcz29_0 : wc.cell? ⟨gb136, 0, none⟩ = some (.int .i64 a0_0) := (blk_cell BK136.out 0).trans rfl
                        have hcz29_1 : wc.cell? ⟨gb136, 1, none⟩ = some (.int .i64 a0_1) := (blk_cell BK136.out 1).trans rfl
                        have hcz29_2 : wc.cell? ⟨gb136, 2, none⟩ = some (.bool true) := (blk_cell BK136.out 2).trans rfl
                        have hcz29_3 : wc.cell? ⟨gb136, 3, none⟩ = some (.int .i64 a0_3) := (blk_cell BK136.out 3).trans rfl
                        have hcz29_4 : wc.cell? ⟨gb136, 4, none⟩ = some (.int .i64 a0_4) := (blk_cell BK136.out 4).trans rfl
                        have hcz29_5 : wc.cell? ⟨gb136, 5, none⟩ = some (.int .i64 a0_5) := (blk_cell BK136.out 5).trans rfl
                        have hcz29_6 : wc.cell? ⟨gb136, 6, none⟩ = some (.string a0_6) := (blk_cell BK136.out 6).trans rfl
                        have hfz29_0 := blk_frozen BK136.out 0
                        have hfz29_1 := blk_frozen BK136.out 1
                        have hfz29_2 := blk_frozen BK136.out 2
                        have hfz29_3 := blk_frozen BK136.out 3
                        have hfz29_4 := blk_frozen BK136.out 4
                        have hfz29_5 := blk_frozen BK136.out 5
                        have hfz29_6 := blk_frozen BK136.out 6
                        go_wp2
                        go_ret
                        exact ⟨by first | rfl | (simp [show ∀ l_ : List UInt8, (l_ == []) = l_.isEmpty from fun l_ => by cases l_ <;> rfl]; done) | (simp [errW_none, errW_some] <;> rfl) | ((repeat rw [Int.tdiv_eq_ediv_of_nonneg (by omega)]); (repeat rw [Int.tmod_eq_emod_of_nonneg (by omega)]); first | rfl | (simp [errW_none, errW_some] <;> rfl)) | (simp [*, errW_none, errW_some] <;> rfl), by repeat (first | (with_reducible first | exact HB.out | apply below_alloc | apply pw_below_drewN | apply below_drew1 | refine below_set ?_ GE136.out) | exact HB.out)⟩
                    · rw [if_neg c26] at H
                      have c26b0 : decide (1536 ≤ a0_5) = false := decide_eq_false c26
                      clear c26
                      obtain rfl := Option.some.inj H
                      have hcz30_0 : wc.cell? ⟨gb136, 0, none⟩ = some (.int .i64 a0_0) := (blk_cell BK136.out 0).trans rfl
                      have hcz30_1 : wc.cell? ⟨gb136, 1, none⟩ = some (.int .i64 a0_1) := (blk_cell BK136.out 1).trans rfl
                      have hcz30_2 : wc.cell? ⟨gb136, 2, none⟩ = some (.bool true) := (blk_cell BK136.out 2).trans rfl
                      have hcz30_3 : wc.cell? ⟨gb136, 3, none⟩ = some (.int .i64 a0_3) := (blk_cell BK136.out 3).trans rfl
                      have hcz30_4 : wc.cell? ⟨gb136, 4, none⟩ = some (.int .i64 a0_4) := (blk_cell BK136.out 4).trans rfl
                      have hcz30_5 : wc.cell? ⟨gb136, 5, none⟩ = some (.int .i64 a0_5) := (blk_cell BK136.out 5).trans rfl
                      have hcz30_6 : wc.cell? ⟨gb136, 6, none⟩ = some (.string a0_6) := (blk_cell BK136.out 6).trans rfl
                      have hfz30_0 := blk_frozen BK136.out 0
                      have hfz30_1 := blk_frozen BK136.out 1
                      have hfz30_2 := blk_frozen BK136.out 2
                      have hfz30_3 := blk_frozen BK136.out 3
                      have hfz30_4 := blk_frozen BK136.out 4
                      have hfz30_5 := blk_frozen BK136.out 5
                      have hfz30_6 := blk_frozen BK136.out 6
                      go_wp2
                      go_ret
                      exact ⟨by first | rfl | (simp [show ∀ l_ : List UInt8, (l_ == []) = l_.isEmpty from fun l_ => by cases l_ <;> rfl]; done) | (simp [errW_none, errW_some] <;> rfl) | ((repeat rw [Int.tdiv_eq_ediv_of_nonneg (by omega)]); (repeat rw [Int.tmod_eq_emod_of_nonneg (by omega)]); first | rfl | (simp [errW_none, errW_some] <;> rfl)) | (simp [*, errW_none, errW_some] <;> rfl), by repeat (first | (with_reducible first | exact HB.out | apply below_alloc | apply pw_below_drewN | apply below_drew1 | refine below_set ?_ GE136.out) | exact HB.out)⟩
        · replace c15 := Bool.eq_false_iff.mpr c15
          subst c15
          have H1 : (if a0_3 = 0 then (if a0_4 = 0 then (if a0_5 = 0 then (some true) else (if a0_5 ≥ 1536 then (if a0_5 < 65536 then (some (a0_5 != 33024)) else (some false)) else (some false))) else (some false)) else (some false)) = some r := by rw [if_neg (show ¬ (false = true) by decide)] at H; exact H
          clear H
          have H := H1
          clear H1
          by_cases c31 : a0_3 = 0
          · rw [if_pos c31] at H
            have c31b0 : (a0_3 == 0) = true := beq_iff_eq.mpr c31
            have c31b1 : (a0_3 != 0) = false := bne_eq_false_iff_eq.mpr c31
            clear c31
            by_cases c32 : a0_4 = 0
            · rw [if_pos c32] at H
              have c32b0 : (a0_4 == 0) = true := beq_iff_eq.mpr c32
              have c32b1 : (a0_4 != 0) = false := bne_eq_false_iff_eq.mpr c32
              clear c32
              by_cases c33 : a0_5 = 0
              · rw [if_pos c33] at H
                have c33b0 : (a0_5 == 0) = true := beq_iff_eq.mpr c33
                have c33b1 : (a0_5 != 0) = false := bne_eq_false_iff_eq.mpr c33
                clear c33
                obtain rfl := Option.some.inj H
                have hcz34_0 : wc.cell? ⟨gb136, 0, none⟩ = some (.int .i64 a0_0) := (blk_cell BK136.out 0).trans rfl
                have hcz34_1 : wc.cell? ⟨gb136, 1, none⟩ = some (.int .i64 a0_1) := (blk_cell BK136.out 1).trans rfl
                have hcz34_2 : wc.cell? ⟨gb136, 2, none⟩ = some (.bool false) := (blk_cell BK136.out 2).trans rfl
                have hcz34_3 : wc.cell? ⟨gb136, 3, none⟩ = some (.int .i64 a0_3) := (blk_cell BK136.out 3).trans rfl
                have hcz34_4 : wc.cell? ⟨gb136, 4, none⟩ = some (.int .i64 a0_4) := (blk_cell BK136.out 4).trans rfl
                have hcz34_5 : wc.cell? ⟨gb136, 5, none⟩ = some (.int .i64 a0_5) := (blk_cell BK136.out 5).trans rfl
                have hcz34_6 : wc.cell? ⟨gb136, 6, none⟩ = some (.string a0_6) := (blk_cell BK136.out 6).trans rfl
                have hfz34_0 := blk_frozen BK136.out 0
                have hfz34_1 := blk_frozen BK136.out 1
                have hfz34_2 := blk_frozen BK136.out 2
                have hfz34_3 := blk_frozen BK136.out 3
                have hfz34_4 := blk_frozen BK136.out 4
                have hfz34_5 := blk_frozen BK136.out 5
                have hfz34_6 := blk_frozen BK136.out 6
                go_wp2
                go_ret
                exact ⟨by first | rfl | (simp [show ∀ l_ : List UInt8, (l_ == []) = l_.isEmpty from fun l_ => by cases l_ <;> rfl]; done) | (simp [errW_none, errW_some] <;> rfl) | ((repeat rw [Int.tdiv_eq_ediv_of_nonneg (by omega)]); (repeat rw [Int.tmod_eq_emod_of_nonneg (by omega)]); first | rfl | (simp [errW_none, errW_some] <;> rfl)) | (simp [*, errW_none, errW_some] <;> rfl), by repeat (first | (with_reducible first | exact HB.out | apply below_alloc | apply pw_below_drewN | apply below_drew1 | refine below_set ?_ GE136.out) | exact HB.out)⟩
              · rw [if_neg c33] at H
                have c33b0 : (a0_5 == 0) = false := beq_eq_false_iff_ne.mpr c33
                have c33b1 : (a0_5 != 0) = true := bne_iff_ne.mpr c33
                by_cases c35 : a0_5 ≥ 1536
                · rw [if_pos c35] at H
                  have c35b0 : decide (1536 ≤ a0_5) = true := decide_eq_true c35
                  clear c35
                  by_cases c36 : a0_5 < 65536
                  · rw [if_pos c36] at H
                    have c36b0 : decide (a0_5 < 65536) = true := decide_eq_true c36
                    clear c36
                    obtain rfl := Option.some.inj H
                    have hcz37_0 : wc.cell? ⟨gb136, 0, none⟩ = some (.int .i64 a0_0) := (blk_cell BK136.out 0).trans rfl
                    have hcz37_1 : wc.cell? ⟨gb136, 1, none⟩ = some (.int .i64 a0_1) := (blk_cell BK136.out 1).trans rfl
                    have hcz37_2 : wc.cell? ⟨gb136, 2, none⟩ = some (.bool false) := (blk_cell BK136.out 2).trans rfl
                    have hcz37_3 : wc.cell? ⟨gb136, 3, none⟩ = some (.int .i64 a0_3) := (blk_cell BK136.out 3).trans rfl
                    have hcz37_4 : wc.cell? ⟨gb136, 4, none⟩ = some (.int .i64 a0_4) := (blk_cell BK136.out 4).trans rfl
                    have hcz37_5 : wc.cell? ⟨gb136, 5, none⟩ = some (.int .i64 a0_5) := (blk_cell BK136.out 5).trans rfl
                    have hcz37_6 : wc.cell? ⟨gb136, 6, none⟩ = some (.string a0_6) := (blk_cell BK136.out 6).trans rfl
                    have hfz37_0 := blk_frozen BK136.out 0
                    have hfz37_1 := blk_frozen BK136.out 1
                    have hfz37_2 := blk_frozen BK136.out 2
                    have hfz37_3 := blk_frozen BK136.out 3
                    have hfz37_4 := blk_frozen BK136.out 4
                    have hfz37_5 := blk_frozen BK136.out 5
                    have hfz37_6 := blk_frozen BK136.out 6
                    go_wp2
                    go_ret
                    exact ⟨by first | rfl | (simp [show ∀ l_ : List UInt8, (l_ == []) = l_.isEmpty from fun l_ => by cases l_ <;> rfl]; done) | (simp [errW_none, errW_some] <;> rfl) | ((repeat rw [Int.tdiv_eq_ediv_of_nonneg (by omega)]); (repeat rw [Int.tmod_eq_emod_of_nonneg (by omega)]); first | rfl | (simp [errW_none, errW_some] <;> rfl)) | (simp [*, errW_none, errW_some] <;> rfl), by repeat (first | (with_reducible first | exact HB.out | apply below_alloc | apply pw_below_drewN | apply below_drew1 | refine below_set ?_ GE136.out) | exact HB.out)⟩
                  · rw [if_neg c36] at H
                    have c36b0 : decide (a0_5 < 65536) = false := decide_eq_false c36
                    clear c36
                    obtain rfl := Option.some.inj H
                    have hcz38_0 : wc.cell? ⟨gb136, 0, none⟩ = some (.int .i64 a0_0) := (blk_cell BK136.out 0).trans rfl
                    have hcz38_1 : wc.cell? ⟨gb136, 1, none⟩ = some (.int .i64 a0_1) := (blk_cell BK136.out 1).trans rfl
                    have hcz38_2 : wc.cell? ⟨gb136, 2, none⟩ = some (.bool false) := (blk_cell BK136.out 2).trans rfl
                    have hcz38_3 : wc.cell? ⟨gb136, 3, none⟩ = some (.int .i64 a0_3) := (blk_cell BK136.out 3).trans rfl
                    have hcz38_4 : wc.cell? ⟨gb136, 4, none⟩ = some (.int .i64 a0_4) := (blk_cell BK136.out 4).trans rfl
                    have hcz38_5 : wc.cell? ⟨gb136, 5, none⟩ = some (.int .i64 a0_5) := (blk_cell BK136.out 5).trans rfl
                    have hcz38_6 : wc.cell? ⟨gb136, 6, none⟩ = some (.string a0_6) := (blk_cell BK136.out 6).trans rfl
                    have hfz38_0 := blk_frozen BK136.out 0
                    have hfz38_1 := blk_frozen BK136.out 1
                    have hfz38_2 := blk_frozen BK136.out 2
                    have hfz38_3 := blk_frozen BK136.out 3
                    have hfz38_4 := blk_frozen BK136.out 4
                    have hfz38_5 := blk_frozen BK136.out 5
                    have hfz38_6 := blk_frozen BK136.out 6
                    go_wp2
                    go_ret
                    exact ⟨by first | rfl | (simp [show ∀ l_ : List UInt8, (l_ == []) = l_.isEmpty from fun l_ => by cases l_ <;> rfl]; done) | (simp [errW_none, errW_some] <;> rfl) | ((repeat rw [Int.tdiv_eq_ediv_of_nonneg (by omega)]); (repeat rw [Int.tmod_eq_emod_of_nonneg (by omega)]); first | rfl | (simp [errW_none, errW_some] <;> rfl)) | (simp [*, errW_none, errW_some] <;> rfl), by repeat (first | (with_reducible first | exact HB.out | apply below_alloc | apply pw_below_drewN | apply below_drew1 | refine below_set ?_ GE136.out) | exact HB.out)⟩
                · rw [if_neg c35] at H
                  have c35b0 : decide (1536 ≤ a0_5) = false := decide_eq_false c35
                  clear c35
                  obtain rfl := Option.some.inj H
                  have hcz39_0 : wc.cell? ⟨gb136, 0, none⟩ = some (.int .i64 a0_0) := (blk_cell BK136.out 0).trans rfl
                  have hcz39_1 : wc.cell? ⟨gb136, 1, none⟩ = some (.int .i64 a0_1) := (blk_cell BK136.out 1).trans rfl
                  have hcz39_2 : wc.cell? ⟨gb136, 2, none⟩ = some (.bool false) := (blk_cell BK136.out 2).trans rfl
                  have hcz39_3 : wc.cell? ⟨gb136, 3, none⟩ = some (.int .i64 a0_3) := (blk_cell BK136.out 3).trans rfl
                  have hcz39_4 : wc.cell? ⟨gb136, 4, none⟩ = some (.int .i64 a0_4) := (blk_cell BK136.out 4).trans rfl
                  have hcz39_5 : wc.cell? ⟨gb136, 5, none⟩ = some (.int .i64 a0_5) := (blk_cell BK136.out 5).trans rfl
                  have hcz39_6 : wc.cell? ⟨gb136, 6, none⟩ = some (.string a0_6) := (blk_cell BK136.out 6).trans rfl
                  have hfz39_0 := blk_frozen BK136.out 0
                  have hfz39_1 := blk_frozen BK136.out 1
                  have hfz39_2 := blk_frozen BK136.out 2
                  have hfz39_3 := blk_frozen BK136.out 3
                  have hfz39_4 := blk_frozen BK136.out 4
                  have hfz39_5 := blk_frozen BK136.out 5
                  have hfz39_6 := blk_frozen BK136.out 6
                  go_wp2
                  go_ret
                  exact ⟨by first | rfl | (simp [show ∀ l_ : List UInt8, (l_ == []) = l_.isEmpty from fun l_ => by cases l_ <;> rfl]; done) | (simp [errW_none, errW_some] <;> rfl) | ((repeat rw [Int.tdiv_eq_ediv_of_nonneg (by omega)]); (repeat rw [Int.tmod_eq_emod_of_nonneg (by omega)]); first | rfl | (simp [errW_none, errW_some] <;> rfl)) | (simp [*, errW_none, errW_some] <;> rfl), by repeat (first | (with_reducible first | exact HB.out | apply below_alloc | apply pw_below_drewN | apply below_drew1 | refine below_set ?_ GE136.out) | exact HB.out)⟩
            · rw [if_neg c32] at H
              have c32b0 : (a0_4 == 0) = false := beq_eq_false_iff_ne.mpr c32
              have c32b1 : (a0_4 != 0) = true := bne_iff_ne.mpr c32
              obtain rfl := Option.some.inj H
              have hcz40_0 : wc.cell? ⟨gb136, 0, none⟩ = some (.int .i64 a0_0) := (blk_cell BK136.out 0).trans rfl
              have hcz40_1 : wc.cell? ⟨gb136, 1, none⟩ = some (.int .i64 a0_1) := (blk_cell BK136.out 1).trans rfl
              have hcz40_2 : wc.cell? ⟨gb136, 2, none⟩ = some (.bool false) := (blk_cell BK136.out 2).trans rfl
              have hcz40_3 : wc.cell? ⟨gb136, 3, none⟩ = some (.int .i64 a0_3) := (blk_cell BK136.out 3).trans rfl
              have hcz40_4 : wc.cell? ⟨gb136, 4, none⟩ = some (.int .i64 a0_4) := (blk_cell BK136.out 4).trans rfl
              have hcz40_5 : wc.cell? ⟨gb136, 5, none⟩ = some (.int .i64 a0_5) := (blk_cell BK136.out 5).trans rfl
              have hcz40_6 : wc.cell? ⟨gb136, 6, none⟩ = some (.string a0_6) := (blk_cell BK136.out 6).trans rfl
              have hfz40_0 := blk_frozen BK136.out 0
              have hfz40_1 := blk_frozen BK136.out 1
              have hfz40_2 := blk_frozen BK136.out 2
              have hfz40_3 := blk_frozen BK136.out 3
              have hfz40_4 := blk_frozen BK136.out 4
              have hfz40_5 := blk_frozen BK136.out 5
              have hfz40_6 := blk_frozen BK136.out 6
              go_wp2
              go_ret
              exact ⟨by first | rfl | (simp [show ∀ l_ : List UInt8, (l_ == []) = l_.isEmpty from fun l_ => by cases l_ <;> rfl]; done) | (simp [errW_none, errW_some] <;> rfl) | ((repeat rw [Int.tdiv_eq_ediv_of_nonneg (by omega)]); (repeat rw [Int.tmod_eq_emod_of_nonneg (by omega)]); first | rfl | (simp [errW_none, errW_some] <;> rfl)) | (simp [*, errW_none, errW_some] <;> rfl), by repeat (first | (with_reducible first | exact HB.out | apply below_alloc | apply pw_below_drewN | apply below_drew1 | refine below_set ?_ GE136.out) | exact HB.out)⟩
          · rw [if_neg c31] at H
            have c31b0 : (a0_3 == 0) = false := beq_eq_false_iff_ne.mpr c31
            have c31b1 : (a0_3 != 0) = true := bne_iff_ne.mpr c31
            obtain rfl := Option.some.inj H
            have hcz41_0 : wc.cell? ⟨gb136, 0, none⟩ = some (.int .i64 a0_0) := (blk_cell BK136.out 0).trans rfl
            have hcz41_1 : wc.cell? ⟨gb136, 1, none⟩ = some (.int .i64 a0_1) := (blk_cell BK136.out 1).trans rfl
            have hcz41_2 : wc.cell? ⟨gb136, 2, none⟩ = some (.bool false) := (blk_cell BK136.out 2).trans rfl
            have hcz41_3 : wc.cell? ⟨gb136, 3, none⟩ = some (.int .i64 a0_3) := (blk_cell BK136.out 3).trans rfl
            have hcz41_4 : wc.cell? ⟨gb136, 4, none⟩ = some (.int .i64 a0_4) := (blk_cell BK136.out 4).trans rfl
            have hcz41_5 : wc.cell? ⟨gb136, 5, none⟩ = some (.int .i64 a0_5) := (blk_cell BK136.out 5).trans rfl
            have hcz41_6 : wc.cell? ⟨gb136, 6, none⟩ = some (.string a0_6) := (blk_cell BK136.out 6).trans rfl
            have hfz41_0 := blk_frozen BK136.out 0
            have hfz41_1 := blk_frozen BK136.out 1
            have hfz41_2 := blk_frozen BK136.out 2
            have hfz41_3 := blk_frozen BK136.out 3
            have hfz41_4 := blk_frozen BK136.out 4
            have hfz41_5 := blk_frozen BK136.out 5
            have hfz41_6 := blk_frozen BK136.out 6
            go_wp2
            go_ret
            exact ⟨by first | rfl | (simp [show ∀ l_ : List UInt8, (l_ == []) = l_.isEmpty from fun l_ => by cases l_ <;> rfl]; done) | (simp [errW_none, errW_some] <;> rfl) | ((repeat rw [Int.tdiv_eq_ediv_of_nonneg (by omega)]); (repeat rw [Int.tmod_eq_emod_of_nonneg (by omega)]); first | rfl | (simp [errW_none, errW_some] <;> rfl)) | (simp [*, errW_none, errW_some] <;> rfl), by repeat (first | (with_reducible first | exact HB.out | apply below_alloc | apply pw_below_drewN | apply below_drew1 | refine below_set ?_ GE136.out) | exact HB.out)⟩

/-! ### frame_Tag: function 14 -/
def frame_Tag.f (a0_0 : Int) (a0_1 : Int) (a0_2 : Bool) (a0_3 : Int) (a0_4 : Int) (a0_5 : Int) (a0_6 : ByteArray) (a1 : Int) (a2 : Int) : Option (Int × Int × Bool × Int × Int × Int × ByteArray) := some (a0_0, a0_1, true, a1, a2, a0_5, a0_6)
set_option maxHeartbeats 8000000 in
set_option maxRecDepth 100000 in
theorem frame_Tag.calls (a0_0 : Int) (a0_1 : Int) (a0_2 : Bool) (a0_3 : Int) (a0_4 : Int) (a0_5 : Int) (a0_6 : ByteArray) (a1 : Int) (a2 : Int) (r1 : Int) (r2 : Int) (r3 : Bool) (r4 : Int) (r5 : Int) (r6 : Int) (r7 : ByteArray) (w : World) (h : frame_Tag.f a0_0 a0_1 a0_2 a0_3 a0_4 a0_5 a0_6 a1 a2 = some (r1, r2, r3, r4, r5, r6, r7)) :
    Calls Tryd.prog 14 #[.agg #[.int .i64 a0_0, .int .i64 a0_1, .bool a0_2, .int .i64 a0_3, .int .i64 a0_4, .int .i64 a0_5, .string a0_6], .int .i64 a1, .int .i64 a2] w fun e w' => e = .returned (.agg #[.int .i64 r1, .int .i64 r2, .bool r3, .int .i64 r4, .int .i64 r5, .int .i64 r6, .string r7]) ∧ Below w.heap.size w w' := by
  have hu23 := Tryd.underlying23
  have HB := Aside0.mk (Below.refl w.heap.size w)
  have H : (some (a0_0, a0_1, true, a1, a2, a0_5, a0_6)) = some (r1, r2, r3, r4, r5, r6, r7) := h
  clear h
  simp only [Option.some.injEq, Prod.mk.injEq] at H
  obtain ⟨rfl, rfl, rfl, rfl, rfl, rfl, rfl⟩ := H
  go_enter Tryd.func14, Tryd.ntmps14
  go_wp2_with (first | ((with_reducible refine gate_dst (N := 3) rfl ?_); refine box_event ?hg (N := 3) ?hd (cs := #[.int .i64 a0_0, .int .i64 a0_1, .bool a0_2, .int .i64 a0_3, .int .i64 a0_4, .int .i64 a0_5, .string a0_6]) (t := 23) ?hr ?_; (case hd => rfl); (case hg => rfl); (case hr => first | (go_simp; done) | (go_simp; rfl)); intro gb140 hg w4 hbox hb; have n0_ := Aside0.mk (below_step (by repeat (first | (with_reducible first | exact HB.out | apply below_alloc | apply pw_below_drewN | apply below_drew1) | exact HB.out)) hb); have n1_ := Aside0.mk (hbox); have n2_ := Aside0.mk ((by rw [hg]; exact (below_size (by repeat (first | (with_reducible first | exact HB.out | apply below_alloc | apply pw_below_drewN | apply below_drew1) | exact HB.out))) : w.heap.size ≤ gb140)); have n3_ := Aside0.mk ((by rw [hg]; exact (below_size (by repeat (first | (with_reducible first | exact HB.out | apply below_alloc | apply pw_below_drewN | apply below_drew1) | exact HB.out))) : w.heap.size ≤ gb140)); clear HB; have HB := n0_; have BK140 := n1_; have GW140 := n2_; have GE140 := n3_; clear n0_ n1_ n2_ n3_; clear hb hbox hg) | ((with_reducible refine gate_dst (N := 6) rfl ?_); refine box_event ?hg (N := 6) ?hd (cs := #[.int .i64 0, .int .i64 0, .bool false, .int .i64 0, .int .i64 0, .int .i64 0, .string (⟨#[]⟩ : ByteArray)]) (t := 23) ?hr ?_; (case hd => rfl); (case hg => rfl); (case hr => first | (go_simp; done) | (go_simp; rfl)); intro gb141 hg w5 hbox hb; have n0_ := Aside0.mk (blk_below (g := gb140) (o := .cells #[.int .i64 a0_0, .int .i64 a0_1, .bool a0_2, .int .i64 a0_3, .int .i64 a0_4, .int .i64 a0_5, .string a0_6] 23 (0, 0)) (by (with_reducible repeat (first | refine blk_drewN ?_ _ | refine blk_drew ?_ | refine blk_alloc ?_ _)); exact BK140.out) hb); have n1_ := Aside0.mk (below_step (by repeat (first | (with_reducible first | exact HB.out | apply below_alloc | apply pw_below_drewN | apply below_drew1 | refine below_set ?_ GE140.out) | exact HB.out)) hb); have n2_ := Aside0.mk (hbox); have n3_ := Aside0.mk ((by rw [hg]; exact (below_size (by repeat (first | (with_reducible first | exact HB.out | apply below_alloc | apply pw_below_drewN | apply below_drew1 | refine below_set ?_ GE140.out) | exact HB.out))) : w.heap.size ≤ gb141)); have n4_ := Aside0.mk ((by rw [hg]; exact (below_size (by repeat (first | (with_reducible first | exact HB.out | apply below_alloc | apply pw_below_drewN | apply below_drew1 | refine below_set ?_ GE140.out) | exact HB.out))) : w.heap.size ≤ gb141)); have n5_ := Aside0.mk ((by rw [hg]; exact Nat.ne_of_lt (blk_lt (g := gb140) (o := .cells #[.int .i64 a0_0, .int .i64 a0_1, .bool a0_2, .int .i64 a0_3, .int .i64 a0_4, .int .i64 a0_5, .string a0_6] 23 (0, 0)) (by (with_reducible repeat (first | refine blk_drewN ?_ _ | refine blk_drew ?_ | refine blk_alloc ?_ _)); exact BK140.out)) : gb140 ≠ gb141)); have n6_ := Aside0.mk ((by rw [hg]; exact Nat.ne_of_gt (blk_lt (g := gb140) (o := .cells #[.int .i64 a0_0, .int .i64 a0_1, .bool a0_2, .int .i64 a0_3, .int .i64 a0_4, .int .i64 a0_5, .string a0_6] 23 (0, 0)) (by (with_reducible repeat (first | refine blk_drewN ?_ _ | refine blk_drew ?_ | refine blk_alloc ?_ _)); exact BK140.out)) : gb141 ≠ gb140)); clear BK140; clear HB; have BK140 := n0_; have HB := n1_; have BK141 := n2_; have GW141 := n3_; have GE141 := n4_; have NB140_141 := n5_; have NB141_140 := n6_; clear n0_ n1_ n2_ n3_ n4_ n5_ n6_; clear hb hbox hg; have hnb6 := NB140_141.out; have hnc6 := NB141_140.out; have hcz7_0 : w5.cell? ⟨gb140, 0, none⟩ = some (.int .i64 a0_0) := (blk_cell BK140.out 0).trans rfl; have hcz7_1 : w5.cell? ⟨gb140, 1, none⟩ = some (.int .i64 a0_1) := (blk_cell BK140.out 1).trans rfl; have hcz7_2 : w5.cell? ⟨gb140, 2, none⟩ = some (.bool a0_2) := (blk_cell BK140.out 2).trans rfl; have hcz7_3 : w5.cell? ⟨gb140, 3, none⟩ = some (.int .i64 a0_3) := (blk_cell BK140.out 3).trans rfl; have hcz7_4 : w5.cell? ⟨gb140, 4, none⟩ = some (.int .i64 a0_4) := (blk_cell BK140.out 4).trans rfl; have hcz7_5 : w5.cell? ⟨gb140, 5, none⟩ = some (.int .i64 a0_5) := (blk_cell BK140.out 5).trans rfl; have hcz7_6 : w5.cell? ⟨gb140, 6, none⟩ = some (.string a0_6) := (blk_cell BK140.out 6).trans rfl; have hfz7_0 := blk_frozen BK140.out 0; have hfz7_1 := blk_frozen BK140.out 1; have hfz7_2 := blk_frozen BK140.out 2; have hfz7_3 := blk_frozen BK140.out 3; have hfz7_4 := blk_frozen BK140.out 4; have hfz7_5 := blk_frozen BK140.out 5; have hfz7_6 := blk_frozen BK140.out 6; have hcz8_0 : w5.cell? ⟨gb141, 0, none⟩ = some (.int .i64 0) := (blk_cell BK141.out 0).trans rfl; have hcz8_1 : w5.cell? ⟨gb141, 1, none⟩ = some (.int .i64 0) := (blk_cell BK141.out 1).trans rfl; have hcz8_2 : w5.cell? ⟨gb141, 2, none⟩ = some (.bool false) := (blk_cell BK141.out 2).trans rfl; have hcz8_3 : w5.cell? ⟨gb141, 3, none⟩ = some (.int .i64 0) := (blk_cell BK141.out 3).trans rfl; have hcz8_4 : w5.cell? ⟨gb141, 4, none⟩ = some (.int .i64 0) := (blk_cell BK141.out 4).trans rfl; have hcz8_5 : w5.cell? ⟨gb141, 5, none⟩ = some (.int .i64 0) := (blk_cell BK141.out 5).trans rfl; have hcz8_6 : w5.cell? ⟨gb141, 6, none⟩ = some (.string (⟨#[]⟩ : ByteArray)) := (blk_cell BK141.out 6).trans rfl; have hfz8_0 := blk_frozen BK141.out 0; have hfz8_1 := blk_frozen BK141.out 1; have hfz8_2 := blk_frozen BK141.out 2; have hfz8_3 := blk_frozen BK141.out 3; have hfz8_4 := blk_frozen BK141.out 4; have hfz8_5 := blk_frozen BK141.out 5; have hfz8_6 := blk_frozen BK141.out 6))
  refine bodyPost_ret (results_cell_row rfl _ _ gb141 23 #[.int .i64 a0_0, .int .i64 a0_1, .bool true, .int .i64 a1, .int .i64 a2, .int .i64 a0_5, .string a0_6] (0, 0) _ rfl (by (with_reducible repeat (first | refine blk_drewN ?_ _ | refine blk_drew ?_ | refine blk_alloc ?_ _)); refine blk_put (cs := #[.int .i64 a0_0, .int .i64 a0_1, .bool true, .int .i64 a1, .int .i64 a2, .int .i64 a0_5, .string (⟨#[]⟩ : ByteArray)]) ?_ 6 _ rfl; (with_reducible repeat (first | refine blk_drewN ?_ _ | refine blk_drew ?_ | refine blk_alloc ?_ _)); refine blk_put (cs := #[.int .i64 a0_0, .int .i64 a0_1, .bool true, .int .i64 a1, .int .i64 a2, .int .i64 0, .string (⟨#[]⟩ : ByteArray)]) ?_ 5 _ rfl; (with_reducible repeat (first | refine blk_drewN ?_ _ | refine blk_drew ?_ | refine blk_alloc ?_ _)); refine blk_put (cs := #[.int .i64 a0_0, .int .i64 a0_1, .bool true, .int .i64 a1, .int .i64 0, .int .i64 0, .string (⟨#[]⟩ : ByteArray)]) ?_ 4 _ rfl; (with_reducible repeat (first | refine blk_drewN ?_ _ | refine blk_drew ?_ | refine blk_alloc ?_ _)); refine blk_put (cs := #[.int .i64 a0_0, .int .i64 a0_1, .bool true, .int .i64 0, .int .i64 0, .int .i64 0, .string (⟨#[]⟩ : ByteArray)]) ?_ 3 _ rfl; (with_reducible repeat (first | refine blk_drewN ?_ _ | refine blk_drew ?_ | refine blk_alloc ?_ _)); refine blk_put (cs := #[.int .i64 a0_0, .int .i64 a0_1, .bool false, .int .i64 0, .int .i64 0, .int .i64 0, .string (⟨#[]⟩ : ByteArray)]) ?_ 2 _ rfl; (with_reducible repeat (first | refine blk_drewN ?_ _ | refine blk_drew ?_ | refine blk_alloc ?_ _)); refine blk_put (cs := #[.int .i64 a0_0, .int .i64 0, .bool false, .int .i64 0, .int .i64 0, .int .i64 0, .string (⟨#[]⟩ : ByteArray)]) ?_ 1 _ rfl; (with_reducible repeat (first | refine blk_drewN ?_ _ | refine blk_drew ?_ | refine blk_alloc ?_ _)); refine blk_put (cs := #[.int .i64 0, .int .i64 0, .bool false, .int .i64 0, .int .i64 0, .int .i64 0, .string (⟨#[]⟩ : ByteArray)]) ?_ 0 _ rfl; (with_reducible repeat (first | refine blk_drewN ?_ _ | refine blk_drew ?_ | refine blk_alloc ?_ _)); refine blk_far ?_ NB141_140.out _; (with_reducible repeat (first | refine blk_drewN ?_ _ | refine blk_drew ?_ | refine blk_alloc ?_ _)); refine blk_far ?_ NB141_140.out _; (with_reducible repeat (first | refine blk_drewN ?_ _ | refine blk_drew ?_ | refine blk_alloc ?_ _)); refine blk_far ?_ NB141_140.out _; (with_reducible repeat (first | refine blk_drewN ?_ _ | refine blk_drew ?_ | refine blk_alloc ?_ _)); exact BK141.out) Tryd.underlying23 rfl (by kernel_rfl)) rfl ?_
  exact ⟨by first | rfl | (simp [show ∀ l_ : List UInt8, (l_ == []) = l_.isEmpty from fun l_ => by cases l_ <;> rfl]; done) | (simp [errW_none, errW_some] <;> rfl) | ((repeat rw [Int.tdiv_eq_ediv_of_nonneg (by omega)]); (repeat rw [Int.tmod_eq_emod_of_nonneg (by omega)]); first | rfl | (simp [errW_none, errW_some] <;> rfl)) | (simp [*, errW_none, errW_some] <;> rfl), by repeat (first | (with_reducible first | exact HB.out | apply below_alloc | apply pw_below_drewN | apply below_drew1 | refine below_set ?_ GE140.out | refine below_set ?_ GE141.out) | exact HB.out)⟩

/-! ### frame_Untag: function 15 -/
def frame_Untag.f (a0_0 : Int) (a0_1 : Int) (a0_2 : Bool) (a0_3 : Int) (a0_4 : Int) (a0_5 : Int) (a0_6 : ByteArray) : Option (Int × Int × Bool × Int × Int × Int × ByteArray) := some (a0_0, a0_1, false, 0, 0, a0_5, a0_6)
set_option maxHeartbeats 8000000 in
set_option maxRecDepth 100000 in
theorem frame_Untag.calls (a0_0 : Int) (a0_1 : Int) (a0_2 : Bool) (a0_3 : Int) (a0_4 : Int) (a0_5 : Int) (a0_6 : ByteArray) (r1 : Int) (r2 : Int) (r3 : Bool) (r4 : Int) (r5 : Int) (r6 : Int) (r7 : ByteArray) (w : World) (h : frame_Untag.f a0_0 a0_1 a0_2 a0_3 a0_4 a0_5 a0_6 = some (r1, r2, r3, r4, r5, r6, r7)) :
    Calls Tryd.prog 15 #[.agg #[.int .i64 a0_0, .int .i64 a0_1, .bool a0_2, .int .i64 a0_3, .int .i64 a0_4, .int .i64 a0_5, .string a0_6]] w fun e w' => e = .returned (.agg #[.int .i64 r1, .int .i64 r2, .bool r3, .int .i64 r4, .int .i64 r5, .int .i64 r6, .string r7]) ∧ Below w.heap.size w w' := by
  have hu23 := Tryd.underlying23
  have HB := Aside0.mk (Below.refl w.heap.size w)
  have H : (some (a0_0, a0_1, false, 0, 0, a0_5, a0_6)) = some (r1, r2, r3, r4, r5, r6, r7) := h
  clear h
  simp only [Option.some.injEq, Prod.mk.injEq] at H
  obtain ⟨rfl, rfl, rfl, rfl, rfl, rfl, rfl⟩ := H
  go_enter Tryd.func15, Tryd.ntmps15
  go_wp2_with (first | ((with_reducible refine gate_dst (N := 1) rfl ?_); refine box_event ?hg (N := 1) ?hd (cs := #[.int .i64 a0_0, .int .i64 a0_1, .bool a0_2, .int .i64 a0_3, .int .i64 a0_4, .int .i64 a0_5, .string a0_6]) (t := 23) ?hr ?_; (case hd => rfl); (case hg => rfl); (case hr => first | (go_simp; done) | (go_simp; rfl)); intro gb142 hg w2 hbox hb; have n0_ := Aside0.mk (below_step (by repeat (first | (with_reducible first | exact HB.out | apply below_alloc | apply pw_below_drewN | apply below_drew1) | exact HB.out)) hb); have n1_ := Aside0.mk (hbox); have n2_ := Aside0.mk ((by rw [hg]; exact (below_size (by repeat (first | (with_reducible first | exact HB.out | apply below_alloc | apply pw_below_drewN | apply below_drew1) | exact HB.out))) : w.heap.size ≤ gb142)); have n3_ := Aside0.mk ((by rw [hg]; exact (below_size (by repeat (first | (with_reducible first | exact HB.out | apply below_alloc | apply pw_below_drewN | apply below_drew1) | exact HB.out))) : w.heap.size ≤ gb142)); clear HB; have HB := n0_; have BK142 := n1_; have GW142 := n2_; have GE142 := n3_; clear n0_ n1_ n2_ n3_; clear hb hbox hg) | ((with_reducible refine gate_dst (N := 2) rfl ?_); refine box_event ?hg (N := 2) ?hd (cs := #[.int .i64 0, .int .i64 0, .bool false, .int .i64 0, .int .i64 0, .int .i64 0, .string (⟨#[]⟩ : ByteArray)]) (t := 23) ?hr ?_; (case hd => rfl); (case hg => rfl); (case hr => first | (go_simp; done) | (go_simp; rfl)); intro gb143 hg w3 hbox hb; have n0_ := Aside0.mk (blk_below (g := gb142) (o := .cells #[.int .i64 a0_0, .int .i64 a0_1, .bool a0_2, .int .i64 a0_3, .int .i64 a0_4, .int .i64 a0_5, .string a0_6] 23 (0, 0)) (by (with_reducible repeat (first | refine blk_drewN ?_ _ | refine blk_drew ?_ | refine blk_alloc ?_ _)); exact BK142.out) hb); have n1_ := Aside0.mk (below_step (by repeat (first | (with_reducible first | exact HB.out | apply below_alloc | apply pw_below_drewN | apply below_drew1 | refine below_set ?_ GE142.out) | exact HB.out)) hb); have n2_ := Aside0.mk (hbox); have n3_ := Aside0.mk ((by rw [hg]; exact (below_size (by repeat (first | (with_reducible first | exact HB.out | apply below_alloc | apply pw_below_drewN | apply below_drew1 | refine below_set ?_ GE142.out) | exact HB.out))) : w.heap.size ≤ gb143)); have n4_ := Aside0.mk ((by rw [hg]; exact (below_size (by repeat (first | (with_reducible first | exact HB.out | apply below_alloc | apply pw_below_drewN | apply below_drew1 | refine below_set ?_ GE142.out) | exact HB.out))) : w.heap.size ≤ gb143)); have n5_ := Aside0.mk ((by rw [hg]; exact Nat.ne_of_lt (blk_lt (g := gb142) (o := .cells #[.int .i64 a0_0, .int .i64 a0_1, .bool a0_2, .int .i64 a0_3, .int .i64 a0_4, .int .i64 a0_5, .string a0_6] 23 (0, 0)) (by (with_reducible repeat (first | refine blk_drewN ?_ _ | refine blk_drew ?_ | refine blk_alloc ?_ _)); exact BK142.out)) : gb142 ≠ gb143)); have n6_ := Aside0.mk ((by rw [hg]; exact Nat.ne_of_gt (blk_lt (g := gb142) (o := .cells #[.int .i64 a0_0, .int .i64 a0_1, .bool a0_2, .int .i64 a0_3, .int .i64 a0_4, .int .i64 a0_5, .string a0_6] 23 (0, 0)) (by (with_reducible repeat (first | refine blk_drewN ?_ _ | refine blk_drew ?_ | refine blk_alloc ?_ _)); exact BK142.out)) : gb143 ≠ gb142)); clear BK142; clear HB; have BK142 := n0_; have HB := n1_; have BK143 := n2_; have GW143 := n3_; have GE143 := n4_; have NB142_143 := n5_; have NB143_142 := n6_; clear n0_ n1_ n2_ n3_ n4_ n5_ n6_; clear hb hbox hg; have hnb4 := NB142_143.out; have hnc4 := NB143_142.out; have hcz5_0 : w3.cell? ⟨gb142, 0, none⟩ = some (.int .i64 a0_0) := (blk_cell BK142.out 0).trans rfl; have hcz5_1 : w3.cell? ⟨gb142, 1, none⟩ = some (.int .i64 a0_1) := (blk_cell BK142.out 1).trans rfl; have hcz5_2 : w3.cell? ⟨gb142, 2, none⟩ = some (.bool a0_2) := (blk_cell BK142.out 2).trans rfl; have hcz5_3 : w3.cell? ⟨gb142, 3, none⟩ = some (.int .i64 a0_3) := (blk_cell BK142.out 3).trans rfl; have hcz5_4 : w3.cell? ⟨gb142, 4, none⟩ = some (.int .i64 a0_4) := (blk_cell BK142.out 4).trans rfl; have hcz5_5 : w3.cell? ⟨gb142, 5, none⟩ = some (.int .i64 a0_5) := (blk_cell BK142.out 5).trans rfl; have hcz5_6 : w3.cell? ⟨gb142, 6, none⟩ = some (.string a0_6) := (blk_cell BK142.out 6).trans rfl; have hfz5_0 := blk_frozen BK142.out 0; have hfz5_1 := blk_frozen BK142.out 1; have hfz5_2 := blk_frozen BK142.out 2; have hfz5_3 := blk_frozen BK142.out 3; have hfz5_4 := blk_frozen BK142.out 4; have hfz5_5 := blk_frozen BK142.out 5; have hfz5_6 := blk_frozen BK142.out 6; have hcz6_0 : w3.cell? ⟨gb143, 0, none⟩ = some (.int .i64 0) := (blk_cell BK143.out 0).trans rfl; have hcz6_1 : w3.cell? ⟨gb143, 1, none⟩ = some (.int .i64 0) := (blk_cell BK143.out 1).trans rfl; have hcz6_2 : w3.cell? ⟨gb143, 2, none⟩ = some (.bool false) := (blk_cell BK143.out 2).trans rfl; have hcz6_3 : w3.cell? ⟨gb143, 3, none⟩ = some (.int .i64 0) := (blk_cell BK143.out 3).trans rfl; have hcz6_4 : w3.cell? ⟨gb143, 4, none⟩ = some (.int .i64 0) := (blk_cell BK143.out 4).trans rfl; have hcz6_5 : w3.cell? ⟨gb143, 5, none⟩ = some (.int .i64 0) := (blk_cell BK143.out 5).trans rfl; have hcz6_6 : w3.cell? ⟨gb143, 6, none⟩ = some (.string (⟨#[]⟩ : ByteArray)) := (blk_cell BK143.out 6).trans rfl; have hfz6_0 := blk_frozen BK143.out 0; have hfz6_1 := blk_frozen BK143.out 1; have hfz6_2 := blk_frozen BK143.out 2; have hfz6_3 := blk_frozen BK143.out 3; have hfz6_4 := blk_frozen BK143.out 4; have hfz6_5 := blk_frozen BK143.out 5; have hfz6_6 := blk_frozen BK143.out 6))
  refine bodyPost_ret (results_cell_row rfl _ _ gb143 23 #[.int .i64 a0_0, .int .i64 a0_1, .bool false, .int .i64 0, .int .i64 0, .int .i64 a0_5, .string a0_6] (0, 0) _ rfl (by (with_reducible repeat (first | refine blk_drewN ?_ _ | refine blk_drew ?_ | refine blk_alloc ?_ _)); refine blk_put (cs := #[.int .i64 a0_0, .int .i64 a0_1, .bool false, .int .i64 0, .int .i64 0, .int .i64 a0_5, .string (⟨#[]⟩ : ByteArray)]) ?_ 6 _ rfl; (with_reducible repeat (first | refine blk_drewN ?_ _ | refine blk_drew ?_ | refine blk_alloc ?_ _)); refine blk_put (cs := #[.int .i64 a0_0, .int .i64 a0_1, .bool false, .int .i64 0, .int .i64 0, .int .i64 0, .string (⟨#[]⟩ : ByteArray)]) ?_ 5 _ rfl; (with_reducible repeat (first | refine blk_drewN ?_ _ | refine blk_drew ?_ | refine blk_alloc ?_ _)); refine blk_put (cs := #[.int .i64 a0_0, .int .i64 a0_1, .bool false, .int .i64 0, .int .i64 0, .int .i64 0, .string (⟨#[]⟩ : ByteArray)]) ?_ 4 _ rfl; (with_reducible repeat (first | refine blk_drewN ?_ _ | refine blk_drew ?_ | refine blk_alloc ?_ _)); refine blk_put (cs := #[.int .i64 a0_0, .int .i64 a0_1, .bool false, .int .i64 0, .int .i64 0, .int .i64 0, .string (⟨#[]⟩ : ByteArray)]) ?_ 3 _ rfl; (with_reducible repeat (first | refine blk_drewN ?_ _ | refine blk_drew ?_ | refine blk_alloc ?_ _)); refine blk_put (cs := #[.int .i64 a0_0, .int .i64 a0_1, .bool false, .int .i64 0, .int .i64 0, .int .i64 0, .string (⟨#[]⟩ : ByteArray)]) ?_ 2 _ rfl; (with_reducible repeat (first | refine blk_drewN ?_ _ | refine blk_drew ?_ | refine blk_alloc ?_ _)); refine blk_put (cs := #[.int .i64 a0_0, .int .i64 0, .bool false, .int .i64 0, .int .i64 0, .int .i64 0, .string (⟨#[]⟩ : ByteArray)]) ?_ 1 _ rfl; (with_reducible repeat (first | refine blk_drewN ?_ _ | refine blk_drew ?_ | refine blk_alloc ?_ _)); refine blk_put (cs := #[.int .i64 0, .int .i64 0, .bool false, .int .i64 0, .int .i64 0, .int .i64 0, .string (⟨#[]⟩ : ByteArray)]) ?_ 0 _ rfl; (with_reducible repeat (first | refine blk_drewN ?_ _ | refine blk_drew ?_ | refine blk_alloc ?_ _)); refine blk_far ?_ NB143_142.out _; (with_reducible repeat (first | refine blk_drewN ?_ _ | refine blk_drew ?_ | refine blk_alloc ?_ _)); refine blk_far ?_ NB143_142.out _; (with_reducible repeat (first | refine blk_drewN ?_ _ | refine blk_drew ?_ | refine blk_alloc ?_ _)); refine blk_far ?_ NB143_142.out _; (with_reducible repeat (first | refine blk_drewN ?_ _ | refine blk_drew ?_ | refine blk_alloc ?_ _)); exact BK143.out) Tryd.underlying23 rfl (by kernel_rfl)) rfl ?_
  exact ⟨by first | rfl | (simp [show ∀ l_ : List UInt8, (l_ == []) = l_.isEmpty from fun l_ => by cases l_ <;> rfl]; done) | (simp [errW_none, errW_some] <;> rfl) | ((repeat rw [Int.tdiv_eq_ediv_of_nonneg (by omega)]); (repeat rw [Int.tmod_eq_emod_of_nonneg (by omega)]); first | rfl | (simp [errW_none, errW_some] <;> rfl)) | (simp [*, errW_none, errW_some] <;> rfl), by repeat (first | (with_reducible first | exact HB.out | apply below_alloc | apply pw_below_drewN | apply below_drew1 | refine below_set ?_ GE142.out | refine below_set ?_ GE143.out) | exact HB.out)⟩

end Go.Proofs.YtcginknabpgjnaaDoor.PFrameTags
