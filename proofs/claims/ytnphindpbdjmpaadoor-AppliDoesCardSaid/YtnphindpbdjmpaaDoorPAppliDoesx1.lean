-- Written by a program of this session (see NOTES.md), which reads the translation's print; Lean checks it.
import Derived.Test.YtnphindpbdjmpaaDoorPAppliDoesx0
namespace Go.Proofs.YtnphindpbdjmpaaDoor.PAppliDoes
open Go.RowKit Go.Proofs.YtnphindpbdjmpaaDoorW.PrintWords Go.Proofs.YtnphindpbdjmpaaDoorW.PrintLast Go.Proofs.YtnphindpbdjmpaaDoorW.PrintMore
attribute [local go_sem] max2_int min2_int max_two min_two max_three min_three max_four min_four   -- for this text's walks alone
set_option linter.unusedVariables false
set_option linter.unusedSimpArgs false

/-! ### table_At: function 23 -/
def table_At.f (l0 : List (List (S45))) (a1 : Int) (a2 : Int) : Option (Int × Int × Bool) := if a1 < 0 then (some (a1, 0, false)) else (if a1 ≥ (l0.length : Int) then (some (a1, 0, false)) else (if a2 < 0 then (some (a1, 0, false)) else (if 0 ≤ a1 then (if a1 < (l0.length : Int) then (if a2 ≥ ((rd_L2 l0 a1).length : Int) then (some (a1, 0, false)) else (if 0 ≤ a2 then (if a2 < ((rd_L2 l0 a1).length : Int) then (some ((rd_T45 (rd_L2 l0 a1) a2).f0, (rd_T45 (rd_L2 l0 a1) a2).f1, true)) else (none)) else (none))) else (none)) else (none))))
set_option maxHeartbeats 8000000 in
set_option maxRecDepth 100000 in
theorem table_At.calls (A0 : Option Addr) (c0 : Nat) (l0 : List (List (S45))) (a1 : Int) (a2 : Int) (r1 : Int) (r2 : Int) (r3 : Bool) (w : World) (hr0 : Kd.C (Kd.slice 45 k45) w A0 l0.length l0) (hc0 : l0.length ≤ c0) (h : table_At.f l0 a1 a2 = some (r1, r2, r3)) :
    Calls Tryd.prog 23 #[.slice A0 l0.length c0, .int .i64 a1, .int .i64 a2] w fun e w' => e = .returned (.tuple #[.agg #[.int .i64 r1, .int .i64 r2], .bool r3]) ∧ Below w.heap.size w w' := by
  have hu45 := Tryd.underlying45
  have HR0 := Aside0.mk hr0
  have HC0 := Aside0.mk hc0
  clear hr0 hc0
  have HB := Aside0.mk (Below.refl w.heap.size w)
  have H : (if a1 < 0 then (some (a1, 0, false)) else (if a1 ≥ (l0.length : Int) then (some (a1, 0, false)) else (if a2 < 0 then (some (a1, 0, false)) else (if 0 ≤ a1 then (if a1 < (l0.length : Int) then (if a2 ≥ ((rd_L2 l0 a1).length : Int) then (some (a1, 0, false)) else (if 0 ≤ a2 then (if a2 < ((rd_L2 l0 a1).length : Int) then (some ((rd_T45 (rd_L2 l0 a1) a2).f0, (rd_T45 (rd_L2 l0 a1) a2).f1, true)) else (none)) else (none))) else (none)) else (none))))) = some (r1, r2, r3) := h
  clear h
  by_cases c4 : a1 < 0
  · rw [if_pos c4] at H
    have c4b0 : decide (a1 < 0) = true := decide_eq_true c4
    clear c4
    simp only [Option.some.injEq, Prod.mk.injEq] at H
    obtain ⟨rfl, rfl, rfl⟩ := H
    go_enter Tryd.func23, Tryd.ntmps23
    go_wp2_with (first | ((with_reducible refine gate_dst (N := 6) rfl ?_); (try (refine gate_guard (by rfl) ?_; dsimp only)); refine box_event ?hg (N := 6) ?hd (cs := #[.int .i64 0, .int .i64 0]) (t := 45) ?hr ?_; (case hd => rfl); (case hg => rfl); (case hr => first | (go_simp; done) | (go_simp; rfl)); intro gb101 hg w5 hbox hb; have n0_ := Aside0.mk (below_step (by repeat (first | (with_reducible first | exact HB.out | apply below_alloc | apply pw_below_drewN | apply below_drew1) | exact HB.out)) hb); have n1_ := Aside0.mk (hbox); have n2_ := Aside0.mk ((by rw [hg]; exact (below_size (by repeat (first | (with_reducible first | exact HB.out | apply below_alloc | apply pw_below_drewN | apply below_drew1) | exact HB.out))) : w.heap.size ≤ gb101)); have n3_ := Aside0.mk ((by rw [hg]; exact (below_size (by repeat (first | (with_reducible first | exact HB.out | apply below_alloc | apply pw_below_drewN | apply below_drew1) | exact HB.out))) : w.heap.size ≤ gb101)); clear HB; have HB := n0_; have BK101 := n1_; have GW101 := n2_; have GE101 := n3_; clear n0_ n1_ n2_ n3_; clear hb hbox hg; have hcz6_0 : w5.cell? ⟨gb101, 0, none⟩ = some (.int .i64 0) := (blk_cell BK101.out 0).trans rfl; have hcz6_1 : w5.cell? ⟨gb101, 1, none⟩ = some (.int .i64 0) := (blk_cell BK101.out 1).trans rfl; have hfz6_0 := blk_frozen BK101.out 0; have hfz6_1 := blk_frozen BK101.out 1))
    refine bodyPost_ret (results_ct rfl _ _ gb101 45 #[.int .i64 a1, .int .i64 0] (0, 0) _ rfl (by (with_reducible repeat (first | refine blk_drewN ?_ _ | refine blk_drew ?_ | refine blk_alloc ?_ _)); refine blk_put (cs := #[.int .i64 a1, .int .i64 0]) ?_ 1 _ rfl; (with_reducible repeat (first | refine blk_drewN ?_ _ | refine blk_drew ?_ | refine blk_alloc ?_ _)); refine blk_put (cs := #[.int .i64 0, .int .i64 0]) ?_ 0 _ rfl; (with_reducible repeat (first | refine blk_drewN ?_ _ | refine blk_drew ?_ | refine blk_alloc ?_ _)); exact BK101.out) Tryd.underlying45 rfl (by kernel_rfl)) rfl ?_
    exact ⟨by first | rfl | (simp [show ∀ l_ : List UInt8, (l_ == []) = l_.isEmpty from fun l_ => by cases l_ <;> rfl]; done) | (simp [errW_none, errW_some] <;> rfl) | ((repeat rw [Int.tdiv_eq_ediv_of_nonneg (by omega)]); (repeat rw [Int.tmod_eq_emod_of_nonneg (by omega)]); first | rfl | (simp [errW_none, errW_some] <;> rfl)) | (simp [*, errW_none, errW_some] <;> rfl), by repeat (first | (with_reducible first | exact HB.out | apply below_alloc | apply pw_below_drewN | apply below_drew1 | refine below_set ?_ GE101.out) | exact HB.out)⟩
  · rw [if_neg c4] at H
    have c4b0 : decide (a1 < 0) = false := decide_eq_false c4
    clear c4
    by_cases c7 : a1 ≥ (l0.length : Int)
    · rw [if_pos c7] at H
      have c7b0 : decide ((l0.length : Int) ≤ a1) = true := decide_eq_true c7
      clear c7
      simp only [Option.some.injEq, Prod.mk.injEq] at H
      obtain ⟨rfl, rfl, rfl⟩ := H
      go_enter Tryd.func23, Tryd.ntmps23
      go_wp2_with (first | ((with_reducible refine gate_dst (N := 6) rfl ?_); (try (refine gate_guard (by rfl) ?_; dsimp only)); refine box_event ?hg (N := 6) ?hd (cs := #[.int .i64 0, .int .i64 0]) (t := 45) ?hr ?_; (case hd => rfl); (case hg => rfl); (case hr => first | (go_simp; done) | (go_simp; rfl)); intro gb101 hg w8 hbox hb; have n0_ := Aside0.mk (below_step (by repeat (first | (with_reducible first | exact HB.out | apply below_alloc | apply pw_below_drewN | apply below_drew1) | exact HB.out)) hb); have n1_ := Aside0.mk (hbox); have n2_ := Aside0.mk ((by rw [hg]; exact (below_size (by repeat (first | (with_reducible first | exact HB.out | apply below_alloc | apply pw_below_drewN | apply below_drew1) | exact HB.out))) : w.heap.size ≤ gb101)); have n3_ := Aside0.mk ((by rw [hg]; exact (below_size (by repeat (first | (with_reducible first | exact HB.out | apply below_alloc | apply pw_below_drewN | apply below_drew1) | exact HB.out))) : w.heap.size ≤ gb101)); clear HB; have HB := n0_; have BK101 := n1_; have GW101 := n2_; have GE101 := n3_; clear n0_ n1_ n2_ n3_; clear hb hbox hg; have hcz9_0 : w8.cell? ⟨gb101, 0, none⟩ = some (.int .i64 0) := (blk_cell BK101.out 0).trans rfl; have hcz9_1 : w8.cell? ⟨gb101, 1, none⟩ = some (.int .i64 0) := (blk_cell BK101.out 1).trans rfl; have hfz9_0 := blk_frozen BK101.out 0; have hfz9_1 := blk_frozen BK101.out 1))
      refine bodyPost_ret (results_ct rfl _ _ gb101 45 #[.int .i64 a1, .int .i64 0] (0, 0) _ rfl (by (with_reducible repeat (first | refine blk_drewN ?_ _ | refine blk_drew ?_ | refine blk_alloc ?_ _)); refine blk_put (cs := #[.int .i64 a1, .int .i64 0]) ?_ 1 _ rfl; (with_reducible repeat (first | refine blk_drewN ?_ _ | refine blk_drew ?_ | refine blk_alloc ?_ _)); refine blk_put (cs := #[.int .i64 0, .int .i64 0]) ?_ 0 _ rfl; (with_reducible repeat (first | refine blk_drewN ?_ _ | refine blk_drew ?_ | refine blk_alloc ?_ _)); exact BK101.out) Tryd.underlying45 rfl (by kernel_rfl)) rfl ?_
      exact ⟨by first | rfl | (simp [show ∀ l_ : List UInt8, (l_ == []) = l_.isEmpty from fun l_ => by cases l_ <;> rfl]; done) | (simp [errW_none, errW_some] <;> rfl) | ((repeat rw [Int.tdiv_eq_ediv_of_nonneg (by omega)]); (repeat rw [Int.tmod_eq_emod_of_nonneg (by omega)]); first | rfl | (simp [errW_none, errW_some] <;> rfl)) | (simp [*, errW_none, errW_some] <;> rfl), by repeat (first | (with_reducible first | exact HB.out | apply below_alloc | apply pw_below_drewN | apply below_drew1 | refine below_set ?_ GE101.out) | exact HB.out)⟩
    · rw [if_neg c7] at H
      have c7b0 : decide ((l0.length : Int) ≤ a1) = false := decide_eq_false c7
      clear c7
      by_cases c10 : a2 < 0
      · rw [if_pos c10] at H
        have c10b0 : decide (a2 < 0) = true := decide_eq_true c10
        clear c10
        simp only [Option.some.injEq, Prod.mk.injEq] at H
        obtain ⟨rfl, rfl, rfl⟩ := H
        go_enter Tryd.func23, Tryd.ntmps23
        go_wp2_with (first | ((with_reducible refine gate_dst (N := 6) rfl ?_); (try (refine gate_guard (by rfl) ?_; dsimp only)); refine box_event ?hg (N := 6) ?hd (cs := #[.int .i64 0, .int .i64 0]) (t := 45) ?hr ?_; (case hd => rfl); (case hg => rfl); (case hr => first | (go_simp; done) | (go_simp; rfl)); intro gb101 hg w11 hbox hb; have n0_ := Aside0.mk (below_step (by repeat (first | (with_reducible first | exact HB.out | apply below_alloc | apply pw_below_drewN | apply below_drew1) | exact HB.out)) hb); have n1_ := Aside0.mk (hbox); have n2_ := Aside0.mk ((by rw [hg]; exact (below_size (by repeat (first | (with_reducible first | exact HB.out | apply below_alloc | apply pw_below_drewN | apply below_drew1) | exact HB.out))) : w.heap.size ≤ gb101)); have n3_ := Aside0.mk ((by rw [hg]; exact (below_size (by repeat (first | (with_reducible first | exact HB.out | apply below_alloc | apply pw_below_drewN | apply below_drew1) | exact HB.out))) : w.heap.size ≤ gb101)); clear HB; have HB := n0_; have BK101 := n1_; have GW101 := n2_; have GE101 := n3_; clear n0_ n1_ n2_ n3_; clear hb hbox hg; have hcz12_0 : w11.cell? ⟨gb101, 0, none⟩ = some (.int .i64 0) := (blk_cell BK101.out 0).trans rfl; have hcz12_1 : w11.cell? ⟨gb101, 1, none⟩ = some (.int .i64 0) := (blk_cell BK101.out 1).trans rfl; have hfz12_0 := blk_frozen BK101.out 0; have hfz12_1 := blk_frozen BK101.out 1))
        refine bodyPost_ret (results_ct rfl _ _ gb101 45 #[.int .i64 a1, .int .i64 0] (0, 0) _ rfl (by (with_reducible repeat (first | refine blk_drewN ?_ _ | refine blk_drew ?_ | refine blk_alloc ?_ _)); refine blk_put (cs := #[.int .i64 a1, .int .i64 0]) ?_ 1 _ rfl; (with_reducible repeat (first | refine blk_drewN ?_ _ | refine blk_drew ?_ | refine blk_alloc ?_ _)); refine blk_put (cs := #[.int .i64 0, .int .i64 0]) ?_ 0 _ rfl; (with_reducible repeat (first | refine blk_drewN ?_ _ | refine blk_drew ?_ | refine blk_alloc ?_ _)); exact BK101.out) Tryd.underlying45 rfl (by kernel_rfl)) rfl ?_
        exact ⟨by first | rfl | (simp [show ∀ l_ : List UInt8, (l_ == []) = l_.isEmpty from fun l_ => by cases l_ <;> rfl]; done) | (simp [errW_none, errW_some] <;> rfl) | ((repeat rw [Int.tdiv_eq_ediv_of_nonneg (by omega)]); (repeat rw [Int.tmod_eq_emod_of_nonneg (by omega)]); first | rfl | (simp [errW_none, errW_some] <;> rfl)) | (simp [*, errW_none, errW_some] <;> rfl), by repeat (first | (with_reducible first | exact HB.out | apply below_alloc | apply pw_below_drewN | apply below_drew1 | refine below_set ?_ GE101.out) | exact HB.out)⟩
      · rw [if_neg c10] at H
        have c10b0 : decide (a2 < 0) = false := decide_eq_false c10
        clear c10
        by_cases c13 : 0 ≤ a1
        · rw [if_pos c13] at H
          have c13b0 : decide (0 ≤ a1) = true := decide_eq_true c13
          clear c13
          by_cases c14 : a1 < (l0.length : Int)
          · rw [if_pos c14] at H
            have c14b0 : decide (a1 < (l0.length : Int)) = true := decide_eq_true c14
            clear c14
            by_cases c15 : a2 ≥ ((rd_L2 l0 a1).length : Int)
            · rw [if_pos c15] at H
              have c15b0 : decide (((rd_L2 l0 a1).length : Int) ≤ a2) = true := decide_eq_true c15
              clear c15
              simp only [Option.some.injEq, Prod.mk.injEq] at H
              obtain ⟨rfl, rfl, rfl⟩ := H
              go_enter Tryd.func23, Tryd.ntmps23
              go_wp2_with (first | ((with_reducible refine gate_dst (N := 6) rfl ?_); (try (refine gate_guard (by rfl) ?_; dsimp only)); refine box_event ?hg (N := 6) ?hd (cs := #[.int .i64 0, .int .i64 0]) (t := 45) ?hr ?_; (case hd => rfl); (case hg => rfl); (case hr => first | (go_simp; done) | (go_simp; rfl)); intro gb101 hg w16 hbox hb; have n0_ := Aside0.mk (below_step (by repeat (first | (with_reducible first | exact HB.out | apply below_alloc | apply pw_below_drewN | apply below_drew1) | exact HB.out)) hb); have n1_ := Aside0.mk (hbox); have n2_ := Aside0.mk ((by rw [hg]; exact (below_size (by repeat (first | (with_reducible first | exact HB.out | apply below_alloc | apply pw_below_drewN | apply below_drew1) | exact HB.out))) : w.heap.size ≤ gb101)); have n3_ := Aside0.mk ((by rw [hg]; exact (below_size (by repeat (first | (with_reducible first | exact HB.out | apply below_alloc | apply pw_below_drewN | apply below_drew1) | exact HB.out))) : w.heap.size ≤ gb101)); clear HB; have HB := n0_; have BK101 := n1_; have GW101 := n2_; have GE101 := n3_; clear n0_ n1_ n2_ n3_; clear hb hbox hg; have p102 : 0 ≤ (a1 : Int) := of_decide_eq_true (by first | (with_reducible assumption) | assumption); have q102 : a1 < (l0.length : Int) := of_decide_eq_true (by first | (with_reducible assumption) | assumption); obtain ⟨ad102, A102_0, c102_0, e102, hx102_0, hl102_0, hi102_0⟩ := at_L2 HR0.out a1 p102 q102; cases e102; (try replace hx102_0 := (HB.out.cell (World.block_lt_of_cell? w _ hx102_0)).trans hx102_0); have HR102_0 := Aside0.mk hi102_0; have HC102_0 := Aside0.mk hl102_0; clear hi102_0 hl102_0; replace p102 := eq_true p102; replace q102 := eq_true q102; have hcz17_0 : w16.cell? ⟨gb101, 0, none⟩ = some (.int .i64 0) := (blk_cell BK101.out 0).trans rfl; have hcz17_1 : w16.cell? ⟨gb101, 1, none⟩ = some (.int .i64 0) := (blk_cell BK101.out 1).trans rfl; have hfz17_0 := blk_frozen BK101.out 0; have hfz17_1 := blk_frozen BK101.out 1))
              refine bodyPost_ret (results_ct rfl _ _ gb101 45 #[.int .i64 a1, .int .i64 0] (0, 0) _ rfl (by (with_reducible repeat (first | refine blk_drewN ?_ _ | refine blk_drew ?_ | refine blk_alloc ?_ _)); refine blk_put (cs := #[.int .i64 a1, .int .i64 0]) ?_ 1 _ rfl; (with_reducible repeat (first | refine blk_drewN ?_ _ | refine blk_drew ?_ | refine blk_alloc ?_ _)); refine blk_put (cs := #[.int .i64 0, .int .i64 0]) ?_ 0 _ rfl; (with_reducible repeat (first | refine blk_drewN ?_ _ | refine blk_drew ?_ | refine blk_alloc ?_ _)); exact BK101.out) Tryd.underlying45 rfl (by kernel_rfl)) rfl ?_
              exact ⟨by first | rfl | (simp [show ∀ l_ : List UInt8, (l_ == []) = l_.isEmpty from fun l_ => by cases l_ <;> rfl]; done) | (simp [errW_none, errW_some] <;> rfl) | ((repeat rw [Int.tdiv_eq_ediv_of_nonneg (by omega)]); (repeat rw [Int.tmod_eq_emod_of_nonneg (by omega)]); first | rfl | (simp [errW_none, errW_some] <;> rfl)) | (simp [*, errW_none, errW_some] <;> rfl), by repeat (first | (with_reducible first | exact HB.out | apply below_alloc | apply pw_below_drewN | apply below_drew1 | refine below_set ?_ GE101.out) | exact HB.out)⟩
            · rw [if_neg c15] at H
              have c15b0 : decide (((rd_L2 l0 a1).length : Int) ≤ a2) = false := decide_eq_false c15
              clear c15
              by_cases c18 : 0 ≤ a2
              · rw [if_pos c18] at H
                have c18b0 : decide (0 ≤ a2) = true := decide_eq_true c18
                clear c18
                by_cases c19 : a2 < ((rd_L2 l0 a1).length : Int)
                · rw [if_pos c19] at H
                  have c19b0 : decide (a2 < ((rd_L2 l0 a1).length : Int)) = true := decide_eq_true c19
                  clear c19
                  simp only [Option.some.injEq, Prod.mk.injEq] at H
                  obtain ⟨rfl, rfl, rfl⟩ := H
                  go_enter Tryd.func23, Tryd.ntmps23
                  go_wp2_with (first | ((with_reducible refine gate_dst (N := 6) rfl ?_); (try (refine gate_guard (by rfl) ?_; dsimp only)); refine box_event ?hg (N := 6) ?hd (cs := #[.int .i64 0, .int .i64 0]) (t := 45) ?hr ?_; (case hd => rfl); (case hg => rfl); (case hr => first | (go_simp; done) | (go_simp; rfl)); intro gb101 hg w20 hbox hb; have n0_ := Aside0.mk (below_step (by repeat (first | (with_reducible first | exact HB.out | apply below_alloc | apply pw_below_drewN | apply below_drew1) | exact HB.out)) hb); have n1_ := Aside0.mk (hbox); have n2_ := Aside0.mk ((by rw [hg]; exact (below_size (by repeat (first | (with_reducible first | exact HB.out | apply below_alloc | apply pw_below_drewN | apply below_drew1) | exact HB.out))) : w.heap.size ≤ gb101)); have n3_ := Aside0.mk ((by rw [hg]; exact (below_size (by repeat (first | (with_reducible first | exact HB.out | apply below_alloc | apply pw_below_drewN | apply below_drew1) | exact HB.out))) : w.heap.size ≤ gb101)); clear HB; have HB := n0_; have BK101 := n1_; have GW101 := n2_; have GE101 := n3_; clear n0_ n1_ n2_ n3_; clear hb hbox hg; have p102 : 0 ≤ (a1 : Int) := of_decide_eq_true (by first | (with_reducible assumption) | assumption); have q102 : a1 < (l0.length : Int) := of_decide_eq_true (by first | (with_reducible assumption) | assumption); obtain ⟨ad102, A102_0, c102_0, e102, hx102_0, hl102_0, hi102_0⟩ := at_L2 HR0.out a1 p102 q102; cases e102; (try replace hx102_0 := (HB.out.cell (World.block_lt_of_cell? w _ hx102_0)).trans hx102_0); have HR102_0 := Aside0.mk hi102_0; have HC102_0 := Aside0.mk hl102_0; clear hi102_0 hl102_0; replace p102 := eq_true p102; replace q102 := eq_true q102; have p103 : 0 ≤ (a1 : Int) := of_decide_eq_true (by first | (with_reducible assumption) | assumption); have q103 : a1 < (l0.length : Int) := of_decide_eq_true (by first | (with_reducible assumption) | assumption); obtain ⟨ad103, A103_0, c103_0, e103, hx103_0, hl103_0, hi103_0⟩ := at_L2 HR0.out a1 p103 q103; obtain rfl : ad102 = ad103 := (by injection e103); (try replace hx103_0 := (HB.out.cell (World.block_lt_of_cell? w _ hx103_0)).trans hx103_0); have HR103_0 := Aside0.mk hi103_0; have HC103_0 := Aside0.mk hl103_0; clear hi103_0 hl103_0; replace p103 := eq_true p103; replace q103 := eq_true q103; have ea_ := Option.some.inj (hx102_0.symm.trans hx103_0); injection ea_ with ea_ en_ ec_; subst ea_; subst ec_; clear en_; have p104 : 0 ≤ (a2 : Int) := of_decide_eq_true (by first | (with_reducible assumption) | assumption); have q104 : a2 < ((rd_L2 l0 a1).length : Int) := of_decide_eq_true (by first | (with_reducible assumption) | assumption); obtain ⟨ad104, e104, hx104_0, hx104_1⟩ := at_T45 HR103_0.out a2 p104 q104; cases e104; (try replace hx104_0 := (HB.out.cell (World.block_lt_of_cell? w _ hx104_0)).trans hx104_0); (try replace hx104_1 := (HB.out.cell (World.block_lt_of_cell? w _ hx104_1)).trans hx104_1); replace p104 := eq_true p104; replace q104 := eq_true q104; have hcz21_0 : w20.cell? ⟨gb101, 0, none⟩ = some (.int .i64 0) := (blk_cell BK101.out 0).trans rfl; have hcz21_1 : w20.cell? ⟨gb101, 1, none⟩ = some (.int .i64 0) := (blk_cell BK101.out 1).trans rfl; have hfz21_0 := blk_frozen BK101.out 0; have hfz21_1 := blk_frozen BK101.out 1))
                  refine bodyPost_ret (results_ct rfl _ _ gb101 45 #[.int .i64 ((rd_T45 (rd_L2 l0 a1) a2).f0), .int .i64 ((rd_T45 (rd_L2 l0 a1) a2).f1)] (0, 0) _ rfl (by (with_reducible repeat (first | refine blk_drewN ?_ _ | refine blk_drew ?_ | refine blk_alloc ?_ _)); refine blk_put (cs := #[.int .i64 ((rd_T45 (rd_L2 l0 a1) a2).f0), .int .i64 0]) ?_ 1 _ rfl; (with_reducible repeat (first | refine blk_drewN ?_ _ | refine blk_drew ?_ | refine blk_alloc ?_ _)); refine blk_put (cs := #[.int .i64 0, .int .i64 0]) ?_ 0 _ rfl; (with_reducible repeat (first | refine blk_drewN ?_ _ | refine blk_drew ?_ | refine blk_alloc ?_ _)); exact BK101.out) Tryd.underlying45 rfl (by kernel_rfl)) rfl ?_
                  exact ⟨by first | rfl | (simp [show ∀ l_ : List UInt8, (l_ == []) = l_.isEmpty from fun l_ => by cases l_ <;> rfl]; done) | (simp [errW_none, errW_some] <;> rfl) | ((repeat rw [Int.tdiv_eq_ediv_of_nonneg (by omega)]); (repeat rw [Int.tmod_eq_emod_of_nonneg (by omega)]); first | rfl | (simp [errW_none, errW_some] <;> rfl)) | (simp [*, errW_none, errW_some] <;> rfl), by repeat (first | (with_reducible first | exact HB.out | apply below_alloc | apply pw_below_drewN | apply below_drew1 | refine below_set ?_ GE101.out) | exact HB.out)⟩
                · rw [if_neg c19] at H
                  exact absurd H (by simp)
              · rw [if_neg c18] at H
                exact absurd H (by simp)
          · rw [if_neg c14] at H
            exact absurd H (by simp)
        · rw [if_neg c13] at H
          exact absurd H (by simp)

/-! ### table_Applicant: function 24 -/
def table_Applicant.f  : Option ((List (List (S45)))) := some (([(([(⟨1, 0⟩ : S45), (⟨0, 0⟩ : S45), (⟨0, 0⟩ : S45), (⟨0, 0⟩ : S45), (⟨0, 0⟩ : S45), (⟨1, 0⟩ : S45)] : List (S45))), (([(⟨1, 0⟩ : S45), (⟨4, 0⟩ : S45), (⟨1, 0⟩ : S45), (⟨1, 0⟩ : S45), (⟨2, 1⟩ : S45), (⟨1, 0⟩ : S45)] : List (S45))), (([(⟨2, 0⟩ : S45), (⟨4, 0⟩ : S45), (⟨2, 0⟩ : S45), (⟨2, 0⟩ : S45), (⟨3, 2⟩ : S45), (⟨1, 0⟩ : S45)] : List (S45))), (([(⟨3, 0⟩ : S45), (⟨4, 0⟩ : S45), (⟨2, 0⟩ : S45), (⟨2, 0⟩ : S45), (⟨3, 0⟩ : S45), (⟨1, 0⟩ : S45)] : List (S45))), (([(⟨2, 0⟩ : S45), (⟨4, 0⟩ : S45), (⟨4, 0⟩ : S45), (⟨4, 0⟩ : S45), (⟨0, 3⟩ : S45), (⟨1, 0⟩ : S45)] : List (S45)))] : List (List (S45))))
set_option maxHeartbeats 8000000 in
set_option maxRecDepth 100000 in
theorem table_Applicant.calls  (r : List (List (S45))) (w : World) (h : table_Applicant.f  = some r) :
    Calls Tryd.prog 24 #[] w fun e w' => ∃ v0_ : Value, e = .returned (v0_) ∧ Kd.N (Kd.slice 45 k45) 52 w' w.heap.size (fun k_ => (w.heap.size ≤ k_)) v0_ r ∧ Below w.heap.size w w' := by
  have hu45 := Tryd.underlying45
  have HB := Aside0.mk (Below.refl w.heap.size w)
  have H : (some (([(([(⟨1, 0⟩ : S45), (⟨0, 0⟩ : S45), (⟨0, 0⟩ : S45), (⟨0, 0⟩ : S45), (⟨0, 0⟩ : S45), (⟨1, 0⟩ : S45)] : List (S45))), (([(⟨1, 0⟩ : S45), (⟨4, 0⟩ : S45), (⟨1, 0⟩ : S45), (⟨1, 0⟩ : S45), (⟨2, 1⟩ : S45), (⟨1, 0⟩ : S45)] : List (S45))), (([(⟨2, 0⟩ : S45), (⟨4, 0⟩ : S45), (⟨2, 0⟩ : S45), (⟨2, 0⟩ : S45), (⟨3, 2⟩ : S45), (⟨1, 0⟩ : S45)] : List (S45))), (([(⟨3, 0⟩ : S45), (⟨4, 0⟩ : S45), (⟨2, 0⟩ : S45), (⟨2, 0⟩ : S45), (⟨3, 0⟩ : S45), (⟨1, 0⟩ : S45)] : List (S45))), (([(⟨2, 0⟩ : S45), (⟨4, 0⟩ : S45), (⟨4, 0⟩ : S45), (⟨4, 0⟩ : S45), (⟨0, 3⟩ : S45), (⟨1, 0⟩ : S45)] : List (S45)))] : List (List (S45))))) = some r := h
  clear h
  obtain ⟨y105, hy105⟩ : ∃ y_ : List (S45), y_ = (([(⟨1, 0⟩ : S45), (⟨0, 0⟩ : S45), (⟨0, 0⟩ : S45), (⟨0, 0⟩ : S45), (⟨0, 0⟩ : S45), (⟨1, 0⟩ : S45)] : List (S45))) := ⟨_, rfl⟩
  replace H : (some (([y105, (([(⟨1, 0⟩ : S45), (⟨4, 0⟩ : S45), (⟨1, 0⟩ : S45), (⟨1, 0⟩ : S45), (⟨2, 1⟩ : S45), (⟨1, 0⟩ : S45)] : List (S45))), (([(⟨2, 0⟩ : S45), (⟨4, 0⟩ : S45), (⟨2, 0⟩ : S45), (⟨2, 0⟩ : S45), (⟨3, 2⟩ : S45), (⟨1, 0⟩ : S45)] : List (S45))), (([(⟨3, 0⟩ : S45), (⟨4, 0⟩ : S45), (⟨2, 0⟩ : S45), (⟨2, 0⟩ : S45), (⟨3, 0⟩ : S45), (⟨1, 0⟩ : S45)] : List (S45))), (([(⟨2, 0⟩ : S45), (⟨4, 0⟩ : S45), (⟨4, 0⟩ : S45), (⟨4, 0⟩ : S45), (⟨0, 3⟩ : S45), (⟨1, 0⟩ : S45)] : List (S45)))] : List (List (S45))))) = some r := by first | (rw [hy105]; with_reducible exact H) | (have H2_ := (Option.bind_some _ _).symm.trans H; rw [hy105]; with_reducible exact H2_) | (have H2_ := (Option.bind_some _ _).symm.trans H; with_reducible exact H2_) | with_reducible exact H | (rw [hy105]; exact H) | exact H
  have Ny105 := Aside0.mk hy105
  clear hy105
  obtain ⟨y108, hy108⟩ : ∃ y_ : List (S45), y_ = (([(⟨1, 0⟩ : S45), (⟨4, 0⟩ : S45), (⟨1, 0⟩ : S45), (⟨1, 0⟩ : S45), (⟨2, 1⟩ : S45), (⟨1, 0⟩ : S45)] : List (S45))) := ⟨_, rfl⟩
  replace H : (some (([y105, y108, (([(⟨2, 0⟩ : S45), (⟨4, 0⟩ : S45), (⟨2, 0⟩ : S45), (⟨2, 0⟩ : S45), (⟨3, 2⟩ : S45), (⟨1, 0⟩ : S45)] : List (S45))), (([(⟨3, 0⟩ : S45), (⟨4, 0⟩ : S45), (⟨2, 0⟩ : S45), (⟨2, 0⟩ : S45), (⟨3, 0⟩ : S45), (⟨1, 0⟩ : S45)] : List (S45))), (([(⟨2, 0⟩ : S45), (⟨4, 0⟩ : S45), (⟨4, 0⟩ : S45), (⟨4, 0⟩ : S45), (⟨0, 3⟩ : S45), (⟨1, 0⟩ : S45)] : List (S45)))] : List (List (S45))))) = some r := by first | (rw [hy108]; with_reducible exact H) | (have H2_ := (Option.bind_some _ _).symm.trans H; rw [hy108]; with_reducible exact H2_) | (have H2_ := (Option.bind_some _ _).symm.trans H; with_reducible exact H2_) | with_reducible exact H | (rw [hy108]; exact H) | exact H
  have Ny108 := Aside0.mk hy108
  clear hy108
  obtain ⟨y111, hy111⟩ : ∃ y_ : List (S45), y_ = (([(⟨2, 0⟩ : S45), (⟨4, 0⟩ : S45), (⟨2, 0⟩ : S45), (⟨2, 0⟩ : S45), (⟨3, 2⟩ : S45), (⟨1, 0⟩ : S45)] : List (S45))) := ⟨_, rfl⟩
  replace H : (some (([y105, y108, y111, (([(⟨3, 0⟩ : S45), (⟨4, 0⟩ : S45), (⟨2, 0⟩ : S45), (⟨2, 0⟩ : S45), (⟨3, 0⟩ : S45), (⟨1, 0⟩ : S45)] : List (S45))), (([(⟨2, 0⟩ : S45), (⟨4, 0⟩ : S45), (⟨4, 0⟩ : S45), (⟨4, 0⟩ : S45), (⟨0, 3⟩ : S45), (⟨1, 0⟩ : S45)] : List (S45)))] : List (List (S45))))) = some r := by first | (rw [hy111]; with_reducible exact H) | (have H2_ := (Option.bind_some _ _).symm.trans H; rw [hy111]; with_reducible exact H2_) | (have H2_ := (Option.bind_some _ _).symm.trans H; with_reducible exact H2_) | with_reducible exact H | (rw [hy111]; exact H) | exact H
  have Ny111 := Aside0.mk hy111
  clear hy111
  obtain ⟨y114, hy114⟩ : ∃ y_ : List (S45), y_ = (([(⟨3, 0⟩ : S45), (⟨4, 0⟩ : S45), (⟨2, 0⟩ : S45), (⟨2, 0⟩ : S45), (⟨3, 0⟩ : S45), (⟨1, 0⟩ : S45)] : List (S45))) := ⟨_, rfl⟩
  replace H : (some (([y105, y108, y111, y114, (([(⟨2, 0⟩ : S45), (⟨4, 0⟩ : S45), (⟨4, 0⟩ : S45), (⟨4, 0⟩ : S45), (⟨0, 3⟩ : S45), (⟨1, 0⟩ : S45)] : List (S45)))] : List (List (S45))))) = some r := by first | (rw [hy114]; with_reducible exact H) | (have H2_ := (Option.bind_some _ _).symm.trans H; rw [hy114]; with_reducible exact H2_) | (have H2_ := (Option.bind_some _ _).symm.trans H; with_reducible exact H2_) | with_reducible exact H | (rw [hy114]; exact H) | exact H
  have Ny114 := Aside0.mk hy114
  clear hy114
  obtain ⟨y117, hy117⟩ : ∃ y_ : List (S45), y_ = (([(⟨2, 0⟩ : S45), (⟨4, 0⟩ : S45), (⟨4, 0⟩ : S45), (⟨4, 0⟩ : S45), (⟨0, 3⟩ : S45), (⟨1, 0⟩ : S45)] : List (S45))) := ⟨_, rfl⟩
  replace H : (some (([y105, y108, y111, y114, y117] : List (List (S45))))) = some r := by first | (rw [hy117]; with_reducible exact H) | (have H2_ := (Option.bind_some _ _).symm.trans H; rw [hy117]; with_reducible exact H2_) | (have H2_ := (Option.bind_some _ _).symm.trans H; with_reducible exact H2_) | with_reducible exact H | (rw [hy117]; exact H) | exact H
  have Ny117 := Aside0.mk hy117
  clear hy117
  obtain ⟨y120, hy120⟩ : ∃ y_ : List (List (S45)), y_ = (([y105, y108, y111, y114, y117] : List (List (S45)))) := ⟨_, rfl⟩
  replace H : (some y120) = some r := by first | (rw [hy120]; with_reducible exact H) | (have H2_ := (Option.bind_some _ _).symm.trans H; rw [hy120]; with_reducible exact H2_) | (have H2_ := (Option.bind_some _ _).symm.trans H; with_reducible exact H2_) | with_reducible exact H | (rw [hy120]; exact H) | exact H
  have Ny120 := Aside0.mk hy120
  clear hy120
  obtain rfl := Option.some.inj H
  go_enter Tryd.func24, Tryd.ntmps24
  go_wp2_with (first | ((with_reducible refine gate_dst (N := 7) rfl ?_); refine Kd.R_lit k45 _ 45 ?hg (N := 7) ?hd (xs := ([(⟨1, 0⟩ : S45), (⟨0, 0⟩ : S45), (⟨0, 0⟩ : S45), (⟨0, 0⟩ : S45), (⟨0, 0⟩ : S45), (⟨1, 0⟩ : S45)] : List (S45))) (inner := [.int .i64 1, .int .i64 0, .int .i64 0, .int .i64 0, .int .i64 0, .int .i64 0, .int .i64 0, .int .i64 0, .int .i64 0, .int .i64 0, .int .i64 1, .int .i64 0]) (ok := fun _ => True) (okp := fun _ => True) ?hr ?hp (fun _ hk => hk) trivial (Below.refl _ _) (Nat.le_refl _) (by simp) ?_; (case hd => rfl); (case hg => rfl); (case hr => first | (go_simp; done) | (go_simp; rfl)); (case hp => exact (Reps.c2 (show Kd.M k45 _ _ _ (⟨1, 0⟩ : S45) [.int .i64 1, .int .i64 0] from (k45_mkM _ _ _ (⟨1, 0⟩ : S45) )) (Reps.c2 (show Kd.M k45 _ _ _ (⟨0, 0⟩ : S45) [.int .i64 0, .int .i64 0] from (k45_mkM _ _ _ (⟨0, 0⟩ : S45) )) (Reps.c2 (show Kd.M k45 _ _ _ (⟨0, 0⟩ : S45) [.int .i64 0, .int .i64 0] from (k45_mkM _ _ _ (⟨0, 0⟩ : S45) )) (Reps.c2 (show Kd.M k45 _ _ _ (⟨0, 0⟩ : S45) [.int .i64 0, .int .i64 0] from (k45_mkM _ _ _ (⟨0, 0⟩ : S45) )) (Reps.c2 (show Kd.M k45 _ _ _ (⟨0, 0⟩ : S45) [.int .i64 0, .int .i64 0] from (k45_mkM _ _ _ (⟨0, 0⟩ : S45) )) (Reps.c2 (show Kd.M k45 _ _ _ (⟨1, 0⟩ : S45) [.int .i64 1, .int .i64 0] from (k45_mkM _ _ _ (⟨1, 0⟩ : S45) )) (Reps.none _ _)))))))); intro v106 w1 ho2 hb hg_ hnew_; clear hg_ hnew_; (first | rw [← Ny105.out] at ho2 | (simp only [Int.reduceToNat] at ho2; rw [← Ny105.out] at ho2)); have n0_ := Aside0.mk (Kd.R_lower (Kd.R_newM (M := fun k_ => (w.heap.size ≤ k_)) ho2 (below_size (by repeat (first | (with_reducible first | exact HB.out | apply below_alloc | apply pw_below_drewN | apply below_drew1) | exact HB.out))) (fun k_ h_ => h_)) (below_size (by repeat (first | (with_reducible first | exact HB.out | apply below_alloc | apply pw_below_drewN | apply below_drew1) | exact HB.out)))); have n1_ := Aside0.mk (below_step (by repeat (first | (with_reducible first | exact HB.out | apply below_alloc | apply pw_below_drewN | apply below_drew1) | exact HB.out)) hb); clear HB; have HO107 := n0_; have HB := n1_; clear n0_ n1_; clear hb ho2) | ((with_reducible refine gate_dst (N := 14) rfl ?_); refine Kd.R_lit k45 _ 45 ?hg (N := 14) ?hd (xs := ([(⟨1, 0⟩ : S45), (⟨4, 0⟩ : S45), (⟨1, 0⟩ : S45), (⟨1, 0⟩ : S45), (⟨2, 1⟩ : S45), (⟨1, 0⟩ : S45)] : List (S45))) (inner := [.int .i64 1, .int .i64 0, .int .i64 4, .int .i64 0, .int .i64 1, .int .i64 0, .int .i64 1, .int .i64 0, .int .i64 2, .int .i64 1, .int .i64 1, .int .i64 0]) (ok := fun _ => True) (okp := fun _ => True) ?hr ?hp (fun _ hk => hk) trivial (Below.refl _ _) (Nat.le_refl _) (by simp) ?_; (case hd => rfl); (case hg => rfl); (case hr => first | (go_simp; done) | (go_simp; rfl)); (case hp => exact (Reps.c2 (show Kd.M k45 _ _ _ (⟨1, 0⟩ : S45) [.int .i64 1, .int .i64 0] from (k45_mkM _ _ _ (⟨1, 0⟩ : S45) )) (Reps.c2 (show Kd.M k45 _ _ _ (⟨4, 0⟩ : S45) [.int .i64 4, .int .i64 0] from (k45_mkM _ _ _ (⟨4, 0⟩ : S45) )) (Reps.c2 (show Kd.M k45 _ _ _ (⟨1, 0⟩ : S45) [.int .i64 1, .int .i64 0] from (k45_mkM _ _ _ (⟨1, 0⟩ : S45) )) (Reps.c2 (show Kd.M k45 _ _ _ (⟨1, 0⟩ : S45) [.int .i64 1, .int .i64 0] from (k45_mkM _ _ _ (⟨1, 0⟩ : S45) )) (Reps.c2 (show Kd.M k45 _ _ _ (⟨2, 1⟩ : S45) [.int .i64 2, .int .i64 1] from (k45_mkM _ _ _ (⟨2, 1⟩ : S45) )) (Reps.c2 (show Kd.M k45 _ _ _ (⟨1, 0⟩ : S45) [.int .i64 1, .int .i64 0] from (k45_mkM _ _ _ (⟨1, 0⟩ : S45) )) (Reps.none _ _)))))))); intro v109 w3 ho4 hb hg_ hnew_; clear hg_ hnew_; (first | rw [← Ny108.out] at ho4 | (simp only [Int.reduceToNat] at ho4; rw [← Ny108.out] at ho4)); have n0_ := Aside0.mk (Kd.R_elder' (by (with_reducible repeat (first | apply Kd.R_alloc | apply Kd.R_drewN | apply Kd.R_drew)); exact HO107.out) (Kd.R_base ho4) hb); have n1_ := Aside0.mk (Kd.R_lower (Kd.R_new' (Kd.R_newM (M := fun k_ => (w.heap.size ≤ k_)) ho4 (below_size (by repeat (first | (with_reducible first | exact HB.out | apply below_alloc | apply pw_below_drewN | apply below_drew1) | exact HB.out))) (fun k_ h_ => h_)) (Kd.R_lt (by (with_reducible repeat (first | apply Kd.R_alloc | apply Kd.R_drewN | apply Kd.R_drew)); exact HO107.out))) (below_size (by repeat (first | (with_reducible first | exact HB.out | apply below_alloc | apply pw_below_drewN | apply below_drew1) | exact HB.out)))); have n2_ := Aside0.mk (below_step (by repeat (first | (with_reducible first | exact HB.out | apply below_alloc | apply pw_below_drewN | apply below_drew1) | exact HB.out)) hb); clear HO107; clear HB; have HO107 := n0_; have HO110 := n1_; have HB := n2_; clear n0_ n1_ n2_; clear hb ho4) | ((with_reducible refine gate_dst (N := 21) rfl ?_); refine Kd.R_lit k45 _ 45 ?hg (N := 21) ?hd (xs := ([(⟨2, 0⟩ : S45), (⟨4, 0⟩ : S45), (⟨2, 0⟩ : S45), (⟨2, 0⟩ : S45), (⟨3, 2⟩ : S45), (⟨1, 0⟩ : S45)] : List (S45))) (inner := [.int .i64 2, .int .i64 0, .int .i64 4, .int .i64 0, .int .i64 2, .int .i64 0, .int .i64 2, .int .i64 0, .int .i64 3, .int .i64 2, .int .i64 1, .int .i64 0]) (ok := fun _ => True) (okp := fun _ => True) ?hr ?hp (fun _ hk => hk) trivial (Below.refl _ _) (Nat.le_refl _) (by simp) ?_; (case hd => rfl); (case hg => rfl); (case hr => first | (go_simp; done) | (go_simp; rfl)); (case hp => exact (Reps.c2 (show Kd.M k45 _ _ _ (⟨2, 0⟩ : S45) [.int .i64 2, .int .i64 0] from (k45_mkM _ _ _ (⟨2, 0⟩ : S45) )) (Reps.c2 (show Kd.M k45 _ _ _ (⟨4, 0⟩ : S45) [.int .i64 4, .int .i64 0] from (k45_mkM _ _ _ (⟨4, 0⟩ : S45) )) (Reps.c2 (show Kd.M k45 _ _ _ (⟨2, 0⟩ : S45) [.int .i64 2, .int .i64 0] from (k45_mkM _ _ _ (⟨2, 0⟩ : S45) )) (Reps.c2 (show Kd.M k45 _ _ _ (⟨2, 0⟩ : S45) [.int .i64 2, .int .i64 0] from (k45_mkM _ _ _ (⟨2, 0⟩ : S45) )) (Reps.c2 (show Kd.M k45 _ _ _ (⟨3, 2⟩ : S45) [.int .i64 3, .int .i64 2] from (k45_mkM _ _ _ (⟨3, 2⟩ : S45) )) (Reps.c2 (show Kd.M k45 _ _ _ (⟨1, 0⟩ : S45) [.int .i64 1, .int .i64 0] from (k45_mkM _ _ _ (⟨1, 0⟩ : S45) )) (Reps.none _ _)))))))); intro v112 w5 ho6 hb hg_ hnew_; clear hg_ hnew_; (first | rw [← Ny111.out] at ho6 | (simp only [Int.reduceToNat] at ho6; rw [← Ny111.out] at ho6)); have n0_ := Aside0.mk (Kd.R_elder' (by (with_reducible repeat (first | apply Kd.R_alloc | apply Kd.R_drewN | apply Kd.R_drew)); exact HO107.out) (Kd.R_base ho6) hb); have n1_ := Aside0.mk (Kd.R_elder' (by (with_reducible repeat (first | apply Kd.R_alloc | apply Kd.R_drewN | apply Kd.R_drew)); exact HO110.out) (Kd.R_base ho6) hb); have n2_ := Aside0.mk (Kd.R_lower (Kd.R_new' (Kd.R_new' (Kd.R_newM (M := fun k_ => (w.heap.size ≤ k_)) ho6 (below_size (by repeat (first | (with_reducible first | exact HB.out | apply below_alloc | apply pw_below_drewN | apply below_drew1) | exact HB.out))) (fun k_ h_ => h_)) (Kd.R_lt (by (with_reducible repeat (first | apply Kd.R_alloc | apply Kd.R_drewN | apply Kd.R_drew)); exact HO107.out))) (Kd.R_lt (by (with_reducible repeat (first | apply Kd.R_alloc | apply Kd.R_drewN | apply Kd.R_drew)); exact HO110.out))) (below_size (by repeat (first | (with_reducible first | exact HB.out | apply below_alloc | apply pw_below_drewN | apply below_drew1) | exact HB.out)))); have n3_ := Aside0.mk (below_step (by repeat (first | (with_reducible first | exact HB.out | apply below_alloc | apply pw_below_drewN | apply below_drew1) | exact HB.out)) hb); clear HO107; clear HO110; clear HB; have HO107 := n0_; have HO110 := n1_; have HO113 := n2_; have HB := n3_; clear n0_ n1_ n2_ n3_; clear hb ho6) | ((with_reducible refine gate_dst (N := 28) rfl ?_); refine Kd.R_lit k45 _ 45 ?hg (N := 28) ?hd (xs := ([(⟨3, 0⟩ : S45), (⟨4, 0⟩ : S45), (⟨2, 0⟩ : S45), (⟨2, 0⟩ : S45), (⟨3, 0⟩ : S45), (⟨1, 0⟩ : S45)] : List (S45))) (inner := [.int .i64 3, .int .i64 0, .int .i64 4, .int .i64 0, .int .i64 2, .int .i64 0, .int .i64 2, .int .i64 0, .int .i64 3, .int .i64 0, .int .i64 1, .int .i64 0]) (ok := fun _ => True) (okp := fun _ => True) ?hr ?hp (fun _ hk => hk) trivial (Below.refl _ _) (Nat.le_refl _) (by simp) ?_; (case hd => rfl); (case hg => rfl); (case hr => first | (go_simp; done) | (go_simp; rfl)); (case hp => exact (Reps.c2 (show Kd.M k45 _ _ _ (⟨3, 0⟩ : S45) [.int .i64 3, .int .i64 0] from (k45_mkM _ _ _ (⟨3, 0⟩ : S45) )) (Reps.c2 (show Kd.M k45 _ _ _ (⟨4, 0⟩ : S45) [.int .i64 4, .int .i64 0] from (k45_mkM _ _ _ (⟨4, 0⟩ : S45) )) (Reps.c2 (show Kd.M k45 _ _ _ (⟨2, 0⟩ : S45) [.int .i64 2, .int .i64 0] from (k45_mkM _ _ _ (⟨2, 0⟩ : S45) )) (Reps.c2 (show Kd.M k45 _ _ _ (⟨2, 0⟩ : S45) [.int .i64 2, .int .i64 0] from (k45_mkM _ _ _ (⟨2, 0⟩ : S45) )) (Reps.c2 (show Kd.M k45 _ _ _ (⟨3, 0⟩ : S45) [.int .i64 3, .int .i64 0] from (k45_mkM _ _ _ (⟨3, 0⟩ : S45) )) (Reps.c2 (show Kd.M k45 _ _ _ (⟨1, 0⟩ : S45) [.int .i64 1, .int .i64 0] from (k45_mkM _ _ _ (⟨1, 0⟩ : S45) )) (Reps.none _ _)))))))); intro v115 w7 ho8 hb hg_ hnew_; clear hg_ hnew_; (first | rw [← Ny114.out] at ho8 | (simp only [Int.reduceToNat] at ho8; rw [← Ny114.out] at ho8)); have n0_ := Aside0.mk (Kd.R_elder' (by (with_reducible repeat (first | apply Kd.R_alloc | apply Kd.R_drewN | apply Kd.R_drew)); exact HO107.out) (Kd.R_base ho8) hb); have n1_ := Aside0.mk (Kd.R_elder' (by (with_reducible repeat (first | apply Kd.R_alloc | apply Kd.R_drewN | apply Kd.R_drew)); exact HO110.out) (Kd.R_base ho8) hb); have n2_ := Aside0.mk (Kd.R_elder' (by (with_reducible repeat (first | apply Kd.R_alloc | apply Kd.R_drewN | apply Kd.R_drew)); exact HO113.out) (Kd.R_base ho8) hb); have n3_ := Aside0.mk (Kd.R_lower (Kd.R_new' (Kd.R_new' (Kd.R_new' (Kd.R_newM (M := fun k_ => (w.heap.size ≤ k_)) ho8 (below_size (by repeat (first | (with_reducible first | exact HB.out | apply below_alloc | apply pw_below_drewN | apply below_drew1) | exact HB.out))) (fun k_ h_ => h_)) (Kd.R_lt (by (with_reducible repeat (first | apply Kd.R_alloc | apply Kd.R_drewN | apply Kd.R_drew)); exact HO107.out))) (Kd.R_lt (by (with_reducible repeat (first | apply Kd.R_alloc | apply Kd.R_drewN | apply Kd.R_drew)); exact HO110.out))) (Kd.R_lt (by (with_reducible repeat (first | apply Kd.R_alloc | apply Kd.R_drewN | apply Kd.R_drew)); exact HO113.out))) (below_size (by repeat (first | (with_reducible first | exact HB.out | apply below_alloc | apply pw_below_drewN | apply below_drew1) | exact HB.out)))); have n4_ := Aside0.mk (below_step (by repeat (first | (with_reducible first | exact HB.out | apply below_alloc | apply pw_below_drewN | apply below_drew1) | exact HB.out)) hb); clear HO107; clear HO110; clear HO113; clear HB; have HO107 := n0_; have HO110 := n1_; have HO113 := n2_; have HO116 := n3_; have HB := n4_; clear n0_ n1_ n2_ n3_ n4_; clear hb ho8) | ((with_reducible refine gate_dst (N := 35) rfl ?_); refine Kd.R_lit k45 _ 45 ?hg (N := 35) ?hd (xs := ([(⟨2, 0⟩ : S45), (⟨4, 0⟩ : S45), (⟨4, 0⟩ : S45), (⟨4, 0⟩ : S45), (⟨0, 3⟩ : S45), (⟨1, 0⟩ : S45)] : List (S45))) (inner := [.int .i64 2, .int .i64 0, .int .i64 4, .int .i64 0, .int .i64 4, .int .i64 0, .int .i64 4, .int .i64 0, .int .i64 0, .int .i64 3, .int .i64 1, .int .i64 0]) (ok := fun _ => True) (okp := fun _ => True) ?hr ?hp (fun _ hk => hk) trivial (Below.refl _ _) (Nat.le_refl _) (by simp) ?_; (case hd => rfl); (case hg => rfl); (case hr => first | (go_simp; done) | (go_simp; rfl)); (case hp => exact (Reps.c2 (show Kd.M k45 _ _ _ (⟨2, 0⟩ : S45) [.int .i64 2, .int .i64 0] from (k45_mkM _ _ _ (⟨2, 0⟩ : S45) )) (Reps.c2 (show Kd.M k45 _ _ _ (⟨4, 0⟩ : S45) [.int .i64 4, .int .i64 0] from (k45_mkM _ _ _ (⟨4, 0⟩ : S45) )) (Reps.c2 (show Kd.M k45 _ _ _ (⟨4, 0⟩ : S45) [.int .i64 4, .int .i64 0] from (k45_mkM _ _ _ (⟨4, 0⟩ : S45) )) (Reps.c2 (show Kd.M k45 _ _ _ (⟨4, 0⟩ : S45) [.int .i64 4, .int .i64 0] from (k45_mkM _ _ _ (⟨4, 0⟩ : S45) )) (Reps.c2 (show Kd.M k45 _ _ _ (⟨0, 3⟩ : S45) [.int .i64 0, .int .i64 3] from (k45_mkM _ _ _ (⟨0, 3⟩ : S45) )) (Reps.c2 (show Kd.M k45 _ _ _ (⟨1, 0⟩ : S45) [.int .i64 1, .int .i64 0] from (k45_mkM _ _ _ (⟨1, 0⟩ : S45) )) (Reps.none _ _)))))))); intro v118 w9 ho10 hb hg_ hnew_; clear hg_ hnew_; (first | rw [← Ny117.out] at ho10 | (simp only [Int.reduceToNat] at ho10; rw [← Ny117.out] at ho10)); have n0_ := Aside0.mk (Kd.R_elder' (by (with_reducible repeat (first | apply Kd.R_alloc | apply Kd.R_drewN | apply Kd.R_drew)); exact HO107.out) (Kd.R_base ho10) hb); have n1_ := Aside0.mk (Kd.R_elder' (by (with_reducible repeat (first | apply Kd.R_alloc | apply Kd.R_drewN | apply Kd.R_drew)); exact HO110.out) (Kd.R_base ho10) hb); have n2_ := Aside0.mk (Kd.R_elder' (by (with_reducible repeat (first | apply Kd.R_alloc | apply Kd.R_drewN | apply Kd.R_drew)); exact HO113.out) (Kd.R_base ho10) hb); have n3_ := Aside0.mk (Kd.R_elder' (by (with_reducible repeat (first | apply Kd.R_alloc | apply Kd.R_drewN | apply Kd.R_drew)); exact HO116.out) (Kd.R_base ho10) hb); have n4_ := Aside0.mk (Kd.R_lower (Kd.R_new' (Kd.R_new' (Kd.R_new' (Kd.R_new' (Kd.R_newM (M := fun k_ => (w.heap.size ≤ k_)) ho10 (below_size (by repeat (first | (with_reducible first | exact HB.out | apply below_alloc | apply pw_below_drewN | apply below_drew1) | exact HB.out))) (fun k_ h_ => h_)) (Kd.R_lt (by (with_reducible repeat (first | apply Kd.R_alloc | apply Kd.R_drewN | apply Kd.R_drew)); exact HO107.out))) (Kd.R_lt (by (with_reducible repeat (first | apply Kd.R_alloc | apply Kd.R_drewN | apply Kd.R_drew)); exact HO110.out))) (Kd.R_lt (by (with_reducible repeat (first | apply Kd.R_alloc | apply Kd.R_drewN | apply Kd.R_drew)); exact HO113.out))) (Kd.R_lt (by (with_reducible repeat (first | apply Kd.R_alloc | apply Kd.R_drewN | apply Kd.R_drew)); exact HO116.out))) (below_size (by repeat (first | (with_reducible first | exact HB.out | apply below_alloc | apply pw_below_drewN | apply below_drew1) | exact HB.out)))); have n5_ := Aside0.mk (below_step (by repeat (first | (with_reducible first | exact HB.out | apply below_alloc | apply pw_below_drewN | apply below_drew1) | exact HB.out)) hb); clear HO107; clear HO110; clear HO113; clear HO116; clear HB; have HO107 := n0_; have HO110 := n1_; have HO113 := n2_; have HO116 := n3_; have HO119 := n4_; have HB := n5_; clear n0_ n1_ n2_ n3_ n4_ n5_; clear hb ho10; obtain ⟨Ao11, co11, eo11⟩ := Kd.R_slice HO107.out; subst eo11; obtain ⟨Ao12, co12, eo12⟩ := Kd.R_slice HO110.out; subst eo12; obtain ⟨Ao13, co13, eo13⟩ := Kd.R_slice HO113.out; subst eo13; obtain ⟨Ao14, co14, eo14⟩ := Kd.R_slice HO116.out; subst eo14; obtain ⟨Ao15, co15, eo15⟩ := Kd.R_slice HO119.out; subst eo15) | ((with_reducible refine gate_dst (N := 36) rfl ?_); refine Kd.N_lit (Kd.slice 45 k45) _ 52 ?hg (N' := 36) ?hd (xs := ([y105, y108, y111, y114, y117] : List (List (S45)))) (inner := [.slice Ao11 y105.length co11, .slice Ao12 y108.length co12, .slice Ao13 y111.length co13, .slice Ao14 y114.length co14, .slice Ao15 y117.length co15]) (ok := (fun k_ => (w.heap.size ≤ k_))) (okp := (fun k_ => (w.heap.size ≤ k_))) ?hr ?hp (fun _ hk => hk) ((show ∀ k_, w9.heap.size ≤ k_ → (fun k_ => (w.heap.size ≤ k_)) k_ from fun k_ hk => (Nat.le_trans (below_size (by repeat (first | (with_reducible first | exact HB.out | apply below_alloc | apply pw_below_drewN | apply below_drew1) | exact HB.out))) hk)) _ (Nat.le_refl _)) (Below.refl _ _) (Nat.le_refl _) (by simp) ?_; (case hd => rfl); (case hg => rfl); (case hr => first | (go_simp; done) | (go_simp; rfl)); (case hp => exact (Reps.one (show Kd.FK (Kd.slice 45 k45) _ _ y105 [.slice Ao11 y105.length co11] from (Kd.FK_slice_mk (Kd.R_reads' (Kd.R_mono (ok' := (fun k_ => (w.heap.size ≤ k_))) (HO107.out) (fun k_ hk => hk.1.1.1.1.1))).2.1 (Kd.R_F (Kd.R_mono (ok' := (fun k_ => (w.heap.size ≤ k_))) (HO107.out) (fun k_ hk => hk.1.1.1.1.1))))) (Reps.one (show Kd.FK (Kd.slice 45 k45) _ _ y108 [.slice Ao12 y108.length co12] from (Kd.FK_slice_mk (Kd.R_reads' (Kd.R_mono (ok' := (fun k_ => (w.heap.size ≤ k_))) (HO110.out) (fun k_ hk => hk.1.1.1.1.1))).2.1 (Kd.R_F (Kd.R_mono (ok' := (fun k_ => (w.heap.size ≤ k_))) (HO110.out) (fun k_ hk => hk.1.1.1.1.1))))) (Reps.one (show Kd.FK (Kd.slice 45 k45) _ _ y111 [.slice Ao13 y111.length co13] from (Kd.FK_slice_mk (Kd.R_reads' (Kd.R_mono (ok' := (fun k_ => (w.heap.size ≤ k_))) (HO113.out) (fun k_ hk => hk.1.1.1.1.1))).2.1 (Kd.R_F (Kd.R_mono (ok' := (fun k_ => (w.heap.size ≤ k_))) (HO113.out) (fun k_ hk => hk.1.1.1.1.1))))) (Reps.one (show Kd.FK (Kd.slice 45 k45) _ _ y114 [.slice Ao14 y114.length co14] from (Kd.FK_slice_mk (Kd.R_reads' (Kd.R_mono (ok' := (fun k_ => (w.heap.size ≤ k_))) (HO116.out) (fun k_ hk => hk.1.1.1.1.1))).2.1 (Kd.R_F (Kd.R_mono (ok' := (fun k_ => (w.heap.size ≤ k_))) (HO116.out) (fun k_ hk => hk.1.1.1.1.1))))) (Reps.one (show Kd.FK (Kd.slice 45 k45) _ _ y117 [.slice Ao15 y117.length co15] from (Kd.FK_slice_mk (Kd.R_reads' (Kd.R_mono (ok' := (fun k_ => (w.heap.size ≤ k_))) (HO119.out) (fun k_ hk => hk.1.1.1.1.1))).2.1 (Kd.R_F (Kd.R_mono (ok' := (fun k_ => (w.heap.size ≤ k_))) (HO119.out) (fun k_ hk => hk.1.1.1.1.1))))) (Reps.none _ _))))))); intro v121 w16 ho17 hb hg_ hnew_; clear hg_ hnew_; (first | rw [← Ny120.out] at ho17 | (simp only [Int.reduceToNat] at ho17; rw [← Ny120.out] at ho17)); have n0_ := Aside0.mk (Kd.N_lower ho17 (below_size (by repeat (first | (with_reducible first | exact HB.out | apply below_alloc | apply pw_below_drewN | apply below_drew1) | exact HB.out)))); have n1_ := Aside0.mk (below_step (by repeat (first | (with_reducible first | exact HB.out | apply below_alloc | apply pw_below_drewN | apply below_drew1) | exact HB.out)) hb); clear HB; clear HO107; clear HO110; clear HO113; clear HO116; clear HO119; have HO122 := n0_; have HB := n1_; clear n0_ n1_; clear hb ho17))
  go_ret
  exact ⟨_, by first | rfl | (simp [show ∀ l_ : List UInt8, (l_ == []) = l_.isEmpty from fun l_ => by cases l_ <;> rfl]; done) | (simp [errW_none, errW_some] <;> rfl) | ((repeat rw [Int.tdiv_eq_ediv_of_nonneg (by omega)]); (repeat rw [Int.tmod_eq_emod_of_nonneg (by omega)]); first | rfl | (simp [errW_none, errW_some] <;> rfl)) | (simp [*, errW_none, errW_some] <;> rfl), by (with_reducible repeat (first | apply Kd.N_alloc | apply Kd.N_drewN | apply Kd.N_drew)); exact HO122.out, by repeat (first | (with_reducible first | exact HB.out | apply below_alloc | apply pw_below_drewN | apply below_drew1) | exact HB.out)⟩

/-- A state of type 26 at block g of W; what its slices lead to came in by w0. -/
def IsS26 (w0 W : World) (g : Nat) (f0 : Int) (f1 : Int) : Prop := W.heap[g]? = some (.cells #[.int .i64 f0, .int .i64 f1] 26 (0, 0)) ∧ w0.heap.size ≤ g
theorem IsS26.grown {w0 W : World} {g : Nat} {f0 : Int} {f1 : Int} {W1 : World} {row : Option Nat} (h : IsS26 w0 W g f0 f1) (hw : W.grownBy W1 row) (hne : some g ≠ row) : IsS26 w0 W1 g f0 f1 := by
  obtain ⟨hb, hg⟩ := h
  exact ⟨blk_grown hb hw hne, hg⟩
theorem IsS26.own_neN {w0 W : World} {g : Nat} {f0 : Int} {f1 : Int} {α : Type} {d : Kd α} {e : Nat} {base : Nat} {ok : Nat → Prop} {v : Value} {xs : List α} (h : IsS26 w0 W g f0 f1) (ho : Kd.N d e W base ok v xs) (ht : e ≠ 26) : some g ≠ v.ownBlock := by
  obtain ⟨hb, hg⟩ := h
  exact Kd.N_ne ho hb ht
theorem IsS26.fresh {w0 W : World} {g : Nat} {f0 : Int} {f1 : Int} (h : IsS26 w0 W g f0 f1) : ∀ k, W.heap.size ≤ k → k ≠ g := by
  obtain ⟨hb, hg⟩ := h
  exact Kd.freshB hb
theorem IsS26.kept {w0 W : World} {g : Nat} {f0 : Int} {f1 : Int} {W1 : World} {S : Nat → Prop} (h : IsS26 w0 W g f0 f1) (hk : Kept W W1 S) (hne : ¬ S g) : IsS26 w0 W1 g f0 f1 := by
  obtain ⟨hb, hg⟩ := h
  exact ⟨blk_kept hb hk hne, hg⟩
theorem IsS26.below {w0 W : World} {g : Nat} {f0 : Int} {f1 : Int} {W1 : World} (h : IsS26 w0 W g f0 f1) (hw : Below W.heap.size W W1) : IsS26 w0 W1 g f0 f1 := h.grown (grown_of_below hw none) (by simp)
theorem IsS26.alloc {w0 W : World} {g : Nat} {f0 : Int} {f1 : Int} (h : IsS26 w0 W g f0 f1) (o : Obj) : IsS26 w0 (W.alloc o) g f0 f1 := h.below (below_alloc (Below.refl _ _) o)
theorem IsS26.drewN {w0 W : World} {g : Nat} {f0 : Int} {f1 : Int} (h : IsS26 w0 W g f0 f1) (m : Nat) : IsS26 w0 (W.drewN m) g f0 f1 := h
theorem IsS26.drew {w0 W : World} {g : Nat} {f0 : Int} {f1 : Int} (h : IsS26 w0 W g f0 f1) : IsS26 w0 W.drew g f0 f1 := h
theorem IsS26.at_ {w0 W : World} {g : Nat} {f0 : Int} {f1 : Int} {w' : World} {m : Nat} (hq : W.drewN m = w') (h : IsS26 w0 W g f0 f1) : IsS26 w0 w' g f0 f1 := by subst hq; exact IsS26.drewN h m
theorem IsS26.apart {w0 W : World} {g : Nat} {f0 : Int} {f1 : Int} {α : Type} {d : Kd α} {e : Nat} {base : Nat} {ok : Nat → Prop} {v : Value} {xs : List α} (h : IsS26 w0 W g f0 f1) (ho : d.R e W base ok v xs) (ht : ∀ q, q ∈ e :: d.E → q ≠ 26) : d.R e W base (fun k => ok k ∧ k ≠ g) v xs := by
  obtain ⟨hb, hg⟩ := h
  exact Kd.R_types ho hb ht
theorem IsS26.own_ne {w0 W : World} {g : Nat} {f0 : Int} {f1 : Int} {α : Type} {d : Kd α} {e : Nat} {base : Nat} {ok : Nat → Prop} {v : Value} {xs : List α} (h : IsS26 w0 W g f0 f1) (ho : d.R e W base ok v xs) (ht : e ≠ 26) : some g ≠ v.ownBlock := by
  obtain ⟨hb, hg⟩ := h
  exact Kd.R_ne ho hb ht
theorem IsS26.apartQ {w0 W : World} {g : Nat} {f0 : Int} {f1 : Int} {α : Type} {d : Kd α} {e : Nat} {base : Nat} {ok : Nat → Prop} {v : Value} {xs : List α} (h : IsS26 w0 W g f0 f1) (ho : d.Q e W base ok v xs) (ht : ∀ q, q ∈ e :: d.E → q ≠ 26) : d.Q e W base (fun k => ok k ∧ k ≠ g) v xs := by
  obtain ⟨hb, hg⟩ := h
  exact Kd.Q_types ho hb ht
theorem IsS26.own_neQ {w0 W : World} {g : Nat} {f0 : Int} {f1 : Int} {α : Type} {d : Kd α} {e : Nat} {base : Nat} {ok : Nat → Prop} {v : Value} {xs : List α} (h : IsS26 w0 W g f0 f1) (ho : d.Q e W base ok v xs) (ht : e ≠ 26) : some g ≠ v.ownBlock := by
  obtain ⟨hb, hg⟩ := h
  exact Kd.Q_ne ho hb ht
theorem IsS26.apartS {w0 W : World} {g : Nat} {f0 : Int} {f1 : Int} {α : Type} {d : Kd α} {e : Nat} {base : Nat} {ok : Nat → Prop} {v : Value} {xs : List α} (h : IsS26 w0 W g f0 f1) (ho : d.S e W base ok v xs) (ht : ∀ q, q ∈ e :: d.E → q ≠ 26) : d.S e W base (fun k => ok k ∧ k ≠ g) v xs := by
  obtain ⟨hb, hg⟩ := h
  exact Kd.S_types ho hb ht
theorem IsS26.own_neS {w0 W : World} {g : Nat} {f0 : Int} {f1 : Int} {α : Type} {d : Kd α} {e : Nat} {base : Nat} {ok : Nat → Prop} {v : Value} {xs : List α} (h : IsS26 w0 W g f0 f1) (ho : d.S e W base ok v xs) (ht : e ≠ 26) : some g ≠ v.ownBlock := by
  obtain ⟨hb, hg⟩ := h
  exact Kd.S_ne ho hb ht
theorem IsS26.lt {w0 W : World} {g : Nat} {f0 : Int} {f1 : Int} (h : IsS26 w0 W g f0 f1) : g < W.heap.size := by
  obtain ⟨hb, hg⟩ := h
  exact blk_lt hb
theorem IsS26.ge {w0 W : World} {g : Nat} {f0 : Int} {f1 : Int} (h : IsS26 w0 W g f0 f1) : w0.heap.size ≤ g := by
  obtain ⟨hb, hg⟩ := h
  exact hg
theorem IsS26.ne_blk {w0 W : World} {g : Nat} {f0 : Int} {f1 : Int} {a : Nat} {cs : Array Value} {t : TypeId} {fr : Nat × Nat} (h : IsS26 w0 W g f0 f1) (hb2 : W.heap[a]? = some (.cells cs t fr)) (ht : t ≠ 26) : g ≠ a := by
  obtain ⟨hb, hg⟩ := h
  rintro rfl
  rw [hb] at hb2
  injection hb2 with hb2
  injection hb2 with _ ht2
  exact ht ht2.symm
theorem IsS26.far {w0 W : World} {g : Nat} {f0 : Int} {f1 : Int} {p : Addr} (h : IsS26 w0 W g f0 f1) (hne : g ≠ p.block) (u : Value) : IsS26 w0 (W.setCell p u) g f0 f1 := by
  obtain ⟨hb, hg⟩ := h
  exact ⟨blk_far hb hne u, hg⟩
theorem cellS26_0 {W : World} {g : Nat} {f0 : Int} {f1 : Int} (h : W.heap[g]? = some (.cells #[.int .i64 f0, .int .i64 f1] 26 (0, 0))) : W.cell? ⟨g, 0, none⟩ = some (.int .i64 f0) := (blk_cell h 0).trans rfl
theorem IsS26.set_0 {w0 W : World} {g : Nat} {f0 : Int} {f1 : Int} (h : IsS26 w0 W g f0 f1) (x : Int) : IsS26 w0 (W.setCell ⟨g, 0, none⟩ (.int .i64 x)) g x f1 := by
  obtain ⟨hb, hg⟩ := h
  exact ⟨by simpa using blk_set hb 0 (.int .i64 x), hg⟩
theorem cellS26_1 {W : World} {g : Nat} {f0 : Int} {f1 : Int} (h : W.heap[g]? = some (.cells #[.int .i64 f0, .int .i64 f1] 26 (0, 0))) : W.cell? ⟨g, 1, none⟩ = some (.int .i64 f1) := (blk_cell h 1).trans rfl
theorem IsS26.set_1 {w0 W : World} {g : Nat} {f0 : Int} {f1 : Int} (h : IsS26 w0 W g f0 f1) (x : Int) : IsS26 w0 (W.setCell ⟨g, 1, none⟩ (.int .i64 x)) g f0 x := by
  obtain ⟨hb, hg⟩ := h
  exact ⟨by simpa using blk_set hb 1 (.int .i64 x), hg⟩
theorem IsS26.new (w0 W : World) (f0 : Int) (f1 : Int) (hB : Below w0.heap.size w0 W) : IsS26 w0 (W.alloc (.cells #[.int .i64 f0, .int .i64 f1] 26)) W.heap.size f0 f1 := ⟨by simpa using heap_alloc_new W _, hB.size⟩

/-! ### appli_App_step: function 20 -/
def appli_App_step.f (s0_0 s0_1 a1 : Int) : Option (Int × Int × Int) :=
  (table_Applicant.f).bind fun t => (table_At.f t s0_0 a1).bind fun c => some (c.2.1, c.1, s0_1)
set_option maxHeartbeats 4000000 in
set_option maxRecDepth 100000 in
theorem appli_App_step.calls (g : Nat) (s0_0 : Int) (s0_1 : Int) (a1 : Int) (r1 : Int) (r2 : Int) (r3 : Int) (w0 w : World) (hI : IsS26 w0 w g s0_0 s0_1) (hB : Below w0.heap.size w0 w) (h : appli_App_step.f s0_0 s0_1 a1 = some (r1, r2, r3)) :
    Calls Tryd.prog 20 #[.pointer (some ⟨g, 0, none⟩), .int .i64 a1] w fun e w' => e = .returned (.int .i64 r1) ∧ IsS26 w0 w' g r2 r3 ∧ Below w0.heap.size w0 w' ∧ KeepBut w w' g none := by
  unfold appli_App_step.f at h
  obtain ⟨t, ht, h⟩ := Option.bind_eq_some_iff.mp h
  obtain ⟨⟨c1, c2, c3⟩, hc, h⟩ := Option.bind_eq_some_iff.mp h
  have hu := Tryd.underlying45
  have HT := Aside0.mk ht
  have HC := Aside0.mk hc
  have HH := Aside0.mk h
  have q1 := (blk_cell hI.1 0).trans rfl
  have HI := Aside0.mk hI
  have HB := Aside0.mk hB
  clear ht hc h hI hB
  go_enter Tryd.func20, Tryd.ntmps20
  go_wp2_with fail
  go_region_held3 (fun w' => w'.cell? ⟨g, 0, none⟩ = some (.int .i64 s0_0)) (first | go_keep | exact ((show Below w.heap.size w _ from (by repeat (first | exact HB2.out | exact HB1.out | apply below_alloc | apply below_drew1 | apply pw_below_drewN | exact Below.refl _ _ | (refine below_set ?_ (by first | exact Nat.le_refl _ | exact HB1.out.size | exact HB2.out.size | (simp only [World.heap_alloc_size]; omega)))))).cell (World.block_lt_of_cell? w _ q1)).trans q1)
    ((first | (go_at_call 24; refine (table_Applicant.calls t _ HT.out).mono ?_; rintro e w1 ⟨v0, rfl, hn, hb⟩; obtain ⟨A, cp, rfl, hle, hcc⟩ := Kd.N_reads hn; have HB1 := Aside0.mk (below_step (show Below w.heap.size w _ from (by repeat (first | exact HB2.out | exact HB1.out | apply below_alloc | apply below_drew1 | apply pw_below_drewN | exact Below.refl _ _ | (refine below_set ?_ (by first | exact Nat.le_refl _ | exact HB1.out.size | exact HB2.out.size | (simp only [World.heap_alloc_size]; omega)))))) hb); have HCC := Aside0.mk hcc; (try have HZ : Aside0 (w1.heap[w.heap.size]? = some (.cells #[.int .i64 0, .int .i64 0] 45)) := Aside0.mk (blk_below (w := (w.alloc (.cells #[.int .i64 0, .int .i64 0] 45)).drew) (heap_alloc_new w (.cells #[.int .i64 0, .int .i64 0] 45)) hb)); clear hn hb hcc) | (go_at_call 23; refine (table_At.calls A cp t s0_0 a1 c1 c2 c3 _ (Kd.C_below HCC.out (by repeat (first | exact Below.refl _ _ | apply below_alloc | apply below_drew1 | apply pw_below_drewN))) hle HC.out).mono ?_; rintro e w2 ⟨rfl, hb2⟩; have HB2 := Aside0.mk (below_step (show Below w.heap.size w _ from (by repeat (first | exact HB2.out | exact HB1.out | apply below_alloc | apply below_drew1 | apply pw_below_drewN | exact Below.refl _ _ | (refine below_set ?_ (by first | exact Nat.le_refl _ | exact HB1.out.size | exact HB2.out.size | (simp only [World.heap_alloc_size]; omega)))))) hb2); (first | (with_reducible have hz := blk_below (heap_alloc_new w1 (.cells #[.int .i64 0, .int .i64 0] 45)) hb2) | (with_reducible have hz := blk_below HZ.out hb2) | skip); (try (have cz0 := (blk_cell hz 0).trans rfl; have cz1 := (blk_cell hz 1).trans rfl; have fz0 := blk_frozen hz 0; have fz1 := blk_frozen hz 1)); clear hb2)))
  · obtain ⟨gc, hgc⟩ : ∃ gc, gc = w2.heap.size := ⟨_, rfl⟩
    obtain ⟨W, hW⟩ : ∃ W, W = w2.alloc (.cells #[.int .i64 c1, .int .i64 c2] 45) := ⟨_, rfl⟩
    have hb : Below w.heap.size w W := by rw [hW]; exact (by repeat (first | exact HB2.out | exact HB1.out | apply below_alloc | apply below_drew1 | apply pw_below_drewN | exact Below.refl _ _ | (refine below_set ?_ (by first | exact Nat.le_refl _ | exact HB1.out.size | exact HB2.out.size | (simp only [World.heap_alloc_size]; omega)))))
    have hge : w.heap.size ≤ gc := by rw [hgc]; exact HB2.out.size
    have hlt := IsS26.lt HI.out
    have hne : gc ≠ g := by omega
    have hne2 : g ≠ gc := by omega
    have cc0 : W.cell? ⟨gc, 0, none⟩ = some (.int .i64 c1) := by rw [hW, hgc]; exact (blk_cell (heap_alloc_new w2 (.cells #[.int .i64 c1, .int .i64 c2] 45)) 0).trans rfl
    have cc1 : W.cell? ⟨gc, 1, none⟩ = some (.int .i64 c2) := by rw [hW, hgc]; exact (blk_cell (heap_alloc_new w2 (.cells #[.int .i64 c1, .int .i64 c2] 45)) 1).trans rfl
    rw [← hW, ← hgc]
    have hI := IsS26.below HI.out hb
    have k1 := (blk_cell hI.1 0).trans rfl
    have f1 := blk_frozen hI.1 0
    have HIW := Aside0.mk hI
    have HBW := Aside0.mk hb
    have HGE := Aside0.mk hge
    clear hW hgc hI hb hge hlt q1
    have h := HH.out
    obtain ⟨rfl, rfl, rfl⟩ : c2 = r1 ∧ c1 = r2 ∧ s0_1 = r3 := by simpa using h
    clear h
    go_wp2
    go_ret
    exact ⟨rfl, HIW.out.set_0 c1, below_step HB.out HBW.out |>.setCell HIW.out.2 _, (KeepBut.of_below HBW.out g none).set_ 0 _⟩
  · obtain ⟨gc, hgc⟩ : ∃ gc, gc = w1.heap.size := ⟨_, rfl⟩
    obtain ⟨W, hW⟩ : ∃ W, W = (w2.setCell ⟨w1.heap.size, 0, none⟩ (.int .i64 c1)).setCell ⟨w1.heap.size, 1, none⟩ (.int .i64 c2) := ⟨_, rfl⟩
    have hb : Below w.heap.size w W := by rw [hW]; exact (by repeat (first | exact HB2.out | exact HB1.out | apply below_alloc | apply below_drew1 | apply pw_below_drewN | exact Below.refl _ _ | (refine below_set ?_ (by first | exact Nat.le_refl _ | exact HB1.out.size | exact HB2.out.size | (simp only [World.heap_alloc_size]; omega)))))
    have hge : w.heap.size ≤ gc := by rw [hgc]; exact HB1.out.size
    have hlt := IsS26.lt HI.out
    have hne : gc ≠ g := by omega
    have hne2 : g ≠ gc := by omega
    have cc0 : W.cell? ⟨gc, 0, none⟩ = some (.int .i64 c1) := by rw [hW, hgc]; exact (blk_cell (blk_set (blk_set hz 0 (.int .i64 c1)) 1 (.int .i64 c2)) 0).trans rfl
    have cc1 : W.cell? ⟨gc, 1, none⟩ = some (.int .i64 c2) := by rw [hW, hgc]; exact (blk_cell (blk_set (blk_set hz 0 (.int .i64 c1)) 1 (.int .i64 c2)) 1).trans rfl
    rw [← hW, ← hgc]
    have hI := IsS26.below HI.out hb
    have k1 := (blk_cell hI.1 0).trans rfl
    have f1 := blk_frozen hI.1 0
    have HIW := Aside0.mk hI
    have HBW := Aside0.mk hb
    have HGE := Aside0.mk hge
    clear hW hgc hI hb hge hlt q1
    have h := HH.out
    obtain ⟨rfl, rfl, rfl⟩ : c2 = r1 ∧ c1 = r2 ∧ s0_1 = r3 := by simpa using h
    clear h
    go_wp2
    go_ret
    exact ⟨rfl, HIW.out.set_0 c1, below_step HB.out HBW.out |>.setCell HIW.out.2 _, (KeepBut.of_below HBW.out g none).set_ 0 _⟩
  · obtain ⟨gc, hgc⟩ : ∃ gc, gc = w.heap.size := ⟨_, rfl⟩
    obtain ⟨W, hW⟩ : ∃ W, W = (w2.setCell ⟨w.heap.size, 0, none⟩ (.int .i64 c1)).setCell ⟨w.heap.size, 1, none⟩ (.int .i64 c2) := ⟨_, rfl⟩
    have hb : Below w.heap.size w W := by rw [hW]; exact (by repeat (first | exact HB2.out | exact HB1.out | apply below_alloc | apply below_drew1 | apply pw_below_drewN | exact Below.refl _ _ | (refine below_set ?_ (by first | exact Nat.le_refl _ | exact HB1.out.size | exact HB2.out.size | (simp only [World.heap_alloc_size]; omega)))))
    have hge : w.heap.size ≤ gc := by rw [hgc]; exact Nat.le_refl _
    have hlt := IsS26.lt HI.out
    have hne : gc ≠ g := by omega
    have hne2 : g ≠ gc := by omega
    have cc0 : W.cell? ⟨gc, 0, none⟩ = some (.int .i64 c1) := by rw [hW, hgc]; exact (blk_cell (blk_set (blk_set hz 0 (.int .i64 c1)) 1 (.int .i64 c2)) 0).trans rfl
    have cc1 : W.cell? ⟨gc, 1, none⟩ = some (.int .i64 c2) := by rw [hW, hgc]; exact (blk_cell (blk_set (blk_set hz 0 (.int .i64 c1)) 1 (.int .i64 c2)) 1).trans rfl
    rw [← hW, ← hgc]
    have hI := IsS26.below HI.out hb
    have k1 := (blk_cell hI.1 0).trans rfl
    have f1 := blk_frozen hI.1 0
    have HIW := Aside0.mk hI
    have HBW := Aside0.mk hb
    have HGE := Aside0.mk hge
    clear hW hgc hI hb hge hlt q1
    have h := HH.out
    obtain ⟨rfl, rfl, rfl⟩ : c2 = r1 ∧ c1 = r2 ∧ s0_1 = r3 := by simpa using h
    clear h
    go_wp2
    go_ret
    exact ⟨rfl, HIW.out.set_0 c1, below_step HB.out HBW.out |>.setCell HIW.out.2 _, (KeepBut.of_below HBW.out g none).set_ 0 _⟩

/-! ### appli_says: function 21 -/
def appli_says.f (a0 : Int) : Option (Bool) := if a0 = 1 then (some true) else (if a0 = 2 then (some true) else (some (a0 == 3)))
set_option maxHeartbeats 8000000 in
set_option maxRecDepth 100000 in
theorem appli_says.calls (a0 : Int) (r : Bool) (w : World) (h : appli_says.f a0 = some r) :
    Calls Tryd.prog 21 #[.int .i64 a0] w fun e w' => e = .returned (.bool r) ∧ Drawn0 w w' := by
  have H : (if a0 = 1 then (some true) else (if a0 = 2 then (some true) else (some (a0 == 3)))) = some r := h
  clear h
  by_cases c2 : a0 = 1
  · rw [if_pos c2] at H
    have c2b0 : (a0 == 1) = true := beq_iff_eq.mpr c2
    have c2b1 : (a0 != 1) = false := bne_eq_false_iff_eq.mpr c2
    clear c2
    obtain rfl := Option.some.inj H
    go_enter Tryd.func21, Tryd.ntmps21
    go_wp2
    go_ret
    exact ⟨by first | rfl | (simp; done) | (simp [show ∀ l_ : List UInt8, (l_ != []) = !l_.isEmpty from fun l_ => by cases l_ <;> rfl]; done) | (simp [*]; done), by repeat (first | exact Drawn0.refl _ | apply Drawn0.step)⟩
  · rw [if_neg c2] at H
    have c2b0 : (a0 == 1) = false := beq_eq_false_iff_ne.mpr c2
    have c2b1 : (a0 != 1) = true := bne_iff_ne.mpr c2
    by_cases c3 : a0 = 2
    · rw [if_pos c3] at H
      have c3b0 : (a0 == 2) = true := beq_iff_eq.mpr c3
      have c3b1 : (a0 != 2) = false := bne_eq_false_iff_eq.mpr c3
      clear c3
      obtain rfl := Option.some.inj H
      go_enter Tryd.func21, Tryd.ntmps21
      go_wp2
      go_ret
      exact ⟨by first | rfl | (simp; done) | (simp [show ∀ l_ : List UInt8, (l_ != []) = !l_.isEmpty from fun l_ => by cases l_ <;> rfl]; done) | (simp [*]; done), by repeat (first | exact Drawn0.refl _ | apply Drawn0.step)⟩
    · rw [if_neg c3] at H
      have c3b0 : (a0 == 2) = false := beq_eq_false_iff_ne.mpr c3
      have c3b1 : (a0 != 2) = true := bne_iff_ne.mpr c3
      obtain rfl := Option.some.inj H
      go_enter Tryd.func21, Tryd.ntmps21
      go_wp2
      go_ret
      exact ⟨by first | rfl | (simp; done) | (simp [show ∀ l_ : List UInt8, (l_ != []) = !l_.isEmpty from fun l_ => by cases l_ <;> rfl]; done) | (simp [*]; done), by repeat (first | exact Drawn0.refl _ | apply Drawn0.step)⟩

/-! ### appli_App_Want: function 8 -/
def appli_App_Want.j0 : Nat → Int → Bool → Int → Int → Option (Int × Int)
  | 0, _, _, _, _ => none
  | k + 1, x1, x26, x1000, x1001 => if x26 = true then ((appli_App_step.f x1000 x1 5).bind fun bt127 => (some (bt127.2.1, bt127.2.2))) else ((appli_says.f x1000).bind fun t130 => (if t130 = true then (some (x1000, x1)) else ((appli_App_step.f x1000 x1 0).bind fun bt131 => (some (bt131.2.1, bt131.2.2)))))
def appli_App_Want.f (k : Nat) (s0_0 : Int) (s0_1 : Int) (a1 : Int) (a2 : Bool) : Option (Int × Int) := if a1 < 0 then ((appli_App_step.f s0_0 s0_1 1).bind fun bt123 => (some (bt123.2.1, bt123.2.2))) else (if a2 = true then ((appli_says.f s0_0).bind fun t126 => (appli_App_Want.j0 k a1 (!t126) s0_0 s0_1)) else (appli_App_Want.j0 k a1 false s0_0 s0_1))
theorem appli_App_Want.mono_l : ∀ k, (∀ y0 y1 y2 y3, LeO (appli_App_Want.j0 k y0 y1 y2 y3) (appli_App_Want.j0 (k + 1) y0 y1 y2 y3))
  | 0 => fun _ _ _ _ r h => by simp [appli_App_Want.j0] at h
  | k + 1 => by
    have ih0 := appli_App_Want.mono_l k
    · intro y0 y1 y2 y3
      unfold appli_App_Want.j0
      repeat' first
      | (with_reducible exact ih0 _ _ _ _)
      | (with_reducible exact LeO.refl _)
      | (with_reducible exact LeO.none _)
      | (with_reducible refine LeO.ite ?_ ?_)
      | (with_reducible refine LeO.bind ?_ (fun _ => ?_))
      | exact ih0 _ _ _ _
      | exact LeO.none _
      | refine LeO.ite ?_ ?_
      | refine LeO.bind ?_ (fun _ => ?_)
theorem appli_App_Want.mono : ∀ a0 a1 a2 a3 k, LeO (appli_App_Want.f k a0 a1 a2 a3) (appli_App_Want.f (k + 1) a0 a1 a2 a3) := by
  intro a0 a1 a2 a3 k
  have ih0 := appli_App_Want.mono_l k
  unfold appli_App_Want.f
  repeat' first
      | (with_reducible exact ih0 _ _ _ _)
      | (with_reducible exact LeO.refl _)
      | (with_reducible exact LeO.none _)
      | (with_reducible refine LeO.ite ?_ ?_)
      | (with_reducible refine LeO.bind ?_ (fun _ => ?_))
      | exact ih0 _ _ _ _
      | exact LeO.none _
      | refine LeO.ite ?_ ?_
      | refine LeO.bind ?_ (fun _ => ?_)
set_option maxHeartbeats 8000000 in
set_option maxRecDepth 100000 in
theorem appli_App_Want.calls (k : Nat) (g : Nat) (s0_0 : Int) (s0_1 : Int) (a1 : Int) (a2 : Bool) (r1 : Int) (r2 : Int) (w0 w : World) (hI : IsS26 w0 w g s0_0 s0_1) (hB : Below w0.heap.size w0 w) (h : appli_App_Want.f k s0_0 s0_1 a1 a2 = some (r1, r2)) :
    Calls Tryd.prog 8 #[.pointer (some ⟨g, 0, none⟩), .int .i64 a1, .bool a2] w fun e w' => e = .returned (.tuple #[]) ∧ IsS26 w0 w' g r1 r2 ∧ Below w0.heap.size w0 w' ∧ KeepBut w w' g none := by
  have HI0 := Aside0.mk hI
  have HK := Aside0.mk (KeepBut.refl w g none)
  have HL := Aside0.mk hB.size
  clear hI
  have HW0 := Aside0.mk hB.size
  have HB := Aside0.mk hB
  clear hB
  have H : (if a1 < 0 then ((appli_App_step.f s0_0 s0_1 1).bind fun bt123 => (some (bt123.2.1, bt123.2.2))) else (if a2 = true then ((appli_says.f s0_0).bind fun t126 => (appli_App_Want.j0 k a1 (!t126) s0_0 s0_1)) else (appli_App_Want.j0 k a1 false s0_0 s0_1))) = some (r1, r2) := h
  clear h
  by_cases c4 : a1 < 0
  · rw [if_pos c4] at H
    have c4b0 : decide (a1 < 0) = true := decide_eq_true c4
    clear c4
    replace H := Option.bind_eq_some_iff.mp H
    obtain ⟨⟨t123, t124, t125⟩, A50, H⟩ := H
    replace H : (some (t124, t125)) = some (r1, r2) := H
    have A5 := Aside0.mk A50
    clear A50
    simp only [Option.some.injEq, Prod.mk.injEq] at H
    obtain ⟨rfl, rfl⟩ := H
    go_enter Tryd.func8, Tryd.ntmps8
    go_wp2_with (first | ((with_reducible refine gate_callee (f := 20) rfl ?_); refine goesL_ (some 25) rfl rfl Tryd.func20 (by kernel_rfl) rfl #[.pointer (some ⟨g, 0, none⟩), .int .i64 1] rfl (by (try simp only [List.map_toArray, List.map_cons, List.map_nil]); first | done | rfl | (simp only [List.length_drop, List.length_take]; rfl) | (go_simp; first | done | (unfold wrap64; omega))) ?_; (with_reducible refine (appli_App_step.calls g s0_0 s0_1 1 t123 t124 t125 w0 _ ?side1 ?side2 A5.out).mono ?_); (case side1 => repeat (first | (with_reducible first | exact HI0.out | apply IsS26.alloc | apply IsS26.drewN | apply IsS26.drew | apply IsS26.set_0 | apply IsS26.set_1) | exact HI0.out)); (case side2 => repeat (first | (with_reducible first | exact HB.out | apply below_alloc | apply pw_below_drewN | apply below_drew1 | refine below_set ?_ (IsS26.ge HI0.out)) | exact HB.out)); rintro e w6 ⟨rfl, hi, hb, hk⟩; refine ⟨_, rfl, ?_⟩; have n0_ := Aside0.mk (KeepBut.trans (by repeat (first | (with_reducible first | exact HK.out | apply KeepBut.set_ | apply keep_drewN | apply keep_drew | apply keep_alloc) | exact HK.out)) hk (.inl rfl)); have n1_ := Aside0.mk (hb); have n2_ := Aside0.mk (hi); clear HK; clear HB; clear HI0; have HK := n0_; have HB := n1_; have HI0 := n2_; clear n0_ n1_ n2_; (try clear hb); (try clear hb2); (try clear hk); (try clear hi)))
    first | go_end0 | ((try simp only [Exit.inBlock, Exit.then]); refine bodyPost_ret (results_none rfl _ _ _) rfl ?_)
    exact ⟨by first | rfl | (simp [show ∀ l_ : List UInt8, (l_ == []) = l_.isEmpty from fun l_ => by cases l_ <;> rfl]; done) | (simp [errW_none, errW_some] <;> rfl) | ((repeat rw [Int.tdiv_eq_ediv_of_nonneg (by omega)]); (repeat rw [Int.tmod_eq_emod_of_nonneg (by omega)]); first | rfl | (simp [errW_none, errW_some] <;> rfl)) | (simp [*, errW_none, errW_some] <;> rfl), by repeat (first | (with_reducible first | exact HI0.out | apply IsS26.alloc | apply IsS26.drewN | apply IsS26.drew | apply IsS26.set_0 | apply IsS26.set_1) | exact HI0.out), by repeat (first | (with_reducible first | exact HB.out | apply below_alloc | apply pw_below_drewN | apply below_drew1 | refine below_set ?_ (IsS26.ge HI0.out)) | exact HB.out), by repeat (first | (with_reducible first | exact HK.out | apply KeepBut.set_ | apply keep_drewN | apply keep_drew | apply keep_alloc) | exact HK.out)⟩
  · rw [if_neg c4] at H
    have c4b0 : decide (a1 < 0) = false := decide_eq_false c4
    clear c4
    have HC7 := Aside0.mk H
    clear H
    go_enter Tryd.func8, Tryd.ntmps8
    go_upto_region 6 with (fail)
    go_cut [26] (fun v26 wc => ∃ (kq : Nat) (x26_6 : Bool), v26 = .bool x26_6 ∧ Aside0 (appli_App_Want.j0 kq a1 x26_6 s0_0 s0_1 = some (r1, r2)) ∧ Aside0 (kq ≤ k) ∧ Aside0 (IsS26 w0 wc g s0_0 s0_1) ∧ Aside0 (KeepBut w wc g none) ∧ Aside0 (Below w0.heap.size w0 wc))
    case first =>
      have H := HC7.out
      clear HC7
      by_cases c8 : a2 = true
      · subst c8
        have H1 : ((appli_says.f s0_0).bind fun t126 => (appli_App_Want.j0 k a1 (!t126) s0_0 s0_1)) = some (r1, r2) := by rw [if_pos rfl] at H; exact H
        clear H
        have H := H1
        clear H1
        replace H := Option.bind_eq_some_iff.mp H
        obtain ⟨t126, A90, H⟩ := H
        replace H : (appli_App_Want.j0 k a1 (!t126) s0_0 s0_1) = some (r1, r2) := H
        have A9 := Aside0.mk A90
        clear A90
        have H' := Aside0.mk H
        clear H
        obtain ⟨HGz10, hgz10⟩ := HI0.out
        have hcz10_0 := cellS26_0 HGz10
        have hcz10_1 := cellS26_1 HGz10
        have hfz10_0 := blk_frozen HGz10 0
        have hfz10_1 := blk_frozen HGz10 1
        clear HGz10 hgz10
        go_wp2_with (first | (go_at_call 21; (with_reducible refine (appli_says.calls s0_0 t126 _ A9.out).mono ?_); rintro e w' ⟨rfl, ⟨nd, rfl⟩⟩))
        go_meet
        case rel => exact ⟨_, (!t126), (by first | rfl | (simp; done) | (simp [show ∀ l_ : List UInt8, (l_ != []) = !l_.isEmpty from fun l_ => by cases l_ <;> rfl]; done) | (simp [*]; done)), H', ⟨by first | omega | exact Nat.le_refl _⟩, ⟨by repeat (first | (with_reducible first | exact HI0.out | apply IsS26.alloc | apply IsS26.drewN | apply IsS26.drew | apply IsS26.set_0 | apply IsS26.set_1) | exact HI0.out)⟩, ⟨by repeat (first | (with_reducible first | exact HK.out | apply KeepBut.set_ | apply keep_drewN | apply keep_drew | apply keep_alloc) | exact HK.out)⟩, ⟨by repeat (first | (with_reducible first | exact HB.out | apply below_alloc | apply pw_below_drewN | apply below_drew1 | refine below_set ?_ (IsS26.ge HI0.out)) | exact HB.out)⟩⟩
      · replace c8 := Bool.eq_false_iff.mpr c8
        subst c8
        have H1 : (appli_App_Want.j0 k a1 false s0_0 s0_1) = some (r1, r2) := by rw [if_neg (show ¬ (false = true) by decide)] at H; exact H
        clear H
        have H := H1
        clear H1
        have H' := Aside0.mk H
        clear H
        go_wp2
        go_meet
        case rel => exact ⟨_, (false), (by first | rfl | (simp; done) | (simp [show ∀ l_ : List UInt8, (l_ != []) = !l_.isEmpty from fun l_ => by cases l_ <;> rfl]; done) | (simp [*]; done)), H', ⟨by first | omega | exact Nat.le_refl _⟩, ⟨by repeat (first | (with_reducible first | exact HI0.out | apply IsS26.alloc | apply IsS26.drewN | apply IsS26.drew | apply IsS26.set_0 | apply IsS26.set_1) | exact HI0.out)⟩, ⟨by repeat (first | (with_reducible first | exact HK.out | apply KeepBut.set_ | apply keep_drewN | apply keep_drew | apply keep_alloc) | exact HK.out)⟩, ⟨by repeat (first | (with_reducible first | exact HB.out | apply below_alloc | apply pw_below_drewN | apply below_drew1 | refine below_set ?_ (IsS26.ge HI0.out)) | exact HB.out)⟩⟩
    case rest =>
      clear HC7
      try clear c2
      try clear p2
      try clear c4
      try clear c4b0
      try clear p6
      try clear c8
      try clear hcz10_0
      try clear hcz10_1
      try clear hfz10_0
      try clear hfz10_1
      obtain ⟨kq, x26_6, rfl, HA, HJ6, HI0, HK, HB⟩ := hcut
      cases kq with
      | zero => exact absurd HA.out (by simp [appli_App_Want.j0])
      | succ kj6 =>
        have H := HA.out
        clear HA
        simp only [appli_App_Want.j0] at H
        by_cases c11 : x26_6 = true
        · subst c11
          have H1 : ((appli_App_step.f s0_0 a1 5).bind fun bt127 => (some (bt127.2.1, bt127.2.2))) = some (r1, r2) := by rw [if_pos rfl] at H; exact H
          clear H
          have H := H1
          clear H1
          replace H := Option.bind_eq_some_iff.mp H
          obtain ⟨⟨t127, t128, t129⟩, A120, H⟩ := H
          replace H : (some (t128, t129)) = some (r1, r2) := H
          have A12 := Aside0.mk A120
          clear A120
          simp only [Option.some.injEq, Prod.mk.injEq] at H
          obtain ⟨rfl, rfl⟩ := H
          obtain ⟨HGz13, hgz13⟩ := HI0.out
          have hcz13_0 := cellS26_0 HGz13
          have hcz13_1 := cellS26_1 HGz13
          have hfz13_0 := blk_frozen HGz13 0
          have hfz13_1 := blk_frozen HGz13 1
          clear HGz13 hgz13
          go_wp2_with (first | ((with_reducible refine gate_callee (f := 20) rfl ?_); refine goesL_ (some 41) rfl rfl Tryd.func20 (by kernel_rfl) rfl #[.pointer (some ⟨g, 0, none⟩), .int .i64 5] rfl (by (try simp only [List.map_toArray, List.map_cons, List.map_nil]); first | done | rfl | (simp only [List.length_drop, List.length_take]; rfl) | (go_simp; first | done | (unfold wrap64; omega))) ?_; (with_reducible refine (appli_App_step.calls g s0_0 a1 5 t127 t128 t129 w0 _ ?side1 ?side2 A12.out).mono ?_); (case side1 => repeat (first | (with_reducible first | exact HI0.out | apply IsS26.alloc | apply IsS26.drewN | apply IsS26.drew | apply IsS26.set_0 | apply IsS26.set_1) | exact HI0.out)); (case side2 => repeat (first | (with_reducible first | exact HB.out | apply below_alloc | apply pw_below_drewN | apply below_drew1 | refine below_set ?_ (IsS26.ge HI0.out)) | exact HB.out)); rintro e w14 ⟨rfl, hi, hb, hk⟩; refine ⟨_, rfl, ?_⟩; have n0_ := Aside0.mk (KeepBut.trans (by repeat (first | (with_reducible first | exact HK.out | apply KeepBut.set_ | apply keep_drewN | apply keep_drew | apply keep_alloc) | exact HK.out)) hk (.inl rfl)); have n1_ := Aside0.mk (hb); have n2_ := Aside0.mk (hi); clear HK; clear HB; clear HI0; have HK := n0_; have HB := n1_; have HI0 := n2_; clear n0_ n1_ n2_; (try clear hb); (try clear hb2); (try clear hk); (try clear hi)))
          first | go_end0 | ((try simp only [Exit.inBlock, Exit.then]); refine bodyPost_ret (results_none rfl _ _ _) rfl ?_)
          exact ⟨by first | rfl | (simp [show ∀ l_ : List UInt8, (l_ == []) = l_.isEmpty from fun l_ => by cases l_ <;> rfl]; done) | (simp [errW_none, errW_some] <;> rfl) | ((repeat rw [Int.tdiv_eq_ediv_of_nonneg (by omega)]); (repeat rw [Int.tmod_eq_emod_of_nonneg (by omega)]); first | rfl | (simp [errW_none, errW_some] <;> rfl)) | (simp [*, errW_none, errW_some] <;> rfl), by repeat (first | (with_reducible first | exact HI0.out | apply IsS26.alloc | apply IsS26.drewN | apply IsS26.drew | apply IsS26.set_0 | apply IsS26.set_1) | exact HI0.out), by repeat (first | (with_reducible first | exact HB.out | apply below_alloc | apply pw_below_drewN | apply below_drew1 | refine below_set ?_ (IsS26.ge HI0.out)) | exact HB.out), by repeat (first | (with_reducible first | exact HK.out | apply KeepBut.set_ | apply keep_drewN | apply keep_drew | apply keep_alloc) | exact HK.out)⟩
        · replace c11 := Bool.eq_false_iff.mpr c11
          subst c11
          have H1 : ((appli_says.f s0_0).bind fun t130 => (if t130 = true then (some (s0_0, a1)) else ((appli_App_step.f s0_0 a1 0).bind fun bt131 => (some (bt131.2.1, bt131.2.2))))) = some (r1, r2) := by rw [if_neg (show ¬ (false = true) by decide)] at H; exact H
          clear H
          have H := H1
          clear H1
          replace H := Option.bind_eq_some_iff.mp H
          obtain ⟨t130, A150, H⟩ := H
          replace H : (if t130 = true then (some (s0_0, a1)) else ((appli_App_step.f s0_0 a1 0).bind fun bt131 => (some (bt131.2.1, bt131.2.2)))) = some (r1, r2) := H
          have A15 := Aside0.mk A150
          clear A150
          by_cases c16 : t130 = true
          · subst c16
            have H1 : (some (s0_0, a1)) = some (r1, r2) := by rw [if_pos rfl] at H; exact H
            clear H
            have H := H1
            clear H1
            simp only [Option.some.injEq, Prod.mk.injEq] at H
            obtain ⟨rfl, rfl⟩ := H
            obtain ⟨HGz17, hgz17⟩ := HI0.out
            have hcz17_0 := cellS26_0 HGz17
            have hcz17_1 := cellS26_1 HGz17
            have hfz17_0 := blk_frozen HGz17 0
            have hfz17_1 := blk_frozen HGz17 1
            clear HGz17 hgz17
            go_wp2_with (first | ((with_reducible refine gate_callee (f := 21) rfl ?_); refine goesL_ (some 14) rfl rfl Tryd.func21 (by kernel_rfl) rfl #[.int .i64 s0_0] rfl (by (try simp only [List.map_toArray, List.map_cons, List.map_nil]); first | done | rfl | (simp only [List.length_drop, List.length_take]; rfl) | (go_simp; first | done | (unfold wrap64; omega))) ?_; (with_reducible refine (appli_says.calls s0_0 true _ A15.out).mono ?_); rintro e w' ⟨rfl, ⟨nd, rfl⟩⟩; refine ⟨_, rfl, ?_⟩))
            first | go_end0 | ((try simp only [Exit.inBlock, Exit.then]); refine bodyPost_ret (results_none rfl _ _ _) rfl ?_)
            exact ⟨by first | rfl | (simp [show ∀ l_ : List UInt8, (l_ == []) = l_.isEmpty from fun l_ => by cases l_ <;> rfl]; done) | (simp [errW_none, errW_some] <;> rfl) | ((repeat rw [Int.tdiv_eq_ediv_of_nonneg (by omega)]); (repeat rw [Int.tmod_eq_emod_of_nonneg (by omega)]); first | rfl | (simp [errW_none, errW_some] <;> rfl)) | (simp [*, errW_none, errW_some] <;> rfl), by repeat (first | (with_reducible first | exact HI0.out | apply IsS26.alloc | apply IsS26.drewN | apply IsS26.drew | apply IsS26.set_0 | apply IsS26.set_1) | exact HI0.out), by repeat (first | (with_reducible first | exact HB.out | apply below_alloc | apply pw_below_drewN | apply below_drew1 | refine below_set ?_ (IsS26.ge HI0.out)) | exact HB.out), by repeat (first | (with_reducible first | exact HK.out | apply KeepBut.set_ | apply keep_drewN | apply keep_drew | apply keep_alloc) | exact HK.out)⟩
          · replace c16 := Bool.eq_false_iff.mpr c16
            subst c16
            have H1 : ((appli_App_step.f s0_0 a1 0).bind fun bt131 => (some (bt131.2.1, bt131.2.2))) = some (r1, r2) := by rw [if_neg (show ¬ (false = true) by decide)] at H; exact H
            clear H
            have H := H1
            clear H1
            replace H := Option.bind_eq_some_iff.mp H
            obtain ⟨⟨t131, t132, t133⟩, A180, H⟩ := H
            replace H : (some (t132, t133)) = some (r1, r2) := H
            have A18 := Aside0.mk A180
            clear A180
            simp only [Option.some.injEq, Prod.mk.injEq] at H
            obtain ⟨rfl, rfl⟩ := H
            obtain ⟨HGz19, hgz19⟩ := HI0.out
            have hcz19_0 := cellS26_0 HGz19
            have hcz19_1 := cellS26_1 HGz19
            have hfz19_0 := blk_frozen HGz19 0
            have hfz19_1 := blk_frozen HGz19 1
            clear HGz19 hgz19
            go_wp2_with (first | ((with_reducible refine gate_callee (f := 21) rfl ?_); refine goesL_ (some 14) rfl rfl Tryd.func21 (by kernel_rfl) rfl #[.int .i64 s0_0] rfl (by (try simp only [List.map_toArray, List.map_cons, List.map_nil]); first | done | rfl | (simp only [List.length_drop, List.length_take]; rfl) | (go_simp; first | done | (unfold wrap64; omega))) ?_; (with_reducible refine (appli_says.calls s0_0 false _ A15.out).mono ?_); rintro e w' ⟨rfl, ⟨nd, rfl⟩⟩; refine ⟨_, rfl, ?_⟩) | ((with_reducible refine gate_callee (f := 20) rfl ?_); refine goesL_ (some 17) rfl rfl Tryd.func20 (by kernel_rfl) rfl #[.pointer (some ⟨g, 0, none⟩), .int .i64 0] rfl (by (try simp only [List.map_toArray, List.map_cons, List.map_nil]); first | done | rfl | (simp only [List.length_drop, List.length_take]; rfl) | (go_simp; first | done | (unfold wrap64; omega))) ?_; (with_reducible refine (appli_App_step.calls g s0_0 a1 0 t131 t132 t133 w0 _ ?side1 ?side2 A18.out).mono ?_); (case side1 => repeat (first | (with_reducible first | exact HI0.out | apply IsS26.alloc | apply IsS26.drewN | apply IsS26.drew | apply IsS26.set_0 | apply IsS26.set_1) | exact HI0.out)); (case side2 => repeat (first | (with_reducible first | exact HB.out | apply below_alloc | apply pw_below_drewN | apply below_drew1 | refine below_set ?_ (IsS26.ge HI0.out)) | exact HB.out)); rintro e w20 ⟨rfl, hi, hb, hk⟩; refine ⟨_, rfl, ?_⟩; have n0_ := Aside0.mk (KeepBut.trans (by repeat (first | (with_reducible first | exact HK.out | apply KeepBut.set_ | apply keep_drewN | apply keep_drew | apply keep_alloc) | exact HK.out)) hk (.inl rfl)); have n1_ := Aside0.mk (hb); have n2_ := Aside0.mk (hi); clear HK; clear HB; clear HI0; have HK := n0_; have HB := n1_; have HI0 := n2_; clear n0_ n1_ n2_; (try clear hb); (try clear hb2); (try clear hk); (try clear hi)))
            first | go_end0 | ((try simp only [Exit.inBlock, Exit.then]); refine bodyPost_ret (results_none rfl _ _ _) rfl ?_)
            exact ⟨by first | rfl | (simp [show ∀ l_ : List UInt8, (l_ == []) = l_.isEmpty from fun l_ => by cases l_ <;> rfl]; done) | (simp [errW_none, errW_some] <;> rfl) | ((repeat rw [Int.tdiv_eq_ediv_of_nonneg (by omega)]); (repeat rw [Int.tmod_eq_emod_of_nonneg (by omega)]); first | rfl | (simp [errW_none, errW_some] <;> rfl)) | (simp [*, errW_none, errW_some] <;> rfl), by repeat (first | (with_reducible first | exact HI0.out | apply IsS26.alloc | apply IsS26.drewN | apply IsS26.drew | apply IsS26.set_0 | apply IsS26.set_1) | exact HI0.out), by repeat (first | (with_reducible first | exact HB.out | apply below_alloc | apply pw_below_drewN | apply below_drew1 | refine below_set ?_ (IsS26.ge HI0.out)) | exact HB.out), by repeat (first | (with_reducible first | exact HK.out | apply KeepBut.set_ | apply keep_drewN | apply keep_drew | apply keep_alloc) | exact HK.out)⟩

/-! ### appli_App_Say: function 9 -/
/-- What the table of events holds. -/
def LaidG (w : World) : Prop := ∀ k : Nat, k < 4 → w.cell? ⟨0, k, none⟩ = some (.int .i64 ((([0, 0, 1, 5] : List Nat).getD k 0 : Nat) : Int))
theorem LaidG.far {w W : World} (h : LaidG w) (hb : Below w.heap.size w W) : LaidG W := fun k hk => (hb.cell (World.block_lt_of_cell? w _ (h k hk))).trans (h k hk)
theorem LaidG.drewN {w : World} (h : LaidG w) (n : Nat) : LaidG (w.drewN n) := h
theorem LaidG.pos {w : World} (h : LaidG w) : 0 < w.heap.size := World.block_lt_of_cell? w _ (h 0 (by decide))
def nxA (s ev : Int) : Int := if ev = 0 then (if s = 0 then 1 else if s = 4 then 2 else s) else if ev = 1 then (if s = 0 then 0 else 4) else if ev = 2 ∨ ev = 3 then (if s = 3 then 2 else s) else if ev = 4 then (if s = 1 then 2 else if s = 2 then 3 else if s = 3 then 3 else 0) else 1
def acA (s ev : Int) : Int := if ev = 4 then (if s = 1 then 1 else if s = 2 then 2 else if s = 4 then 3 else 0) else 0
theorem stepA_eq (s b ev : Int) (hs : 0 ≤ s ∧ s ≤ 4) (he : 0 ≤ ev ∧ ev ≤ 5) : appli_App_step.f s b ev = some (acA s ev, nxA s ev, b) := by
  have h1 : s = 0 ∨ s = 1 ∨ s = 2 ∨ s = 3 ∨ s = 4 := by omega
  have h2 : ev = 0 ∨ ev = 1 ∨ ev = 2 ∨ ev = 3 ∨ ev = 4 ∨ ev = 5 := by omega
  rcases h1 with rfl | rfl | rfl | rfl | rfl <;> rcases h2 with rfl | rfl | rfl | rfl | rfl | rfl <;> rfl
theorem nxA_in (s ev : Int) (hs : 0 ≤ s ∧ s ≤ 4) : 0 ≤ nxA s ev ∧ nxA s ev ≤ 4 := by unfold nxA; repeat' split <;> omega
def sayE (s : Int) : Int := if s = 2 then 1 else if s = 4 then 5 else 0
def sayIs (s : Int) : Bool := s == 1 || s == 2 || s == 4
def sayB (s b : Int) : Int := if s = 1 then b else if s = 2 then b else if s = 4 then b else 0
set_option maxHeartbeats 4000000 in
set_option maxRecDepth 100000 in
theorem Say_nice {g : Nat} {s b : Int} {w0 w : World} (hG : LaidG w0) (hI : IsS26 w0 w g s b) (hB : Below w0.heap.size w0 w) (hs : 0 ≤ s ∧ s ≤ 4) :
    Calls Tryd.prog 9 #[.pointer (some ⟨g, 0, none⟩)] w fun e w' => e = .returned (.tuple #[.int .i64 (sayE s), .int .i64 (sayB s b), .bool (sayIs s)]) ∧ IsS26 w0 w' g (nxA s 4) b ∧ Below w0.heap.size w0 w' ∧ KeepBut w w' g none := by
  have HG := Aside0.mk hG
  have HI := Aside0.mk hI
  have HB := Aside0.mk hB
  have h1 : s = 0 ∨ s = 1 ∨ s = 2 ∨ s = 3 ∨ s = 4 := by omega
  clear hG hI hB hs
  rcases h1 with rfl | rfl | rfl | rfl | rfl
  · go_enter Tryd.func9, Tryd.ntmps9
    go_wp2_with fail
    go_at_call 20
    refine (appli_App_step.calls g 0 b 4 0 0 b w0 w HI.out HB.out (stepA_eq 0 b 4 (by decide) (by decide))).mono ?_
    rintro e w1 ⟨rfl, hi, hb, hk⟩
    have HI := Aside0.mk hi
    have HB := Aside0.mk hb
    have HK := Aside0.mk hk
    clear hi hb hk
    go_wp2_with fail
    go_ret3
    exact ⟨rfl, HI.out, HB.out, HK.out⟩
  · go_enter Tryd.func9, Tryd.ntmps9
    go_wp2_with fail
    go_at_call 20
    refine (appli_App_step.calls g 1 b 4 1 2 b w0 w HI.out HB.out (stepA_eq 1 b 4 (by decide) (by decide))).mono ?_
    rintro e w1 ⟨rfl, hi, hb, hk⟩
    have q1 := (blk_cell hi.1 1).trans (rfl : _ = some (Value.int .i64 b))
    have q2 := LaidG.far HG.out hb 1 (by decide)
    rw [show (((([0, 0, 1, 5] : List Nat).getD 1 0 : Nat) : Int)) = 0 from rfl] at q2
    have HI := Aside0.mk hi
    have HB := Aside0.mk hb
    have HK := Aside0.mk hk
    clear hi hb hk
    go_wp2_with fail
    go_quiet (fail)
    go_wp2_with fail
    go_ret3
    exact ⟨rfl, ⟨HI.out.1, HI.out.2⟩, below_step HB.out (Drawn0.below ⟨⟨_, rfl⟩⟩), ⟨HK.out.1, HK.out.2⟩⟩
  · go_enter Tryd.func9, Tryd.ntmps9
    go_wp2_with fail
    go_at_call 20
    refine (appli_App_step.calls g 2 b 4 2 3 b w0 w HI.out HB.out (stepA_eq 2 b 4 (by decide) (by decide))).mono ?_
    rintro e w1 ⟨rfl, hi, hb, hk⟩
    have q1 := (blk_cell hi.1 1).trans (rfl : _ = some (Value.int .i64 b))
    have q2 := LaidG.far HG.out hb 2 (by decide)
    rw [show (((([0, 0, 1, 5] : List Nat).getD 2 0 : Nat) : Int)) = 1 from rfl] at q2
    have HI := Aside0.mk hi
    have HB := Aside0.mk hb
    have HK := Aside0.mk hk
    clear hi hb hk
    go_wp2_with fail
    go_quiet (fail)
    go_wp2_with fail
    go_ret3
    exact ⟨rfl, ⟨HI.out.1, HI.out.2⟩, below_step HB.out (Drawn0.below ⟨⟨_, rfl⟩⟩), ⟨HK.out.1, HK.out.2⟩⟩
  · go_enter Tryd.func9, Tryd.ntmps9
    go_wp2_with fail
    go_at_call 20
    refine (appli_App_step.calls g 3 b 4 0 3 b w0 w HI.out HB.out (stepA_eq 3 b 4 (by decide) (by decide))).mono ?_
    rintro e w1 ⟨rfl, hi, hb, hk⟩
    have HI := Aside0.mk hi
    have HB := Aside0.mk hb
    have HK := Aside0.mk hk
    clear hi hb hk
    go_wp2_with fail
    go_ret3
    exact ⟨rfl, HI.out, HB.out, HK.out⟩
  · go_enter Tryd.func9, Tryd.ntmps9
    go_wp2_with fail
    go_at_call 20
    refine (appli_App_step.calls g 4 b 4 3 0 b w0 w HI.out HB.out (stepA_eq 4 b 4 (by decide) (by decide))).mono ?_
    rintro e w1 ⟨rfl, hi, hb, hk⟩
    have q1 := (blk_cell hi.1 1).trans (rfl : _ = some (Value.int .i64 b))
    have q2 := LaidG.far HG.out hb 3 (by decide)
    rw [show (((([0, 0, 1, 5] : List Nat).getD 3 0 : Nat) : Int)) = 5 from rfl] at q2
    have HI := Aside0.mk hi
    have HB := Aside0.mk hb
    have HK := Aside0.mk hk
    clear hi hb hk
    go_wp2_with fail
    go_quiet (fail)
    go_wp2_with fail
    go_ret3
    exact ⟨rfl, ⟨HI.out.1, HI.out.2⟩, below_step HB.out (Drawn0.below ⟨⟨_, rfl⟩⟩), ⟨HK.out.1, HK.out.2⟩⟩


/-! ### kissgatelaw15_alive: function 7 -/
def wantS (s bn : Int) (nw : Bool) : Int := if bn < 0 then nxA s 1 else if s = 0 then 1 else if s = 4 then (if nw = true then 1 else 2) else s
def wantB (b bn : Int) : Int := if bn < 0 then b else bn
theorem wantS_in (s bn : Int) (nw : Bool) (hs : 0 ≤ s ∧ s ≤ 4) : 0 ≤ wantS s bn nw ∧ wantS s bn nw ≤ 4 := by
  have := nxA_in s 1 hs
  unfold wantS; repeat' split <;> omega
theorem want_eq (s b bn : Int) (nw : Bool) (hs : 0 ≤ s ∧ s ≤ 4) : appli_App_Want.f 1 s b bn nw = some (wantS s bn nw, wantB b bn) := by
  have h1 : s = 0 ∨ s = 1 ∨ s = 2 ∨ s = 3 ∨ s = 4 := by omega
  unfold appli_App_Want.f wantS wantB
  by_cases h0 : bn < 0
  · rw [if_pos h0, if_pos h0, if_pos h0, stepA_eq _ _ _ hs (by decide)]; rfl
  · rw [if_neg h0, if_neg h0, if_neg h0]
    clear hs
    cases nw <;> rcases h1 with rfl | rfl | rfl | rfl | rfl <;> rfl
theorem Want_nice {g : Nat} {s b : Int} {w0 w : World} (hI : IsS26 w0 w g s b) (hB : Below w0.heap.size w0 w) (hs : 0 ≤ s ∧ s ≤ 4) (bn : Int) (nw : Bool) :
    Calls Tryd.prog 8 #[.pointer (some ⟨g, 0, none⟩), .int .i64 bn, .bool nw] w fun e w' => e = .returned (.tuple #[]) ∧ IsS26 w0 w' g (wantS s bn nw) (wantB b bn) ∧ Below w0.heap.size w0 w' ∧ KeepBut w w' g none :=
  appli_App_Want.calls 1 g s b bn nw _ _ w0 w hI hB (want_eq s b bn nw hs)
set_option maxHeartbeats 4000000 in
set_option maxRecDepth 100000 in
theorem kissgatelaw15_alive.good (w0 w : World) (hG : LaidG w0) (hB : Below w0.heap.size w0 w) :
    Calls Tryd.prog 7 #[] w fun e w' => e = .returned (.bool true) ∧ Below w0.heap.size w0 w' := by
  have HL := Aside0.mk hG
  have HB := Aside0.mk hB
  clear hG hB
  have hu := Tryd.underlying26
  go_enter Tryd.func7, Tryd.ntmps7
  go_upto_region 2 with (fail)
  have HI := Aside0.mk (IsS26.new w0 w 0 0 HB.out)
  have HB := Aside0.mk (below_alloc HB.out (.cells #[.int .i64 0, .int .i64 0] 26))
  generalize w.alloc (.cells #[.int .i64 0, .int .i64 0] 26) = W at HI HB ⊢
  generalize w.heap.size = g at HI ⊢
  go_wp2_with fail
  go_at_call 8
  refine (Want_nice HI.out HB.out (by decide) 5 false).mono ?_
  rw [show wantS 0 5 false = 1 by decide +kernel, show wantB 0 5 = 5 by decide +kernel]
  rintro e w2 ⟨rfl, hi, hb, _⟩
  have HI := Aside0.mk hi
  have HB := Aside0.mk hb
  clear hi hb
  go_wp2_with fail
  go_at_call 9
  refine (Say_nice HL.out HI.out HB.out (by decide)).mono ?_
  rw [show sayE 1 = 0 by decide +kernel, show sayB 1 5 = 5 by decide +kernel, show sayIs 1 = true by decide +kernel, show nxA 1 4 = 2 by decide +kernel]
  rintro e w2 ⟨rfl, hi, hb, _⟩
  have HI := Aside0.mk hi
  have HB := Aside0.mk hb
  clear hi hb
  go_wp2_with fail
  go_at_call 9
  refine (Say_nice HL.out HI.out HB.out (by decide)).mono ?_
  rw [show sayE 2 = 1 by decide +kernel, show sayB 2 5 = 5 by decide +kernel, show sayIs 2 = true by decide +kernel, show nxA 2 4 = 3 by decide +kernel]
  rintro e w2 ⟨rfl, hi, hb, _⟩
  have HI := Aside0.mk hi
  have HB := Aside0.mk hb
  clear hi hb
  go_wp2_with fail
  go_at_call 9
  refine (Say_nice HL.out HI.out HB.out (by decide)).mono ?_
  rw [show sayE 3 = 0 by decide +kernel, show sayB 3 5 = 0 by decide +kernel, show sayIs 3 = false by decide +kernel, show nxA 3 4 = 3 by decide +kernel]
  rintro e w2 ⟨rfl, hi, hb, _⟩
  have HB := Aside0.mk hb
  clear hi hb
  go_wp2_with fail
  go_ret
  exact ⟨rfl, HB.out⟩


/-! ### appli_App_All: function 10 -/
def appli_App_All.f (s0_0 : Int) (s0_1 : Int) : Option (Int × Int) := (appli_App_step.f s0_0 s0_1 2).bind fun bt134 => (some (bt134.2.1, bt134.2.2))
set_option maxHeartbeats 8000000 in
set_option maxRecDepth 100000 in
theorem appli_App_All.calls (g : Nat) (s0_0 : Int) (s0_1 : Int) (r1 : Int) (r2 : Int) (w0 w : World) (hI : IsS26 w0 w g s0_0 s0_1) (hB : Below w0.heap.size w0 w) (h : appli_App_All.f s0_0 s0_1 = some (r1, r2)) :
    Calls Tryd.prog 10 #[.pointer (some ⟨g, 0, none⟩)] w fun e w' => e = .returned (.tuple #[]) ∧ IsS26 w0 w' g r1 r2 ∧ Below w0.heap.size w0 w' ∧ KeepBut w w' g none := by
  have HI0 := Aside0.mk hI
  have HK := Aside0.mk (KeepBut.refl w g none)
  have HL := Aside0.mk hB.size
  clear hI
  have HW0 := Aside0.mk hB.size
  have HB := Aside0.mk hB
  clear hB
  have H : ((appli_App_step.f s0_0 s0_1 2).bind fun bt134 => (some (bt134.2.1, bt134.2.2))) = some (r1, r2) := h
  clear h
  replace H := Option.bind_eq_some_iff.mp H
  obtain ⟨⟨t134, t135, t136⟩, A20, H⟩ := H
  replace H : (some (t135, t136)) = some (r1, r2) := H
  have A2 := Aside0.mk A20
  clear A20
  simp only [Option.some.injEq, Prod.mk.injEq] at H
  obtain ⟨rfl, rfl⟩ := H
  go_enter Tryd.func10, Tryd.ntmps10
  go_wp2_with (first | ((with_reducible refine gate_callee (f := 20) rfl ?_); refine goesL_ (some 5) rfl rfl Tryd.func20 (by kernel_rfl) rfl #[.pointer (some ⟨g, 0, none⟩), .int .i64 2] rfl (by (try simp only [List.map_toArray, List.map_cons, List.map_nil]); first | done | rfl | (simp only [List.length_drop, List.length_take]; rfl) | (go_simp; first | done | (unfold wrap64; omega))) ?_; (with_reducible refine (appli_App_step.calls g s0_0 s0_1 2 t134 t135 t136 w0 _ ?side1 ?side2 A2.out).mono ?_); (case side1 => repeat (first | (with_reducible first | exact HI0.out | apply IsS26.alloc | apply IsS26.drewN | apply IsS26.drew | apply IsS26.set_0 | apply IsS26.set_1) | exact HI0.out)); (case side2 => repeat (first | (with_reducible first | exact HB.out | apply below_alloc | apply pw_below_drewN | apply below_drew1 | refine below_set ?_ (IsS26.ge HI0.out)) | exact HB.out)); rintro e w3 ⟨rfl, hi, hb, hk⟩; refine ⟨_, rfl, ?_⟩; have n0_ := Aside0.mk (KeepBut.trans (by repeat (first | (with_reducible first | exact HK.out | apply KeepBut.set_ | apply keep_drewN | apply keep_drew | apply keep_alloc) | exact HK.out)) hk (.inl rfl)); have n1_ := Aside0.mk (hb); have n2_ := Aside0.mk (hi); clear HK; clear HB; clear HI0; have HK := n0_; have HB := n1_; have HI0 := n2_; clear n0_ n1_ n2_; (try clear hb); (try clear hb2); (try clear hk); (try clear hi)))
  first | go_end0 | ((try simp only [Exit.inBlock, Exit.then]); refine bodyPost_ret (results_none rfl _ _ _) rfl ?_)
  exact ⟨by first | rfl | (simp [show ∀ l_ : List UInt8, (l_ == []) = l_.isEmpty from fun l_ => by cases l_ <;> rfl]; done) | (simp [errW_none, errW_some] <;> rfl) | ((repeat rw [Int.tdiv_eq_ediv_of_nonneg (by omega)]); (repeat rw [Int.tmod_eq_emod_of_nonneg (by omega)]); first | rfl | (simp [errW_none, errW_some] <;> rfl)) | (simp [*, errW_none, errW_some] <;> rfl), by repeat (first | (with_reducible first | exact HI0.out | apply IsS26.alloc | apply IsS26.drewN | apply IsS26.drew | apply IsS26.set_0 | apply IsS26.set_1) | exact HI0.out), by repeat (first | (with_reducible first | exact HB.out | apply below_alloc | apply pw_below_drewN | apply below_drew1 | refine below_set ?_ (IsS26.ge HI0.out)) | exact HB.out), by repeat (first | (with_reducible first | exact HK.out | apply KeepBut.set_ | apply keep_drewN | apply keep_drew | apply keep_alloc) | exact HK.out)⟩

/-! ### appli_App_Again: function 11 -/
def appli_App_Again.f (s0_0 : Int) (s0_1 : Int) : Option (Int × Int) := (appli_App_step.f s0_0 s0_1 3).bind fun bt137 => (some (bt137.2.1, bt137.2.2))
set_option maxHeartbeats 8000000 in
set_option maxRecDepth 100000 in
theorem appli_App_Again.calls (g : Nat) (s0_0 : Int) (s0_1 : Int) (r1 : Int) (r2 : Int) (w0 w : World) (hI : IsS26 w0 w g s0_0 s0_1) (hB : Below w0.heap.size w0 w) (h : appli_App_Again.f s0_0 s0_1 = some (r1, r2)) :
    Calls Tryd.prog 11 #[.pointer (some ⟨g, 0, none⟩)] w fun e w' => e = .returned (.tuple #[]) ∧ IsS26 w0 w' g r1 r2 ∧ Below w0.heap.size w0 w' ∧ KeepBut w w' g none := by
  have HI0 := Aside0.mk hI
  have HK := Aside0.mk (KeepBut.refl w g none)
  have HL := Aside0.mk hB.size
  clear hI
  have HW0 := Aside0.mk hB.size
  have HB := Aside0.mk hB
  clear hB
  have H : ((appli_App_step.f s0_0 s0_1 3).bind fun bt137 => (some (bt137.2.1, bt137.2.2))) = some (r1, r2) := h
  clear h
  replace H := Option.bind_eq_some_iff.mp H
  obtain ⟨⟨t137, t138, t139⟩, A20, H⟩ := H
  replace H : (some (t138, t139)) = some (r1, r2) := H
  have A2 := Aside0.mk A20
  clear A20
  simp only [Option.some.injEq, Prod.mk.injEq] at H
  obtain ⟨rfl, rfl⟩ := H
  go_enter Tryd.func11, Tryd.ntmps11
  go_wp2_with (first | ((with_reducible refine gate_callee (f := 20) rfl ?_); refine goesL_ (some 5) rfl rfl Tryd.func20 (by kernel_rfl) rfl #[.pointer (some ⟨g, 0, none⟩), .int .i64 3] rfl (by (try simp only [List.map_toArray, List.map_cons, List.map_nil]); first | done | rfl | (simp only [List.length_drop, List.length_take]; rfl) | (go_simp; first | done | (unfold wrap64; omega))) ?_; (with_reducible refine (appli_App_step.calls g s0_0 s0_1 3 t137 t138 t139 w0 _ ?side1 ?side2 A2.out).mono ?_); (case side1 => repeat (first | (with_reducible first | exact HI0.out | apply IsS26.alloc | apply IsS26.drewN | apply IsS26.drew | apply IsS26.set_0 | apply IsS26.set_1) | exact HI0.out)); (case side2 => repeat (first | (with_reducible first | exact HB.out | apply below_alloc | apply pw_below_drewN | apply below_drew1 | refine below_set ?_ (IsS26.ge HI0.out)) | exact HB.out)); rintro e w3 ⟨rfl, hi, hb, hk⟩; refine ⟨_, rfl, ?_⟩; have n0_ := Aside0.mk (KeepBut.trans (by repeat (first | (with_reducible first | exact HK.out | apply KeepBut.set_ | apply keep_drewN | apply keep_drew | apply keep_alloc) | exact HK.out)) hk (.inl rfl)); have n1_ := Aside0.mk (hb); have n2_ := Aside0.mk (hi); clear HK; clear HB; clear HI0; have HK := n0_; have HB := n1_; have HI0 := n2_; clear n0_ n1_ n2_; (try clear hb); (try clear hb2); (try clear hk); (try clear hi)))
  first | go_end0 | ((try simp only [Exit.inBlock, Exit.then]); refine bodyPost_ret (results_none rfl _ _ _) rfl ?_)
  exact ⟨by first | rfl | (simp [show ∀ l_ : List UInt8, (l_ == []) = l_.isEmpty from fun l_ => by cases l_ <;> rfl]; done) | (simp [errW_none, errW_some] <;> rfl) | ((repeat rw [Int.tdiv_eq_ediv_of_nonneg (by omega)]); (repeat rw [Int.tmod_eq_emod_of_nonneg (by omega)]); first | rfl | (simp [errW_none, errW_some] <;> rfl)) | (simp [*, errW_none, errW_some] <;> rfl), by repeat (first | (with_reducible first | exact HI0.out | apply IsS26.alloc | apply IsS26.drewN | apply IsS26.drew | apply IsS26.set_0 | apply IsS26.set_1) | exact HI0.out), by repeat (first | (with_reducible first | exact HB.out | apply below_alloc | apply pw_below_drewN | apply below_drew1 | refine below_set ?_ (IsS26.ge HI0.out)) | exact HB.out), by repeat (first | (with_reducible first | exact HK.out | apply KeepBut.set_ | apply keep_drewN | apply keep_drew | apply keep_alloc) | exact HK.out)⟩

/-! ### appli_App_Speaks: function 12 -/
def appli_App_Speaks.f (s0_0 : Int) (s0_1 : Int) : Option (Bool × Int × Int) := (appli_says.f s0_0).bind fun t140 => (some (t140, s0_0, s0_1))
set_option maxHeartbeats 8000000 in
set_option maxRecDepth 100000 in
theorem appli_App_Speaks.calls (g : Nat) (s0_0 : Int) (s0_1 : Int) (r1 : Bool) (r2 : Int) (r3 : Int) (w0 w : World) (hI : IsS26 w0 w g s0_0 s0_1) (hB : Below w0.heap.size w0 w) (h : appli_App_Speaks.f s0_0 s0_1 = some (r1, r2, r3)) :
    Calls Tryd.prog 12 #[.pointer (some ⟨g, 0, none⟩)] w fun e w' => e = .returned (.bool r1) ∧ IsS26 w0 w' g r2 r3 ∧ Below w0.heap.size w0 w' ∧ KeepBut w w' g none := by
  have HI0 := Aside0.mk hI
  have HK := Aside0.mk (KeepBut.refl w g none)
  have HL := Aside0.mk hB.size
  clear hI
  have HW0 := Aside0.mk hB.size
  have HB := Aside0.mk hB
  clear hB
  have H : ((appli_says.f s0_0).bind fun t140 => (some (t140, s0_0, s0_1))) = some (r1, r2, r3) := h
  clear h
  replace H := Option.bind_eq_some_iff.mp H
  obtain ⟨t140, A20, H⟩ := H
  replace H : (some (t140, s0_0, s0_1)) = some (r1, r2, r3) := H
  have A2 := Aside0.mk A20
  clear A20
  simp only [Option.some.injEq, Prod.mk.injEq] at H
  obtain ⟨rfl, rfl, rfl⟩ := H
  obtain ⟨HGz3, hgz3⟩ := HI0.out
  have hcz3_0 := cellS26_0 HGz3
  have hcz3_1 := cellS26_1 HGz3
  have hfz3_0 := blk_frozen HGz3 0
  have hfz3_1 := blk_frozen HGz3 1
  clear HGz3 hgz3
  go_enter Tryd.func12, Tryd.ntmps12
  go_wp2_with (first | (go_at_call 21; (with_reducible refine (appli_says.calls s0_0 t140 _ A2.out).mono ?_); rintro e w' ⟨rfl, ⟨nd, rfl⟩⟩))
  go_ret
  exact ⟨by first | rfl | (simp [show ∀ l_ : List UInt8, (l_ == []) = l_.isEmpty from fun l_ => by cases l_ <;> rfl]; done) | (simp [errW_none, errW_some] <;> rfl) | ((repeat rw [Int.tdiv_eq_ediv_of_nonneg (by omega)]); (repeat rw [Int.tmod_eq_emod_of_nonneg (by omega)]); first | rfl | (simp [errW_none, errW_some] <;> rfl)) | (simp [*, errW_none, errW_some] <;> rfl), by repeat (first | (with_reducible first | exact HI0.out | apply IsS26.alloc | apply IsS26.drewN | apply IsS26.drew | apply IsS26.set_0 | apply IsS26.set_1) | exact HI0.out), by repeat (first | (with_reducible first | exact HB.out | apply below_alloc | apply pw_below_drewN | apply below_drew1 | refine below_set ?_ (IsS26.ge HI0.out)) | exact HB.out), by repeat (first | (with_reducible first | exact HK.out | apply KeepBut.set_ | apply keep_drewN | apply keep_drew | apply keep_alloc) | exact HK.out)⟩

/-! ### appli_App_Pending: function 13 -/
def appli_App_Pending.f (s0_0 : Int) (s0_1 : Int) : Option (Bool × Int × Int) := if s0_0 = 1 then (some (true, s0_0, s0_1)) else (if s0_0 = 2 then (some (true, s0_0, s0_1)) else (some ((s0_0 == 4), s0_0, s0_1)))
set_option maxHeartbeats 8000000 in
set_option maxRecDepth 100000 in
theorem appli_App_Pending.calls (g : Nat) (s0_0 : Int) (s0_1 : Int) (r1 : Bool) (r2 : Int) (r3 : Int) (w0 w : World) (hI : IsS26 w0 w g s0_0 s0_1) (hB : Below w0.heap.size w0 w) (h : appli_App_Pending.f s0_0 s0_1 = some (r1, r2, r3)) :
    Calls Tryd.prog 13 #[.pointer (some ⟨g, 0, none⟩)] w fun e w' => e = .returned (.bool r1) ∧ IsS26 w0 w' g r2 r3 ∧ Below w0.heap.size w0 w' ∧ KeepBut w w' g none := by
  have HI0 := Aside0.mk hI
  have HK := Aside0.mk (KeepBut.refl w g none)
  have HL := Aside0.mk hB.size
  clear hI
  have HW0 := Aside0.mk hB.size
  have HB := Aside0.mk hB
  clear hB
  have H : (if s0_0 = 1 then (some (true, s0_0, s0_1)) else (if s0_0 = 2 then (some (true, s0_0, s0_1)) else (some ((s0_0 == 4), s0_0, s0_1)))) = some (r1, r2, r3) := h
  clear h
  by_cases c2 : s0_0 = 1
  · rw [if_pos c2] at H
    have c2b0 : (s0_0 == 1) = true := beq_iff_eq.mpr c2
    have c2b1 : (s0_0 != 1) = false := bne_eq_false_iff_eq.mpr c2
    clear c2
    simp only [Option.some.injEq, Prod.mk.injEq] at H
    obtain ⟨rfl, rfl, rfl⟩ := H
    obtain ⟨HGz3, hgz3⟩ := HI0.out
    have hcz3_0 := cellS26_0 HGz3
    have hcz3_1 := cellS26_1 HGz3
    have hfz3_0 := blk_frozen HGz3 0
    have hfz3_1 := blk_frozen HGz3 1
    clear HGz3 hgz3
    go_enter Tryd.func13, Tryd.ntmps13
    go_wp2
    go_ret
    exact ⟨by first | rfl | (simp [show ∀ l_ : List UInt8, (l_ == []) = l_.isEmpty from fun l_ => by cases l_ <;> rfl]; done) | (simp [errW_none, errW_some] <;> rfl) | ((repeat rw [Int.tdiv_eq_ediv_of_nonneg (by omega)]); (repeat rw [Int.tmod_eq_emod_of_nonneg (by omega)]); first | rfl | (simp [errW_none, errW_some] <;> rfl)) | (simp [*, errW_none, errW_some] <;> rfl), by repeat (first | (with_reducible first | exact HI0.out | apply IsS26.alloc | apply IsS26.drewN | apply IsS26.drew | apply IsS26.set_0 | apply IsS26.set_1) | exact HI0.out), by repeat (first | (with_reducible first | exact HB.out | apply below_alloc | apply pw_below_drewN | apply below_drew1 | refine below_set ?_ (IsS26.ge HI0.out)) | exact HB.out), by repeat (first | (with_reducible first | exact HK.out | apply KeepBut.set_ | apply keep_drewN | apply keep_drew | apply keep_alloc) | exact HK.out)⟩
  · rw [if_neg c2] at H
    have c2b0 : (s0_0 == 1) = false := beq_eq_false_iff_ne.mpr c2
    have c2b1 : (s0_0 != 1) = true := bne_iff_ne.mpr c2
    by_cases c4 : s0_0 = 2
    · rw [if_pos c4] at H
      have c4b0 : (s0_0 == 2) = true := beq_iff_eq.mpr c4
      have c4b1 : (s0_0 != 2) = false := bne_eq_false_iff_eq.mpr c4
      clear c4
      simp only [Option.some.injEq, Prod.mk.injEq] at H
      obtain ⟨rfl, rfl, rfl⟩ := H
      obtain ⟨HGz5, hgz5⟩ := HI0.out
      have hcz5_0 := cellS26_0 HGz5
      have hcz5_1 := cellS26_1 HGz5
      have hfz5_0 := blk_frozen HGz5 0
      have hfz5_1 := blk_frozen HGz5 1
      clear HGz5 hgz5
      go_enter Tryd.func13, Tryd.ntmps13
      go_wp2
      go_ret
      exact ⟨by first | rfl | (simp [show ∀ l_ : List UInt8, (l_ == []) = l_.isEmpty from fun l_ => by cases l_ <;> rfl]; done) | (simp [errW_none, errW_some] <;> rfl) | ((repeat rw [Int.tdiv_eq_ediv_of_nonneg (by omega)]); (repeat rw [Int.tmod_eq_emod_of_nonneg (by omega)]); first | rfl | (simp [errW_none, errW_some] <;> rfl)) | (simp [*, errW_none, errW_some] <;> rfl), by repeat (first | (with_reducible first | exact HI0.out | apply IsS26.alloc | apply IsS26.drewN | apply IsS26.drew | apply IsS26.set_0 | apply IsS26.set_1) | exact HI0.out), by repeat (first | (with_reducible first | exact HB.out | apply below_alloc | apply pw_below_drewN | apply below_drew1 | refine below_set ?_ (IsS26.ge HI0.out)) | exact HB.out), by repeat (first | (with_reducible first | exact HK.out | apply KeepBut.set_ | apply keep_drewN | apply keep_drew | apply keep_alloc) | exact HK.out)⟩
    · rw [if_neg c4] at H
      have c4b0 : (s0_0 == 2) = false := beq_eq_false_iff_ne.mpr c4
      have c4b1 : (s0_0 != 2) = true := bne_iff_ne.mpr c4
      simp only [Option.some.injEq, Prod.mk.injEq] at H
      obtain ⟨rfl, rfl, rfl⟩ := H
      obtain ⟨HGz6, hgz6⟩ := HI0.out
      have hcz6_0 := cellS26_0 HGz6
      have hcz6_1 := cellS26_1 HGz6
      have hfz6_0 := blk_frozen HGz6 0
      have hfz6_1 := blk_frozen HGz6 1
      clear HGz6 hgz6
      go_enter Tryd.func13, Tryd.ntmps13
      go_wp2
      go_ret
      exact ⟨by first | rfl | (simp [show ∀ l_ : List UInt8, (l_ == []) = l_.isEmpty from fun l_ => by cases l_ <;> rfl]; done) | (simp [errW_none, errW_some] <;> rfl) | ((repeat rw [Int.tdiv_eq_ediv_of_nonneg (by omega)]); (repeat rw [Int.tmod_eq_emod_of_nonneg (by omega)]); first | rfl | (simp [errW_none, errW_some] <;> rfl)) | (simp [*, errW_none, errW_some] <;> rfl), by repeat (first | (with_reducible first | exact HI0.out | apply IsS26.alloc | apply IsS26.drewN | apply IsS26.drew | apply IsS26.set_0 | apply IsS26.set_1) | exact HI0.out), by repeat (first | (with_reducible first | exact HB.out | apply below_alloc | apply pw_below_drewN | apply below_drew1 | refine below_set ?_ (IsS26.ge HI0.out)) | exact HB.out), by repeat (first | (with_reducible first | exact HK.out | apply KeepBut.set_ | apply keep_drewN | apply keep_drew | apply keep_alloc) | exact HK.out)⟩

/-! ### appli_App_Idle: function 14 -/
def appli_App_Idle.f (s0_0 : Int) (s0_1 : Int) : Option (Bool × Int × Int) := some ((s0_0 == 0), s0_0, s0_1)
set_option maxHeartbeats 8000000 in
set_option maxRecDepth 100000 in
theorem appli_App_Idle.calls (g : Nat) (s0_0 : Int) (s0_1 : Int) (r1 : Bool) (r2 : Int) (r3 : Int) (w0 w : World) (hI : IsS26 w0 w g s0_0 s0_1) (hB : Below w0.heap.size w0 w) (h : appli_App_Idle.f s0_0 s0_1 = some (r1, r2, r3)) :
    Calls Tryd.prog 14 #[.pointer (some ⟨g, 0, none⟩)] w fun e w' => e = .returned (.bool r1) ∧ IsS26 w0 w' g r2 r3 ∧ Below w0.heap.size w0 w' ∧ KeepBut w w' g none := by
  have HI0 := Aside0.mk hI
  have HK := Aside0.mk (KeepBut.refl w g none)
  have HL := Aside0.mk hB.size
  clear hI
  have HW0 := Aside0.mk hB.size
  have HB := Aside0.mk hB
  clear hB
  have H : (some ((s0_0 == 0), s0_0, s0_1)) = some (r1, r2, r3) := h
  clear h
  simp only [Option.some.injEq, Prod.mk.injEq] at H
  obtain ⟨rfl, rfl, rfl⟩ := H
  obtain ⟨HGz2, hgz2⟩ := HI0.out
  have hcz2_0 := cellS26_0 HGz2
  have hcz2_1 := cellS26_1 HGz2
  have hfz2_0 := blk_frozen HGz2 0
  have hfz2_1 := blk_frozen HGz2 1
  clear HGz2 hgz2
  go_enter Tryd.func14, Tryd.ntmps14
  go_wp2
  go_ret
  exact ⟨by first | rfl | (simp [show ∀ l_ : List UInt8, (l_ == []) = l_.isEmpty from fun l_ => by cases l_ <;> rfl]; done) | (simp [errW_none, errW_some] <;> rfl) | ((repeat rw [Int.tdiv_eq_ediv_of_nonneg (by omega)]); (repeat rw [Int.tmod_eq_emod_of_nonneg (by omega)]); first | rfl | (simp [errW_none, errW_some] <;> rfl)) | (simp [*, errW_none, errW_some] <;> rfl), by repeat (first | (with_reducible first | exact HI0.out | apply IsS26.alloc | apply IsS26.drewN | apply IsS26.drew | apply IsS26.set_0 | apply IsS26.set_1) | exact HI0.out), by repeat (first | (with_reducible first | exact HB.out | apply below_alloc | apply pw_below_drewN | apply below_drew1 | refine below_set ?_ (IsS26.ge HI0.out)) | exact HB.out), by repeat (first | (with_reducible first | exact HK.out | apply KeepBut.set_ | apply keep_drewN | apply keep_drew | apply keep_alloc) | exact HK.out)⟩

end Go.Proofs.YtnphindpbdjmpaaDoor.PAppliDoes
