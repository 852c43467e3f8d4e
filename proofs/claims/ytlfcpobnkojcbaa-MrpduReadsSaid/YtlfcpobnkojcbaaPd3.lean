/- Texts of this claim that stand one behind the other (joined by wip/pack.py): printed contracts and own proofs. -/
import Derived.Test.YtlfcpobnkojcbaaPd2
namespace Go.Proofs.Ytlfcpobnkojcbaa.PMrpduBytes
open Go.RowKit Go.Proofs.YtlfcpobnkojcbaaW.PrintWords Go.Proofs.YtlfcpobnkojcbaaW.PrintLast Go.Proofs.YtlfcpobnkojcbaaW.PrintMore
attribute [local go_sem] max2_int min2_int max_two min_two max_three min_three max_four min_four   -- for this text's walks alone
set_option linter.unusedVariables false
set_option linter.unusedSimpArgs false
mutual
def mrpdu_Good.l0 : Nat → List Int → Int → Int → List Int → List (S43) → Option (Bool)
  | 0, _, _, _, _, _ => none
  | k + 1, x8, x9, x10, x119000, x119001 => if x10 < x9 then (if 0 ≤ x10 then (if x10 < (x8.length : Int) then ((mrpdu_size.f (rd x8 x10)).bind fun t120 => (if t120 = 0 then (mrpdu_Good.j1 k x8 x9 x10 true x119000 x119001) else (if x10 > 0 then (if 0 ≤ (wrap64 (x10 - 1)) then (if (wrap64 (x10 - 1)) < (x119000.length : Int) then (mrpdu_Good.j1 k x8 x9 x10 (decide ((rd x119000 (wrap64 (x10 - 1))) ≥ (rd x8 x10))) x119000 x119001) else (none)) else (none)) else (mrpdu_Good.j1 k x8 x9 x10 false x119000 x119001)))) else (none)) else (none)) else (mrpdu_Good.l1 k x119001 (x119001.length : Int) 0 x119000 x119001)
def mrpdu_Good.j1 : Nat → List Int → Int → Int → Bool → List Int → List (S43) → Option (Bool)
  | 0, _, _, _, _, _, _ => none
  | k + 1, x8, x9, x10, x31, x119000, x119001 => if x31 = true then (some false) else (mrpdu_Good.l0 k x8 x9 (wrap64 (x10 + 1)) x119000 x119001)
def mrpdu_Good.l1 : Nat → List (S43) → Int → Int → List Int → List (S43) → Option (Bool)
  | 0, _, _, _, _, _ => none
  | k + 1, x34, x35, x36, x119000, x119001 => if x36 < x35 then (if 0 ≤ x36 then (if x36 < (x34.length : Int) then ((mrpdu_word.f ((rd_T43 x34 x36).f0.f0) ((rd_T43 x34 x36).f0.f1) ((rd_T43 x34 x36).f1) ((rd_T43 x34 x36).f2)).bind fun t124 => (if t124 = true then (if x36 > 0 then (if 0 ≤ (wrap64 (x36 - 1)) then (if (wrap64 (x36 - 1)) < (x119001.length : Int) then ((mrpdu_Compare.f k ((rd_T43 x119001 (wrap64 (x36 - 1))).f0.f0) ((rd_T43 x119001 (wrap64 (x36 - 1))).f0.f1) ((rd_T43 x34 x36).f0.f0) ((rd_T43 x34 x36).f0.f1)).bind fun t126 => (mrpdu_Good.j3 k x34 x35 x36 (decide (t126 ≥ 0)) x119000 x119001)) else (none)) else (none)) else (mrpdu_Good.j3 k x34 x35 x36 false x119000 x119001)) else (mrpdu_Good.j3 k x34 x35 x36 true x119000 x119001))) else (none)) else (none)) else (some true)
def mrpdu_Good.j3 : Nat → List (S43) → Int → Int → Bool → List Int → List (S43) → Option (Bool)
  | 0, _, _, _, _, _, _ => none
  | k + 1, x34, x35, x36, x60, x119000, x119001 => if x60 = true then (some false) else (mrpdu_Good.l1 k x34 x35 (wrap64 (x36 + 1)) x119000 x119001)
end
def mrpdu_Good.f (k : Nat) (l0_0 : List Int) (l0_1 : List (S43)) : Option (Bool) := mrpdu_Good.l0 k l0_0 (l0_0.length : Int) 0 l0_0 l0_1
def mrpdu_Good.T10 : Bool × List (List Nat × List Nat) := (true, [([], []), ([0], [0]), ([1], [1]), ([2, 1], [2]), ([3], [3]), ([4, 3], [3, 4]), ([5, 3, 3], [3, 5]), ([6], [6]), ([7, 6], [6, 7]), ([6], [6]), ([9, 6], [6, 9]), ([8, 10, 6], [6, 8, 10]), ([11, 6], [6, 11]), ([12, 6], [6, 12]), ([6], [6]), ([14, 6], [6, 14]), ([13, 15, 6, 6], [6, 13, 15]), ([16, 6], [6, 16]), ([6, 17, 3], [3, 6, 17]), ([3, 18], [3, 18])])
def mrpdu_Good.B10 : List Nat := [0, 1, 3, 7, 15, 31, 63, 127, 255, 127, 639, 2047, 4095, 8191, 127, 16511, 65535, 131071, 262143, 524287]
theorem mrpdu_Good.tab10 : rtab .any (opsOf Try.f13 10) = mrpdu_Good.T10 := by kernel_rfl
theorem mrpdu_Good.bits10 : waitsOk mrpdu_Good.T10.2 mrpdu_Good.B10 = true := by kernel_rfl
set_option maxHeartbeats 8000000 in
set_option maxRecDepth 100000 in
theorem mrpdu_Good.calls (k : Nat) (A0_0 : Option Addr) (c0_0 : Nat) (l0_0 : List Int) (A0_1 : Option Addr) (c0_1 : Nat) (l0_1 : List (S43)) (r : Bool) (w : World) (hr0_0 : Kd.C (Kd.int .i64) w A0_0 l0_0.length l0_0) (hc0_0 : l0_0.length ≤ c0_0) (hr0_1 : Kd.C k43 w A0_1 l0_1.length l0_1) (hc0_1 : l0_1.length ≤ c0_1) (h : mrpdu_Good.f k l0_0 l0_1 = some r) :
    Calls Try.prog 13 #[.agg #[.slice A0_0 l0_0.length c0_0, .slice A0_1 l0_1.length c0_1]] w fun e w' => e = .returned (.bool r) ∧ Below w.heap.size w w' := by
  have hu25 := Try.underlying25
  have hu43 := Try.underlying43
  have hu37 := Try.underlying37
  have HR0_0 := Aside0.mk hr0_0
  have HC0_0 := Aside0.mk hc0_0
  clear hr0_0 hc0_0
  have HR0_1 := Aside0.mk hr0_1
  have HC0_1 := Aside0.mk hc0_1
  clear hr0_1 hc0_1
  have HB := Aside0.mk (Below.refl w.heap.size w)
  have H : (mrpdu_Good.l0 k l0_0 (l0_0.length : Int) 0 l0_0 l0_1) = some r := h
  clear h
  have H' := Aside0.mk H
  clear H
  go_enter Try.func13, Try.ntmps13
  go_wp2_with (first | ((with_reducible refine gate_dst (N := 1) rfl ?_); refine box_event ?hg (N := 1) ?hd (cs := #[.slice A0_0 l0_0.length c0_0, .slice A0_1 l0_1.length c0_1]) (t := 25) ?hr ?_; (case hd => rfl); (case hg => rfl); (case hr => first | (go_simp; done) | (go_simp; rfl)); intro gb118 hg w2 hbox hb; have n0_ := Aside0.mk (below_step (by repeat (first | (with_reducible first | exact HB.out | apply below_alloc | apply pw_below_drewN | apply below_drew1) | exact HB.out)) hb); have n1_ := Aside0.mk (hbox); have n2_ := Aside0.mk ((by rw [hg]; exact (below_size (by repeat (first | (with_reducible first | exact HB.out | apply below_alloc | apply pw_below_drewN | apply below_drew1) | exact HB.out))) : w.heap.size ≤ gb118)); have n3_ := Aside0.mk ((by rw [hg]; exact (below_size (by repeat (first | (with_reducible first | exact HB.out | apply below_alloc | apply pw_below_drewN | apply below_drew1) | exact HB.out))) : w.heap.size ≤ gb118)); clear HB; have HB := n0_; have BK118 := n1_; have GW118 := n2_; have GE118 := n3_; clear n0_ n1_ n2_ n3_; clear hb hbox hg; have hcz3_0 : w2.cell? ⟨gb118, 0, none⟩ = some (.slice A0_0 l0_0.length c0_0) := (blk_cell BK118.out 0).trans rfl; have hcz3_1 : w2.cell? ⟨gb118, 1, none⟩ = some (.slice A0_1 l0_1.length c0_1) := (blk_cell BK118.out 1).trans rfl; have hfz3_0 := blk_frozen BK118.out 0; have hfz3_1 := blk_frozen BK118.out 1))
  go_loopg [10] k (fun kq v10 w' => ∃ (x10_1 : Int), v10 = .int .i64 x10_1 ∧ Aside0 (mrpdu_Good.l0 kq l0_0 (l0_0.length : Int) x10_1 l0_0 l0_1 = some r) ∧ Aside0 (kq ≤ k) ∧ Aside0 (w'.heap[gb118]? = some (.cells #[(.slice A0_0 l0_0.length c0_0), (.slice A0_1 l0_1.length c0_1)] 25 (0, 0))) ∧ Aside0 (Below w.heap.size w w'))
  case atStart => exact ⟨(0), (by first | rfl | (simp; done) | (simp [show ∀ l_ : List UInt8, (l_ != []) = !l_.isEmpty from fun l_ => by cases l_ <;> rfl]; done) | (simp [*]; done)), H', ⟨Nat.le_refl _⟩, ⟨by (with_reducible repeat (first | refine blk_drewN ?_ _ | refine blk_drew ?_ | refine blk_alloc ?_ _)); exact BK118.out⟩, ⟨by repeat (first | (with_reducible first | exact HB.out | apply below_alloc | apply pw_below_drewN | apply below_drew1 | refine below_set ?_ GE118.out) | exact HB.out)⟩⟩
  case round =>
    clear H'
    try clear c1
    try clear p2
    try clear hcz3_0
    try clear hcz3_1
    try clear hfz3_0
    try clear hfz3_1
    obtain ⟨x10_1, rfl, HA, HK1, BK118, HB⟩ := hrel
    cases gk with
    | zero => exact absurd HA.out (by simp [mrpdu_Good.l0])
    | succ k1 =>
      have H := HA.out
      clear HA
      simp only [mrpdu_Good.l0] at H
      by_cases c4 : x10_1 < (l0_0.length : Int)
      · rw [if_pos c4] at H
        have c4b0 : decide (x10_1 < (l0_0.length : Int)) = true := decide_eq_true c4
        clear c4
        by_cases c5 : 0 ≤ x10_1
        · rw [if_pos c5] at H
          have c5b0 : decide (0 ≤ x10_1) = true := decide_eq_true c5
          clear c5
          by_cases c6 : x10_1 < (l0_0.length : Int)
          · rw [if_pos c6] at H
            have c6b0 : decide (x10_1 < (l0_0.length : Int)) = true := decide_eq_true c6
            clear c6
            have HC7 := Aside0.mk H
            clear H
            have p119 : 0 ≤ (x10_1 : Int) := of_decide_eq_true (by first | (with_reducible assumption) | assumption)
            have q119 : x10_1 < (l0_0.length : Int) := of_decide_eq_true (by first | (with_reducible assumption) | assumption)
            obtain ⟨ad119, e119, hx119_0⟩ := Kd.at_int HR0_0.out x10_1 p119 q119
            cases e119
            (try replace hx119_0 := (HB.out.cell (World.block_lt_of_cell? w _ hx119_0)).trans hx119_0)
            replace p119 := eq_true p119
            replace q119 := eq_true q119
            go_upto_region 4 with (fail)
            go_cut [31] (fun v31 wc => ∃ (kq : Nat) (x31_6 : Bool), v31 = .bool x31_6 ∧ Aside0 (mrpdu_Good.j1 kq l0_0 (l0_0.length : Int) x10_1 x31_6 l0_0 l0_1 = some r) ∧ Aside0 (kq ≤ k1) ∧ Aside0 (wc.heap[gb118]? = some (.cells #[(.slice (some ad119) l0_0.length c0_0), (.slice A0_1 l0_1.length c0_1)] 25 (0, 0))) ∧ Aside0 (Below w.heap.size w wc))
            case first =>
              have H := HC7.out
              clear HC7
              replace H := Option.bind_eq_some_iff.mp H
              obtain ⟨t120, A80, H⟩ := H
              replace H : (if t120 = 0 then (mrpdu_Good.j1 k1 l0_0 (l0_0.length : Int) x10_1 true l0_0 l0_1) else (if x10_1 > 0 then (if 0 ≤ (wrap64 (x10_1 - 1)) then (if (wrap64 (x10_1 - 1)) < (l0_0.length : Int) then (mrpdu_Good.j1 k1 l0_0 (l0_0.length : Int) x10_1 (decide ((rd l0_0 (wrap64 (x10_1 - 1))) ≥ (rd l0_0 x10_1))) l0_0 l0_1) else (none)) else (none)) else (mrpdu_Good.j1 k1 l0_0 (l0_0.length : Int) x10_1 false l0_0 l0_1))) = some r := H
              have A8 := Aside0.mk A80
              clear A80
              by_cases c9 : t120 = 0
              · rw [if_pos c9] at H
                have c9b0 : (t120 == 0) = true := beq_iff_eq.mpr c9
                have c9b1 : (t120 != 0) = false := bne_eq_false_iff_eq.mpr c9
                clear c9
                (first | rw [c9b0] | (simp only [i64_w, i32_w]; rw [c9b0]) | skip)
                have H' := Aside0.mk H
                clear H
                go_wp2_with (first | ((with_reducible refine gate_callee (f := 26) rfl ?_); refine goesL_ (some 16) rfl rfl Try.func26 (by kernel_rfl) rfl #[.int .i64 (rd l0_0 x10_1)] rfl (by (try simp only [List.map_toArray, List.map_cons, List.map_nil]); first | done | rfl | (simp only [List.length_drop, List.length_take]; rfl) | (go_simp; first | done | (unfold wrap64; omega))) ?_; (with_reducible refine (mrpdu_size.calls (rd l0_0 x10_1) t120 _ A8.out).mono ?_); rintro e w' ⟨rfl, ⟨nd, rfl⟩⟩; refine ⟨_, rfl, ?_⟩))
                go_meet
                case rel => exact ⟨_, (true), (by first | rfl | (simp; done) | (simp [show ∀ l_ : List UInt8, (l_ != []) = !l_.isEmpty from fun l_ => by cases l_ <;> rfl]; done) | (simp [*]; done)), H', ⟨by have := HK1.out; first | omega | exact Nat.le_refl _⟩, ⟨by (with_reducible repeat (first | refine blk_drewN ?_ _ | refine blk_drew ?_ | refine blk_alloc ?_ _)); exact BK118.out⟩, ⟨by repeat (first | (with_reducible first | exact HB.out | apply below_alloc | apply pw_below_drewN | apply below_drew1 | refine below_set ?_ GE118.out) | exact HB.out)⟩⟩
              · rw [if_neg c9] at H
                have c9b0 : (t120 == 0) = false := beq_eq_false_iff_ne.mpr c9
                have c9b1 : (t120 != 0) = true := bne_iff_ne.mpr c9
                (first | rw [c9b0] | (simp only [i64_w, i32_w]; rw [c9b0]) | skip)
                by_cases c10 : x10_1 > 0
                · rw [if_pos c10] at H
                  have c10b0 : decide (0 < x10_1) = true := decide_eq_true c10
                  clear c10
                  obtain ⟨ji11, hji11⟩ : ∃ j_ : Int, (wrap64 (x10_1 - 1)) = j_ := ⟨_, rfl⟩
                  replace H : (if 0 ≤ (ji11) then (if (ji11) < (l0_0.length : Int) then (mrpdu_Good.j1 k1 l0_0 (l0_0.length : Int) x10_1 (decide ((rd l0_0 (ji11)) ≥ (rd l0_0 x10_1))) l0_0 l0_1) else (none)) else (none)) = some r := by first | (rw [hji11] at H; exact H) | (simp only [hji11] at H ⊢; exact H)
                  (try rw [hji11] at A8)
                  have hji11w : (IntKind.i64.wrap (x10_1 - 1)) = ji11 := (i64_w _).trans hji11
                  by_cases c12 : 0 ≤ (ji11)
                  · rw [if_pos c12] at H
                    have c12b0 : decide (0 ≤ (ji11)) = true := decide_eq_true c12
                    clear c12
                    by_cases c13 : (ji11) < (l0_0.length : Int)
                    · rw [if_pos c13] at H
                      have c13b0 : decide ((ji11) < (l0_0.length : Int)) = true := decide_eq_true c13
                      clear c13
                      have H' := Aside0.mk H
                      clear H
                      go_wp2_with (first | ((with_reducible refine gate_callee (f := 26) rfl ?_); refine goesL_ (some 16) rfl rfl Try.func26 (by kernel_rfl) rfl #[.int .i64 (rd l0_0 x10_1)] rfl (by (try simp only [List.map_toArray, List.map_cons, List.map_nil]); first | done | rfl | (simp only [List.length_drop, List.length_take]; rfl) | (go_simp; first | done | (unfold wrap64; omega))) ?_; (with_reducible refine (mrpdu_size.calls (rd l0_0 x10_1) t120 _ A8.out).mono ?_); rintro e w' ⟨rfl, ⟨nd, rfl⟩⟩; refine ⟨_, rfl, ?_⟩; have hcz14_0 : wr.cell? ⟨gb118, 0, none⟩ = some (.slice (some ad119) l0_0.length c0_0) := (blk_cell BK118.out 0).trans rfl; have hcz14_1 : wr.cell? ⟨gb118, 1, none⟩ = some (.slice A0_1 l0_1.length c0_1) := (blk_cell BK118.out 1).trans rfl; have hfz14_0 := blk_frozen BK118.out 0; have hfz14_1 := blk_frozen BK118.out 1; have p121 : 0 ≤ ((ji11) : Int) := of_decide_eq_true (by first | (with_reducible assumption) | assumption); have q121 : (ji11) < (l0_0.length : Int) := of_decide_eq_true (by first | (with_reducible assumption) | assumption); obtain ⟨ad121, e121, hx121_0⟩ := Kd.at_int HR0_0.out (ji11) p121 q121; obtain rfl : ad119 = ad121 := (by injection e121); (try replace hx121_0 := (HB.out.cell (World.block_lt_of_cell? w _ hx121_0)).trans hx121_0); replace p121 := eq_true p121; replace q121 := eq_true q121))
                      go_meet
                      case rel => exact ⟨_, (decide ((rd l0_0 (ji11)) ≥ (rd l0_0 x10_1))), (by first | rfl | (simp; done) | (simp only [← hji11] <;> (first | rfl | simp)) | (simp [*]; done)), H', ⟨by have := HK1.out; first | omega | exact Nat.le_refl _⟩, ⟨by (with_reducible repeat (first | refine blk_drewN ?_ _ | refine blk_drew ?_ | refine blk_alloc ?_ _)); exact BK118.out⟩, ⟨by repeat (first | (with_reducible first | exact HB.out | apply below_alloc | apply pw_below_drewN | apply below_drew1 | refine below_set ?_ GE118.out) | exact HB.out)⟩⟩
                    · rw [if_neg c13] at H
                      exact absurd H (by simp)
                  · rw [if_neg c12] at H
                    exact absurd H (by simp)
                · rw [if_neg c10] at H
                  have c10b0 : decide (0 < x10_1) = false := decide_eq_false c10
                  clear c10
                  have H' := Aside0.mk H
                  clear H
                  go_wp2_with (first | ((with_reducible refine gate_callee (f := 26) rfl ?_); refine goesL_ (some 16) rfl rfl Try.func26 (by kernel_rfl) rfl #[.int .i64 (rd l0_0 x10_1)] rfl (by (try simp only [List.map_toArray, List.map_cons, List.map_nil]); first | done | rfl | (simp only [List.length_drop, List.length_take]; rfl) | (go_simp; first | done | (unfold wrap64; omega))) ?_; (with_reducible refine (mrpdu_size.calls (rd l0_0 x10_1) t120 _ A8.out).mono ?_); rintro e w' ⟨rfl, ⟨nd, rfl⟩⟩; refine ⟨_, rfl, ?_⟩))
                  go_meet
                  case rel => exact ⟨_, (false), (by first | rfl | (simp; done) | (simp [show ∀ l_ : List UInt8, (l_ != []) = !l_.isEmpty from fun l_ => by cases l_ <;> rfl]; done) | (simp [*]; done)), H', ⟨by have := HK1.out; first | omega | exact Nat.le_refl _⟩, ⟨by (with_reducible repeat (first | refine blk_drewN ?_ _ | refine blk_drew ?_ | refine blk_alloc ?_ _)); exact BK118.out⟩, ⟨by repeat (first | (with_reducible first | exact HB.out | apply below_alloc | apply pw_below_drewN | apply below_drew1 | refine below_set ?_ GE118.out) | exact HB.out)⟩⟩
            case rest =>
              clear HC7
              try clear c1
              try clear p1
              try clear q1
              try clear hx1
              try clear c2
              try clear p2
              try clear c4
              try clear c4b0
              try clear c5
              try clear c5b0
              try clear c6
              try clear c6b0
              try clear p6
              try clear c9
              try clear c9b0
              try clear c9b1
              try clear c10
              try clear c10b0
              try clear p11
              try clear q11
              try clear hx11
              try clear c12
              try clear c12b0
              try clear p12
              try clear q12
              try clear hx12
              try clear c13
              try clear c13b0
              try clear hcz14_0
              try clear hcz14_1
              try clear hcz3_0
              try clear hcz3_1
              try clear hfz14_0
              try clear hfz14_1
              try clear hfz3_0
              try clear hfz3_1
              try clear hx119_0
              try clear hx121_0
              try clear p119
              try clear p121
              try clear p2
              try clear q119
              try clear q121
              obtain ⟨kq, x31_6, rfl, HA, HJ6, BK118, HB⟩ := hcut
              cases kq with
              | zero => exact absurd HA.out (by simp [mrpdu_Good.j1])
              | succ kj6 =>
                have H := HA.out
                clear HA
                simp only [mrpdu_Good.j1] at H
                by_cases c15 : x31_6 = true
                · subst c15
                  have H1 : (some false) = some r := by rw [if_pos rfl] at H; exact H
                  clear H
                  have H := H1
                  clear H1
                  obtain rfl := Option.some.inj H
                  go_wp2
                  go_ret
                  exact ⟨by first | rfl | (simp [show ∀ l_ : List UInt8, (l_ == []) = l_.isEmpty from fun l_ => by cases l_ <;> rfl]; done) | (simp [errW_none, errW_some] <;> rfl) | ((repeat rw [Int.tdiv_eq_ediv_of_nonneg (by omega)]); (repeat rw [Int.tmod_eq_emod_of_nonneg (by omega)]); first | rfl | (simp [errW_none, errW_some] <;> rfl)) | (simp [*, errW_none, errW_some] <;> rfl), by repeat (first | (with_reducible first | exact HB.out | apply below_alloc | apply pw_below_drewN | apply below_drew1 | refine below_set ?_ GE118.out) | exact HB.out)⟩
                · replace c15 := Bool.eq_false_iff.mpr c15
                  subst c15
                  have H1 : (mrpdu_Good.l0 kj6 l0_0 (l0_0.length : Int) (wrap64 (x10_1 + 1)) l0_0 l0_1) = some r := by rw [if_neg (show ¬ (false = true) by decide)] at H; exact H
                  clear H
                  have H := H1
                  clear H1
                  have H' := Aside0.mk H
                  clear H
                  go_wp2
                  go_roundg kj6
                  case measure => have := HK1.out; have := HJ6.out; omega
                  case rel => exact ⟨(wrap64 (x10_1 + 1)), (by first | rfl | (simp; done) | (simp [show ∀ l_ : List UInt8, (l_ != []) = !l_.isEmpty from fun l_ => by cases l_ <;> rfl]; done) | (simp [*]; done)), H', ⟨by have := HK1.out; have := HJ6.out; omega⟩, ⟨by (with_reducible repeat (first | refine blk_drewN ?_ _ | refine blk_drew ?_ | refine blk_alloc ?_ _)); exact BK118.out⟩, ⟨by repeat (first | (with_reducible first | exact HB.out | apply below_alloc | apply pw_below_drewN | apply below_drew1 | refine below_set ?_ GE118.out) | exact HB.out)⟩⟩
          · rw [if_neg c6] at H
            exact absurd H (by simp)
        · rw [if_neg c5] at H
          exact absurd H (by simp)
      · rw [if_neg c4] at H
        have c4b0 : decide (x10_1 < (l0_0.length : Int)) = false := decide_eq_false c4
        clear c4
        have H' := Aside0.mk H
        clear H
        have hcz16_0 : wr.cell? ⟨gb118, 0, none⟩ = some (.slice A0_0 l0_0.length c0_0) := (blk_cell BK118.out 0).trans rfl
        have hcz16_1 : wr.cell? ⟨gb118, 1, none⟩ = some (.slice A0_1 l0_1.length c0_1) := (blk_cell BK118.out 1).trans rfl
        have hfz16_0 := blk_frozen BK118.out 0
        have hfz16_1 := blk_frozen BK118.out 1
        go_wp2
        go_loopg [36] k1 (fun kq v36 w' => ∃ (x36_2 : Int), v36 = .int .i64 x36_2 ∧ Aside0 (mrpdu_Good.l1 kq l0_1 (l0_1.length : Int) x36_2 l0_0 l0_1 = some r) ∧ Aside0 (kq ≤ k1) ∧ Aside0 (w'.heap[gb118]? = some (.cells #[(.slice A0_0 l0_0.length c0_0), (.slice A0_1 l0_1.length c0_1)] 25 (0, 0))) ∧ Aside0 (Below w.heap.size w w'))
        case atStart => exact ⟨(0), (by first | rfl | (simp; done) | (simp [show ∀ l_ : List UInt8, (l_ != []) = !l_.isEmpty from fun l_ => by cases l_ <;> rfl]; done) | (simp [*]; done)), H', ⟨Nat.le_refl _⟩, ⟨by (with_reducible repeat (first | refine blk_drewN ?_ _ | refine blk_drew ?_ | refine blk_alloc ?_ _)); exact BK118.out⟩, ⟨by repeat (first | (with_reducible first | exact HB.out | apply below_alloc | apply pw_below_drewN | apply below_drew1 | refine below_set ?_ GE118.out) | exact HB.out)⟩⟩
        case round =>
          clear H'
          try clear c1
          try clear p1
          try clear q1
          try clear hx1
          try clear c2
          try clear p2
          try clear c4
          try clear c4b0
          try clear c5
          try clear c5b0
          try clear c6
          try clear c6b0
          try clear p6
          try clear c9
          try clear c9b0
          try clear c9b1
          try clear c10
          try clear c10b0
          try clear p11
          try clear q11
          try clear hx11
          try clear c12
          try clear c12b0
          try clear p12
          try clear q12
          try clear hx12
          try clear c13
          try clear c13b0
          try clear c15
          try clear hcz14_0
          try clear hcz14_1
          try clear hcz16_0
          try clear hcz16_1
          try clear hcz3_0
          try clear hcz3_1
          try clear hfz14_0
          try clear hfz14_1
          try clear hfz16_0
          try clear hfz16_1
          try clear hfz3_0
          try clear hfz3_1
          try clear hx119_0
          try clear hx121_0
          try clear p1
          try clear p11
          try clear p119
          try clear p12
          try clear p121
          try clear p2
          try clear p6
          try clear q1
          try clear q11
          try clear q119
          try clear q12
          try clear q121
          obtain ⟨x36_2, rfl, HA, HK2, BK118, HB⟩ := hrel
          cases gk with
          | zero => exact absurd HA.out (by simp [mrpdu_Good.l1])
          | succ k2 =>
            have H := HA.out
            clear HA
            simp only [mrpdu_Good.l1] at H
            by_cases c17 : x36_2 < (l0_1.length : Int)
            · rw [if_pos c17] at H
              have c17b0 : decide (x36_2 < (l0_1.length : Int)) = true := decide_eq_true c17
              clear c17
              by_cases c18 : 0 ≤ x36_2
              · rw [if_pos c18] at H
                have c18b0 : decide (0 ≤ x36_2) = true := decide_eq_true c18
                clear c18
                by_cases c19 : x36_2 < (l0_1.length : Int)
                · rw [if_pos c19] at H
                  have c19b0 : decide (x36_2 < (l0_1.length : Int)) = true := decide_eq_true c19
                  clear c19
                  have HC20 := Aside0.mk H
                  clear H
                  have p122 : 0 ≤ (x36_2 : Int) := of_decide_eq_true (by first | (with_reducible assumption) | assumption)
                  have q122 : x36_2 < (l0_1.length : Int) := of_decide_eq_true (by first | (with_reducible assumption) | assumption)
                  obtain ⟨ad122, e122, hx122_0, hx122_1, hx122_2, hx122_3⟩ := at_T43 HR0_1.out x36_2 p122 q122
                  cases e122
                  (try replace hx122_0 := (HB.out.cell (World.block_lt_of_cell? w _ hx122_0)).trans hx122_0)
                  (try replace hx122_1 := (HB.out.cell (World.block_lt_of_cell? w _ hx122_1)).trans hx122_1)
                  (try replace hx122_2 := (HB.out.cell (World.block_lt_of_cell? w _ hx122_2)).trans hx122_2)
                  (try replace hx122_3 := (HB.out.cell (World.block_lt_of_cell? w _ hx122_3)).trans hx122_3)
                  replace p122 := eq_true p122
                  replace q122 := eq_true q122
                  go_upto_region 10 with (first | ((with_reducible refine gate_dst (N := 6) rfl ?_); refine box_event ?hg (N := 6) ?hd (cs := #[.int .i64 0, .int .i64 0, .int .i64 0, .int .i64 0]) (t := 43) ?hr ?_; (case hd => rfl); (case hg => rfl); (case hr => first | (go_simp; done) | (go_simp; rfl)); intro gb123 hg w21 hbox hb; have n0_ := Aside0.mk (blk_below (g := gb118) (o := .cells #[.slice A0_0 l0_0.length c0_0, .slice (some ad122) l0_1.length c0_1] 25 (0, 0)) (by (with_reducible repeat (first | refine blk_drewN ?_ _ | refine blk_drew ?_ | refine blk_alloc ?_ _)); exact BK118.out) hb); have n1_ := Aside0.mk (below_step (by repeat (first | (with_reducible first | exact HB.out | apply below_alloc | apply pw_below_drewN | apply below_drew1 | refine below_set ?_ GE118.out) | exact HB.out)) hb); have n2_ := Aside0.mk (hbox); have n3_ := Aside0.mk ((by rw [hg]; exact (below_size (by repeat (first | (with_reducible first | exact HB.out | apply below_alloc | apply pw_below_drewN | apply below_drew1 | refine below_set ?_ GE118.out) | exact HB.out))) : w.heap.size ≤ gb123)); have n4_ := Aside0.mk ((by rw [hg]; exact (below_size (by repeat (first | (with_reducible first | exact HB.out | apply below_alloc | apply pw_below_drewN | apply below_drew1 | refine below_set ?_ GE118.out) | exact HB.out))) : w.heap.size ≤ gb123)); have n5_ := Aside0.mk ((by rw [hg]; exact Nat.ne_of_lt (blk_lt (g := gb118) (o := .cells #[.slice A0_0 l0_0.length c0_0, .slice (some ad122) l0_1.length c0_1] 25 (0, 0)) (by (with_reducible repeat (first | refine blk_drewN ?_ _ | refine blk_drew ?_ | refine blk_alloc ?_ _)); exact BK118.out)) : gb118 ≠ gb123)); have n6_ := Aside0.mk ((by rw [hg]; exact Nat.ne_of_gt (blk_lt (g := gb118) (o := .cells #[.slice A0_0 l0_0.length c0_0, .slice (some ad122) l0_1.length c0_1] 25 (0, 0)) (by (with_reducible repeat (first | refine blk_drewN ?_ _ | refine blk_drew ?_ | refine blk_alloc ?_ _)); exact BK118.out)) : gb123 ≠ gb118)); clear BK118; clear HB; have BK118 := n0_; have HB := n1_; have BK123 := n2_; have GW123 := n3_; have GE123 := n4_; have NB118_123 := n5_; have NB123_118 := n6_; clear n0_ n1_ n2_ n3_ n4_ n5_ n6_; clear hb hbox hg; have hnb22 := NB123_118.out; have hnc22 := NB118_123.out; have hcz23_0 : w21.cell? ⟨gb123, 0, none⟩ = some (.int .i64 0) := (blk_cell BK123.out 0).trans rfl; have hcz23_1 : w21.cell? ⟨gb123, 1, none⟩ = some (.int .i64 0) := (blk_cell BK123.out 1).trans rfl; have hcz23_2 : w21.cell? ⟨gb123, 2, none⟩ = some (.int .i64 0) := (blk_cell BK123.out 2).trans rfl; have hcz23_3 : w21.cell? ⟨gb123, 3, none⟩ = some (.int .i64 0) := (blk_cell BK123.out 3).trans rfl; have hfz23_0 := blk_frozen BK123.out 0; have hfz23_1 := blk_frozen BK123.out 1; have hfz23_2 := blk_frozen BK123.out 2; have hfz23_3 := blk_frozen BK123.out 3))
                  (try simp only [Act.put, List.setIfInBounds_toArray, List.set_cons_zero, List.set_cons_succ])
                  go_cut [60] (fun v60 wc => ∃ (kq : Nat) (x60_19 : Bool), v60 = .bool x60_19 ∧ Aside0 (mrpdu_Good.j3 kq l0_1 (l0_1.length : Int) x36_2 x60_19 l0_0 l0_1 = some r) ∧ Aside0 (kq ≤ k2) ∧ Aside0 (wc.heap[gb118]? = some (.cells #[(.slice A0_0 l0_0.length c0_0), (.slice (some ad122) l0_1.length c0_1)] 25 (0, 0))) ∧ Aside0 (wc.heap[gb123]? = some (.cells #[.int .i64 ((rd_T43 l0_1 x36_2).f0.f0), .int .i64 ((rd_T43 l0_1 x36_2).f0.f1), .int .i64 ((rd_T43 l0_1 x36_2).f1), .int .i64 ((rd_T43 l0_1 x36_2).f2)] 43 (0, 0))) ∧ Aside0 (Below w.heap.size w wc))
                  case first =>
                    have H := HC20.out
                    clear HC20
                    replace H := Option.bind_eq_some_iff.mp H
                    obtain ⟨t124, A240, H⟩ := H
                    replace H : (if t124 = true then (if x36_2 > 0 then (if 0 ≤ (wrap64 (x36_2 - 1)) then (if (wrap64 (x36_2 - 1)) < (l0_1.length : Int) then ((mrpdu_Compare.f k2 ((rd_T43 l0_1 (wrap64 (x36_2 - 1))).f0.f0) ((rd_T43 l0_1 (wrap64 (x36_2 - 1))).f0.f1) ((rd_T43 l0_1 x36_2).f0.f0) ((rd_T43 l0_1 x36_2).f0.f1)).bind fun t126 => (mrpdu_Good.j3 k2 l0_1 (l0_1.length : Int) x36_2 (decide (t126 ≥ 0)) l0_0 l0_1)) else (none)) else (none)) else (mrpdu_Good.j3 k2 l0_1 (l0_1.length : Int) x36_2 false l0_0 l0_1)) else (mrpdu_Good.j3 k2 l0_1 (l0_1.length : Int) x36_2 true l0_0 l0_1)) = some r := H
                    have A24 := Aside0.mk A240
                    clear A240
                    by_cases c25 : t124 = true
                    · subst c25
                      have H1 : (if x36_2 > 0 then (if 0 ≤ (wrap64 (x36_2 - 1)) then (if (wrap64 (x36_2 - 1)) < (l0_1.length : Int) then ((mrpdu_Compare.f k2 ((rd_T43 l0_1 (wrap64 (x36_2 - 1))).f0.f0) ((rd_T43 l0_1 (wrap64 (x36_2 - 1))).f0.f1) ((rd_T43 l0_1 x36_2).f0.f0) ((rd_T43 l0_1 x36_2).f0.f1)).bind fun t126 => (mrpdu_Good.j3 k2 l0_1 (l0_1.length : Int) x36_2 (decide (t126 ≥ 0)) l0_0 l0_1)) else (none)) else (none)) else (mrpdu_Good.j3 k2 l0_1 (l0_1.length : Int) x36_2 false l0_0 l0_1)) = some r := by rw [if_pos rfl] at H; exact H
                      clear H
                      have H := H1
                      clear H1
                      by_cases c26 : x36_2 > 0
                      · rw [if_pos c26] at H
                        have c26b0 : decide (0 < x36_2) = true := decide_eq_true c26
                        clear c26
                        (first | rw [c26b0] | (simp only [i64_w, i32_w]; rw [c26b0]) | skip)
                        obtain ⟨ji27, hji27⟩ : ∃ j_ : Int, (wrap64 (x36_2 - 1)) = j_ := ⟨_, rfl⟩
                        replace H : (if 0 ≤ (ji27) then (if (ji27) < (l0_1.length : Int) then ((mrpdu_Compare.f k2 ((rd_T43 l0_1 (ji27)).f0.f0) ((rd_T43 l0_1 (ji27)).f0.f1) ((rd_T43 l0_1 x36_2).f0.f0) ((rd_T43 l0_1 x36_2).f0.f1)).bind fun t126 => (mrpdu_Good.j3 k2 l0_1 (l0_1.length : Int) x36_2 (decide (t126 ≥ 0)) l0_0 l0_1)) else (none)) else (none)) = some r := by first | (rw [hji27] at H; exact H) | (simp only [hji27] at H ⊢; exact H)
                        (try rw [hji27] at A24)
                        have hji27w : (IntKind.i64.wrap (x36_2 - 1)) = ji27 := (i64_w _).trans hji27
                        by_cases c28 : 0 ≤ (ji27)
                        · rw [if_pos c28] at H
                          have c28b0 : decide (0 ≤ (ji27)) = true := decide_eq_true c28
                          clear c28
                          by_cases c29 : (ji27) < (l0_1.length : Int)
                          · rw [if_pos c29] at H
                            have c29b0 : decide ((ji27) < (l0_1.length : Int)) = true := decide_eq_true c29
                            clear c29
                            replace H := Option.bind_eq_some_iff.mp H
                            obtain ⟨t126, A300, H⟩ := H
                            replace H : (mrpdu_Good.j3 k2 l0_1 (l0_1.length : Int) x36_2 (decide (t126 ≥ 0)) l0_0 l0_1) = some r := H
                            have A30 := Aside0.mk A300
                            clear A300
                            have H' := Aside0.mk H
                            clear H
                            try go_wp2
                            have n0_ : Aside0 (((((w21.setCell ⟨gb123, 0, none⟩ (.int .i64 ((rd_T43 l0_1 x36_2).f0.f0))).setCell ⟨gb123, 1, none⟩ (.int .i64 ((rd_T43 l0_1 x36_2).f0.f1))).setCell ⟨gb123, 2, none⟩ (.int .i64 ((rd_T43 l0_1 x36_2).f1))).setCell ⟨gb123, 3, none⟩ (.int .i64 ((rd_T43 l0_1 x36_2).f2))).heap[gb118]? = some (.cells #[.slice A0_0 l0_0.length c0_0, .slice (some ad122) l0_1.length c0_1] 25 (0, 0))) := ⟨by (with_reducible repeat (first | refine blk_drewN ?_ _ | refine blk_drew ?_ | refine blk_alloc ?_ _)); refine blk_far ?_ NB118_123.out _; (with_reducible repeat (first | refine blk_drewN ?_ _ | refine blk_drew ?_ | refine blk_alloc ?_ _)); refine blk_far ?_ NB118_123.out _; (with_reducible repeat (first | refine blk_drewN ?_ _ | refine blk_drew ?_ | refine blk_alloc ?_ _)); refine blk_far ?_ NB118_123.out _; (with_reducible repeat (first | refine blk_drewN ?_ _ | refine blk_drew ?_ | refine blk_alloc ?_ _)); refine blk_far ?_ NB118_123.out _; (with_reducible repeat (first | refine blk_drewN ?_ _ | refine blk_drew ?_ | refine blk_alloc ?_ _)); exact BK118.out⟩
                            have n1_ : Aside0 (((((w21.setCell ⟨gb123, 0, none⟩ (.int .i64 ((rd_T43 l0_1 x36_2).f0.f0))).setCell ⟨gb123, 1, none⟩ (.int .i64 ((rd_T43 l0_1 x36_2).f0.f1))).setCell ⟨gb123, 2, none⟩ (.int .i64 ((rd_T43 l0_1 x36_2).f1))).setCell ⟨gb123, 3, none⟩ (.int .i64 ((rd_T43 l0_1 x36_2).f2))).heap[gb123]? = some (.cells #[.int .i64 ((rd_T43 l0_1 x36_2).f0.f0), .int .i64 ((rd_T43 l0_1 x36_2).f0.f1), .int .i64 ((rd_T43 l0_1 x36_2).f1), .int .i64 ((rd_T43 l0_1 x36_2).f2)] 43 (0, 0))) := ⟨by (with_reducible repeat (first | refine blk_drewN ?_ _ | refine blk_drew ?_ | refine blk_alloc ?_ _)); refine blk_put (cs := #[.int .i64 ((rd_T43 l0_1 x36_2).f0.f0), .int .i64 ((rd_T43 l0_1 x36_2).f0.f1), .int .i64 ((rd_T43 l0_1 x36_2).f1), .int .i64 0]) ?_ 3 _ rfl; (with_reducible repeat (first | refine blk_drewN ?_ _ | refine blk_drew ?_ | refine blk_alloc ?_ _)); refine blk_put (cs := #[.int .i64 ((rd_T43 l0_1 x36_2).f0.f0), .int .i64 ((rd_T43 l0_1 x36_2).f0.f1), .int .i64 0, .int .i64 0]) ?_ 2 _ rfl; (with_reducible repeat (first | refine blk_drewN ?_ _ | refine blk_drew ?_ | refine blk_alloc ?_ _)); refine blk_put (cs := #[.int .i64 ((rd_T43 l0_1 x36_2).f0.f0), .int .i64 0, .int .i64 0, .int .i64 0]) ?_ 1 _ rfl; (with_reducible repeat (first | refine blk_drewN ?_ _ | refine blk_drew ?_ | refine blk_alloc ?_ _)); refine blk_put (cs := #[.int .i64 0, .int .i64 0, .int .i64 0, .int .i64 0]) ?_ 0 _ rfl; (with_reducible repeat (first | refine blk_drewN ?_ _ | refine blk_drew ?_ | refine blk_alloc ?_ _)); exact BK123.out⟩
                            have n2_ : Aside0 (Below w.heap.size w ((((w21.setCell ⟨gb123, 0, none⟩ (.int .i64 ((rd_T43 l0_1 x36_2).f0.f0))).setCell ⟨gb123, 1, none⟩ (.int .i64 ((rd_T43 l0_1 x36_2).f0.f1))).setCell ⟨gb123, 2, none⟩ (.int .i64 ((rd_T43 l0_1 x36_2).f1))).setCell ⟨gb123, 3, none⟩ (.int .i64 ((rd_T43 l0_1 x36_2).f2)))) := ⟨by repeat (first | (with_reducible first | exact HB.out | apply below_alloc | apply pw_below_drewN | apply below_drew1 | refine below_set ?_ GE118.out | refine below_set ?_ GE123.out) | exact HB.out)⟩
                            (try clear BK118)
                            (try clear BK123)
                            (try clear HB)
                            generalize ((((w21.setCell ⟨gb123, 0, none⟩ (.int .i64 ((rd_T43 l0_1 x36_2).f0.f0))).setCell ⟨gb123, 1, none⟩ (.int .i64 ((rd_T43 l0_1 x36_2).f0.f1))).setCell ⟨gb123, 2, none⟩ (.int .i64 ((rd_T43 l0_1 x36_2).f1))).setCell ⟨gb123, 3, none⟩ (.int .i64 ((rd_T43 l0_1 x36_2).f2))) = w31 at n0_ n1_ n2_ ⊢
                            have BK118 := n0_
                            have BK123 := n1_
                            have HB := n2_
                            clear n0_ n1_ n2_
                            have n0_ := Aside0.mk (blk_drew BK118.out)
                            have n1_ := Aside0.mk (blk_drew BK123.out)
                            have n2_ := Aside0.mk (below_drew1 HB.out)
                            clear BK118
                            clear BK123
                            clear HB
                            have BK118 := n0_
                            have BK123 := n1_
                            have HB := n2_
                            clear n0_ n1_ n2_
                            have p125 : 0 ≤ ((ji27) : Int) := of_decide_eq_true (by first | (with_reducible assumption) | assumption)
                            have q125 : (ji27) < (l0_1.length : Int) := of_decide_eq_true (by first | (with_reducible assumption) | assumption)
                            obtain ⟨ad125, e125, hx125_0, hx125_1, hx125_2, hx125_3⟩ := at_T43 HR0_1.out (ji27) p125 q125
                            have hw125_3 := hx125_3
                            have hw125_2 := hx125_2
                            have hw125_1 := hx125_1
                            have hw125_0 := hx125_0
                            obtain rfl : ad122 = ad125 := (by injection e125)
                            (try replace hx125_0 := (HB.out.cell (World.block_lt_of_cell? w _ hx125_0)).trans hx125_0)
                            (try replace hx125_1 := (HB.out.cell (World.block_lt_of_cell? w _ hx125_1)).trans hx125_1)
                            (try replace hx125_2 := (HB.out.cell (World.block_lt_of_cell? w _ hx125_2)).trans hx125_2)
                            (try replace hx125_3 := (HB.out.cell (World.block_lt_of_cell? w _ hx125_3)).trans hx125_3)
                            replace p125 := eq_true p125
                            replace q125 := eq_true q125
                            refine start_ (n := 20) (S := fun w' => w'.cell? ⟨gb123, 0, none⟩ = some (.int .i64 ((rd_T43 l0_1 x36_2).f0.f0)) ∧ w'.cell? ⟨gb123, 1, none⟩ = some (.int .i64 ((rd_T43 l0_1 x36_2).f0.f1)) ∧ w'.cell? ⟨gb123, 2, none⟩ = some (.int .i64 ((rd_T43 l0_1 x36_2).f1)) ∧ w'.cell? ⟨gb123, 3, none⟩ = some (.int .i64 ((rd_T43 l0_1 x36_2).f2)) ∧ w'.cell? ⟨gb118, 0, none⟩ = some (.slice A0_0 l0_0.length c0_0) ∧ w'.cell? ⟨gb118, 1, none⟩ = some (.slice (some ad122) l0_1.length c0_1) ∧ w'.cell? (ad122.add (((ji27)).toNat * 4)) = some (.int .i64 ((rd_T43 l0_1 (ji27)).f0.f0)) ∧ w'.cell? ⟨(ad122.add (((ji27)).toNat * 4)).block, (ad122.add (((ji27)).toNat * 4)).off + 1, none⟩ = some (.int .i64 ((rd_T43 l0_1 (ji27)).f0.f1)) ∧ w'.cell? ⟨(ad122.add (((ji27)).toNat * 4)).block, (ad122.add (((ji27)).toNat * 4)).off + 2, none⟩ = some (.int .i64 ((rd_T43 l0_1 (ji27)).f1)) ∧ w'.cell? ⟨(ad122.add (((ji27)).toNat * 4)).block, (ad122.add (((ji27)).toNat * 4)).off + 3, none⟩ = some (.int .i64 ((rd_T43 l0_1 (ji27)).f2))) (ds := []) #[false, false, false, false, false, false, false, false, false, false, false, false, false, false, false, false, false, false, false, false] (by kernel_rfl) rfl rfl ⟨(blk_cell BK123.out 0).trans rfl, (blk_cell BK123.out 1).trans rfl, (blk_cell BK123.out 2).trans rfl, (blk_cell BK123.out 3).trans rfl, (blk_cell BK118.out 0).trans rfl, (blk_cell BK118.out 1).trans rfl, ((HB.out.cell (World.block_lt_of_cell? w _ hw125_0)).trans hw125_0), ((HB.out.cell (World.block_lt_of_cell? w _ hw125_1)).trans hw125_1), ((HB.out.cell (World.block_lt_of_cell? w _ hw125_2)).trans hw125_2), ((HB.out.cell (World.block_lt_of_cell? w _ hw125_3)).trans hw125_3)⟩ (fun hHeld => ?_); refine with_tabW mrpdu_Good.tab10 mrpdu_Good.bits10 (fun HT_ HW_ => ?_)
                            generalize w31.drew = w32 at BK118 BK123 HB hx125_0 hx125_1 hx125_2 hx125_3 hHeld ⊢
                            refine take_ (i := 0) (N := some 41) (v := ?_) (a' := ?_) #[true, false, false, false, false, false, false, false, false, false, false, false, false, false, false, false, false, false, false, false] rfl rfl (take_ofW HT_.out HW_.out (by kernel_rfl)) (fun _ _ _ h => h) (Or.inl ⟨by rfl, ?_⟩) hHeld ?_ ?_
                            rotate_left
                            · rintro w' ⟨s0, s1, s2, s3, s4, s5, s6, s7, s8, s9⟩
                              go_simp
                              with_reducible rfl
                            rotate_left
                            · simp only [Act.put, List.setIfInBounds_toArray, List.set_cons_zero, List.set_cons_succ, i64_w, i32_w]
                              rfl
                            refine one_ (i := 1) (N := some 42) #[true, true, false, false, false, false, false, false, false, false, false, false, false, false, false, false, false, false, false, false] rfl rfl (one_of HT_.out (by kernel_rfl)) (by decide) (fun K hK => ?_)
                            refine goes_ Try.func27 (by kernel_rfl) rfl #[.agg #[.int .i64 ((rd_T43 l0_1 x36_2).f0.f0), .int .i64 ((rd_T43 l0_1 x36_2).f0.f1), .int .i64 ((rd_T43 l0_1 x36_2).f1), .int .i64 ((rd_T43 l0_1 x36_2).f2)]] (by rfl) rfl rfl (by (try simp only [List.map_toArray, List.map_cons, List.map_nil]); first | done | rfl | (simp only [List.length_drop, List.length_take]; rfl)) ?_
                            with_reducible refine (mrpdu_word.calls ((rd_T43 l0_1 x36_2).f0.f0) ((rd_T43 l0_1 x36_2).f0.f1) ((rd_T43 l0_1 x36_2).f1) ((rd_T43 l0_1 x36_2).f2) true _ A24.out).mono ?_
                            rintro e w33 ⟨rfl, hb⟩
                            refine ⟨_, rfl, ?_⟩
                            have n0_ := Aside0.mk (blk_below (g := gb118) (o := .cells #[.slice A0_0 l0_0.length c0_0, .slice (some ad122) l0_1.length c0_1] 25 (0, 0)) (by (with_reducible repeat (first | refine blk_drewN ?_ _ | refine blk_drew ?_ | refine blk_alloc ?_ _)); exact BK118.out) hb)
                            have n1_ := Aside0.mk (blk_below (g := gb123) (o := .cells #[.int .i64 ((rd_T43 l0_1 x36_2).f0.f0), .int .i64 ((rd_T43 l0_1 x36_2).f0.f1), .int .i64 ((rd_T43 l0_1 x36_2).f1), .int .i64 ((rd_T43 l0_1 x36_2).f2)] 43 (0, 0)) (by (with_reducible repeat (first | refine blk_drewN ?_ _ | refine blk_drew ?_ | refine blk_alloc ?_ _)); exact BK123.out) hb)
                            have n2_ := Aside0.mk (below_step (by repeat (first | (with_reducible first | exact HB.out | apply below_alloc | apply pw_below_drewN | apply below_drew1 | refine below_set ?_ GE118.out | refine below_set ?_ GE123.out) | exact HB.out)) hb)
                            clear BK118
                            clear BK123
                            clear HB
                            have BK118 := n0_
                            have BK123 := n1_
                            have HB := n2_
                            clear n0_ n1_ n2_
                            (try clear hb)
                            (try clear hb2)
                            (try clear hk)
                            (try clear hi)
                            refine hK.out _ _ ⟨(blk_cell BK123.out 0).trans rfl, (blk_cell BK123.out 1).trans rfl, (blk_cell BK123.out 2).trans rfl, (blk_cell BK123.out 3).trans rfl, (blk_cell BK118.out 0).trans rfl, (blk_cell BK118.out 1).trans rfl, ((HB.out.cell (World.block_lt_of_cell? w _ hw125_0)).trans hw125_0), ((HB.out.cell (World.block_lt_of_cell? w _ hw125_1)).trans hw125_1), ((HB.out.cell (World.block_lt_of_cell? w _ hw125_2)).trans hw125_2), ((HB.out.cell (World.block_lt_of_cell? w _ hw125_3)).trans hw125_3)⟩ (fun hHeld => ?_)
                            clear hK K
                            refine norm_ (a' := ?_) ?_ ?_
                            rotate_left
                            · show Act.put _ (some 42) _ = _
                              simp only [Act.put, List.setIfInBounds_toArray, List.set_cons_zero, List.set_cons_succ, i64_w, i32_w]
                              rfl
                            refine pure_ (i := 2) (N := some 43) (v := ?_) (a' := ?_) #[true, true, true, false, false, false, false, false, false, false, false, false, false, false, false, false, false, false, false, false] rfl rfl (any_of HT_.out (by kernel_rfl)) (fun _ _ _ h => h) (Or.inl ⟨by rfl, ?_⟩) ?_ ?_
                            rotate_left
                            · intro w'
                              go_simp
                              with_reducible rfl
                            rotate_left
                            · simp only [Act.put, List.setIfInBounds_toArray, List.set_cons_zero, List.set_cons_succ, i64_w, i32_w]
                              rfl
                            refine pure_ (i := 3) (N := some 44) (v := ?_) (a' := ?_) #[true, true, true, true, false, false, false, false, false, false, false, false, false, false, false, false, false, false, false, false] rfl rfl (any_of HT_.out (by kernel_rfl)) (fun _ _ _ h => h) (Or.inl ⟨by rfl, ?_⟩) ?_ ?_
                            rotate_left
                            · intro w'
                              go_simp
                              with_reducible rfl
                            rotate_left
                            · simp only [Act.put, List.setIfInBounds_toArray, List.set_cons_zero, List.set_cons_succ, i64_w, i32_w]
                              rfl
                            refine pure_ (i := 4) (N := some 45) (v := ?_) (a' := ?_) #[true, true, true, true, true, false, false, false, false, false, false, false, false, false, false, false, false, false, false, false] rfl rfl (any_of HT_.out (by kernel_rfl)) (fun _ _ _ h => h) (Or.inl ⟨by rfl, ?_⟩) ?_ ?_
                            rotate_left
                            · intro w'
                              go_simp
                              with_reducible rfl
                            rotate_left
                            · simp only [Act.put, List.setIfInBounds_toArray, List.set_cons_zero, List.set_cons_succ, i64_w, i32_w]
                              rfl
                            refine pure_ (i := 5) (N := some 46) (v := ?_) (a' := ?_) #[true, true, true, true, true, true, false, false, false, false, false, false, false, false, false, false, false, false, false, false] rfl rfl (any_of HT_.out (by kernel_rfl)) (fun _ _ _ h => h) (Or.inl ⟨by rfl, ?_⟩) ?_ ?_
                            rotate_left
                            · intro w'
                              go_simp
                              with_reducible rfl
                            rotate_left
                            · simp only [Act.put, List.setIfInBounds_toArray, List.set_cons_zero, List.set_cons_succ, i64_w, i32_w]
                              rfl
                            refine pure_ (i := 6) (N := some 47) (v := ?_) (a' := ?_) #[true, true, true, true, true, true, true, false, false, false, false, false, false, false, false, false, false, false, false, false] rfl rfl (any_of HT_.out (by kernel_rfl)) (fun _ _ _ h => h) (Or.inl ⟨by rfl, ?_⟩) ?_ ?_
                            rotate_left
                            · intro w'
                              go_simp
                              with_reducible rfl
                            rotate_left
                            · simp only [Act.put, List.setIfInBounds_toArray, List.set_cons_zero, List.set_cons_succ, i64_w, i32_w]
                              rfl
                            refine pure_ (i := 7) (N := some 48) (v := ?_) (a' := ?_) #[true, true, true, true, true, true, true, true, false, false, false, false, false, false, false, false, false, false, false, false] rfl rfl (any_of HT_.out (by kernel_rfl)) (fun _ _ _ h => h) (Or.inl ⟨by rfl, ?_⟩) ?_ ?_
                            rotate_left
                            · intro w'
                              go_simp
                              with_reducible rfl
                            rotate_left
                            · simp only [Act.put, List.setIfInBounds_toArray, List.set_cons_zero, List.set_cons_succ, i64_w, i32_w]
                              rfl
                            refine pure_ (i := 9) (N := some 50) (v := ?_) (a' := ?_) #[true, true, true, true, true, true, true, true, false, true, false, false, false, false, false, false, false, false, false, false] rfl rfl (any_of HT_.out (by kernel_rfl)) (fun _ _ _ h => h) (Or.inl ⟨by rfl, ?_⟩) ?_ ?_
                            rotate_left
                            · intro w'
                              go_simp
                              with_reducible rfl
                            rotate_left
                            · simp only [Act.put, List.setIfInBounds_toArray, List.set_cons_zero, List.set_cons_succ, i64_w, i32_w]
                              rfl
                            refine pure_ (i := 10) (N := some 51) (v := ?_) (a' := ?_) #[true, true, true, true, true, true, true, true, false, true, true, false, false, false, false, false, false, false, false, false] rfl rfl (any_of HT_.out (by kernel_rfl)) (fun _ _ _ h => h) (Or.inl ⟨by rfl, ?_⟩) ?_ ?_
                            rotate_left
                            · intro w'
                              go_simp
                              with_reducible rfl
                            rotate_left
                            · simp only [Act.put, List.setIfInBounds_toArray, List.set_cons_zero, List.set_cons_succ, i64_w, i32_w]
                              rfl
                            refine pure_ (i := 14) (N := some 55) (v := ?_) (a' := ?_) #[true, true, true, true, true, true, true, true, false, true, true, false, false, false, true, false, false, false, false, false] rfl rfl (any_of HT_.out (by kernel_rfl)) (fun _ _ _ h => h) (Or.inl ⟨by rfl, ?_⟩) ?_ ?_
                            rotate_left
                            · intro w'
                              go_simp
                              with_reducible rfl
                            rotate_left
                            · simp only [Act.put, List.setIfInBounds_toArray, List.set_cons_zero, List.set_cons_succ, i64_w, i32_w]
                              rfl
                            refine take_ (i := 8) (N := some 49) (v := ?_) (a' := ?_) #[true, true, true, true, true, true, true, true, true, true, true, false, false, false, true, false, false, false, false, false] rfl rfl (take_ofW HT_.out HW_.out (by kernel_rfl)) (fun _ _ _ h => h) (Or.inl ⟨by rfl, ?_⟩) hHeld ?_ ?_
                            rotate_left
                            · rintro w' ⟨s0, s1, s2, s3, s4, s5, s6, s7, s8, s9⟩
                              go_simp
                              with_reducible rfl
                            rotate_left
                            · simp only [Act.put, List.setIfInBounds_toArray, List.set_cons_zero, List.set_cons_succ, i64_w, i32_w]
                              rfl
                            refine pure_ (i := 11) (N := some 52) (v := ?_) (a' := ?_) #[true, true, true, true, true, true, true, true, true, true, true, true, false, false, true, false, false, false, false, false] rfl rfl (any_of HT_.out (by kernel_rfl)) (fun _ _ _ h => h) (Or.inl ⟨by rfl, ?_⟩) ?_ ?_
                            rotate_left
                            · intro w'
                              go_simp
                              with_reducible rfl
                            rotate_left
                            · simp only [Act.put, List.setIfInBounds_toArray, List.set_cons_zero, List.set_cons_succ, i64_w, i32_w]
                              rfl
                            refine pure_ (i := 12) (N := some 53) (v := ?_) (a' := ?_) #[true, true, true, true, true, true, true, true, true, true, true, true, true, false, true, false, false, false, false, false] rfl rfl (any_of HT_.out (by kernel_rfl)) (fun _ _ _ h => h) (Or.inl ⟨by rfl, ?_⟩) ?_ ?_
                            rotate_left
                            · intro w'
                              go_simp
                              with_reducible rfl
                            rotate_left
                            · simp only [Act.put, List.setIfInBounds_toArray, List.set_cons_zero, List.set_cons_succ, i64_w, i32_w]
                              rfl
                            refine take_ (i := 13) (N := some 54) (v := ?_) (a' := ?_) #[true, true, true, true, true, true, true, true, true, true, true, true, true, true, true, false, false, false, false, false] rfl rfl (take_ofW HT_.out HW_.out (by kernel_rfl)) (fun _ _ _ h => h) (Or.inl ⟨by rfl, ?_⟩) hHeld ?_ ?_
                            rotate_left
                            · rintro w' ⟨s0, s1, s2, s3, s4, s5, s6, s7, s8, s9⟩
                              go_simp
                              with_reducible rfl
                            rotate_left
                            · simp only [Act.put, List.setIfInBounds_toArray, List.set_cons_zero, List.set_cons_succ, i64_w, i32_w]
                              rfl
                            refine take_ (i := 15) (N := some 56) (v := ?_) (a' := ?_) #[true, true, true, true, true, true, true, true, true, true, true, true, true, true, true, true, false, false, false, false] rfl rfl (take_ofW HT_.out HW_.out (by kernel_rfl)) (fun _ _ _ h => h) (Or.inl ⟨by rfl, ?_⟩) hHeld ?_ ?_
                            rotate_left
                            · rintro w' ⟨s0, s1, s2, s3, s4, s5, s6, s7, s8, s9⟩
                              go_simp
                              with_reducible rfl
                            rotate_left
                            · simp only [Act.put, List.setIfInBounds_toArray, List.set_cons_zero, List.set_cons_succ, i64_w, i32_w]
                              rfl
                            refine one_ (i := 16) (N := some 57) #[true, true, true, true, true, true, true, true, true, true, true, true, true, true, true, true, true, false, false, false] rfl rfl (one_of HT_.out (by kernel_rfl)) (by decide) (fun K hK => ?_)
                            refine goes_ Try.func17 (by kernel_rfl) rfl #[.agg #[.int .i64 ((rd_T43 l0_1 (ji27)).f0.f0), .int .i64 ((rd_T43 l0_1 (ji27)).f0.f1)], .agg #[.int .i64 ((rd_T43 l0_1 x36_2).f0.f0), .int .i64 ((rd_T43 l0_1 x36_2).f0.f1)]] (by rfl) rfl rfl (by (try simp only [List.map_toArray, List.map_cons, List.map_nil]); first | done | (simp only [hji27]; rfl) | rfl | (simp only [List.length_drop, List.length_take]; rfl)) ?_
                            with_reducible refine (mrpdu_Compare.calls k2 ((rd_T43 l0_1 (ji27)).f0.f0) ((rd_T43 l0_1 (ji27)).f0.f1) ((rd_T43 l0_1 x36_2).f0.f0) ((rd_T43 l0_1 x36_2).f0.f1) t126 _ A30.out).mono ?_
                            rintro e w34 ⟨rfl, hb⟩
                            refine ⟨_, rfl, ?_⟩
                            have n0_ := Aside0.mk (blk_below (g := gb118) (o := .cells #[.slice A0_0 l0_0.length c0_0, .slice (some ad122) l0_1.length c0_1] 25 (0, 0)) (by (with_reducible repeat (first | refine blk_drewN ?_ _ | refine blk_drew ?_ | refine blk_alloc ?_ _)); exact BK118.out) hb)
                            have n1_ := Aside0.mk (blk_below (g := gb123) (o := .cells #[.int .i64 ((rd_T43 l0_1 x36_2).f0.f0), .int .i64 ((rd_T43 l0_1 x36_2).f0.f1), .int .i64 ((rd_T43 l0_1 x36_2).f1), .int .i64 ((rd_T43 l0_1 x36_2).f2)] 43 (0, 0)) (by (with_reducible repeat (first | refine blk_drewN ?_ _ | refine blk_drew ?_ | refine blk_alloc ?_ _)); exact BK123.out) hb)
                            have n2_ := Aside0.mk (below_step (by repeat (first | (with_reducible first | exact HB.out | apply below_alloc | apply pw_below_drewN | apply below_drew1 | refine below_set ?_ GE118.out | refine below_set ?_ GE123.out) | exact HB.out)) hb)
                            clear BK118
                            clear BK123
                            clear HB
                            have BK118 := n0_
                            have BK123 := n1_
                            have HB := n2_
                            clear n0_ n1_ n2_
                            (try clear hb)
                            (try clear hb2)
                            (try clear hk)
                            (try clear hi)
                            refine hK.out _ _ ⟨(blk_cell BK123.out 0).trans rfl, (blk_cell BK123.out 1).trans rfl, (blk_cell BK123.out 2).trans rfl, (blk_cell BK123.out 3).trans rfl, (blk_cell BK118.out 0).trans rfl, (blk_cell BK118.out 1).trans rfl, ((HB.out.cell (World.block_lt_of_cell? w _ hw125_0)).trans hw125_0), ((HB.out.cell (World.block_lt_of_cell? w _ hw125_1)).trans hw125_1), ((HB.out.cell (World.block_lt_of_cell? w _ hw125_2)).trans hw125_2), ((HB.out.cell (World.block_lt_of_cell? w _ hw125_3)).trans hw125_3)⟩ (fun hHeld => ?_)
                            clear hK K
                            refine norm_ (a' := ?_) ?_ ?_
                            rotate_left
                            · show Act.put _ (some 57) _ = _
                              simp only [Act.put, List.setIfInBounds_toArray, List.set_cons_zero, List.set_cons_succ, i64_w, i32_w]
                              rfl
                            refine pure_ (i := 17) (N := some 58) (v := ?_) (a' := ?_) #[true, true, true, true, true, true, true, true, true, true, true, true, true, true, true, true, true, true, false, false] rfl rfl (any_of HT_.out (by kernel_rfl)) (fun _ _ _ h => h) (Or.inl ⟨by rfl, ?_⟩) ?_ ?_
                            rotate_left
                            · intro w'
                              go_simp
                              with_reducible rfl
                            rotate_left
                            · simp only [Act.put, List.setIfInBounds_toArray, List.set_cons_zero, List.set_cons_succ, i64_w, i32_w]
                              rfl
                            refine pure_ (i := 18) (N := some 59) (v := ?_) (a' := ?_) #[true, true, true, true, true, true, true, true, true, true, true, true, true, true, true, true, true, true, true, false] rfl rfl (any_of HT_.out (by kernel_rfl)) (fun _ _ _ h => h) (Or.inl ⟨by rfl, ?_⟩) ?_ ?_
                            rotate_left
                            · intro w'
                              go_simp
                              with_reducible rfl
                            rotate_left
                            · simp only [Act.put, List.setIfInBounds_toArray, List.set_cons_zero, List.set_cons_succ, i64_w, i32_w]
                              rfl
                            refine pure_ (i := 19) (N := some 60) (v := ?_) (a' := ?_) #[true, true, true, true, true, true, true, true, true, true, true, true, true, true, true, true, true, true, true, true] rfl rfl (any_of HT_.out (by kernel_rfl)) (fun _ _ _ h => h) (Or.inl ⟨by rfl, ?_⟩) ?_ ?_
                            rotate_left
                            · intro w'
                              go_simp
                              with_reducible rfl
                            rotate_left
                            · simp only [Act.put, List.setIfInBounds_toArray, List.set_cons_zero, List.set_cons_succ, i64_w, i32_w]
                              rfl
                            refine done_ (done_of HT_.out (by kernel_rfl)) ?_
                            try go_wp2
                            go_meet
                            case rel => exact ⟨_, (decide (t126 ≥ 0)), (by first | rfl | (simp; done) | (simp [show ∀ l_ : List UInt8, (l_ != []) = !l_.isEmpty from fun l_ => by cases l_ <;> rfl]; done) | (simp [*]; done)), H', ⟨by have := HK1.out; have := HK2.out; first | omega | exact Nat.le_refl _⟩, ⟨by (with_reducible repeat (first | refine blk_drewN ?_ _ | refine blk_drew ?_ | refine blk_alloc ?_ _)); exact BK118.out⟩, ⟨by (with_reducible repeat (first | refine blk_drewN ?_ _ | refine blk_drew ?_ | refine blk_alloc ?_ _)); exact BK123.out⟩, ⟨by repeat (first | (with_reducible first | exact HB.out | apply below_alloc | apply pw_below_drewN | apply below_drew1 | refine below_set ?_ GE118.out | refine below_set ?_ GE123.out) | exact HB.out)⟩⟩
                          · rw [if_neg c29] at H
                            exact absurd H (by simp)
                        · rw [if_neg c28] at H
                          exact absurd H (by simp)
                      · rw [if_neg c26] at H
                        have c26b0 : decide (0 < x36_2) = false := decide_eq_false c26
                        clear c26
                        (first | rw [c26b0] | (simp only [i64_w, i32_w]; rw [c26b0]) | skip)
                        have H' := Aside0.mk H
                        clear H
                        try go_wp2
                        have n0_ : Aside0 (((((w21.setCell ⟨gb123, 0, none⟩ (.int .i64 ((rd_T43 l0_1 x36_2).f0.f0))).setCell ⟨gb123, 1, none⟩ (.int .i64 ((rd_T43 l0_1 x36_2).f0.f1))).setCell ⟨gb123, 2, none⟩ (.int .i64 ((rd_T43 l0_1 x36_2).f1))).setCell ⟨gb123, 3, none⟩ (.int .i64 ((rd_T43 l0_1 x36_2).f2))).heap[gb118]? = some (.cells #[.slice A0_0 l0_0.length c0_0, .slice (some ad122) l0_1.length c0_1] 25 (0, 0))) := ⟨by (with_reducible repeat (first | refine blk_drewN ?_ _ | refine blk_drew ?_ | refine blk_alloc ?_ _)); refine blk_far ?_ NB118_123.out _; (with_reducible repeat (first | refine blk_drewN ?_ _ | refine blk_drew ?_ | refine blk_alloc ?_ _)); refine blk_far ?_ NB118_123.out _; (with_reducible repeat (first | refine blk_drewN ?_ _ | refine blk_drew ?_ | refine blk_alloc ?_ _)); refine blk_far ?_ NB118_123.out _; (with_reducible repeat (first | refine blk_drewN ?_ _ | refine blk_drew ?_ | refine blk_alloc ?_ _)); refine blk_far ?_ NB118_123.out _; (with_reducible repeat (first | refine blk_drewN ?_ _ | refine blk_drew ?_ | refine blk_alloc ?_ _)); exact BK118.out⟩
                        have n1_ : Aside0 (((((w21.setCell ⟨gb123, 0, none⟩ (.int .i64 ((rd_T43 l0_1 x36_2).f0.f0))).setCell ⟨gb123, 1, none⟩ (.int .i64 ((rd_T43 l0_1 x36_2).f0.f1))).setCell ⟨gb123, 2, none⟩ (.int .i64 ((rd_T43 l0_1 x36_2).f1))).setCell ⟨gb123, 3, none⟩ (.int .i64 ((rd_T43 l0_1 x36_2).f2))).heap[gb123]? = some (.cells #[.int .i64 ((rd_T43 l0_1 x36_2).f0.f0), .int .i64 ((rd_T43 l0_1 x36_2).f0.f1), .int .i64 ((rd_T43 l0_1 x36_2).f1), .int .i64 ((rd_T43 l0_1 x36_2).f2)] 43 (0, 0))) := ⟨by (with_reducible repeat (first | refine blk_drewN ?_ _ | refine blk_drew ?_ | refine blk_alloc ?_ _)); refine blk_put (cs := #[.int .i64 ((rd_T43 l0_1 x36_2).f0.f0), .int .i64 ((rd_T43 l0_1 x36_2).f0.f1), .int .i64 ((rd_T43 l0_1 x36_2).f1), .int .i64 0]) ?_ 3 _ rfl; (with_reducible repeat (first | refine blk_drewN ?_ _ | refine blk_drew ?_ | refine blk_alloc ?_ _)); refine blk_put (cs := #[.int .i64 ((rd_T43 l0_1 x36_2).f0.f0), .int .i64 ((rd_T43 l0_1 x36_2).f0.f1), .int .i64 0, .int .i64 0]) ?_ 2 _ rfl; (with_reducible repeat (first | refine blk_drewN ?_ _ | refine blk_drew ?_ | refine blk_alloc ?_ _)); refine blk_put (cs := #[.int .i64 ((rd_T43 l0_1 x36_2).f0.f0), .int .i64 0, .int .i64 0, .int .i64 0]) ?_ 1 _ rfl; (with_reducible repeat (first | refine blk_drewN ?_ _ | refine blk_drew ?_ | refine blk_alloc ?_ _)); refine blk_put (cs := #[.int .i64 0, .int .i64 0, .int .i64 0, .int .i64 0]) ?_ 0 _ rfl; (with_reducible repeat (first | refine blk_drewN ?_ _ | refine blk_drew ?_ | refine blk_alloc ?_ _)); exact BK123.out⟩
                        have n2_ : Aside0 (Below w.heap.size w ((((w21.setCell ⟨gb123, 0, none⟩ (.int .i64 ((rd_T43 l0_1 x36_2).f0.f0))).setCell ⟨gb123, 1, none⟩ (.int .i64 ((rd_T43 l0_1 x36_2).f0.f1))).setCell ⟨gb123, 2, none⟩ (.int .i64 ((rd_T43 l0_1 x36_2).f1))).setCell ⟨gb123, 3, none⟩ (.int .i64 ((rd_T43 l0_1 x36_2).f2)))) := ⟨by repeat (first | (with_reducible first | exact HB.out | apply below_alloc | apply pw_below_drewN | apply below_drew1 | refine below_set ?_ GE118.out | refine below_set ?_ GE123.out) | exact HB.out)⟩
                        (try clear BK118)
                        (try clear BK123)
                        (try clear HB)
                        generalize ((((w21.setCell ⟨gb123, 0, none⟩ (.int .i64 ((rd_T43 l0_1 x36_2).f0.f0))).setCell ⟨gb123, 1, none⟩ (.int .i64 ((rd_T43 l0_1 x36_2).f0.f1))).setCell ⟨gb123, 2, none⟩ (.int .i64 ((rd_T43 l0_1 x36_2).f1))).setCell ⟨gb123, 3, none⟩ (.int .i64 ((rd_T43 l0_1 x36_2).f2))) = w35 at n0_ n1_ n2_ ⊢
                        have BK118 := n0_
                        have BK123 := n1_
                        have HB := n2_
                        clear n0_ n1_ n2_
                        have n0_ := Aside0.mk (blk_drew BK118.out)
                        have n1_ := Aside0.mk (blk_drew BK123.out)
                        have n2_ := Aside0.mk (below_drew1 HB.out)
                        clear BK118
                        clear BK123
                        clear HB
                        have BK118 := n0_
                        have BK123 := n1_
                        have HB := n2_
                        clear n0_ n1_ n2_
                        refine start_ (n := 20) (S := fun w' => w'.cell? ⟨gb123, 0, none⟩ = some (.int .i64 ((rd_T43 l0_1 x36_2).f0.f0)) ∧ w'.cell? ⟨gb123, 1, none⟩ = some (.int .i64 ((rd_T43 l0_1 x36_2).f0.f1)) ∧ w'.cell? ⟨gb123, 2, none⟩ = some (.int .i64 ((rd_T43 l0_1 x36_2).f1)) ∧ w'.cell? ⟨gb123, 3, none⟩ = some (.int .i64 ((rd_T43 l0_1 x36_2).f2))) (ds := []) #[false, false, false, false, false, false, false, false, false, false, false, false, false, false, false, false, false, false, false, false] (by kernel_rfl) rfl rfl ⟨(blk_cell BK123.out 0).trans rfl, (blk_cell BK123.out 1).trans rfl, (blk_cell BK123.out 2).trans rfl, (blk_cell BK123.out 3).trans rfl⟩ (fun hHeld => ?_); refine with_tabW mrpdu_Good.tab10 mrpdu_Good.bits10 (fun HT_ HW_ => ?_)
                        generalize w35.drew = w36 at BK118 BK123 HB hHeld ⊢
                        refine take_ (i := 0) (N := some 41) (v := ?_) (a' := ?_) #[true, false, false, false, false, false, false, false, false, false, false, false, false, false, false, false, false, false, false, false] rfl rfl (take_ofW HT_.out HW_.out (by kernel_rfl)) (fun _ _ _ h => h) (Or.inl ⟨by rfl, ?_⟩) hHeld ?_ ?_
                        rotate_left
                        · rintro w' ⟨s0, s1, s2, s3⟩
                          go_simp
                          with_reducible rfl
                        rotate_left
                        · simp only [Act.put, List.setIfInBounds_toArray, List.set_cons_zero, List.set_cons_succ, i64_w, i32_w]
                          rfl
                        refine one_ (i := 1) (N := some 42) #[true, true, false, false, false, false, false, false, false, false, false, false, false, false, false, false, false, false, false, false] rfl rfl (one_of HT_.out (by kernel_rfl)) (by decide) (fun K hK => ?_)
                        refine goes_ Try.func27 (by kernel_rfl) rfl #[.agg #[.int .i64 ((rd_T43 l0_1 x36_2).f0.f0), .int .i64 ((rd_T43 l0_1 x36_2).f0.f1), .int .i64 ((rd_T43 l0_1 x36_2).f1), .int .i64 ((rd_T43 l0_1 x36_2).f2)]] (by rfl) rfl rfl (by (try simp only [List.map_toArray, List.map_cons, List.map_nil]); first | done | rfl | (simp only [List.length_drop, List.length_take]; rfl)) ?_
                        with_reducible refine (mrpdu_word.calls ((rd_T43 l0_1 x36_2).f0.f0) ((rd_T43 l0_1 x36_2).f0.f1) ((rd_T43 l0_1 x36_2).f1) ((rd_T43 l0_1 x36_2).f2) true _ A24.out).mono ?_
                        rintro e w37 ⟨rfl, hb⟩
                        refine ⟨_, rfl, ?_⟩
                        have n0_ := Aside0.mk (blk_below (g := gb118) (o := .cells #[.slice A0_0 l0_0.length c0_0, .slice (some ad122) l0_1.length c0_1] 25 (0, 0)) (by (with_reducible repeat (first | refine blk_drewN ?_ _ | refine blk_drew ?_ | refine blk_alloc ?_ _)); exact BK118.out) hb)
                        have n1_ := Aside0.mk (blk_below (g := gb123) (o := .cells #[.int .i64 ((rd_T43 l0_1 x36_2).f0.f0), .int .i64 ((rd_T43 l0_1 x36_2).f0.f1), .int .i64 ((rd_T43 l0_1 x36_2).f1), .int .i64 ((rd_T43 l0_1 x36_2).f2)] 43 (0, 0)) (by (with_reducible repeat (first | refine blk_drewN ?_ _ | refine blk_drew ?_ | refine blk_alloc ?_ _)); exact BK123.out) hb)
                        have n2_ := Aside0.mk (below_step (by repeat (first | (with_reducible first | exact HB.out | apply below_alloc | apply pw_below_drewN | apply below_drew1 | refine below_set ?_ GE118.out | refine below_set ?_ GE123.out) | exact HB.out)) hb)
                        clear BK118
                        clear BK123
                        clear HB
                        have BK118 := n0_
                        have BK123 := n1_
                        have HB := n2_
                        clear n0_ n1_ n2_
                        (try clear hb)
                        (try clear hb2)
                        (try clear hk)
                        (try clear hi)
                        refine hK.out _ _ ⟨(blk_cell BK123.out 0).trans rfl, (blk_cell BK123.out 1).trans rfl, (blk_cell BK123.out 2).trans rfl, (blk_cell BK123.out 3).trans rfl⟩ (fun hHeld => ?_)
                        clear hK K
                        refine norm_ (a' := ?_) ?_ ?_
                        rotate_left
                        · show Act.put _ (some 42) _ = _
                          simp only [Act.put, List.setIfInBounds_toArray, List.set_cons_zero, List.set_cons_succ, i64_w, i32_w]
                          rfl
                        refine pure_ (i := 2) (N := some 43) (v := ?_) (a' := ?_) #[true, true, true, false, false, false, false, false, false, false, false, false, false, false, false, false, false, false, false, false] rfl rfl (any_of HT_.out (by kernel_rfl)) (fun _ _ _ h => h) (Or.inl ⟨by rfl, ?_⟩) ?_ ?_
                        rotate_left
                        · intro w'
                          go_simp
                          with_reducible rfl
                        rotate_left
                        · simp only [Act.put, List.setIfInBounds_toArray, List.set_cons_zero, List.set_cons_succ, i64_w, i32_w]
                          rfl
                        refine pure_ (i := 3) (N := some 44) (v := ?_) (a' := ?_) #[true, true, true, true, false, false, false, false, false, false, false, false, false, false, false, false, false, false, false, false] rfl rfl (any_of HT_.out (by kernel_rfl)) (fun _ _ _ h => h) (Or.inl ⟨by rfl, ?_⟩) ?_ ?_
                        rotate_left
                        · intro w'
                          go_simp
                          with_reducible rfl
                        rotate_left
                        · simp only [Act.put, List.setIfInBounds_toArray, List.set_cons_zero, List.set_cons_succ, i64_w, i32_w]
                          rfl
                        refine pure_ (i := 4) (N := some 45) (v := ?_) (a' := ?_) #[true, true, true, true, true, false, false, false, false, false, false, false, false, false, false, false, false, false, false, false] rfl rfl (any_of HT_.out (by kernel_rfl)) (fun _ _ _ h => h) (Or.inl ⟨by rfl, ?_⟩) ?_ ?_
                        rotate_left
                        · intro w'
                          go_simp
                          with_reducible rfl
                        rotate_left
                        · simp only [Act.put, List.setIfInBounds_toArray, List.set_cons_zero, List.set_cons_succ, i64_w, i32_w]
                          rfl
                        refine pure_ (i := 5) (N := some 46) (v := ?_) (a' := ?_) #[true, true, true, true, true, true, false, false, false, false, false, false, false, false, false, false, false, false, false, false] rfl rfl (any_of HT_.out (by kernel_rfl)) (fun _ _ _ h => h) (Or.inl ⟨by rfl, ?_⟩) ?_ ?_
                        rotate_left
                        · intro w'
                          go_simp
                          with_reducible rfl
                        rotate_left
                        · simp only [Act.put, List.setIfInBounds_toArray, List.set_cons_zero, List.set_cons_succ, i64_w, i32_w]
                          rfl
                        refine pure_ (i := 6) (N := some 47) (v := ?_) (a' := ?_) #[true, true, true, true, true, true, true, false, false, false, false, false, false, false, false, false, false, false, false, false] rfl rfl (any_of HT_.out (by kernel_rfl)) (fun _ _ _ h => h) (Or.inl ⟨by rfl, ?_⟩) ?_ ?_
                        rotate_left
                        · intro w'
                          go_simp
                          with_reducible rfl
                        rotate_left
                        · simp only [Act.put, List.setIfInBounds_toArray, List.set_cons_zero, List.set_cons_succ, i64_w, i32_w]
                          rfl
                        refine pure_ (i := 7) (N := some 48) (v := undef) (a' := ?_) #[true, true, true, true, true, true, true, true, false, false, false, false, false, false, false, false, false, false, false, false] rfl rfl (any_of HT_.out (by kernel_rfl)) (fun _ _ _ h => h) (Or.inr ⟨by rfl, rfl⟩) ?_ ?_
                        rotate_left
                        · simp only [Act.put, List.setIfInBounds_toArray, List.set_cons_zero, List.set_cons_succ, i64_w, i32_w]
                          rfl
                        refine pure_ (i := 8) (N := some 49) (v := undef) (a' := ?_) #[true, true, true, true, true, true, true, true, true, false, false, false, false, false, false, false, false, false, false, false] rfl rfl (any_of HT_.out (by kernel_rfl)) (fun _ _ _ h => h) (Or.inr ⟨by rfl, rfl⟩) ?_ ?_
                        rotate_left
                        · simp only [Act.put, List.setIfInBounds_toArray, List.set_cons_zero, List.set_cons_succ, i64_w, i32_w]
                          rfl
                        refine pure_ (i := 9) (N := some 50) (v := undef) (a' := ?_) #[true, true, true, true, true, true, true, true, true, true, false, false, false, false, false, false, false, false, false, false] rfl rfl (any_of HT_.out (by kernel_rfl)) (fun _ _ _ h => h) (Or.inr ⟨by rfl, rfl⟩) ?_ ?_
                        rotate_left
                        · simp only [Act.put, List.setIfInBounds_toArray, List.set_cons_zero, List.set_cons_succ, i64_w, i32_w]
                          rfl
                        refine pure_ (i := 10) (N := some 51) (v := undef) (a' := ?_) #[true, true, true, true, true, true, true, true, true, true, true, false, false, false, false, false, false, false, false, false] rfl rfl (any_of HT_.out (by kernel_rfl)) (fun _ _ _ h => h) (Or.inr ⟨by rfl, rfl⟩) ?_ ?_
                        rotate_left
                        · simp only [Act.put, List.setIfInBounds_toArray, List.set_cons_zero, List.set_cons_succ, i64_w, i32_w]
                          rfl
                        refine pure_ (i := 11) (N := some 52) (v := undef) (a' := ?_) #[true, true, true, true, true, true, true, true, true, true, true, true, false, false, false, false, false, false, false, false] rfl rfl (any_of HT_.out (by kernel_rfl)) (fun _ _ _ h => h) (Or.inr ⟨by rfl, rfl⟩) ?_ ?_
                        rotate_left
                        · simp only [Act.put, List.setIfInBounds_toArray, List.set_cons_zero, List.set_cons_succ, i64_w, i32_w]
                          rfl
                        refine pure_ (i := 12) (N := some 53) (v := undef) (a' := ?_) #[true, true, true, true, true, true, true, true, true, true, true, true, true, false, false, false, false, false, false, false] rfl rfl (any_of HT_.out (by kernel_rfl)) (fun _ _ _ h => h) (Or.inr ⟨by rfl, rfl⟩) ?_ ?_
                        rotate_left
                        · simp only [Act.put, List.setIfInBounds_toArray, List.set_cons_zero, List.set_cons_succ, i64_w, i32_w]
                          rfl
                        refine pure_ (i := 13) (N := some 54) (v := undef) (a' := ?_) #[true, true, true, true, true, true, true, true, true, true, true, true, true, true, false, false, false, false, false, false] rfl rfl (any_of HT_.out (by kernel_rfl)) (fun _ _ _ h => h) (Or.inr ⟨by rfl, rfl⟩) ?_ ?_
                        rotate_left
                        · simp only [Act.put, List.setIfInBounds_toArray, List.set_cons_zero, List.set_cons_succ, i64_w, i32_w]
                          rfl
                        refine pure_ (i := 14) (N := some 55) (v := undef) (a' := ?_) #[true, true, true, true, true, true, true, true, true, true, true, true, true, true, true, false, false, false, false, false] rfl rfl (any_of HT_.out (by kernel_rfl)) (fun _ _ _ h => h) (Or.inr ⟨by rfl, rfl⟩) ?_ ?_
                        rotate_left
                        · simp only [Act.put, List.setIfInBounds_toArray, List.set_cons_zero, List.set_cons_succ, i64_w, i32_w]
                          rfl
                        refine pure_ (i := 15) (N := some 56) (v := undef) (a' := ?_) #[true, true, true, true, true, true, true, true, true, true, true, true, true, true, true, true, false, false, false, false] rfl rfl (any_of HT_.out (by kernel_rfl)) (fun _ _ _ h => h) (Or.inr ⟨by rfl, rfl⟩) ?_ ?_
                        rotate_left
                        · simp only [Act.put, List.setIfInBounds_toArray, List.set_cons_zero, List.set_cons_succ, i64_w, i32_w]
                          rfl
                        refine pure_ (i := 16) (N := some 57) (v := undef) (a' := ?_) #[true, true, true, true, true, true, true, true, true, true, true, true, true, true, true, true, true, false, false, false] rfl rfl (any_of HT_.out (by kernel_rfl)) (fun _ _ _ h => h) (Or.inr ⟨by rfl, rfl⟩) ?_ ?_
                        rotate_left
                        · simp only [Act.put, List.setIfInBounds_toArray, List.set_cons_zero, List.set_cons_succ, i64_w, i32_w]
                          rfl
                        refine pure_ (i := 17) (N := some 58) (v := undef) (a' := ?_) #[true, true, true, true, true, true, true, true, true, true, true, true, true, true, true, true, true, true, false, false] rfl rfl (any_of HT_.out (by kernel_rfl)) (fun _ _ _ h => h) (Or.inr ⟨by rfl, rfl⟩) ?_ ?_
                        rotate_left
                        · simp only [Act.put, List.setIfInBounds_toArray, List.set_cons_zero, List.set_cons_succ, i64_w, i32_w]
                          rfl
                        refine pure_ (i := 18) (N := some 59) (v := ?_) (a' := ?_) #[true, true, true, true, true, true, true, true, true, true, true, true, true, true, true, true, true, true, true, false] rfl rfl (any_of HT_.out (by kernel_rfl)) (fun _ _ _ h => h) (Or.inl ⟨by rfl, ?_⟩) ?_ ?_
                        rotate_left
                        · intro w'
                          go_simp
                          with_reducible rfl
                        rotate_left
                        · simp only [Act.put, List.setIfInBounds_toArray, List.set_cons_zero, List.set_cons_succ, i64_w, i32_w]
                          rfl
                        refine pure_ (i := 19) (N := some 60) (v := ?_) (a' := ?_) #[true, true, true, true, true, true, true, true, true, true, true, true, true, true, true, true, true, true, true, true] rfl rfl (any_of HT_.out (by kernel_rfl)) (fun _ _ _ h => h) (Or.inl ⟨by rfl, ?_⟩) ?_ ?_
                        rotate_left
                        · intro w'
                          go_simp
                          with_reducible rfl
                        rotate_left
                        · simp only [Act.put, List.setIfInBounds_toArray, List.set_cons_zero, List.set_cons_succ, i64_w, i32_w]
                          rfl
                        refine done_ (done_of HT_.out (by kernel_rfl)) ?_
                        try go_wp2
                        go_meet
                        case rel => exact ⟨_, (false), (by first | rfl | (simp; done) | (simp [show ∀ l_ : List UInt8, (l_ != []) = !l_.isEmpty from fun l_ => by cases l_ <;> rfl]; done) | (simp [*]; done)), H', ⟨by have := HK1.out; have := HK2.out; first | omega | exact Nat.le_refl _⟩, ⟨by (with_reducible repeat (first | refine blk_drewN ?_ _ | refine blk_drew ?_ | refine blk_alloc ?_ _)); exact BK118.out⟩, ⟨by (with_reducible repeat (first | refine blk_drewN ?_ _ | refine blk_drew ?_ | refine blk_alloc ?_ _)); exact BK123.out⟩, ⟨by repeat (first | (with_reducible first | exact HB.out | apply below_alloc | apply pw_below_drewN | apply below_drew1 | refine below_set ?_ GE118.out | refine below_set ?_ GE123.out) | exact HB.out)⟩⟩
                    · replace c25 := Bool.eq_false_iff.mpr c25
                      subst c25
                      have H1 : (mrpdu_Good.j3 k2 l0_1 (l0_1.length : Int) x36_2 true l0_0 l0_1) = some r := by rw [if_neg (show ¬ (false = true) by decide)] at H; exact H
                      clear H
                      have H := H1
                      clear H1
                      have H' := Aside0.mk H
                      clear H
                      try go_wp2
                      have n0_ : Aside0 (((((w21.setCell ⟨gb123, 0, none⟩ (.int .i64 ((rd_T43 l0_1 x36_2).f0.f0))).setCell ⟨gb123, 1, none⟩ (.int .i64 ((rd_T43 l0_1 x36_2).f0.f1))).setCell ⟨gb123, 2, none⟩ (.int .i64 ((rd_T43 l0_1 x36_2).f1))).setCell ⟨gb123, 3, none⟩ (.int .i64 ((rd_T43 l0_1 x36_2).f2))).heap[gb118]? = some (.cells #[.slice A0_0 l0_0.length c0_0, .slice (some ad122) l0_1.length c0_1] 25 (0, 0))) := ⟨by (with_reducible repeat (first | refine blk_drewN ?_ _ | refine blk_drew ?_ | refine blk_alloc ?_ _)); refine blk_far ?_ NB118_123.out _; (with_reducible repeat (first | refine blk_drewN ?_ _ | refine blk_drew ?_ | refine blk_alloc ?_ _)); refine blk_far ?_ NB118_123.out _; (with_reducible repeat (first | refine blk_drewN ?_ _ | refine blk_drew ?_ | refine blk_alloc ?_ _)); refine blk_far ?_ NB118_123.out _; (with_reducible repeat (first | refine blk_drewN ?_ _ | refine blk_drew ?_ | refine blk_alloc ?_ _)); refine blk_far ?_ NB118_123.out _; (with_reducible repeat (first | refine blk_drewN ?_ _ | refine blk_drew ?_ | refine blk_alloc ?_ _)); exact BK118.out⟩
                      have n1_ : Aside0 (((((w21.setCell ⟨gb123, 0, none⟩ (.int .i64 ((rd_T43 l0_1 x36_2).f0.f0))).setCell ⟨gb123, 1, none⟩ (.int .i64 ((rd_T43 l0_1 x36_2).f0.f1))).setCell ⟨gb123, 2, none⟩ (.int .i64 ((rd_T43 l0_1 x36_2).f1))).setCell ⟨gb123, 3, none⟩ (.int .i64 ((rd_T43 l0_1 x36_2).f2))).heap[gb123]? = some (.cells #[.int .i64 ((rd_T43 l0_1 x36_2).f0.f0), .int .i64 ((rd_T43 l0_1 x36_2).f0.f1), .int .i64 ((rd_T43 l0_1 x36_2).f1), .int .i64 ((rd_T43 l0_1 x36_2).f2)] 43 (0, 0))) := ⟨by (with_reducible repeat (first | refine blk_drewN ?_ _ | refine blk_drew ?_ | refine blk_alloc ?_ _)); refine blk_put (cs := #[.int .i64 ((rd_T43 l0_1 x36_2).f0.f0), .int .i64 ((rd_T43 l0_1 x36_2).f0.f1), .int .i64 ((rd_T43 l0_1 x36_2).f1), .int .i64 0]) ?_ 3 _ rfl; (with_reducible repeat (first | refine blk_drewN ?_ _ | refine blk_drew ?_ | refine blk_alloc ?_ _)); refine blk_put (cs := #[.int .i64 ((rd_T43 l0_1 x36_2).f0.f0), .int .i64 ((rd_T43 l0_1 x36_2).f0.f1), .int .i64 0, .int .i64 0]) ?_ 2 _ rfl; (with_reducible repeat (first | refine blk_drewN ?_ _ | refine blk_drew ?_ | refine blk_alloc ?_ _)); refine blk_put (cs := #[.int .i64 ((rd_T43 l0_1 x36_2).f0.f0), .int .i64 0, .int .i64 0, .int .i64 0]) ?_ 1 _ rfl; (with_reducible repeat (first | refine blk_drewN ?_ _ | refine blk_drew ?_ | refine blk_alloc ?_ _)); refine blk_put (cs := #[.int .i64 0, .int .i64 0, .int .i64 0, .int .i64 0]) ?_ 0 _ rfl; (with_reducible repeat (first | refine blk_drewN ?_ _ | refine blk_drew ?_ | refine blk_alloc ?_ _)); exact BK123.out⟩
                      have n2_ : Aside0 (Below w.heap.size w ((((w21.setCell ⟨gb123, 0, none⟩ (.int .i64 ((rd_T43 l0_1 x36_2).f0.f0))).setCell ⟨gb123, 1, none⟩ (.int .i64 ((rd_T43 l0_1 x36_2).f0.f1))).setCell ⟨gb123, 2, none⟩ (.int .i64 ((rd_T43 l0_1 x36_2).f1))).setCell ⟨gb123, 3, none⟩ (.int .i64 ((rd_T43 l0_1 x36_2).f2)))) := ⟨by repeat (first | (with_reducible first | exact HB.out | apply below_alloc | apply pw_below_drewN | apply below_drew1 | refine below_set ?_ GE118.out | refine below_set ?_ GE123.out) | exact HB.out)⟩
                      (try clear BK118)
                      (try clear BK123)
                      (try clear HB)
                      generalize ((((w21.setCell ⟨gb123, 0, none⟩ (.int .i64 ((rd_T43 l0_1 x36_2).f0.f0))).setCell ⟨gb123, 1, none⟩ (.int .i64 ((rd_T43 l0_1 x36_2).f0.f1))).setCell ⟨gb123, 2, none⟩ (.int .i64 ((rd_T43 l0_1 x36_2).f1))).setCell ⟨gb123, 3, none⟩ (.int .i64 ((rd_T43 l0_1 x36_2).f2))) = w38 at n0_ n1_ n2_ ⊢
                      have BK118 := n0_
                      have BK123 := n1_
                      have HB := n2_
                      clear n0_ n1_ n2_
                      have n0_ := Aside0.mk (blk_drew BK118.out)
                      have n1_ := Aside0.mk (blk_drew BK123.out)
                      have n2_ := Aside0.mk (below_drew1 HB.out)
                      clear BK118
                      clear BK123
                      clear HB
                      have BK118 := n0_
                      have BK123 := n1_
                      have HB := n2_
                      clear n0_ n1_ n2_
                      refine start_ (n := 20) (S := fun w' => w'.cell? ⟨gb123, 0, none⟩ = some (.int .i64 ((rd_T43 l0_1 x36_2).f0.f0)) ∧ w'.cell? ⟨gb123, 1, none⟩ = some (.int .i64 ((rd_T43 l0_1 x36_2).f0.f1)) ∧ w'.cell? ⟨gb123, 2, none⟩ = some (.int .i64 ((rd_T43 l0_1 x36_2).f1)) ∧ w'.cell? ⟨gb123, 3, none⟩ = some (.int .i64 ((rd_T43 l0_1 x36_2).f2))) (ds := []) #[false, false, false, false, false, false, false, false, false, false, false, false, false, false, false, false, false, false, false, false] (by kernel_rfl) rfl rfl ⟨(blk_cell BK123.out 0).trans rfl, (blk_cell BK123.out 1).trans rfl, (blk_cell BK123.out 2).trans rfl, (blk_cell BK123.out 3).trans rfl⟩ (fun hHeld => ?_); refine with_tabW mrpdu_Good.tab10 mrpdu_Good.bits10 (fun HT_ HW_ => ?_)
                      generalize w38.drew = w39 at BK118 BK123 HB hHeld ⊢
                      refine take_ (i := 0) (N := some 41) (v := ?_) (a' := ?_) #[true, false, false, false, false, false, false, false, false, false, false, false, false, false, false, false, false, false, false, false] rfl rfl (take_ofW HT_.out HW_.out (by kernel_rfl)) (fun _ _ _ h => h) (Or.inl ⟨by rfl, ?_⟩) hHeld ?_ ?_
                      rotate_left
                      · rintro w' ⟨s0, s1, s2, s3⟩
                        go_simp
                        with_reducible rfl
                      rotate_left
                      · simp only [Act.put, List.setIfInBounds_toArray, List.set_cons_zero, List.set_cons_succ, i64_w, i32_w]
                        rfl
                      refine one_ (i := 1) (N := some 42) #[true, true, false, false, false, false, false, false, false, false, false, false, false, false, false, false, false, false, false, false] rfl rfl (one_of HT_.out (by kernel_rfl)) (by decide) (fun K hK => ?_)
                      refine goes_ Try.func27 (by kernel_rfl) rfl #[.agg #[.int .i64 ((rd_T43 l0_1 x36_2).f0.f0), .int .i64 ((rd_T43 l0_1 x36_2).f0.f1), .int .i64 ((rd_T43 l0_1 x36_2).f1), .int .i64 ((rd_T43 l0_1 x36_2).f2)]] (by rfl) rfl rfl (by (try simp only [List.map_toArray, List.map_cons, List.map_nil]); first | done | rfl | (simp only [List.length_drop, List.length_take]; rfl)) ?_
                      with_reducible refine (mrpdu_word.calls ((rd_T43 l0_1 x36_2).f0.f0) ((rd_T43 l0_1 x36_2).f0.f1) ((rd_T43 l0_1 x36_2).f1) ((rd_T43 l0_1 x36_2).f2) false _ A24.out).mono ?_
                      rintro e w40 ⟨rfl, hb⟩
                      refine ⟨_, rfl, ?_⟩
                      have n0_ := Aside0.mk (blk_below (g := gb118) (o := .cells #[.slice A0_0 l0_0.length c0_0, .slice (some ad122) l0_1.length c0_1] 25 (0, 0)) (by (with_reducible repeat (first | refine blk_drewN ?_ _ | refine blk_drew ?_ | refine blk_alloc ?_ _)); exact BK118.out) hb)
                      have n1_ := Aside0.mk (blk_below (g := gb123) (o := .cells #[.int .i64 ((rd_T43 l0_1 x36_2).f0.f0), .int .i64 ((rd_T43 l0_1 x36_2).f0.f1), .int .i64 ((rd_T43 l0_1 x36_2).f1), .int .i64 ((rd_T43 l0_1 x36_2).f2)] 43 (0, 0)) (by (with_reducible repeat (first | refine blk_drewN ?_ _ | refine blk_drew ?_ | refine blk_alloc ?_ _)); exact BK123.out) hb)
                      have n2_ := Aside0.mk (below_step (by repeat (first | (with_reducible first | exact HB.out | apply below_alloc | apply pw_below_drewN | apply below_drew1 | refine below_set ?_ GE118.out | refine below_set ?_ GE123.out) | exact HB.out)) hb)
                      clear BK118
                      clear BK123
                      clear HB
                      have BK118 := n0_
                      have BK123 := n1_
                      have HB := n2_
                      clear n0_ n1_ n2_
                      (try clear hb)
                      (try clear hb2)
                      (try clear hk)
                      (try clear hi)
                      refine hK.out _ _ ⟨(blk_cell BK123.out 0).trans rfl, (blk_cell BK123.out 1).trans rfl, (blk_cell BK123.out 2).trans rfl, (blk_cell BK123.out 3).trans rfl⟩ (fun hHeld => ?_)
                      clear hK K
                      refine norm_ (a' := ?_) ?_ ?_
                      rotate_left
                      · show Act.put _ (some 42) _ = _
                        simp only [Act.put, List.setIfInBounds_toArray, List.set_cons_zero, List.set_cons_succ, i64_w, i32_w]
                        rfl
                      refine pure_ (i := 2) (N := some 43) (v := ?_) (a' := ?_) #[true, true, true, false, false, false, false, false, false, false, false, false, false, false, false, false, false, false, false, false] rfl rfl (any_of HT_.out (by kernel_rfl)) (fun _ _ _ h => h) (Or.inl ⟨by rfl, ?_⟩) ?_ ?_
                      rotate_left
                      · intro w'
                        go_simp
                        with_reducible rfl
                      rotate_left
                      · simp only [Act.put, List.setIfInBounds_toArray, List.set_cons_zero, List.set_cons_succ, i64_w, i32_w]
                        rfl
                      refine pure_ (i := 3) (N := some 44) (v := ?_) (a' := ?_) #[true, true, true, true, false, false, false, false, false, false, false, false, false, false, false, false, false, false, false, false] rfl rfl (any_of HT_.out (by kernel_rfl)) (fun _ _ _ h => h) (Or.inl ⟨by rfl, ?_⟩) ?_ ?_
                      rotate_left
                      · intro w'
                        go_simp
                        with_reducible rfl
                      rotate_left
                      · simp only [Act.put, List.setIfInBounds_toArray, List.set_cons_zero, List.set_cons_succ, i64_w, i32_w]
                        rfl
                      refine pure_ (i := 4) (N := some 45) (v := undef) (a' := ?_) #[true, true, true, true, true, false, false, false, false, false, false, false, false, false, false, false, false, false, false, false] rfl rfl (any_of HT_.out (by kernel_rfl)) (fun _ _ _ h => h) (Or.inr ⟨by rfl, rfl⟩) ?_ ?_
                      rotate_left
                      · simp only [Act.put, List.setIfInBounds_toArray, List.set_cons_zero, List.set_cons_succ, i64_w, i32_w]
                        rfl
                      refine pure_ (i := 5) (N := some 46) (v := undef) (a' := ?_) #[true, true, true, true, true, true, false, false, false, false, false, false, false, false, false, false, false, false, false, false] rfl rfl (any_of HT_.out (by kernel_rfl)) (fun _ _ _ h => h) (Or.inr ⟨by rfl, rfl⟩) ?_ ?_
                      rotate_left
                      · simp only [Act.put, List.setIfInBounds_toArray, List.set_cons_zero, List.set_cons_succ, i64_w, i32_w]
                        rfl
                      refine pure_ (i := 6) (N := some 47) (v := undef) (a' := ?_) #[true, true, true, true, true, true, true, false, false, false, false, false, false, false, false, false, false, false, false, false] rfl rfl (any_of HT_.out (by kernel_rfl)) (fun _ _ _ h => h) (Or.inr ⟨by rfl, rfl⟩) ?_ ?_
                      rotate_left
                      · simp only [Act.put, List.setIfInBounds_toArray, List.set_cons_zero, List.set_cons_succ, i64_w, i32_w]
                        rfl
                      refine pure_ (i := 7) (N := some 48) (v := undef) (a' := ?_) #[true, true, true, true, true, true, true, true, false, false, false, false, false, false, false, false, false, false, false, false] rfl rfl (any_of HT_.out (by kernel_rfl)) (fun _ _ _ h => h) (Or.inr ⟨by rfl, rfl⟩) ?_ ?_
                      rotate_left
                      · simp only [Act.put, List.setIfInBounds_toArray, List.set_cons_zero, List.set_cons_succ, i64_w, i32_w]
                        rfl
                      refine pure_ (i := 8) (N := some 49) (v := undef) (a' := ?_) #[true, true, true, true, true, true, true, true, true, false, false, false, false, false, false, false, false, false, false, false] rfl rfl (any_of HT_.out (by kernel_rfl)) (fun _ _ _ h => h) (Or.inr ⟨by rfl, rfl⟩) ?_ ?_
                      rotate_left
                      · simp only [Act.put, List.setIfInBounds_toArray, List.set_cons_zero, List.set_cons_succ, i64_w, i32_w]
                        rfl
                      refine pure_ (i := 9) (N := some 50) (v := undef) (a' := ?_) #[true, true, true, true, true, true, true, true, true, true, false, false, false, false, false, false, false, false, false, false] rfl rfl (any_of HT_.out (by kernel_rfl)) (fun _ _ _ h => h) (Or.inr ⟨by rfl, rfl⟩) ?_ ?_
                      rotate_left
                      · simp only [Act.put, List.setIfInBounds_toArray, List.set_cons_zero, List.set_cons_succ, i64_w, i32_w]
                        rfl
                      refine pure_ (i := 10) (N := some 51) (v := undef) (a' := ?_) #[true, true, true, true, true, true, true, true, true, true, true, false, false, false, false, false, false, false, false, false] rfl rfl (any_of HT_.out (by kernel_rfl)) (fun _ _ _ h => h) (Or.inr ⟨by rfl, rfl⟩) ?_ ?_
                      rotate_left
                      · simp only [Act.put, List.setIfInBounds_toArray, List.set_cons_zero, List.set_cons_succ, i64_w, i32_w]
                        rfl
                      refine pure_ (i := 11) (N := some 52) (v := undef) (a' := ?_) #[true, true, true, true, true, true, true, true, true, true, true, true, false, false, false, false, false, false, false, false] rfl rfl (any_of HT_.out (by kernel_rfl)) (fun _ _ _ h => h) (Or.inr ⟨by rfl, rfl⟩) ?_ ?_
                      rotate_left
                      · simp only [Act.put, List.setIfInBounds_toArray, List.set_cons_zero, List.set_cons_succ, i64_w, i32_w]
                        rfl
                      refine pure_ (i := 12) (N := some 53) (v := undef) (a' := ?_) #[true, true, true, true, true, true, true, true, true, true, true, true, true, false, false, false, false, false, false, false] rfl rfl (any_of HT_.out (by kernel_rfl)) (fun _ _ _ h => h) (Or.inr ⟨by rfl, rfl⟩) ?_ ?_
                      rotate_left
                      · simp only [Act.put, List.setIfInBounds_toArray, List.set_cons_zero, List.set_cons_succ, i64_w, i32_w]
                        rfl
                      refine pure_ (i := 13) (N := some 54) (v := undef) (a' := ?_) #[true, true, true, true, true, true, true, true, true, true, true, true, true, true, false, false, false, false, false, false] rfl rfl (any_of HT_.out (by kernel_rfl)) (fun _ _ _ h => h) (Or.inr ⟨by rfl, rfl⟩) ?_ ?_
                      rotate_left
                      · simp only [Act.put, List.setIfInBounds_toArray, List.set_cons_zero, List.set_cons_succ, i64_w, i32_w]
                        rfl
                      refine pure_ (i := 14) (N := some 55) (v := undef) (a' := ?_) #[true, true, true, true, true, true, true, true, true, true, true, true, true, true, true, false, false, false, false, false] rfl rfl (any_of HT_.out (by kernel_rfl)) (fun _ _ _ h => h) (Or.inr ⟨by rfl, rfl⟩) ?_ ?_
                      rotate_left
                      · simp only [Act.put, List.setIfInBounds_toArray, List.set_cons_zero, List.set_cons_succ, i64_w, i32_w]
                        rfl
                      refine pure_ (i := 15) (N := some 56) (v := undef) (a' := ?_) #[true, true, true, true, true, true, true, true, true, true, true, true, true, true, true, true, false, false, false, false] rfl rfl (any_of HT_.out (by kernel_rfl)) (fun _ _ _ h => h) (Or.inr ⟨by rfl, rfl⟩) ?_ ?_
                      rotate_left
                      · simp only [Act.put, List.setIfInBounds_toArray, List.set_cons_zero, List.set_cons_succ, i64_w, i32_w]
                        rfl
                      refine pure_ (i := 16) (N := some 57) (v := undef) (a' := ?_) #[true, true, true, true, true, true, true, true, true, true, true, true, true, true, true, true, true, false, false, false] rfl rfl (any_of HT_.out (by kernel_rfl)) (fun _ _ _ h => h) (Or.inr ⟨by rfl, rfl⟩) ?_ ?_
                      rotate_left
                      · simp only [Act.put, List.setIfInBounds_toArray, List.set_cons_zero, List.set_cons_succ, i64_w, i32_w]
                        rfl
                      refine pure_ (i := 17) (N := some 58) (v := undef) (a' := ?_) #[true, true, true, true, true, true, true, true, true, true, true, true, true, true, true, true, true, true, false, false] rfl rfl (any_of HT_.out (by kernel_rfl)) (fun _ _ _ h => h) (Or.inr ⟨by rfl, rfl⟩) ?_ ?_
                      rotate_left
                      · simp only [Act.put, List.setIfInBounds_toArray, List.set_cons_zero, List.set_cons_succ, i64_w, i32_w]
                        rfl
                      refine pure_ (i := 18) (N := some 59) (v := undef) (a' := ?_) #[true, true, true, true, true, true, true, true, true, true, true, true, true, true, true, true, true, true, true, false] rfl rfl (any_of HT_.out (by kernel_rfl)) (fun _ _ _ h => h) (Or.inr ⟨by rfl, rfl⟩) ?_ ?_
                      rotate_left
                      · simp only [Act.put, List.setIfInBounds_toArray, List.set_cons_zero, List.set_cons_succ, i64_w, i32_w]
                        rfl
                      refine pure_ (i := 19) (N := some 60) (v := ?_) (a' := ?_) #[true, true, true, true, true, true, true, true, true, true, true, true, true, true, true, true, true, true, true, true] rfl rfl (any_of HT_.out (by kernel_rfl)) (fun _ _ _ h => h) (Or.inl ⟨by rfl, ?_⟩) ?_ ?_
                      rotate_left
                      · intro w'
                        go_simp
                        with_reducible rfl
                      rotate_left
                      · simp only [Act.put, List.setIfInBounds_toArray, List.set_cons_zero, List.set_cons_succ, i64_w, i32_w]
                        rfl
                      refine done_ (done_of HT_.out (by kernel_rfl)) ?_
                      try go_wp2
                      go_meet
                      case rel => exact ⟨_, (true), (by first | rfl | (simp; done) | (simp [show ∀ l_ : List UInt8, (l_ != []) = !l_.isEmpty from fun l_ => by cases l_ <;> rfl]; done) | (simp [*]; done)), H', ⟨by have := HK1.out; have := HK2.out; first | omega | exact Nat.le_refl _⟩, ⟨by (with_reducible repeat (first | refine blk_drewN ?_ _ | refine blk_drew ?_ | refine blk_alloc ?_ _)); exact BK118.out⟩, ⟨by (with_reducible repeat (first | refine blk_drewN ?_ _ | refine blk_drew ?_ | refine blk_alloc ?_ _)); exact BK123.out⟩, ⟨by repeat (first | (with_reducible first | exact HB.out | apply below_alloc | apply pw_below_drewN | apply below_drew1 | refine below_set ?_ GE118.out | refine below_set ?_ GE123.out) | exact HB.out)⟩⟩
                  case rest =>
                    clear HC20
                    try clear c1
                    try clear p1
                    try clear q1
                    try clear hx1
                    try clear c2
                    try clear p2
                    try clear p6
                    try clear p12
                    try clear q12
                    try clear hx12
                    try clear c17
                    try clear c25
                    try clear c26
                    try clear c26b0
                    try clear c27
                    try clear c28
                    try clear c28b0
                    try clear c29
                    try clear c29b0
                    try clear hx125_0
                    try clear hx125_1
                    try clear hx125_2
                    try clear hx125_3
                    try clear p125
                    try clear q125
                    obtain ⟨kq, x60_19, rfl, HA, HJ19, BK118, BK123, HB⟩ := hcut
                    cases kq with
                    | zero => exact absurd HA.out (by simp [mrpdu_Good.j3])
                    | succ kj19 =>
                      have H := HA.out
                      clear HA
                      simp only [mrpdu_Good.j3] at H
                      by_cases c41 : x60_19 = true
                      · subst c41
                        have H1 : (some false) = some r := by rw [if_pos rfl] at H; exact H
                        clear H
                        have H := H1
                        clear H1
                        obtain rfl := Option.some.inj H
                        go_wp2
                        go_ret
                        exact ⟨by first | rfl | (simp [show ∀ l_ : List UInt8, (l_ == []) = l_.isEmpty from fun l_ => by cases l_ <;> rfl]; done) | (simp [errW_none, errW_some] <;> rfl) | ((repeat rw [Int.tdiv_eq_ediv_of_nonneg (by omega)]); (repeat rw [Int.tmod_eq_emod_of_nonneg (by omega)]); first | rfl | (simp [errW_none, errW_some] <;> rfl)) | (simp [*, errW_none, errW_some] <;> rfl), by repeat (first | (with_reducible first | exact HB.out | apply below_alloc | apply pw_below_drewN | apply below_drew1 | refine below_set ?_ GE118.out | refine below_set ?_ GE123.out) | exact HB.out)⟩
                      · replace c41 := Bool.eq_false_iff.mpr c41
                        subst c41
                        have H1 : (mrpdu_Good.l1 kj19 l0_1 (l0_1.length : Int) (wrap64 (x36_2 + 1)) l0_0 l0_1) = some r := by rw [if_neg (show ¬ (false = true) by decide)] at H; exact H
                        clear H
                        have H := H1
                        clear H1
                        have H' := Aside0.mk H
                        clear H
                        go_wp2
                        go_roundg kj19
                        case measure => have := HK1.out; have := HK2.out; have := HJ19.out; omega
                        case rel => exact ⟨(wrap64 (x36_2 + 1)), (by first | rfl | (simp; done) | (simp [show ∀ l_ : List UInt8, (l_ != []) = !l_.isEmpty from fun l_ => by cases l_ <;> rfl]; done) | (simp [*]; done)), H', ⟨by have := HK1.out; have := HK2.out; have := HJ19.out; omega⟩, ⟨by (with_reducible repeat (first | refine blk_drewN ?_ _ | refine blk_drew ?_ | refine blk_alloc ?_ _)); exact BK118.out⟩, ⟨by repeat (first | (with_reducible first | exact HB.out | apply below_alloc | apply pw_below_drewN | apply below_drew1 | refine below_set ?_ GE118.out | refine below_set ?_ GE123.out) | exact HB.out)⟩⟩
                · rw [if_neg c19] at H
                  exact absurd H (by simp)
              · rw [if_neg c18] at H
                exact absurd H (by simp)
            · rw [if_neg c17] at H
              have c17b0 : decide (x36_2 < (l0_1.length : Int)) = false := decide_eq_false c17
              clear c17
              obtain rfl := Option.some.inj H
              go_wp2
              go_ret
              exact ⟨by first | rfl | (simp [show ∀ l_ : List UInt8, (l_ == []) = l_.isEmpty from fun l_ => by cases l_ <;> rfl]; done) | (simp [errW_none, errW_some] <;> rfl) | ((repeat rw [Int.tdiv_eq_ediv_of_nonneg (by omega)]); (repeat rw [Int.tmod_eq_emod_of_nonneg (by omega)]); first | rfl | (simp [errW_none, errW_some] <;> rfl)) | (simp [*, errW_none, errW_some] <;> rfl), by repeat (first | (with_reducible first | exact HB.out | apply below_alloc | apply pw_below_drewN | apply below_drew1 | refine below_set ?_ GE118.out) | exact HB.out)⟩
end Go.Proofs.Ytlfcpobnkojcbaa.PMrpduBytes
namespace Go.Proofs.Ytlfcpobnkojcbaa.PMrpduBytes
open Go.RowKit Go.Proofs.YtlfcpobnkojcbaaW.PrintWords Go.Proofs.YtlfcpobnkojcbaaW.PrintLast Go.Proofs.YtlfcpobnkojcbaaW.PrintMore
attribute [local go_sem] max2_int min2_int max_two min_two max_three min_three max_four min_four   -- for this text's walks alone
set_option linter.unusedVariables false
set_option linter.unusedSimpArgs false
mutual
def kissgateref07_Good.l0 : Nat → List Int → List (S43) → List Int → Int → Int → Option (Bool)
  | 0, _, _, _, _, _ => none
  | k + 1, x0, x1, x9, x10, x11 => if x11 < x10 then (if 0 ≤ x11 then (if x11 < (x9.length : Int) then ((kissgateref07_Size.f (rd x9 x11)).bind fun t222 => (if t222 = 0 then (kissgateref07_Good.j1 k x0 x1 x9 x10 x11 true) else (if x11 > 0 then (if 0 ≤ (wrap64 (x11 - 1)) then (if (wrap64 (x11 - 1)) < (x0.length : Int) then (kissgateref07_Good.j1 k x0 x1 x9 x10 x11 (decide ((rd x0 (wrap64 (x11 - 1))) ≥ (rd x9 x11)))) else (none)) else (none)) else (kissgateref07_Good.j1 k x0 x1 x9 x10 x11 false)))) else (none)) else (none)) else (kissgateref07_Good.l1 k x1 x1 (x1.length : Int) 0)
def kissgateref07_Good.j1 : Nat → List Int → List (S43) → List Int → Int → Int → Bool → Option (Bool)
  | 0, _, _, _, _, _, _ => none
  | k + 1, x0, x1, x9, x10, x11, x31 => if x31 = true then (some false) else (kissgateref07_Good.l0 k x0 x1 x9 x10 (wrap64 (x11 + 1)))
def kissgateref07_Good.l1 : Nat → List (S43) → List (S43) → Int → Int → Option (Bool)
  | 0, _, _, _, _ => none
  | k + 1, x1, x33, x34, x35 => if x35 < x34 then (if 0 ≤ x35 then (if x35 < (x33.length : Int) then ((kissgateref07_Attr.f ((rd_T43 x33 x35).f0.f0) ((rd_T43 x33 x35).f0.f1)).bind fun t226 => (if t226 = true then (if ((rd_T43 x33 x35).f1) < 0 then (kissgateref07_Good.j3 k x1 x35 x33 x34 x35 true ((rd_T43 x33 x35).f0.f0) ((rd_T43 x33 x35).f0.f1) ((rd_T43 x33 x35).f1) ((rd_T43 x33 x35).f2)) else (if ((rd_T43 x33 x35).f1) > 5 then (kissgateref07_Good.j3 k x1 x35 x33 x34 x35 true ((rd_T43 x33 x35).f0.f0) ((rd_T43 x33 x35).f0.f1) ((rd_T43 x33 x35).f1) ((rd_T43 x33 x35).f2)) else (if ((rd_T43 x33 x35).f2) < 0 then (kissgateref07_Good.j3 k x1 x35 x33 x34 x35 true ((rd_T43 x33 x35).f0.f0) ((rd_T43 x33 x35).f0.f1) ((rd_T43 x33 x35).f1) ((rd_T43 x33 x35).f2)) else (kissgateref07_Good.j3 k x1 x35 x33 x34 x35 (decide (((rd_T43 x33 x35).f2) > 1048576)) ((rd_T43 x33 x35).f0.f0) ((rd_T43 x33 x35).f0.f1) ((rd_T43 x33 x35).f1) ((rd_T43 x33 x35).f2))))) else (kissgateref07_Good.j3 k x1 x35 x33 x34 x35 true ((rd_T43 x33 x35).f0.f0) ((rd_T43 x33 x35).f0.f1) ((rd_T43 x33 x35).f1) ((rd_T43 x33 x35).f2)))) else (none)) else (none)) else (some true)
def kissgateref07_Good.j3 : Nat → List (S43) → Int → List (S43) → Int → Int → Bool → Int → Int → Int → Int → Option (Bool)
  | 0, _, _, _, _, _, _, _, _, _, _ => none
  | k + 1, x1, x7, x33, x34, x35, x63, x226000, x226001, x226002, x226003 => if x63 = true then (some false) else (if x7 > 0 then (if 0 ≤ (wrap64 (x7 - 1)) then (if (wrap64 (x7 - 1)) < (x1.length : Int) then ((kissgateref07_Less.f ((rd_T43 x1 (wrap64 (x7 - 1))).f0.f0) ((rd_T43 x1 (wrap64 (x7 - 1))).f0.f1) x226000 x226001).bind fun t228 => (if t228 = true then (kissgateref07_Good.l1 k x1 x33 x34 (wrap64 (x35 + 1))) else (some false))) else (none)) else (none)) else (kissgateref07_Good.l1 k x1 x33 x34 (wrap64 (x35 + 1))))
end
def kissgateref07_Good.f (k : Nat) (l0 : List Int) (l1 : List (S43)) : Option (Bool) := kissgateref07_Good.l0 k l0 l1 l0 (l0.length : Int) 0
def kissgateref07_Good.T12 : Bool × List (List Nat × List Nat) := (true, [([], []), ([0], [0]), ([1], [1]), ([2], [2]), ([2], [2]), ([4, 2], [2, 4]), ([3, 5, 2], [2, 3, 5]), ([6, 2], [2, 6]), ([7, 2], [2, 7]), ([2], [2]), ([9, 2], [2, 9]), ([8, 10, 2, 2], [2, 8, 10]), ([11, 2], [2, 11]), ([2, 12], [2, 12])])
def kissgateref07_Good.B12 : List Nat := [0, 1, 3, 7, 7, 23, 63, 127, 255, 7, 519, 2047, 4095, 8191]
theorem kissgateref07_Good.tab12 : rtab .any (opsOf Try.f11 12) = kissgateref07_Good.T12 := by kernel_rfl
theorem kissgateref07_Good.bits12 : waitsOk kissgateref07_Good.T12.2 kissgateref07_Good.B12 = true := by kernel_rfl
set_option maxHeartbeats 8000000 in
set_option maxRecDepth 100000 in
theorem kissgateref07_Good.calls (k : Nat) (A0 : Option Addr) (c0 : Nat) (l0 : List Int) (A1 : Option Addr) (c1 : Nat) (l1 : List (S43)) (r : Bool) (w : World) (hr0 : Kd.C (Kd.int .i64) w A0 l0.length l0) (hc0 : l0.length ≤ c0) (hr1 : Kd.C k43 w A1 l1.length l1) (hc1 : l1.length ≤ c1) (h : kissgateref07_Good.f k l0 l1 = some r) :
    Calls Try.prog 11 #[.slice A0 l0.length c0, .slice A1 l1.length c1] w fun e w' => e = .returned (.bool r) ∧ Below w.heap.size w w' := by
  have hu43 := Try.underlying43
  have hu37 := Try.underlying37
  have HR0 := Aside0.mk hr0
  have HC0 := Aside0.mk hc0
  clear hr0 hc0
  have HR1 := Aside0.mk hr1
  have HC1 := Aside0.mk hc1
  clear hr1 hc1
  have HB := Aside0.mk (Below.refl w.heap.size w)
  have H : (kissgateref07_Good.l0 k l0 l1 l0 (l0.length : Int) 0) = some r := h
  clear h
  have H' := Aside0.mk H
  clear H
  go_enter Try.func11, Try.ntmps11
  go_wp2
  go_loopg [11] k (fun kq v11 w' => ∃ (x11_1 : Int), v11 = .int .i64 x11_1 ∧ Aside0 (kissgateref07_Good.l0 kq l0 l1 l0 (l0.length : Int) x11_1 = some r) ∧ Aside0 (kq ≤ k) ∧ Aside0 (Below w.heap.size w w'))
  case atStart => exact ⟨(0), (by first | rfl | (simp; done) | (simp [show ∀ l_ : List UInt8, (l_ != []) = !l_.isEmpty from fun l_ => by cases l_ <;> rfl]; done) | (simp [*]; done)), H', ⟨Nat.le_refl _⟩, ⟨by repeat (first | (with_reducible first | exact HB.out | apply below_alloc | apply pw_below_drewN | apply below_drew1) | exact HB.out)⟩⟩
  case round =>
    clear H'
    try clear c1
    try clear p2
    obtain ⟨x11_1, rfl, HA, HK1, HB⟩ := hrel
    cases gk with
    | zero => exact absurd HA.out (by simp [kissgateref07_Good.l0])
    | succ k1 =>
      have H := HA.out
      clear HA
      simp only [kissgateref07_Good.l0] at H
      by_cases c3 : x11_1 < (l0.length : Int)
      · rw [if_pos c3] at H
        have c3b0 : decide (x11_1 < (l0.length : Int)) = true := decide_eq_true c3
        clear c3
        by_cases c4 : 0 ≤ x11_1
        · rw [if_pos c4] at H
          have c4b0 : decide (0 ≤ x11_1) = true := decide_eq_true c4
          clear c4
          by_cases c5 : x11_1 < (l0.length : Int)
          · rw [if_pos c5] at H
            have c5b0 : decide (x11_1 < (l0.length : Int)) = true := decide_eq_true c5
            clear c5
            have HC6 := Aside0.mk H
            clear H
            have p221 : 0 ≤ (x11_1 : Int) := of_decide_eq_true (by first | (with_reducible assumption) | assumption)
            have q221 : x11_1 < (l0.length : Int) := of_decide_eq_true (by first | (with_reducible assumption) | assumption)
            obtain ⟨ad221, e221, hx221_0⟩ := Kd.at_int HR0.out x11_1 p221 q221
            cases e221
            (try replace hx221_0 := (HB.out.cell (World.block_lt_of_cell? w _ hx221_0)).trans hx221_0)
            replace p221 := eq_true p221
            replace q221 := eq_true q221
            go_upto_region 4 with (fail)
            go_cut [31] (fun v31 wc => ∃ (kq : Nat) (x31_5 : Bool), v31 = .bool x31_5 ∧ Aside0 (kissgateref07_Good.j1 kq l0 l1 l0 (l0.length : Int) x11_1 x31_5 = some r) ∧ Aside0 (kq ≤ k1) ∧ Aside0 (Below w.heap.size w wc))
            case first =>
              have H := HC6.out
              clear HC6
              replace H := Option.bind_eq_some_iff.mp H
              obtain ⟨t222, A70, H⟩ := H
              replace H : (if t222 = 0 then (kissgateref07_Good.j1 k1 l0 l1 l0 (l0.length : Int) x11_1 true) else (if x11_1 > 0 then (if 0 ≤ (wrap64 (x11_1 - 1)) then (if (wrap64 (x11_1 - 1)) < (l0.length : Int) then (kissgateref07_Good.j1 k1 l0 l1 l0 (l0.length : Int) x11_1 (decide ((rd l0 (wrap64 (x11_1 - 1))) ≥ (rd l0 x11_1)))) else (none)) else (none)) else (kissgateref07_Good.j1 k1 l0 l1 l0 (l0.length : Int) x11_1 false))) = some r := H
              have A7 := Aside0.mk A70
              clear A70
              by_cases c8 : t222 = 0
              · rw [if_pos c8] at H
                have c8b0 : (t222 == 0) = true := beq_iff_eq.mpr c8
                have c8b1 : (t222 != 0) = false := bne_eq_false_iff_eq.mpr c8
                clear c8
                (first | rw [c8b0] | (simp only [i64_w, i32_w]; rw [c8b0]) | skip)
                have H' := Aside0.mk H
                clear H
                go_wp2_with (first | ((with_reducible refine gate_callee (f := 21) rfl ?_); refine goesL_ (some 17) rfl rfl Try.func21 (by kernel_rfl) rfl #[.int .i64 (rd l0 x11_1)] rfl (by (try simp only [List.map_toArray, List.map_cons, List.map_nil]); first | done | rfl | (simp only [List.length_drop, List.length_take]; rfl) | (go_simp; first | done | (unfold wrap64; omega))) ?_; (with_reducible refine (kissgateref07_Size.calls (rd l0 x11_1) t222 _ A7.out).mono ?_); rintro e w' ⟨rfl, ⟨nd, rfl⟩⟩; refine ⟨_, rfl, ?_⟩))
                go_meet
                case rel => exact ⟨_, (true), (by first | rfl | (simp; done) | (simp [show ∀ l_ : List UInt8, (l_ != []) = !l_.isEmpty from fun l_ => by cases l_ <;> rfl]; done) | (simp [*]; done)), H', ⟨by have := HK1.out; first | omega | exact Nat.le_refl _⟩, ⟨by repeat (first | (with_reducible first | exact HB.out | apply below_alloc | apply pw_below_drewN | apply below_drew1) | exact HB.out)⟩⟩
              · rw [if_neg c8] at H
                have c8b0 : (t222 == 0) = false := beq_eq_false_iff_ne.mpr c8
                have c8b1 : (t222 != 0) = true := bne_iff_ne.mpr c8
                (first | rw [c8b0] | (simp only [i64_w, i32_w]; rw [c8b0]) | skip)
                by_cases c9 : x11_1 > 0
                · rw [if_pos c9] at H
                  have c9b0 : decide (0 < x11_1) = true := decide_eq_true c9
                  clear c9
                  obtain ⟨ji10, hji10⟩ : ∃ j_ : Int, (wrap64 (x11_1 - 1)) = j_ := ⟨_, rfl⟩
                  replace H : (if 0 ≤ (ji10) then (if (ji10) < (l0.length : Int) then (kissgateref07_Good.j1 k1 l0 l1 l0 (l0.length : Int) x11_1 (decide ((rd l0 (ji10)) ≥ (rd l0 x11_1)))) else (none)) else (none)) = some r := by first | (rw [hji10] at H; exact H) | (simp only [hji10] at H ⊢; exact H)
                  (try rw [hji10] at A7)
                  have hji10w : (IntKind.i64.wrap (x11_1 - 1)) = ji10 := (i64_w _).trans hji10
                  by_cases c11 : 0 ≤ (ji10)
                  · rw [if_pos c11] at H
                    have c11b0 : decide (0 ≤ (ji10)) = true := decide_eq_true c11
                    clear c11
                    by_cases c12 : (ji10) < (l0.length : Int)
                    · rw [if_pos c12] at H
                      have c12b0 : decide ((ji10) < (l0.length : Int)) = true := decide_eq_true c12
                      clear c12
                      have H' := Aside0.mk H
                      clear H
                      go_wp2_with (first | ((with_reducible refine gate_callee (f := 21) rfl ?_); refine goesL_ (some 17) rfl rfl Try.func21 (by kernel_rfl) rfl #[.int .i64 (rd l0 x11_1)] rfl (by (try simp only [List.map_toArray, List.map_cons, List.map_nil]); first | done | rfl | (simp only [List.length_drop, List.length_take]; rfl) | (go_simp; first | done | (unfold wrap64; omega))) ?_; (with_reducible refine (kissgateref07_Size.calls (rd l0 x11_1) t222 _ A7.out).mono ?_); rintro e w' ⟨rfl, ⟨nd, rfl⟩⟩; refine ⟨_, rfl, ?_⟩; have p223 : 0 ≤ ((ji10) : Int) := of_decide_eq_true (by first | (with_reducible assumption) | assumption); have q223 : (ji10) < (l0.length : Int) := of_decide_eq_true (by first | (with_reducible assumption) | assumption); obtain ⟨ad223, e223, hx223_0⟩ := Kd.at_int HR0.out (ji10) p223 q223; obtain rfl : ad221 = ad223 := (by injection e223); (try replace hx223_0 := (HB.out.cell (World.block_lt_of_cell? w _ hx223_0)).trans hx223_0); replace p223 := eq_true p223; replace q223 := eq_true q223))
                      go_meet
                      case rel => exact ⟨_, (decide ((rd l0 (ji10)) ≥ (rd l0 x11_1))), (by first | rfl | (simp; done) | (simp only [← hji10] <;> (first | rfl | simp)) | (simp [*]; done)), H', ⟨by have := HK1.out; first | omega | exact Nat.le_refl _⟩, ⟨by repeat (first | (with_reducible first | exact HB.out | apply below_alloc | apply pw_below_drewN | apply below_drew1) | exact HB.out)⟩⟩
                    · rw [if_neg c12] at H
                      exact absurd H (by simp)
                  · rw [if_neg c11] at H
                    exact absurd H (by simp)
                · rw [if_neg c9] at H
                  have c9b0 : decide (0 < x11_1) = false := decide_eq_false c9
                  clear c9
                  have H' := Aside0.mk H
                  clear H
                  go_wp2_with (first | ((with_reducible refine gate_callee (f := 21) rfl ?_); refine goesL_ (some 17) rfl rfl Try.func21 (by kernel_rfl) rfl #[.int .i64 (rd l0 x11_1)] rfl (by (try simp only [List.map_toArray, List.map_cons, List.map_nil]); first | done | rfl | (simp only [List.length_drop, List.length_take]; rfl) | (go_simp; first | done | (unfold wrap64; omega))) ?_; (with_reducible refine (kissgateref07_Size.calls (rd l0 x11_1) t222 _ A7.out).mono ?_); rintro e w' ⟨rfl, ⟨nd, rfl⟩⟩; refine ⟨_, rfl, ?_⟩))
                  go_meet
                  case rel => exact ⟨_, (false), (by first | rfl | (simp; done) | (simp [show ∀ l_ : List UInt8, (l_ != []) = !l_.isEmpty from fun l_ => by cases l_ <;> rfl]; done) | (simp [*]; done)), H', ⟨by have := HK1.out; first | omega | exact Nat.le_refl _⟩, ⟨by repeat (first | (with_reducible first | exact HB.out | apply below_alloc | apply pw_below_drewN | apply below_drew1) | exact HB.out)⟩⟩
            case rest =>
              clear HC6
              try clear c1
              try clear c2
              try clear p2
              try clear q2
              try clear hx2
              try clear c3
              try clear c3b0
              try clear c4
              try clear c4b0
              try clear c5
              try clear c5b0
              try clear p6
              try clear c8
              try clear c8b0
              try clear c8b1
              try clear c9
              try clear c9b0
              try clear c11
              try clear c11b0
              try clear c12
              try clear c12b0
              try clear hx221_0
              try clear hx223_0
              try clear p2
              try clear p221
              try clear p223
              try clear q221
              try clear q223
              obtain ⟨kq, x31_5, rfl, HA, HJ5, HB⟩ := hcut
              cases kq with
              | zero => exact absurd HA.out (by simp [kissgateref07_Good.j1])
              | succ kj5 =>
                have H := HA.out
                clear HA
                simp only [kissgateref07_Good.j1] at H
                by_cases c13 : x31_5 = true
                · subst c13
                  have H1 : (some false) = some r := by rw [if_pos rfl] at H; exact H
                  clear H
                  have H := H1
                  clear H1
                  obtain rfl := Option.some.inj H
                  go_wp2
                  go_ret
                  exact ⟨by first | rfl | (simp [show ∀ l_ : List UInt8, (l_ == []) = l_.isEmpty from fun l_ => by cases l_ <;> rfl]; done) | (simp [errW_none, errW_some] <;> rfl) | ((repeat rw [Int.tdiv_eq_ediv_of_nonneg (by omega)]); (repeat rw [Int.tmod_eq_emod_of_nonneg (by omega)]); first | rfl | (simp [errW_none, errW_some] <;> rfl)) | (simp [*, errW_none, errW_some] <;> rfl), by repeat (first | (with_reducible first | exact HB.out | apply below_alloc | apply pw_below_drewN | apply below_drew1) | exact HB.out)⟩
                · replace c13 := Bool.eq_false_iff.mpr c13
                  subst c13
                  have H1 : (kissgateref07_Good.l0 kj5 l0 l1 l0 (l0.length : Int) (wrap64 (x11_1 + 1))) = some r := by rw [if_neg (show ¬ (false = true) by decide)] at H; exact H
                  clear H
                  have H := H1
                  clear H1
                  have H' := Aside0.mk H
                  clear H
                  go_wp2
                  go_roundg kj5
                  case measure => have := HK1.out; have := HJ5.out; omega
                  case rel => exact ⟨(wrap64 (x11_1 + 1)), (by first | rfl | (simp; done) | (simp [show ∀ l_ : List UInt8, (l_ != []) = !l_.isEmpty from fun l_ => by cases l_ <;> rfl]; done) | (simp [*]; done)), H', ⟨by have := HK1.out; have := HJ5.out; omega⟩, ⟨by repeat (first | (with_reducible first | exact HB.out | apply below_alloc | apply pw_below_drewN | apply below_drew1) | exact HB.out)⟩⟩
          · rw [if_neg c5] at H
            exact absurd H (by simp)
        · rw [if_neg c4] at H
          exact absurd H (by simp)
      · rw [if_neg c3] at H
        have c3b0 : decide (x11_1 < (l0.length : Int)) = false := decide_eq_false c3
        clear c3
        have H' := Aside0.mk H
        clear H
        go_wp2
        go_loopg [35] k1 (fun kq v35 w' => ∃ (x35_2 : Int), v35 = .int .i64 x35_2 ∧ Aside0 (kissgateref07_Good.l1 kq l1 l1 (l1.length : Int) x35_2 = some r) ∧ Aside0 (kq ≤ k1) ∧ Aside0 (Below w.heap.size w w'))
        case atStart => exact ⟨(0), (by first | rfl | (simp; done) | (simp [show ∀ l_ : List UInt8, (l_ != []) = !l_.isEmpty from fun l_ => by cases l_ <;> rfl]; done) | (simp [*]; done)), H', ⟨Nat.le_refl _⟩, ⟨by repeat (first | (with_reducible first | exact HB.out | apply below_alloc | apply pw_below_drewN | apply below_drew1) | exact HB.out)⟩⟩
        case round =>
          clear H'
          try clear c1
          try clear c2
          try clear p2
          try clear q2
          try clear hx2
          try clear c3
          try clear c3b0
          try clear c4
          try clear c4b0
          try clear c5
          try clear c5b0
          try clear p6
          try clear c8
          try clear c8b0
          try clear c8b1
          try clear c9
          try clear c9b0
          try clear c11
          try clear c11b0
          try clear c12
          try clear c12b0
          try clear c13
          try clear hx221_0
          try clear hx223_0
          try clear p2
          try clear p221
          try clear p223
          try clear p6
          try clear q2
          try clear q221
          try clear q223
          obtain ⟨x35_2, rfl, HA, HK2, HB⟩ := hrel
          cases gk with
          | zero => exact absurd HA.out (by simp [kissgateref07_Good.l1])
          | succ k2 =>
            have H := HA.out
            clear HA
            simp only [kissgateref07_Good.l1] at H
            by_cases c14 : x35_2 < (l1.length : Int)
            · rw [if_pos c14] at H
              have c14b0 : decide (x35_2 < (l1.length : Int)) = true := decide_eq_true c14
              clear c14
              by_cases c15 : 0 ≤ x35_2
              · rw [if_pos c15] at H
                have c15b0 : decide (0 ≤ x35_2) = true := decide_eq_true c15
                clear c15
                by_cases c16 : x35_2 < (l1.length : Int)
                · rw [if_pos c16] at H
                  have c16b0 : decide (x35_2 < (l1.length : Int)) = true := decide_eq_true c16
                  clear c16
                  have HC17 := Aside0.mk H
                  clear H
                  have p224 : 0 ≤ (x35_2 : Int) := of_decide_eq_true (by first | (with_reducible assumption) | assumption)
                  have q224 : x35_2 < (l1.length : Int) := of_decide_eq_true (by first | (with_reducible assumption) | assumption)
                  obtain ⟨ad224, e224, hx224_0, hx224_1, hx224_2, hx224_3⟩ := at_T43 HR1.out x35_2 p224 q224
                  cases e224
                  (try replace hx224_0 := (HB.out.cell (World.block_lt_of_cell? w _ hx224_0)).trans hx224_0)
                  (try replace hx224_1 := (HB.out.cell (World.block_lt_of_cell? w _ hx224_1)).trans hx224_1)
                  (try replace hx224_2 := (HB.out.cell (World.block_lt_of_cell? w _ hx224_2)).trans hx224_2)
                  (try replace hx224_3 := (HB.out.cell (World.block_lt_of_cell? w _ hx224_3)).trans hx224_3)
                  replace p224 := eq_true p224
                  replace q224 := eq_true q224
                  go_upto_region 10 with (first | ((with_reducible refine gate_dst (N := 8) rfl ?_); refine box_event ?hg (N := 8) ?hd (cs := #[.int .i64 0, .int .i64 0, .int .i64 0, .int .i64 0]) (t := 43) ?hr ?_; (case hd => rfl); (case hg => rfl); (case hr => first | (go_simp; done) | (go_simp; rfl)); intro gb225 hg w18 hbox hb; have n0_ := Aside0.mk (below_step (by repeat (first | (with_reducible first | exact HB.out | apply below_alloc | apply pw_below_drewN | apply below_drew1) | exact HB.out)) hb); have n1_ := Aside0.mk (hbox); have n2_ := Aside0.mk ((by rw [hg]; exact (below_size (by repeat (first | (with_reducible first | exact HB.out | apply below_alloc | apply pw_below_drewN | apply below_drew1) | exact HB.out))) : w.heap.size ≤ gb225)); have n3_ := Aside0.mk ((by rw [hg]; exact (below_size (by repeat (first | (with_reducible first | exact HB.out | apply below_alloc | apply pw_below_drewN | apply below_drew1) | exact HB.out))) : w.heap.size ≤ gb225)); clear HB; have HB := n0_; have BK225 := n1_; have GW225 := n2_; have GE225 := n3_; clear n0_ n1_ n2_ n3_; clear hb hbox hg; have hcz19_0 : w18.cell? ⟨gb225, 0, none⟩ = some (.int .i64 0) := (blk_cell BK225.out 0).trans rfl; have hcz19_1 : w18.cell? ⟨gb225, 1, none⟩ = some (.int .i64 0) := (blk_cell BK225.out 1).trans rfl; have hcz19_2 : w18.cell? ⟨gb225, 2, none⟩ = some (.int .i64 0) := (blk_cell BK225.out 2).trans rfl; have hcz19_3 : w18.cell? ⟨gb225, 3, none⟩ = some (.int .i64 0) := (blk_cell BK225.out 3).trans rfl; have hfz19_0 := blk_frozen BK225.out 0; have hfz19_1 := blk_frozen BK225.out 1; have hfz19_2 := blk_frozen BK225.out 2; have hfz19_3 := blk_frozen BK225.out 3))
                  (try simp only [Act.put, List.setIfInBounds_toArray, List.set_cons_zero, List.set_cons_succ])
                  go_cut [63] (fun v63 wc => ∃ (kq : Nat) (x63_16 : Bool), v63 = .bool x63_16 ∧ Aside0 (kissgateref07_Good.j3 kq l1 x35_2 l1 (l1.length : Int) x35_2 x63_16 ((rd_T43 l1 x35_2).f0.f0) ((rd_T43 l1 x35_2).f0.f1) ((rd_T43 l1 x35_2).f1) ((rd_T43 l1 x35_2).f2) = some r) ∧ Aside0 (kq ≤ k2) ∧ Aside0 (wc.heap[gb225]? = some (.cells #[.int .i64 ((rd_T43 l1 x35_2).f0.f0), .int .i64 ((rd_T43 l1 x35_2).f0.f1), .int .i64 ((rd_T43 l1 x35_2).f1), .int .i64 ((rd_T43 l1 x35_2).f2)] 43 (0, 0))) ∧ Aside0 (Below w.heap.size w wc))
                  case first =>
                    have H := HC17.out
                    clear HC17
                    replace H := Option.bind_eq_some_iff.mp H
                    obtain ⟨t226, A200, H⟩ := H
                    replace H : (if t226 = true then (if ((rd_T43 l1 x35_2).f1) < 0 then (kissgateref07_Good.j3 k2 l1 x35_2 l1 (l1.length : Int) x35_2 true ((rd_T43 l1 x35_2).f0.f0) ((rd_T43 l1 x35_2).f0.f1) ((rd_T43 l1 x35_2).f1) ((rd_T43 l1 x35_2).f2)) else (if ((rd_T43 l1 x35_2).f1) > 5 then (kissgateref07_Good.j3 k2 l1 x35_2 l1 (l1.length : Int) x35_2 true ((rd_T43 l1 x35_2).f0.f0) ((rd_T43 l1 x35_2).f0.f1) ((rd_T43 l1 x35_2).f1) ((rd_T43 l1 x35_2).f2)) else (if ((rd_T43 l1 x35_2).f2) < 0 then (kissgateref07_Good.j3 k2 l1 x35_2 l1 (l1.length : Int) x35_2 true ((rd_T43 l1 x35_2).f0.f0) ((rd_T43 l1 x35_2).f0.f1) ((rd_T43 l1 x35_2).f1) ((rd_T43 l1 x35_2).f2)) else (kissgateref07_Good.j3 k2 l1 x35_2 l1 (l1.length : Int) x35_2 (decide (((rd_T43 l1 x35_2).f2) > 1048576)) ((rd_T43 l1 x35_2).f0.f0) ((rd_T43 l1 x35_2).f0.f1) ((rd_T43 l1 x35_2).f1) ((rd_T43 l1 x35_2).f2))))) else (kissgateref07_Good.j3 k2 l1 x35_2 l1 (l1.length : Int) x35_2 true ((rd_T43 l1 x35_2).f0.f0) ((rd_T43 l1 x35_2).f0.f1) ((rd_T43 l1 x35_2).f1) ((rd_T43 l1 x35_2).f2))) = some r := H
                    have A20 := Aside0.mk A200
                    clear A200
                    by_cases c21 : t226 = true
                    · subst c21
                      have H1 : (if ((rd_T43 l1 x35_2).f1) < 0 then (kissgateref07_Good.j3 k2 l1 x35_2 l1 (l1.length : Int) x35_2 true ((rd_T43 l1 x35_2).f0.f0) ((rd_T43 l1 x35_2).f0.f1) ((rd_T43 l1 x35_2).f1) ((rd_T43 l1 x35_2).f2)) else (if ((rd_T43 l1 x35_2).f1) > 5 then (kissgateref07_Good.j3 k2 l1 x35_2 l1 (l1.length : Int) x35_2 true ((rd_T43 l1 x35_2).f0.f0) ((rd_T43 l1 x35_2).f0.f1) ((rd_T43 l1 x35_2).f1) ((rd_T43 l1 x35_2).f2)) else (if ((rd_T43 l1 x35_2).f2) < 0 then (kissgateref07_Good.j3 k2 l1 x35_2 l1 (l1.length : Int) x35_2 true ((rd_T43 l1 x35_2).f0.f0) ((rd_T43 l1 x35_2).f0.f1) ((rd_T43 l1 x35_2).f1) ((rd_T43 l1 x35_2).f2)) else (kissgateref07_Good.j3 k2 l1 x35_2 l1 (l1.length : Int) x35_2 (decide (((rd_T43 l1 x35_2).f2) > 1048576)) ((rd_T43 l1 x35_2).f0.f0) ((rd_T43 l1 x35_2).f0.f1) ((rd_T43 l1 x35_2).f1) ((rd_T43 l1 x35_2).f2))))) = some r := by rw [if_pos rfl] at H; exact H
                      clear H
                      have H := H1
                      clear H1
                      by_cases c22 : ((rd_T43 l1 x35_2).f1) < 0
                      · rw [if_pos c22] at H
                        have c22b0 : decide (((rd_T43 l1 x35_2).f1) < 0) = true := decide_eq_true c22
                        clear c22
                        (first | rw [c22b0] | (simp only [i64_w, i32_w]; rw [c22b0]) | skip)
                        have H' := Aside0.mk H
                        clear H
                        have hcz23_0 : w18.cell? ⟨gb225, 0, none⟩ = some (.int .i64 0) := (blk_cell BK225.out 0).trans rfl
                        have hcz23_1 : w18.cell? ⟨gb225, 1, none⟩ = some (.int .i64 0) := (blk_cell BK225.out 1).trans rfl
                        have hcz23_2 : w18.cell? ⟨gb225, 2, none⟩ = some (.int .i64 0) := (blk_cell BK225.out 2).trans rfl
                        have hcz23_3 : w18.cell? ⟨gb225, 3, none⟩ = some (.int .i64 0) := (blk_cell BK225.out 3).trans rfl
                        have hfz23_0 := blk_frozen BK225.out 0
                        have hfz23_1 := blk_frozen BK225.out 1
                        have hfz23_2 := blk_frozen BK225.out 2
                        have hfz23_3 := blk_frozen BK225.out 3
                        go_wp2_with (first | ((with_reducible refine gate_callee (f := 19) rfl ?_); refine goesL_ (some 42) rfl rfl Try.func19 (by kernel_rfl) rfl #[.agg #[.int .i64 ((rd_T43 l1 x35_2).f0.f0), .int .i64 ((rd_T43 l1 x35_2).f0.f1)]] rfl (by (try simp only [List.map_toArray, List.map_cons, List.map_nil]); first | done | rfl | (simp only [List.length_drop, List.length_take]; rfl) | (go_simp; first | done | (unfold wrap64; omega))) ?_; (with_reducible refine (kissgateref07_Attr.calls ((rd_T43 l1 x35_2).f0.f0) ((rd_T43 l1 x35_2).f0.f1) true _ A20.out).mono ?_); rintro e w24 ⟨rfl, hb⟩; refine ⟨_, rfl, ?_⟩; have n0_ := Aside0.mk (blk_below (g := gb225) (o := .cells #[.int .i64 ((rd_T43 l1 x35_2).f0.f0), .int .i64 ((rd_T43 l1 x35_2).f0.f1), .int .i64 ((rd_T43 l1 x35_2).f1), .int .i64 ((rd_T43 l1 x35_2).f2)] 43 (0, 0)) (by (with_reducible repeat (first | refine blk_drewN ?_ _ | refine blk_drew ?_ | refine blk_alloc ?_ _)); refine blk_put (cs := #[.int .i64 ((rd_T43 l1 x35_2).f0.f0), .int .i64 ((rd_T43 l1 x35_2).f0.f1), .int .i64 ((rd_T43 l1 x35_2).f1), .int .i64 0]) ?_ 3 _ rfl; (with_reducible repeat (first | refine blk_drewN ?_ _ | refine blk_drew ?_ | refine blk_alloc ?_ _)); refine blk_put (cs := #[.int .i64 ((rd_T43 l1 x35_2).f0.f0), .int .i64 ((rd_T43 l1 x35_2).f0.f1), .int .i64 0, .int .i64 0]) ?_ 2 _ rfl; (with_reducible repeat (first | refine blk_drewN ?_ _ | refine blk_drew ?_ | refine blk_alloc ?_ _)); refine blk_put (cs := #[.int .i64 ((rd_T43 l1 x35_2).f0.f0), .int .i64 0, .int .i64 0, .int .i64 0]) ?_ 1 _ rfl; (with_reducible repeat (first | refine blk_drewN ?_ _ | refine blk_drew ?_ | refine blk_alloc ?_ _)); refine blk_put (cs := #[.int .i64 0, .int .i64 0, .int .i64 0, .int .i64 0]) ?_ 0 _ rfl; (with_reducible repeat (first | refine blk_drewN ?_ _ | refine blk_drew ?_ | refine blk_alloc ?_ _)); exact BK225.out) hb); have n1_ := Aside0.mk (below_step (by repeat (first | (with_reducible first | exact HB.out | apply below_alloc | apply pw_below_drewN | apply below_drew1 | refine below_set ?_ GE225.out) | exact HB.out)) hb); clear BK225; clear HB; have BK225 := n0_; have HB := n1_; clear n0_ n1_; (try clear hb); (try clear hb2); (try clear hk); (try clear hi); have hcz25_0 : w24.cell? ⟨gb225, 0, none⟩ = some (.int .i64 ((rd_T43 l1 x35_2).f0.f0)) := (blk_cell BK225.out 0).trans rfl; have hcz25_1 : w24.cell? ⟨gb225, 1, none⟩ = some (.int .i64 ((rd_T43 l1 x35_2).f0.f1)) := (blk_cell BK225.out 1).trans rfl; have hcz25_2 : w24.cell? ⟨gb225, 2, none⟩ = some (.int .i64 ((rd_T43 l1 x35_2).f1)) := (blk_cell BK225.out 2).trans rfl; have hcz25_3 : w24.cell? ⟨gb225, 3, none⟩ = some (.int .i64 ((rd_T43 l1 x35_2).f2)) := (blk_cell BK225.out 3).trans rfl; have hfz25_0 := blk_frozen BK225.out 0; have hfz25_1 := blk_frozen BK225.out 1; have hfz25_2 := blk_frozen BK225.out 2; have hfz25_3 := blk_frozen BK225.out 3))
                        go_meet
                        case rel => exact ⟨_, (true), (by first | rfl | (simp; done) | (simp [show ∀ l_ : List UInt8, (l_ != []) = !l_.isEmpty from fun l_ => by cases l_ <;> rfl]; done) | (simp [*]; done)), H', ⟨by have := HK1.out; have := HK2.out; first | omega | exact Nat.le_refl _⟩, ⟨by (with_reducible repeat (first | refine blk_drewN ?_ _ | refine blk_drew ?_ | refine blk_alloc ?_ _)); exact BK225.out⟩, ⟨by repeat (first | (with_reducible first | exact HB.out | apply below_alloc | apply pw_below_drewN | apply below_drew1 | refine below_set ?_ GE225.out) | exact HB.out)⟩⟩
                      · rw [if_neg c22] at H
                        have c22b0 : decide (((rd_T43 l1 x35_2).f1) < 0) = false := decide_eq_false c22
                        clear c22
                        (first | rw [c22b0] | (simp only [i64_w, i32_w]; rw [c22b0]) | skip)
                        by_cases c26 : ((rd_T43 l1 x35_2).f1) > 5
                        · rw [if_pos c26] at H
                          have c26b0 : decide (5 < ((rd_T43 l1 x35_2).f1)) = true := decide_eq_true c26
                          clear c26
                          have H' := Aside0.mk H
                          clear H
                          have hcz27_0 : w18.cell? ⟨gb225, 0, none⟩ = some (.int .i64 0) := (blk_cell BK225.out 0).trans rfl
                          have hcz27_1 : w18.cell? ⟨gb225, 1, none⟩ = some (.int .i64 0) := (blk_cell BK225.out 1).trans rfl
                          have hcz27_2 : w18.cell? ⟨gb225, 2, none⟩ = some (.int .i64 0) := (blk_cell BK225.out 2).trans rfl
                          have hcz27_3 : w18.cell? ⟨gb225, 3, none⟩ = some (.int .i64 0) := (blk_cell BK225.out 3).trans rfl
                          have hfz27_0 := blk_frozen BK225.out 0
                          have hfz27_1 := blk_frozen BK225.out 1
                          have hfz27_2 := blk_frozen BK225.out 2
                          have hfz27_3 := blk_frozen BK225.out 3
                          go_wp2_with (first | ((with_reducible refine gate_callee (f := 19) rfl ?_); refine goesL_ (some 42) rfl rfl Try.func19 (by kernel_rfl) rfl #[.agg #[.int .i64 ((rd_T43 l1 x35_2).f0.f0), .int .i64 ((rd_T43 l1 x35_2).f0.f1)]] rfl (by (try simp only [List.map_toArray, List.map_cons, List.map_nil]); first | done | rfl | (simp only [List.length_drop, List.length_take]; rfl) | (go_simp; first | done | (unfold wrap64; omega))) ?_; (with_reducible refine (kissgateref07_Attr.calls ((rd_T43 l1 x35_2).f0.f0) ((rd_T43 l1 x35_2).f0.f1) true _ A20.out).mono ?_); rintro e w28 ⟨rfl, hb⟩; refine ⟨_, rfl, ?_⟩; have n0_ := Aside0.mk (blk_below (g := gb225) (o := .cells #[.int .i64 ((rd_T43 l1 x35_2).f0.f0), .int .i64 ((rd_T43 l1 x35_2).f0.f1), .int .i64 ((rd_T43 l1 x35_2).f1), .int .i64 ((rd_T43 l1 x35_2).f2)] 43 (0, 0)) (by (with_reducible repeat (first | refine blk_drewN ?_ _ | refine blk_drew ?_ | refine blk_alloc ?_ _)); refine blk_put (cs := #[.int .i64 ((rd_T43 l1 x35_2).f0.f0), .int .i64 ((rd_T43 l1 x35_2).f0.f1), .int .i64 ((rd_T43 l1 x35_2).f1), .int .i64 0]) ?_ 3 _ rfl; (with_reducible repeat (first | refine blk_drewN ?_ _ | refine blk_drew ?_ | refine blk_alloc ?_ _)); refine blk_put (cs := #[.int .i64 ((rd_T43 l1 x35_2).f0.f0), .int .i64 ((rd_T43 l1 x35_2).f0.f1), .int .i64 0, .int .i64 0]) ?_ 2 _ rfl; (with_reducible repeat (first | refine blk_drewN ?_ _ | refine blk_drew ?_ | refine blk_alloc ?_ _)); refine blk_put (cs := #[.int .i64 ((rd_T43 l1 x35_2).f0.f0), .int .i64 0, .int .i64 0, .int .i64 0]) ?_ 1 _ rfl; (with_reducible repeat (first | refine blk_drewN ?_ _ | refine blk_drew ?_ | refine blk_alloc ?_ _)); refine blk_put (cs := #[.int .i64 0, .int .i64 0, .int .i64 0, .int .i64 0]) ?_ 0 _ rfl; (with_reducible repeat (first | refine blk_drewN ?_ _ | refine blk_drew ?_ | refine blk_alloc ?_ _)); exact BK225.out) hb); have n1_ := Aside0.mk (below_step (by repeat (first | (with_reducible first | exact HB.out | apply below_alloc | apply pw_below_drewN | apply below_drew1 | refine below_set ?_ GE225.out) | exact HB.out)) hb); clear BK225; clear HB; have BK225 := n0_; have HB := n1_; clear n0_ n1_; (try clear hb); (try clear hb2); (try clear hk); (try clear hi); have hcz29_0 : w28.cell? ⟨gb225, 0, none⟩ = some (.int .i64 ((rd_T43 l1 x35_2).f0.f0)) := (blk_cell BK225.out 0).trans rfl; have hcz29_1 : w28.cell? ⟨gb225, 1, none⟩ = some (.int .i64 ((rd_T43 l1 x35_2).f0.f1)) := (blk_cell BK225.out 1).trans rfl; have hcz29_2 : w28.cell? ⟨gb225, 2, none⟩ = some (.int .i64 ((rd_T43 l1 x35_2).f1)) := (blk_cell BK225.out 2).trans rfl; have hcz29_3 : w28.cell? ⟨gb225, 3, none⟩ = some (.int .i64 ((rd_T43 l1 x35_2).f2)) := (blk_cell BK225.out 3).trans rfl; have hfz29_0 := blk_frozen BK225.out 0; have hfz29_1 := blk_frozen BK225.out 1; have hfz29_2 := blk_frozen BK225.out 2; have hfz29_3 := blk_frozen BK225.out 3))
                          go_meet
                          case rel => exact ⟨_, (true), (by first | rfl | (simp; done) | (simp [show ∀ l_ : List UInt8, (l_ != []) = !l_.isEmpty from fun l_ => by cases l_ <;> rfl]; done) | (simp [*]; done)), H', ⟨by have := HK1.out; have := HK2.out; first | omega | exact Nat.le_refl _⟩, ⟨by (with_reducible repeat (first | refine blk_drewN ?_ _ | refine blk_drew ?_ | refine blk_alloc ?_ _)); exact BK225.out⟩, ⟨by repeat (first | (with_reducible first | exact HB.out | apply below_alloc | apply pw_below_drewN | apply below_drew1 | refine below_set ?_ GE225.out) | exact HB.out)⟩⟩
                        · rw [if_neg c26] at H
                          have c26b0 : decide (5 < ((rd_T43 l1 x35_2).f1)) = false := decide_eq_false c26
                          clear c26
                          by_cases c30 : ((rd_T43 l1 x35_2).f2) < 0
                          · rw [if_pos c30] at H
                            have c30b0 : decide (((rd_T43 l1 x35_2).f2) < 0) = true := decide_eq_true c30
                            clear c30
                            have H' := Aside0.mk H
                            clear H
                            have hcz31_0 : w18.cell? ⟨gb225, 0, none⟩ = some (.int .i64 0) := (blk_cell BK225.out 0).trans rfl
                            have hcz31_1 : w18.cell? ⟨gb225, 1, none⟩ = some (.int .i64 0) := (blk_cell BK225.out 1).trans rfl
                            have hcz31_2 : w18.cell? ⟨gb225, 2, none⟩ = some (.int .i64 0) := (blk_cell BK225.out 2).trans rfl
                            have hcz31_3 : w18.cell? ⟨gb225, 3, none⟩ = some (.int .i64 0) := (blk_cell BK225.out 3).trans rfl
                            have hfz31_0 := blk_frozen BK225.out 0
                            have hfz31_1 := blk_frozen BK225.out 1
                            have hfz31_2 := blk_frozen BK225.out 2
                            have hfz31_3 := blk_frozen BK225.out 3
                            go_wp2_with (first | ((with_reducible refine gate_callee (f := 19) rfl ?_); refine goesL_ (some 42) rfl rfl Try.func19 (by kernel_rfl) rfl #[.agg #[.int .i64 ((rd_T43 l1 x35_2).f0.f0), .int .i64 ((rd_T43 l1 x35_2).f0.f1)]] rfl (by (try simp only [List.map_toArray, List.map_cons, List.map_nil]); first | done | rfl | (simp only [List.length_drop, List.length_take]; rfl) | (go_simp; first | done | (unfold wrap64; omega))) ?_; (with_reducible refine (kissgateref07_Attr.calls ((rd_T43 l1 x35_2).f0.f0) ((rd_T43 l1 x35_2).f0.f1) true _ A20.out).mono ?_); rintro e w32 ⟨rfl, hb⟩; refine ⟨_, rfl, ?_⟩; have n0_ := Aside0.mk (blk_below (g := gb225) (o := .cells #[.int .i64 ((rd_T43 l1 x35_2).f0.f0), .int .i64 ((rd_T43 l1 x35_2).f0.f1), .int .i64 ((rd_T43 l1 x35_2).f1), .int .i64 ((rd_T43 l1 x35_2).f2)] 43 (0, 0)) (by (with_reducible repeat (first | refine blk_drewN ?_ _ | refine blk_drew ?_ | refine blk_alloc ?_ _)); refine blk_put (cs := #[.int .i64 ((rd_T43 l1 x35_2).f0.f0), .int .i64 ((rd_T43 l1 x35_2).f0.f1), .int .i64 ((rd_T43 l1 x35_2).f1), .int .i64 0]) ?_ 3 _ rfl; (with_reducible repeat (first | refine blk_drewN ?_ _ | refine blk_drew ?_ | refine blk_alloc ?_ _)); refine blk_put (cs := #[.int .i64 ((rd_T43 l1 x35_2).f0.f0), .int .i64 ((rd_T43 l1 x35_2).f0.f1), .int .i64 0, .int .i64 0]) ?_ 2 _ rfl; (with_reducible repeat (first | refine blk_drewN ?_ _ | refine blk_drew ?_ | refine blk_alloc ?_ _)); refine blk_put (cs := #[.int .i64 ((rd_T43 l1 x35_2).f0.f0), .int .i64 0, .int .i64 0, .int .i64 0]) ?_ 1 _ rfl; (with_reducible repeat (first | refine blk_drewN ?_ _ | refine blk_drew ?_ | refine blk_alloc ?_ _)); refine blk_put (cs := #[.int .i64 0, .int .i64 0, .int .i64 0, .int .i64 0]) ?_ 0 _ rfl; (with_reducible repeat (first | refine blk_drewN ?_ _ | refine blk_drew ?_ | refine blk_alloc ?_ _)); exact BK225.out) hb); have n1_ := Aside0.mk (below_step (by repeat (first | (with_reducible first | exact HB.out | apply below_alloc | apply pw_below_drewN | apply below_drew1 | refine below_set ?_ GE225.out) | exact HB.out)) hb); clear BK225; clear HB; have BK225 := n0_; have HB := n1_; clear n0_ n1_; (try clear hb); (try clear hb2); (try clear hk); (try clear hi); have hcz33_0 : w32.cell? ⟨gb225, 0, none⟩ = some (.int .i64 ((rd_T43 l1 x35_2).f0.f0)) := (blk_cell BK225.out 0).trans rfl; have hcz33_1 : w32.cell? ⟨gb225, 1, none⟩ = some (.int .i64 ((rd_T43 l1 x35_2).f0.f1)) := (blk_cell BK225.out 1).trans rfl; have hcz33_2 : w32.cell? ⟨gb225, 2, none⟩ = some (.int .i64 ((rd_T43 l1 x35_2).f1)) := (blk_cell BK225.out 2).trans rfl; have hcz33_3 : w32.cell? ⟨gb225, 3, none⟩ = some (.int .i64 ((rd_T43 l1 x35_2).f2)) := (blk_cell BK225.out 3).trans rfl; have hfz33_0 := blk_frozen BK225.out 0; have hfz33_1 := blk_frozen BK225.out 1; have hfz33_2 := blk_frozen BK225.out 2; have hfz33_3 := blk_frozen BK225.out 3))
                            go_meet
                            case rel => exact ⟨_, (true), (by first | rfl | (simp; done) | (simp [show ∀ l_ : List UInt8, (l_ != []) = !l_.isEmpty from fun l_ => by cases l_ <;> rfl]; done) | (simp [*]; done)), H', ⟨by have := HK1.out; have := HK2.out; first | omega | exact Nat.le_refl _⟩, ⟨by (with_reducible repeat (first | refine blk_drewN ?_ _ | refine blk_drew ?_ | refine blk_alloc ?_ _)); exact BK225.out⟩, ⟨by repeat (first | (with_reducible first | exact HB.out | apply below_alloc | apply pw_below_drewN | apply below_drew1 | refine below_set ?_ GE225.out) | exact HB.out)⟩⟩
                          · rw [if_neg c30] at H
                            have c30b0 : decide (((rd_T43 l1 x35_2).f2) < 0) = false := decide_eq_false c30
                            clear c30
                            have H' := Aside0.mk H
                            clear H
                            have hcz34_0 : w18.cell? ⟨gb225, 0, none⟩ = some (.int .i64 0) := (blk_cell BK225.out 0).trans rfl
                            have hcz34_1 : w18.cell? ⟨gb225, 1, none⟩ = some (.int .i64 0) := (blk_cell BK225.out 1).trans rfl
                            have hcz34_2 : w18.cell? ⟨gb225, 2, none⟩ = some (.int .i64 0) := (blk_cell BK225.out 2).trans rfl
                            have hcz34_3 : w18.cell? ⟨gb225, 3, none⟩ = some (.int .i64 0) := (blk_cell BK225.out 3).trans rfl
                            have hfz34_0 := blk_frozen BK225.out 0
                            have hfz34_1 := blk_frozen BK225.out 1
                            have hfz34_2 := blk_frozen BK225.out 2
                            have hfz34_3 := blk_frozen BK225.out 3
                            go_wp2_with (first | ((with_reducible refine gate_callee (f := 19) rfl ?_); refine goesL_ (some 42) rfl rfl Try.func19 (by kernel_rfl) rfl #[.agg #[.int .i64 ((rd_T43 l1 x35_2).f0.f0), .int .i64 ((rd_T43 l1 x35_2).f0.f1)]] rfl (by (try simp only [List.map_toArray, List.map_cons, List.map_nil]); first | done | rfl | (simp only [List.length_drop, List.length_take]; rfl) | (go_simp; first | done | (unfold wrap64; omega))) ?_; (with_reducible refine (kissgateref07_Attr.calls ((rd_T43 l1 x35_2).f0.f0) ((rd_T43 l1 x35_2).f0.f1) true _ A20.out).mono ?_); rintro e w35 ⟨rfl, hb⟩; refine ⟨_, rfl, ?_⟩; have n0_ := Aside0.mk (blk_below (g := gb225) (o := .cells #[.int .i64 ((rd_T43 l1 x35_2).f0.f0), .int .i64 ((rd_T43 l1 x35_2).f0.f1), .int .i64 ((rd_T43 l1 x35_2).f1), .int .i64 ((rd_T43 l1 x35_2).f2)] 43 (0, 0)) (by (with_reducible repeat (first | refine blk_drewN ?_ _ | refine blk_drew ?_ | refine blk_alloc ?_ _)); refine blk_put (cs := #[.int .i64 ((rd_T43 l1 x35_2).f0.f0), .int .i64 ((rd_T43 l1 x35_2).f0.f1), .int .i64 ((rd_T43 l1 x35_2).f1), .int .i64 0]) ?_ 3 _ rfl; (with_reducible repeat (first | refine blk_drewN ?_ _ | refine blk_drew ?_ | refine blk_alloc ?_ _)); refine blk_put (cs := #[.int .i64 ((rd_T43 l1 x35_2).f0.f0), .int .i64 ((rd_T43 l1 x35_2).f0.f1), .int .i64 0, .int .i64 0]) ?_ 2 _ rfl; (with_reducible repeat (first | refine blk_drewN ?_ _ | refine blk_drew ?_ | refine blk_alloc ?_ _)); refine blk_put (cs := #[.int .i64 ((rd_T43 l1 x35_2).f0.f0), .int .i64 0, .int .i64 0, .int .i64 0]) ?_ 1 _ rfl; (with_reducible repeat (first | refine blk_drewN ?_ _ | refine blk_drew ?_ | refine blk_alloc ?_ _)); refine blk_put (cs := #[.int .i64 0, .int .i64 0, .int .i64 0, .int .i64 0]) ?_ 0 _ rfl; (with_reducible repeat (first | refine blk_drewN ?_ _ | refine blk_drew ?_ | refine blk_alloc ?_ _)); exact BK225.out) hb); have n1_ := Aside0.mk (below_step (by repeat (first | (with_reducible first | exact HB.out | apply below_alloc | apply pw_below_drewN | apply below_drew1 | refine below_set ?_ GE225.out) | exact HB.out)) hb); clear BK225; clear HB; have BK225 := n0_; have HB := n1_; clear n0_ n1_; (try clear hb); (try clear hb2); (try clear hk); (try clear hi); have hcz36_0 : w35.cell? ⟨gb225, 0, none⟩ = some (.int .i64 ((rd_T43 l1 x35_2).f0.f0)) := (blk_cell BK225.out 0).trans rfl; have hcz36_1 : w35.cell? ⟨gb225, 1, none⟩ = some (.int .i64 ((rd_T43 l1 x35_2).f0.f1)) := (blk_cell BK225.out 1).trans rfl; have hcz36_2 : w35.cell? ⟨gb225, 2, none⟩ = some (.int .i64 ((rd_T43 l1 x35_2).f1)) := (blk_cell BK225.out 2).trans rfl; have hcz36_3 : w35.cell? ⟨gb225, 3, none⟩ = some (.int .i64 ((rd_T43 l1 x35_2).f2)) := (blk_cell BK225.out 3).trans rfl; have hfz36_0 := blk_frozen BK225.out 0; have hfz36_1 := blk_frozen BK225.out 1; have hfz36_2 := blk_frozen BK225.out 2; have hfz36_3 := blk_frozen BK225.out 3))
                            go_meet
                            case rel => exact ⟨_, (decide (((rd_T43 l1 x35_2).f2) > 1048576)), (by first | rfl | (simp; done) | (simp [show ∀ l_ : List UInt8, (l_ != []) = !l_.isEmpty from fun l_ => by cases l_ <;> rfl]; done) | (simp [*]; done)), H', ⟨by have := HK1.out; have := HK2.out; first | omega | exact Nat.le_refl _⟩, ⟨by (with_reducible repeat (first | refine blk_drewN ?_ _ | refine blk_drew ?_ | refine blk_alloc ?_ _)); exact BK225.out⟩, ⟨by repeat (first | (with_reducible first | exact HB.out | apply below_alloc | apply pw_below_drewN | apply below_drew1 | refine below_set ?_ GE225.out) | exact HB.out)⟩⟩
                    · replace c21 := Bool.eq_false_iff.mpr c21
                      subst c21
                      have H1 : (kissgateref07_Good.j3 k2 l1 x35_2 l1 (l1.length : Int) x35_2 true ((rd_T43 l1 x35_2).f0.f0) ((rd_T43 l1 x35_2).f0.f1) ((rd_T43 l1 x35_2).f1) ((rd_T43 l1 x35_2).f2)) = some r := by rw [if_neg (show ¬ (false = true) by decide)] at H; exact H
                      clear H
                      have H := H1
                      clear H1
                      have H' := Aside0.mk H
                      clear H
                      have hcz37_0 : w18.cell? ⟨gb225, 0, none⟩ = some (.int .i64 0) := (blk_cell BK225.out 0).trans rfl
                      have hcz37_1 : w18.cell? ⟨gb225, 1, none⟩ = some (.int .i64 0) := (blk_cell BK225.out 1).trans rfl
                      have hcz37_2 : w18.cell? ⟨gb225, 2, none⟩ = some (.int .i64 0) := (blk_cell BK225.out 2).trans rfl
                      have hcz37_3 : w18.cell? ⟨gb225, 3, none⟩ = some (.int .i64 0) := (blk_cell BK225.out 3).trans rfl
                      have hfz37_0 := blk_frozen BK225.out 0
                      have hfz37_1 := blk_frozen BK225.out 1
                      have hfz37_2 := blk_frozen BK225.out 2
                      have hfz37_3 := blk_frozen BK225.out 3
                      go_wp2_with (first | ((with_reducible refine gate_callee (f := 19) rfl ?_); refine goesL_ (some 42) rfl rfl Try.func19 (by kernel_rfl) rfl #[.agg #[.int .i64 ((rd_T43 l1 x35_2).f0.f0), .int .i64 ((rd_T43 l1 x35_2).f0.f1)]] rfl (by (try simp only [List.map_toArray, List.map_cons, List.map_nil]); first | done | rfl | (simp only [List.length_drop, List.length_take]; rfl) | (go_simp; first | done | (unfold wrap64; omega))) ?_; (with_reducible refine (kissgateref07_Attr.calls ((rd_T43 l1 x35_2).f0.f0) ((rd_T43 l1 x35_2).f0.f1) false _ A20.out).mono ?_); rintro e w38 ⟨rfl, hb⟩; refine ⟨_, rfl, ?_⟩; have n0_ := Aside0.mk (blk_below (g := gb225) (o := .cells #[.int .i64 ((rd_T43 l1 x35_2).f0.f0), .int .i64 ((rd_T43 l1 x35_2).f0.f1), .int .i64 ((rd_T43 l1 x35_2).f1), .int .i64 ((rd_T43 l1 x35_2).f2)] 43 (0, 0)) (by (with_reducible repeat (first | refine blk_drewN ?_ _ | refine blk_drew ?_ | refine blk_alloc ?_ _)); refine blk_put (cs := #[.int .i64 ((rd_T43 l1 x35_2).f0.f0), .int .i64 ((rd_T43 l1 x35_2).f0.f1), .int .i64 ((rd_T43 l1 x35_2).f1), .int .i64 0]) ?_ 3 _ rfl; (with_reducible repeat (first | refine blk_drewN ?_ _ | refine blk_drew ?_ | refine blk_alloc ?_ _)); refine blk_put (cs := #[.int .i64 ((rd_T43 l1 x35_2).f0.f0), .int .i64 ((rd_T43 l1 x35_2).f0.f1), .int .i64 0, .int .i64 0]) ?_ 2 _ rfl; (with_reducible repeat (first | refine blk_drewN ?_ _ | refine blk_drew ?_ | refine blk_alloc ?_ _)); refine blk_put (cs := #[.int .i64 ((rd_T43 l1 x35_2).f0.f0), .int .i64 0, .int .i64 0, .int .i64 0]) ?_ 1 _ rfl; (with_reducible repeat (first | refine blk_drewN ?_ _ | refine blk_drew ?_ | refine blk_alloc ?_ _)); refine blk_put (cs := #[.int .i64 0, .int .i64 0, .int .i64 0, .int .i64 0]) ?_ 0 _ rfl; (with_reducible repeat (first | refine blk_drewN ?_ _ | refine blk_drew ?_ | refine blk_alloc ?_ _)); exact BK225.out) hb); have n1_ := Aside0.mk (below_step (by repeat (first | (with_reducible first | exact HB.out | apply below_alloc | apply pw_below_drewN | apply below_drew1 | refine below_set ?_ GE225.out) | exact HB.out)) hb); clear BK225; clear HB; have BK225 := n0_; have HB := n1_; clear n0_ n1_; (try clear hb); (try clear hb2); (try clear hk); (try clear hi)))
                      go_meet
                      case rel => exact ⟨_, (true), (by first | rfl | (simp; done) | (simp [show ∀ l_ : List UInt8, (l_ != []) = !l_.isEmpty from fun l_ => by cases l_ <;> rfl]; done) | (simp [*]; done)), H', ⟨by have := HK1.out; have := HK2.out; first | omega | exact Nat.le_refl _⟩, ⟨by (with_reducible repeat (first | refine blk_drewN ?_ _ | refine blk_drew ?_ | refine blk_alloc ?_ _)); exact BK225.out⟩, ⟨by repeat (first | (with_reducible first | exact HB.out | apply below_alloc | apply pw_below_drewN | apply below_drew1 | refine below_set ?_ GE225.out) | exact HB.out)⟩⟩
                  case rest =>
                    clear HC17
                    try clear c1
                    try clear c2
                    try clear p2
                    try clear q2
                    try clear hx2
                    try clear c3
                    try clear c3b0
                    try clear c4
                    try clear c4b0
                    try clear c5
                    try clear c5b0
                    try clear p6
                    try clear c8
                    try clear c8b0
                    try clear c8b1
                    try clear c9
                    try clear c9b0
                    try clear c11
                    try clear c11b0
                    try clear c12
                    try clear c12b0
                    try clear c13
                    try clear c14
                    try clear c14b0
                    try clear c15
                    try clear c15b0
                    try clear c16
                    try clear c16b0
                    try clear c19
                    try clear c21
                    try clear c22
                    try clear c22b0
                    try clear p22
                    try clear q22
                    try clear hx22
                    try clear c26
                    try clear c26b0
                    try clear c30
                    try clear c30b0
                    try clear hcz19_0
                    try clear hcz19_1
                    try clear hcz19_2
                    try clear hcz19_3
                    try clear hcz23_0
                    try clear hcz23_1
                    try clear hcz23_2
                    try clear hcz23_3
                    try clear hcz25_0
                    try clear hcz25_1
                    try clear hcz25_2
                    try clear hcz25_3
                    try clear hcz27_0
                    try clear hcz27_1
                    try clear hcz27_2
                    try clear hcz27_3
                    try clear hcz29_0
                    try clear hcz29_1
                    try clear hcz29_2
                    try clear hcz29_3
                    try clear hcz31_0
                    try clear hcz31_1
                    try clear hcz31_2
                    try clear hcz31_3
                    try clear hcz33_0
                    try clear hcz33_1
                    try clear hcz33_2
                    try clear hcz33_3
                    try clear hcz34_0
                    try clear hcz34_1
                    try clear hcz34_2
                    try clear hcz34_3
                    try clear hcz36_0
                    try clear hcz36_1
                    try clear hcz36_2
                    try clear hcz36_3
                    try clear hcz37_0
                    try clear hcz37_1
                    try clear hcz37_2
                    try clear hcz37_3
                    try clear hfz19_0
                    try clear hfz19_1
                    try clear hfz19_2
                    try clear hfz19_3
                    try clear hfz23_0
                    try clear hfz23_1
                    try clear hfz23_2
                    try clear hfz23_3
                    try clear hfz25_0
                    try clear hfz25_1
                    try clear hfz25_2
                    try clear hfz25_3
                    try clear hfz27_0
                    try clear hfz27_1
                    try clear hfz27_2
                    try clear hfz27_3
                    try clear hfz29_0
                    try clear hfz29_1
                    try clear hfz29_2
                    try clear hfz29_3
                    try clear hfz31_0
                    try clear hfz31_1
                    try clear hfz31_2
                    try clear hfz31_3
                    try clear hfz33_0
                    try clear hfz33_1
                    try clear hfz33_2
                    try clear hfz33_3
                    try clear hfz34_0
                    try clear hfz34_1
                    try clear hfz34_2
                    try clear hfz34_3
                    try clear hfz36_0
                    try clear hfz36_1
                    try clear hfz36_2
                    try clear hfz36_3
                    try clear hfz37_0
                    try clear hfz37_1
                    try clear hfz37_2
                    try clear hfz37_3
                    try clear hx221_0
                    try clear hx223_0
                    try clear hx224_0
                    try clear hx224_1
                    try clear hx224_2
                    try clear hx224_3
                    try clear p2
                    try clear p221
                    try clear p223
                    try clear p224
                    try clear p6
                    try clear q2
                    try clear q221
                    try clear q223
                    try clear q224
                    obtain ⟨kq, x63_16, rfl, HA, HJ16, BK225, HB⟩ := hcut
                    cases kq with
                    | zero => exact absurd HA.out (by simp [kissgateref07_Good.j3])
                    | succ kj16 =>
                      have H := HA.out
                      clear HA
                      simp only [kissgateref07_Good.j3] at H
                      by_cases c39 : x63_16 = true
                      · subst c39
                        have H1 : (some false) = some r := by rw [if_pos rfl] at H; exact H
                        clear H
                        have H := H1
                        clear H1
                        obtain rfl := Option.some.inj H
                        go_wp2
                        go_ret
                        exact ⟨by first | rfl | (simp [show ∀ l_ : List UInt8, (l_ == []) = l_.isEmpty from fun l_ => by cases l_ <;> rfl]; done) | (simp [errW_none, errW_some] <;> rfl) | ((repeat rw [Int.tdiv_eq_ediv_of_nonneg (by omega)]); (repeat rw [Int.tmod_eq_emod_of_nonneg (by omega)]); first | rfl | (simp [errW_none, errW_some] <;> rfl)) | (simp [*, errW_none, errW_some] <;> rfl), by repeat (first | (with_reducible first | exact HB.out | apply below_alloc | apply pw_below_drewN | apply below_drew1 | refine below_set ?_ GE225.out) | exact HB.out)⟩
                      · replace c39 := Bool.eq_false_iff.mpr c39
                        subst c39
                        have H1 : (if x35_2 > 0 then (if 0 ≤ (wrap64 (x35_2 - 1)) then (if (wrap64 (x35_2 - 1)) < (l1.length : Int) then ((kissgateref07_Less.f ((rd_T43 l1 (wrap64 (x35_2 - 1))).f0.f0) ((rd_T43 l1 (wrap64 (x35_2 - 1))).f0.f1) ((rd_T43 l1 x35_2).f0.f0) ((rd_T43 l1 x35_2).f0.f1)).bind fun t228 => (if t228 = true then (kissgateref07_Good.l1 kj16 l1 l1 (l1.length : Int) (wrap64 (x35_2 + 1))) else (some false))) else (none)) else (none)) else (kissgateref07_Good.l1 kj16 l1 l1 (l1.length : Int) (wrap64 (x35_2 + 1)))) = some r := by rw [if_neg (show ¬ (false = true) by decide)] at H; exact H
                        clear H
                        have H := H1
                        clear H1
                        by_cases c40 : x35_2 > 0
                        · rw [if_pos c40] at H
                          have c40b0 : decide (0 < x35_2) = true := decide_eq_true c40
                          clear c40
                          obtain ⟨ji41, hji41⟩ : ∃ j_ : Int, (wrap64 (x35_2 - 1)) = j_ := ⟨_, rfl⟩
                          replace H : (if 0 ≤ (ji41) then (if (ji41) < (l1.length : Int) then ((kissgateref07_Less.f ((rd_T43 l1 (ji41)).f0.f0) ((rd_T43 l1 (ji41)).f0.f1) ((rd_T43 l1 x35_2).f0.f0) ((rd_T43 l1 x35_2).f0.f1)).bind fun t228 => (if t228 = true then (kissgateref07_Good.l1 kj16 l1 l1 (l1.length : Int) (wrap64 (x35_2 + 1))) else (some false))) else (none)) else (none)) = some r := by first | (rw [hji41] at H; exact H) | (simp only [hji41] at H ⊢; exact H)
                          have hji41w : (IntKind.i64.wrap (x35_2 - 1)) = ji41 := (i64_w _).trans hji41
                          by_cases c42 : 0 ≤ (ji41)
                          · rw [if_pos c42] at H
                            have c42b0 : decide (0 ≤ (ji41)) = true := decide_eq_true c42
                            clear c42
                            by_cases c43 : (ji41) < (l1.length : Int)
                            · rw [if_pos c43] at H
                              have c43b0 : decide ((ji41) < (l1.length : Int)) = true := decide_eq_true c43
                              clear c43
                              replace H := Option.bind_eq_some_iff.mp H
                              obtain ⟨t228, A440, H⟩ := H
                              replace H : (if t228 = true then (kissgateref07_Good.l1 kj16 l1 l1 (l1.length : Int) (wrap64 (x35_2 + 1))) else (some false)) = some r := H
                              have A44 := Aside0.mk A440
                              clear A440
                              by_cases c45 : t228 = true
                              · subst c45
                                have H1 : (kissgateref07_Good.l1 kj16 l1 l1 (l1.length : Int) (wrap64 (x35_2 + 1))) = some r := by rw [if_pos rfl] at H; exact H
                                clear H
                                have H := H1
                                clear H1
                                have H' := Aside0.mk H
                                clear H
                                try go_wp2
                                have n0_ := Aside0.mk (blk_drew BK225.out)
                                have n1_ := Aside0.mk (below_drew1 HB.out)
                                clear BK225
                                clear HB
                                have BK225 := n0_
                                have HB := n1_
                                clear n0_ n1_
                                have p227 : 0 ≤ ((ji41) : Int) := of_decide_eq_true (by first | (with_reducible assumption) | assumption)
                                have q227 : (ji41) < (l1.length : Int) := of_decide_eq_true (by first | (with_reducible assumption) | assumption)
                                obtain ⟨ad227, e227, hx227_0, hx227_1, hx227_2, hx227_3⟩ := at_T43 HR1.out (ji41) p227 q227
                                have hw227_3 := hx227_3
                                have hw227_2 := hx227_2
                                have hw227_1 := hx227_1
                                have hw227_0 := hx227_0
                                obtain rfl : ad224 = ad227 := (by injection e227)
                                (try replace hx227_0 := (HB.out.cell (World.block_lt_of_cell? w _ hx227_0)).trans hx227_0)
                                (try replace hx227_1 := (HB.out.cell (World.block_lt_of_cell? w _ hx227_1)).trans hx227_1)
                                (try replace hx227_2 := (HB.out.cell (World.block_lt_of_cell? w _ hx227_2)).trans hx227_2)
                                (try replace hx227_3 := (HB.out.cell (World.block_lt_of_cell? w _ hx227_3)).trans hx227_3)
                                replace p227 := eq_true p227
                                replace q227 := eq_true q227
                                refine start_ (n := 14) (S := fun w' => w'.cell? ⟨gb225, 0, none⟩ = some (.int .i64 ((rd_T43 l1 x35_2).f0.f0)) ∧ w'.cell? ⟨gb225, 1, none⟩ = some (.int .i64 ((rd_T43 l1 x35_2).f0.f1)) ∧ w'.cell? ⟨gb225, 2, none⟩ = some (.int .i64 ((rd_T43 l1 x35_2).f1)) ∧ w'.cell? ⟨gb225, 3, none⟩ = some (.int .i64 ((rd_T43 l1 x35_2).f2)) ∧ w'.cell? (ad224.add (((ji41)).toNat * 4)) = some (.int .i64 ((rd_T43 l1 (ji41)).f0.f0)) ∧ w'.cell? ⟨(ad224.add (((ji41)).toNat * 4)).block, (ad224.add (((ji41)).toNat * 4)).off + 1, none⟩ = some (.int .i64 ((rd_T43 l1 (ji41)).f0.f1)) ∧ w'.cell? ⟨(ad224.add (((ji41)).toNat * 4)).block, (ad224.add (((ji41)).toNat * 4)).off + 2, none⟩ = some (.int .i64 ((rd_T43 l1 (ji41)).f1)) ∧ w'.cell? ⟨(ad224.add (((ji41)).toNat * 4)).block, (ad224.add (((ji41)).toNat * 4)).off + 3, none⟩ = some (.int .i64 ((rd_T43 l1 (ji41)).f2))) (ds := []) #[false, false, false, false, false, false, false, false, false, false, false, false, false, false] (by kernel_rfl) rfl rfl ⟨(blk_cell BK225.out 0).trans rfl, (blk_cell BK225.out 1).trans rfl, (blk_cell BK225.out 2).trans rfl, (blk_cell BK225.out 3).trans rfl, ((HB.out.cell (World.block_lt_of_cell? w _ hw227_0)).trans hw227_0), ((HB.out.cell (World.block_lt_of_cell? w _ hw227_1)).trans hw227_1), ((HB.out.cell (World.block_lt_of_cell? w _ hw227_2)).trans hw227_2), ((HB.out.cell (World.block_lt_of_cell? w _ hw227_3)).trans hw227_3)⟩ (fun hHeld => ?_); refine with_tabW kissgateref07_Good.tab12 kissgateref07_Good.bits12 (fun HT_ HW_ => ?_)
                                generalize wc.drew = w46 at BK225 HB hx227_0 hx227_1 hx227_2 hx227_3 hHeld ⊢
                                refine pure_ (i := 0) (N := some 64) (v := ?_) (a' := ?_) #[true, false, false, false, false, false, false, false, false, false, false, false, false, false] rfl rfl (any_of HT_.out (by kernel_rfl)) (fun _ _ _ h => h) (Or.inl ⟨by rfl, ?_⟩) ?_ ?_
                                rotate_left
                                · intro w'
                                  go_simp
                                  with_reducible rfl
                                rotate_left
                                · simp only [Act.put, List.setIfInBounds_toArray, List.set_cons_zero, List.set_cons_succ, i64_w, i32_w]
                                  rfl
                                refine pure_ (i := 1) (N := some 65) (v := ?_) (a' := ?_) #[true, true, false, false, false, false, false, false, false, false, false, false, false, false] rfl rfl (any_of HT_.out (by kernel_rfl)) (fun _ _ _ h => h) (Or.inl ⟨by rfl, ?_⟩) ?_ ?_
                                rotate_left
                                · intro w'
                                  go_simp
                                  with_reducible rfl
                                rotate_left
                                · simp only [Act.put, List.setIfInBounds_toArray, List.set_cons_zero, List.set_cons_succ, i64_w, i32_w]
                                  rfl
                                refine pure_ (i := 2) (N := some 66) (v := ?_) (a' := ?_) #[true, true, true, false, false, false, false, false, false, false, false, false, false, false] rfl rfl (any_of HT_.out (by kernel_rfl)) (fun _ _ _ h => h) (Or.inl ⟨by rfl, ?_⟩) ?_ ?_
                                rotate_left
                                · intro w'
                                  go_simp
                                  with_reducible rfl
                                rotate_left
                                · simp only [Act.put, List.setIfInBounds_toArray, List.set_cons_zero, List.set_cons_succ, i64_w, i32_w]
                                  rfl
                                refine pure_ (i := 3) (N := some 67) (v := ?_) (a' := ?_) #[true, true, true, true, false, false, false, false, false, false, false, false, false, false] rfl rfl (any_of HT_.out (by kernel_rfl)) (fun _ _ _ h => h) (Or.inl ⟨by rfl, ?_⟩) ?_ ?_
                                rotate_left
                                · intro w'
                                  go_simp
                                  with_reducible rfl
                                rotate_left
                                · simp only [Act.put, List.setIfInBounds_toArray, List.set_cons_zero, List.set_cons_succ, i64_w, i32_w]
                                  rfl
                                refine pure_ (i := 4) (N := some 68) (v := ?_) (a' := ?_) #[true, true, true, true, true, false, false, false, false, false, false, false, false, false] rfl rfl (any_of HT_.out (by kernel_rfl)) (fun _ _ _ h => h) (Or.inl ⟨by rfl, ?_⟩) ?_ ?_
                                rotate_left
                                · intro w'
                                  go_simp
                                  with_reducible rfl
                                rotate_left
                                · simp only [Act.put, List.setIfInBounds_toArray, List.set_cons_zero, List.set_cons_succ, i64_w, i32_w]
                                  rfl
                                refine pure_ (i := 5) (N := some 69) (v := ?_) (a' := ?_) #[true, true, true, true, true, true, false, false, false, false, false, false, false, false] rfl rfl (any_of HT_.out (by kernel_rfl)) (fun _ _ _ h => h) (Or.inl ⟨by rfl, ?_⟩) ?_ ?_
                                rotate_left
                                · intro w'
                                  go_simp
                                  with_reducible rfl
                                rotate_left
                                · simp only [Act.put, List.setIfInBounds_toArray, List.set_cons_zero, List.set_cons_succ, i64_w, i32_w]
                                  rfl
                                refine pure_ (i := 6) (N := some 70) (v := ?_) (a' := ?_) #[true, true, true, true, true, true, true, false, false, false, false, false, false, false] rfl rfl (any_of HT_.out (by kernel_rfl)) (fun _ _ _ h => h) (Or.inl ⟨by rfl, ?_⟩) ?_ ?_
                                rotate_left
                                · intro w'
                                  go_simp
                                  with_reducible rfl
                                rotate_left
                                · simp only [Act.put, List.setIfInBounds_toArray, List.set_cons_zero, List.set_cons_succ, i64_w, i32_w]
                                  rfl
                                refine pure_ (i := 7) (N := some 71) (v := ?_) (a' := ?_) #[true, true, true, true, true, true, true, true, false, false, false, false, false, false] rfl rfl (any_of HT_.out (by kernel_rfl)) (fun _ _ _ h => h) (Or.inl ⟨by rfl, ?_⟩) ?_ ?_
                                rotate_left
                                · intro w'
                                  go_simp
                                  with_reducible rfl
                                rotate_left
                                · simp only [Act.put, List.setIfInBounds_toArray, List.set_cons_zero, List.set_cons_succ, i64_w, i32_w]
                                  rfl
                                refine pure_ (i := 9) (N := some 73) (v := ?_) (a' := ?_) #[true, true, true, true, true, true, true, true, false, true, false, false, false, false] rfl rfl (any_of HT_.out (by kernel_rfl)) (fun _ _ _ h => h) (Or.inl ⟨by rfl, ?_⟩) ?_ ?_
                                rotate_left
                                · intro w'
                                  go_simp
                                  with_reducible rfl
                                rotate_left
                                · simp only [Act.put, List.setIfInBounds_toArray, List.set_cons_zero, List.set_cons_succ, i64_w, i32_w]
                                  rfl
                                refine take_ (i := 8) (N := some 72) (v := ?_) (a' := ?_) #[true, true, true, true, true, true, true, true, true, true, false, false, false, false] rfl rfl (take_ofW HT_.out HW_.out (by kernel_rfl)) (fun _ _ _ h => h) (Or.inl ⟨by rfl, ?_⟩) hHeld ?_ ?_
                                rotate_left
                                · rintro w' ⟨s0, s1, s2, s3, s4, s5, s6, s7⟩
                                  go_simp
                                  with_reducible rfl
                                rotate_left
                                · simp only [Act.put, List.setIfInBounds_toArray, List.set_cons_zero, List.set_cons_succ, i64_w, i32_w]
                                  rfl
                                refine take_ (i := 10) (N := some 74) (v := ?_) (a' := ?_) #[true, true, true, true, true, true, true, true, true, true, true, false, false, false] rfl rfl (take_ofW HT_.out HW_.out (by kernel_rfl)) (fun _ _ _ h => h) (Or.inl ⟨by rfl, ?_⟩) hHeld ?_ ?_
                                rotate_left
                                · rintro w' ⟨s0, s1, s2, s3, s4, s5, s6, s7⟩
                                  go_simp
                                  with_reducible rfl
                                rotate_left
                                · simp only [Act.put, List.setIfInBounds_toArray, List.set_cons_zero, List.set_cons_succ, i64_w, i32_w]
                                  rfl
                                refine one_ (i := 11) (N := some 75) #[true, true, true, true, true, true, true, true, true, true, true, true, false, false] rfl rfl (one_of HT_.out (by kernel_rfl)) (by decide) (fun K hK => ?_)
                                refine goes_ Try.func20 (by kernel_rfl) rfl #[.agg #[.int .i64 ((rd_T43 l1 (ji41)).f0.f0), .int .i64 ((rd_T43 l1 (ji41)).f0.f1)], .agg #[.int .i64 ((rd_T43 l1 x35_2).f0.f0), .int .i64 ((rd_T43 l1 x35_2).f0.f1)]] (by rfl) rfl rfl (by (try simp only [List.map_toArray, List.map_cons, List.map_nil]); first | done | (simp only [hji41]; rfl) | rfl | (simp only [List.length_drop, List.length_take]; rfl)) ?_
                                with_reducible refine (kissgateref07_Less.calls ((rd_T43 l1 (ji41)).f0.f0) ((rd_T43 l1 (ji41)).f0.f1) ((rd_T43 l1 x35_2).f0.f0) ((rd_T43 l1 x35_2).f0.f1) true _ A44.out).mono ?_
                                rintro e w47 ⟨rfl, hb⟩
                                refine ⟨_, rfl, ?_⟩
                                have n0_ := Aside0.mk (blk_below (g := gb225) (o := .cells #[.int .i64 ((rd_T43 l1 x35_2).f0.f0), .int .i64 ((rd_T43 l1 x35_2).f0.f1), .int .i64 ((rd_T43 l1 x35_2).f1), .int .i64 ((rd_T43 l1 x35_2).f2)] 43 (0, 0)) (by (with_reducible repeat (first | refine blk_drewN ?_ _ | refine blk_drew ?_ | refine blk_alloc ?_ _)); exact BK225.out) hb)
                                have n1_ := Aside0.mk (below_step (by repeat (first | (with_reducible first | exact HB.out | apply below_alloc | apply pw_below_drewN | apply below_drew1 | refine below_set ?_ GE225.out) | exact HB.out)) hb)
                                clear BK225
                                clear HB
                                have BK225 := n0_
                                have HB := n1_
                                clear n0_ n1_
                                (try clear hb)
                                (try clear hb2)
                                (try clear hk)
                                (try clear hi)
                                refine hK.out _ _ ⟨(blk_cell BK225.out 0).trans rfl, (blk_cell BK225.out 1).trans rfl, (blk_cell BK225.out 2).trans rfl, (blk_cell BK225.out 3).trans rfl, ((HB.out.cell (World.block_lt_of_cell? w _ hw227_0)).trans hw227_0), ((HB.out.cell (World.block_lt_of_cell? w _ hw227_1)).trans hw227_1), ((HB.out.cell (World.block_lt_of_cell? w _ hw227_2)).trans hw227_2), ((HB.out.cell (World.block_lt_of_cell? w _ hw227_3)).trans hw227_3)⟩ (fun hHeld => ?_)
                                clear hK K
                                refine norm_ (a' := ?_) ?_ ?_
                                rotate_left
                                · show Act.put _ (some 75) _ = _
                                  simp only [Act.put, List.setIfInBounds_toArray, List.set_cons_zero, List.set_cons_succ, i64_w, i32_w]
                                  rfl
                                refine pure_ (i := 12) (N := some 76) (v := ?_) (a' := ?_) #[true, true, true, true, true, true, true, true, true, true, true, true, true, false] rfl rfl (any_of HT_.out (by kernel_rfl)) (fun _ _ _ h => h) (Or.inl ⟨by rfl, ?_⟩) ?_ ?_
                                rotate_left
                                · intro w'
                                  go_simp
                                  with_reducible rfl
                                rotate_left
                                · simp only [Act.put, List.setIfInBounds_toArray, List.set_cons_zero, List.set_cons_succ, i64_w, i32_w]
                                  rfl
                                refine pure_ (i := 13) (N := some 77) (v := ?_) (a' := ?_) #[true, true, true, true, true, true, true, true, true, true, true, true, true, true] rfl rfl (any_of HT_.out (by kernel_rfl)) (fun _ _ _ h => h) (Or.inl ⟨by rfl, ?_⟩) ?_ ?_
                                rotate_left
                                · intro w'
                                  go_simp
                                  with_reducible rfl
                                rotate_left
                                · simp only [Act.put, List.setIfInBounds_toArray, List.set_cons_zero, List.set_cons_succ, i64_w, i32_w]
                                  rfl
                                refine done_ (done_of HT_.out (by kernel_rfl)) ?_
                                try go_wp2
                                go_roundg kj16
                                case measure => have := HK1.out; have := HK2.out; have := HJ16.out; omega
                                case rel => exact ⟨(wrap64 (x35_2 + 1)), (by first | rfl | (simp; done) | (simp [show ∀ l_ : List UInt8, (l_ != []) = !l_.isEmpty from fun l_ => by cases l_ <;> rfl]; done) | (simp [*]; done)), H', ⟨by have := HK1.out; have := HK2.out; have := HJ16.out; omega⟩, ⟨by repeat (first | (with_reducible first | exact HB.out | apply below_alloc | apply pw_below_drewN | apply below_drew1 | refine below_set ?_ GE225.out) | exact HB.out)⟩⟩
                              · replace c45 := Bool.eq_false_iff.mpr c45
                                subst c45
                                have H1 : (some false) = some r := by rw [if_neg (show ¬ (false = true) by decide)] at H; exact H
                                clear H
                                have H := H1
                                clear H1
                                obtain rfl := Option.some.inj H
                                try go_wp2
                                have n0_ := Aside0.mk (blk_drew BK225.out)
                                have n1_ := Aside0.mk (below_drew1 HB.out)
                                clear BK225
                                clear HB
                                have BK225 := n0_
                                have HB := n1_
                                clear n0_ n1_
                                have p227 : 0 ≤ ((ji41) : Int) := of_decide_eq_true (by first | (with_reducible assumption) | assumption)
                                have q227 : (ji41) < (l1.length : Int) := of_decide_eq_true (by first | (with_reducible assumption) | assumption)
                                obtain ⟨ad227, e227, hx227_0, hx227_1, hx227_2, hx227_3⟩ := at_T43 HR1.out (ji41) p227 q227
                                have hw227_3 := hx227_3
                                have hw227_2 := hx227_2
                                have hw227_1 := hx227_1
                                have hw227_0 := hx227_0
                                obtain rfl : ad224 = ad227 := (by injection e227)
                                (try replace hx227_0 := (HB.out.cell (World.block_lt_of_cell? w _ hx227_0)).trans hx227_0)
                                (try replace hx227_1 := (HB.out.cell (World.block_lt_of_cell? w _ hx227_1)).trans hx227_1)
                                (try replace hx227_2 := (HB.out.cell (World.block_lt_of_cell? w _ hx227_2)).trans hx227_2)
                                (try replace hx227_3 := (HB.out.cell (World.block_lt_of_cell? w _ hx227_3)).trans hx227_3)
                                replace p227 := eq_true p227
                                replace q227 := eq_true q227
                                refine start_ (n := 14) (S := fun w' => w'.cell? ⟨gb225, 0, none⟩ = some (.int .i64 ((rd_T43 l1 x35_2).f0.f0)) ∧ w'.cell? ⟨gb225, 1, none⟩ = some (.int .i64 ((rd_T43 l1 x35_2).f0.f1)) ∧ w'.cell? ⟨gb225, 2, none⟩ = some (.int .i64 ((rd_T43 l1 x35_2).f1)) ∧ w'.cell? ⟨gb225, 3, none⟩ = some (.int .i64 ((rd_T43 l1 x35_2).f2)) ∧ w'.cell? (ad224.add (((ji41)).toNat * 4)) = some (.int .i64 ((rd_T43 l1 (ji41)).f0.f0)) ∧ w'.cell? ⟨(ad224.add (((ji41)).toNat * 4)).block, (ad224.add (((ji41)).toNat * 4)).off + 1, none⟩ = some (.int .i64 ((rd_T43 l1 (ji41)).f0.f1)) ∧ w'.cell? ⟨(ad224.add (((ji41)).toNat * 4)).block, (ad224.add (((ji41)).toNat * 4)).off + 2, none⟩ = some (.int .i64 ((rd_T43 l1 (ji41)).f1)) ∧ w'.cell? ⟨(ad224.add (((ji41)).toNat * 4)).block, (ad224.add (((ji41)).toNat * 4)).off + 3, none⟩ = some (.int .i64 ((rd_T43 l1 (ji41)).f2))) (ds := []) #[false, false, false, false, false, false, false, false, false, false, false, false, false, false] (by kernel_rfl) rfl rfl ⟨(blk_cell BK225.out 0).trans rfl, (blk_cell BK225.out 1).trans rfl, (blk_cell BK225.out 2).trans rfl, (blk_cell BK225.out 3).trans rfl, ((HB.out.cell (World.block_lt_of_cell? w _ hw227_0)).trans hw227_0), ((HB.out.cell (World.block_lt_of_cell? w _ hw227_1)).trans hw227_1), ((HB.out.cell (World.block_lt_of_cell? w _ hw227_2)).trans hw227_2), ((HB.out.cell (World.block_lt_of_cell? w _ hw227_3)).trans hw227_3)⟩ (fun hHeld => ?_); refine with_tabW kissgateref07_Good.tab12 kissgateref07_Good.bits12 (fun HT_ HW_ => ?_)
                                generalize wc.drew = w48 at BK225 HB hx227_0 hx227_1 hx227_2 hx227_3 hHeld ⊢
                                refine pure_ (i := 0) (N := some 64) (v := ?_) (a' := ?_) #[true, false, false, false, false, false, false, false, false, false, false, false, false, false] rfl rfl (any_of HT_.out (by kernel_rfl)) (fun _ _ _ h => h) (Or.inl ⟨by rfl, ?_⟩) ?_ ?_
                                rotate_left
                                · intro w'
                                  go_simp
                                  with_reducible rfl
                                rotate_left
                                · simp only [Act.put, List.setIfInBounds_toArray, List.set_cons_zero, List.set_cons_succ, i64_w, i32_w]
                                  rfl
                                refine pure_ (i := 1) (N := some 65) (v := ?_) (a' := ?_) #[true, true, false, false, false, false, false, false, false, false, false, false, false, false] rfl rfl (any_of HT_.out (by kernel_rfl)) (fun _ _ _ h => h) (Or.inl ⟨by rfl, ?_⟩) ?_ ?_
                                rotate_left
                                · intro w'
                                  go_simp
                                  with_reducible rfl
                                rotate_left
                                · simp only [Act.put, List.setIfInBounds_toArray, List.set_cons_zero, List.set_cons_succ, i64_w, i32_w]
                                  rfl
                                refine pure_ (i := 2) (N := some 66) (v := ?_) (a' := ?_) #[true, true, true, false, false, false, false, false, false, false, false, false, false, false] rfl rfl (any_of HT_.out (by kernel_rfl)) (fun _ _ _ h => h) (Or.inl ⟨by rfl, ?_⟩) ?_ ?_
                                rotate_left
                                · intro w'
                                  go_simp
                                  with_reducible rfl
                                rotate_left
                                · simp only [Act.put, List.setIfInBounds_toArray, List.set_cons_zero, List.set_cons_succ, i64_w, i32_w]
                                  rfl
                                refine pure_ (i := 3) (N := some 67) (v := ?_) (a' := ?_) #[true, true, true, true, false, false, false, false, false, false, false, false, false, false] rfl rfl (any_of HT_.out (by kernel_rfl)) (fun _ _ _ h => h) (Or.inl ⟨by rfl, ?_⟩) ?_ ?_
                                rotate_left
                                · intro w'
                                  go_simp
                                  with_reducible rfl
                                rotate_left
                                · simp only [Act.put, List.setIfInBounds_toArray, List.set_cons_zero, List.set_cons_succ, i64_w, i32_w]
                                  rfl
                                refine pure_ (i := 4) (N := some 68) (v := ?_) (a' := ?_) #[true, true, true, true, true, false, false, false, false, false, false, false, false, false] rfl rfl (any_of HT_.out (by kernel_rfl)) (fun _ _ _ h => h) (Or.inl ⟨by rfl, ?_⟩) ?_ ?_
                                rotate_left
                                · intro w'
                                  go_simp
                                  with_reducible rfl
                                rotate_left
                                · simp only [Act.put, List.setIfInBounds_toArray, List.set_cons_zero, List.set_cons_succ, i64_w, i32_w]
                                  rfl
                                refine pure_ (i := 5) (N := some 69) (v := ?_) (a' := ?_) #[true, true, true, true, true, true, false, false, false, false, false, false, false, false] rfl rfl (any_of HT_.out (by kernel_rfl)) (fun _ _ _ h => h) (Or.inl ⟨by rfl, ?_⟩) ?_ ?_
                                rotate_left
                                · intro w'
                                  go_simp
                                  with_reducible rfl
                                rotate_left
                                · simp only [Act.put, List.setIfInBounds_toArray, List.set_cons_zero, List.set_cons_succ, i64_w, i32_w]
                                  rfl
                                refine pure_ (i := 6) (N := some 70) (v := ?_) (a' := ?_) #[true, true, true, true, true, true, true, false, false, false, false, false, false, false] rfl rfl (any_of HT_.out (by kernel_rfl)) (fun _ _ _ h => h) (Or.inl ⟨by rfl, ?_⟩) ?_ ?_
                                rotate_left
                                · intro w'
                                  go_simp
                                  with_reducible rfl
                                rotate_left
                                · simp only [Act.put, List.setIfInBounds_toArray, List.set_cons_zero, List.set_cons_succ, i64_w, i32_w]
                                  rfl
                                refine pure_ (i := 7) (N := some 71) (v := ?_) (a' := ?_) #[true, true, true, true, true, true, true, true, false, false, false, false, false, false] rfl rfl (any_of HT_.out (by kernel_rfl)) (fun _ _ _ h => h) (Or.inl ⟨by rfl, ?_⟩) ?_ ?_
                                rotate_left
                                · intro w'
                                  go_simp
                                  with_reducible rfl
                                rotate_left
                                · simp only [Act.put, List.setIfInBounds_toArray, List.set_cons_zero, List.set_cons_succ, i64_w, i32_w]
                                  rfl
                                refine pure_ (i := 9) (N := some 73) (v := ?_) (a' := ?_) #[true, true, true, true, true, true, true, true, false, true, false, false, false, false] rfl rfl (any_of HT_.out (by kernel_rfl)) (fun _ _ _ h => h) (Or.inl ⟨by rfl, ?_⟩) ?_ ?_
                                rotate_left
                                · intro w'
                                  go_simp
                                  with_reducible rfl
                                rotate_left
                                · simp only [Act.put, List.setIfInBounds_toArray, List.set_cons_zero, List.set_cons_succ, i64_w, i32_w]
                                  rfl
                                refine take_ (i := 8) (N := some 72) (v := ?_) (a' := ?_) #[true, true, true, true, true, true, true, true, true, true, false, false, false, false] rfl rfl (take_ofW HT_.out HW_.out (by kernel_rfl)) (fun _ _ _ h => h) (Or.inl ⟨by rfl, ?_⟩) hHeld ?_ ?_
                                rotate_left
                                · rintro w' ⟨s0, s1, s2, s3, s4, s5, s6, s7⟩
                                  go_simp
                                  with_reducible rfl
                                rotate_left
                                · simp only [Act.put, List.setIfInBounds_toArray, List.set_cons_zero, List.set_cons_succ, i64_w, i32_w]
                                  rfl
                                refine take_ (i := 10) (N := some 74) (v := ?_) (a' := ?_) #[true, true, true, true, true, true, true, true, true, true, true, false, false, false] rfl rfl (take_ofW HT_.out HW_.out (by kernel_rfl)) (fun _ _ _ h => h) (Or.inl ⟨by rfl, ?_⟩) hHeld ?_ ?_
                                rotate_left
                                · rintro w' ⟨s0, s1, s2, s3, s4, s5, s6, s7⟩
                                  go_simp
                                  with_reducible rfl
                                rotate_left
                                · simp only [Act.put, List.setIfInBounds_toArray, List.set_cons_zero, List.set_cons_succ, i64_w, i32_w]
                                  rfl
                                refine one_ (i := 11) (N := some 75) #[true, true, true, true, true, true, true, true, true, true, true, true, false, false] rfl rfl (one_of HT_.out (by kernel_rfl)) (by decide) (fun K hK => ?_)
                                refine goes_ Try.func20 (by kernel_rfl) rfl #[.agg #[.int .i64 ((rd_T43 l1 (ji41)).f0.f0), .int .i64 ((rd_T43 l1 (ji41)).f0.f1)], .agg #[.int .i64 ((rd_T43 l1 x35_2).f0.f0), .int .i64 ((rd_T43 l1 x35_2).f0.f1)]] (by rfl) rfl rfl (by (try simp only [List.map_toArray, List.map_cons, List.map_nil]); first | done | (simp only [hji41]; rfl) | rfl | (simp only [List.length_drop, List.length_take]; rfl)) ?_
                                with_reducible refine (kissgateref07_Less.calls ((rd_T43 l1 (ji41)).f0.f0) ((rd_T43 l1 (ji41)).f0.f1) ((rd_T43 l1 x35_2).f0.f0) ((rd_T43 l1 x35_2).f0.f1) false _ A44.out).mono ?_
                                rintro e w49 ⟨rfl, hb⟩
                                refine ⟨_, rfl, ?_⟩
                                have n0_ := Aside0.mk (blk_below (g := gb225) (o := .cells #[.int .i64 ((rd_T43 l1 x35_2).f0.f0), .int .i64 ((rd_T43 l1 x35_2).f0.f1), .int .i64 ((rd_T43 l1 x35_2).f1), .int .i64 ((rd_T43 l1 x35_2).f2)] 43 (0, 0)) (by (with_reducible repeat (first | refine blk_drewN ?_ _ | refine blk_drew ?_ | refine blk_alloc ?_ _)); exact BK225.out) hb)
                                have n1_ := Aside0.mk (below_step (by repeat (first | (with_reducible first | exact HB.out | apply below_alloc | apply pw_below_drewN | apply below_drew1 | refine below_set ?_ GE225.out) | exact HB.out)) hb)
                                clear BK225
                                clear HB
                                have BK225 := n0_
                                have HB := n1_
                                clear n0_ n1_
                                (try clear hb)
                                (try clear hb2)
                                (try clear hk)
                                (try clear hi)
                                refine hK.out _ _ ⟨(blk_cell BK225.out 0).trans rfl, (blk_cell BK225.out 1).trans rfl, (blk_cell BK225.out 2).trans rfl, (blk_cell BK225.out 3).trans rfl, ((HB.out.cell (World.block_lt_of_cell? w _ hw227_0)).trans hw227_0), ((HB.out.cell (World.block_lt_of_cell? w _ hw227_1)).trans hw227_1), ((HB.out.cell (World.block_lt_of_cell? w _ hw227_2)).trans hw227_2), ((HB.out.cell (World.block_lt_of_cell? w _ hw227_3)).trans hw227_3)⟩ (fun hHeld => ?_)
                                clear hK K
                                refine norm_ (a' := ?_) ?_ ?_
                                rotate_left
                                · show Act.put _ (some 75) _ = _
                                  simp only [Act.put, List.setIfInBounds_toArray, List.set_cons_zero, List.set_cons_succ, i64_w, i32_w]
                                  rfl
                                refine pure_ (i := 12) (N := some 76) (v := ?_) (a' := ?_) #[true, true, true, true, true, true, true, true, true, true, true, true, true, false] rfl rfl (any_of HT_.out (by kernel_rfl)) (fun _ _ _ h => h) (Or.inl ⟨by rfl, ?_⟩) ?_ ?_
                                rotate_left
                                · intro w'
                                  go_simp
                                  with_reducible rfl
                                rotate_left
                                · simp only [Act.put, List.setIfInBounds_toArray, List.set_cons_zero, List.set_cons_succ, i64_w, i32_w]
                                  rfl
                                refine pure_ (i := 13) (N := some 77) (v := ?_) (a' := ?_) #[true, true, true, true, true, true, true, true, true, true, true, true, true, true] rfl rfl (any_of HT_.out (by kernel_rfl)) (fun _ _ _ h => h) (Or.inl ⟨by rfl, ?_⟩) ?_ ?_
                                rotate_left
                                · intro w'
                                  go_simp
                                  with_reducible rfl
                                rotate_left
                                · simp only [Act.put, List.setIfInBounds_toArray, List.set_cons_zero, List.set_cons_succ, i64_w, i32_w]
                                  rfl
                                refine done_ (done_of HT_.out (by kernel_rfl)) ?_
                                try go_wp2
                                go_ret
                                exact ⟨by first | rfl | (simp [show ∀ l_ : List UInt8, (l_ == []) = l_.isEmpty from fun l_ => by cases l_ <;> rfl]; done) | (simp [errW_none, errW_some] <;> rfl) | (simp only [← hji41]; first | rfl | (simp [errW_none, errW_some] <;> rfl)) | ((repeat rw [Int.tdiv_eq_ediv_of_nonneg (by omega)]); (repeat rw [Int.tmod_eq_emod_of_nonneg (by omega)]); first | rfl | (simp [errW_none, errW_some] <;> rfl)) | (simp [*, errW_none, errW_some] <;> rfl), by repeat (first | (with_reducible first | exact HB.out | apply below_alloc | apply pw_below_drewN | apply below_drew1 | refine below_set ?_ GE225.out) | exact HB.out)⟩
                            · rw [if_neg c43] at H
                              exact absurd H (by simp)
                          · rw [if_neg c42] at H
                            exact absurd H (by simp)
                        · rw [if_neg c40] at H
                          have c40b0 : decide (0 < x35_2) = false := decide_eq_false c40
                          clear c40
                          have H' := Aside0.mk H
                          clear H
                          try go_wp2
                          have n0_ := Aside0.mk (blk_drew BK225.out)
                          have n1_ := Aside0.mk (below_drew1 HB.out)
                          clear BK225
                          clear HB
                          have BK225 := n0_
                          have HB := n1_
                          clear n0_ n1_
                          refine start_ (n := 14) (S := fun w' => True) (ds := []) #[false, false, false, false, false, false, false, false, false, false, false, false, false, false] (by kernel_rfl) rfl rfl trivial (fun hHeld => ?_); refine with_tabW kissgateref07_Good.tab12 kissgateref07_Good.bits12 (fun HT_ HW_ => ?_)
                          generalize wc.drew = w50 at BK225 HB hHeld ⊢
                          refine pure_ (i := 0) (N := some 64) (v := ?_) (a' := ?_) #[true, false, false, false, false, false, false, false, false, false, false, false, false, false] rfl rfl (any_of HT_.out (by kernel_rfl)) (fun _ _ _ h => h) (Or.inl ⟨by rfl, ?_⟩) ?_ ?_
                          rotate_left
                          · intro w'
                            go_simp
                            with_reducible rfl
                          rotate_left
                          · simp only [Act.put, List.setIfInBounds_toArray, List.set_cons_zero, List.set_cons_succ, i64_w, i32_w]
                            rfl
                          refine pure_ (i := 1) (N := some 65) (v := ?_) (a' := ?_) #[true, true, false, false, false, false, false, false, false, false, false, false, false, false] rfl rfl (any_of HT_.out (by kernel_rfl)) (fun _ _ _ h => h) (Or.inl ⟨by rfl, ?_⟩) ?_ ?_
                          rotate_left
                          · intro w'
                            go_simp
                            with_reducible rfl
                          rotate_left
                          · simp only [Act.put, List.setIfInBounds_toArray, List.set_cons_zero, List.set_cons_succ, i64_w, i32_w]
                            rfl
                          refine pure_ (i := 2) (N := some 66) (v := ?_) (a' := ?_) #[true, true, true, false, false, false, false, false, false, false, false, false, false, false] rfl rfl (any_of HT_.out (by kernel_rfl)) (fun _ _ _ h => h) (Or.inl ⟨by rfl, ?_⟩) ?_ ?_
                          rotate_left
                          · intro w'
                            go_simp
                            with_reducible rfl
                          rotate_left
                          · simp only [Act.put, List.setIfInBounds_toArray, List.set_cons_zero, List.set_cons_succ, i64_w, i32_w]
                            rfl
                          refine pure_ (i := 3) (N := some 67) (v := undef) (a' := ?_) #[true, true, true, true, false, false, false, false, false, false, false, false, false, false] rfl rfl (any_of HT_.out (by kernel_rfl)) (fun _ _ _ h => h) (Or.inr ⟨by rfl, rfl⟩) ?_ ?_
                          rotate_left
                          · simp only [Act.put, List.setIfInBounds_toArray, List.set_cons_zero, List.set_cons_succ, i64_w, i32_w]
                            rfl
                          refine pure_ (i := 4) (N := some 68) (v := undef) (a' := ?_) #[true, true, true, true, true, false, false, false, false, false, false, false, false, false] rfl rfl (any_of HT_.out (by kernel_rfl)) (fun _ _ _ h => h) (Or.inr ⟨by rfl, rfl⟩) ?_ ?_
                          rotate_left
                          · simp only [Act.put, List.setIfInBounds_toArray, List.set_cons_zero, List.set_cons_succ, i64_w, i32_w]
                            rfl
                          refine pure_ (i := 5) (N := some 69) (v := undef) (a' := ?_) #[true, true, true, true, true, true, false, false, false, false, false, false, false, false] rfl rfl (any_of HT_.out (by kernel_rfl)) (fun _ _ _ h => h) (Or.inr ⟨by rfl, rfl⟩) ?_ ?_
                          rotate_left
                          · simp only [Act.put, List.setIfInBounds_toArray, List.set_cons_zero, List.set_cons_succ, i64_w, i32_w]
                            rfl
                          refine pure_ (i := 6) (N := some 70) (v := undef) (a' := ?_) #[true, true, true, true, true, true, true, false, false, false, false, false, false, false] rfl rfl (any_of HT_.out (by kernel_rfl)) (fun _ _ _ h => h) (Or.inr ⟨by rfl, rfl⟩) ?_ ?_
                          rotate_left
                          · simp only [Act.put, List.setIfInBounds_toArray, List.set_cons_zero, List.set_cons_succ, i64_w, i32_w]
                            rfl
                          refine pure_ (i := 7) (N := some 71) (v := undef) (a' := ?_) #[true, true, true, true, true, true, true, true, false, false, false, false, false, false] rfl rfl (any_of HT_.out (by kernel_rfl)) (fun _ _ _ h => h) (Or.inr ⟨by rfl, rfl⟩) ?_ ?_
                          rotate_left
                          · simp only [Act.put, List.setIfInBounds_toArray, List.set_cons_zero, List.set_cons_succ, i64_w, i32_w]
                            rfl
                          refine pure_ (i := 8) (N := some 72) (v := undef) (a' := ?_) #[true, true, true, true, true, true, true, true, true, false, false, false, false, false] rfl rfl (any_of HT_.out (by kernel_rfl)) (fun _ _ _ h => h) (Or.inr ⟨by rfl, rfl⟩) ?_ ?_
                          rotate_left
                          · simp only [Act.put, List.setIfInBounds_toArray, List.set_cons_zero, List.set_cons_succ, i64_w, i32_w]
                            rfl
                          refine pure_ (i := 9) (N := some 73) (v := undef) (a' := ?_) #[true, true, true, true, true, true, true, true, true, true, false, false, false, false] rfl rfl (any_of HT_.out (by kernel_rfl)) (fun _ _ _ h => h) (Or.inr ⟨by rfl, rfl⟩) ?_ ?_
                          rotate_left
                          · simp only [Act.put, List.setIfInBounds_toArray, List.set_cons_zero, List.set_cons_succ, i64_w, i32_w]
                            rfl
                          refine pure_ (i := 10) (N := some 74) (v := undef) (a' := ?_) #[true, true, true, true, true, true, true, true, true, true, true, false, false, false] rfl rfl (any_of HT_.out (by kernel_rfl)) (fun _ _ _ h => h) (Or.inr ⟨by rfl, rfl⟩) ?_ ?_
                          rotate_left
                          · simp only [Act.put, List.setIfInBounds_toArray, List.set_cons_zero, List.set_cons_succ, i64_w, i32_w]
                            rfl
                          refine pure_ (i := 11) (N := some 75) (v := undef) (a' := ?_) #[true, true, true, true, true, true, true, true, true, true, true, true, false, false] rfl rfl (any_of HT_.out (by kernel_rfl)) (fun _ _ _ h => h) (Or.inr ⟨by rfl, rfl⟩) ?_ ?_
                          rotate_left
                          · simp only [Act.put, List.setIfInBounds_toArray, List.set_cons_zero, List.set_cons_succ, i64_w, i32_w]
                            rfl
                          refine pure_ (i := 12) (N := some 76) (v := undef) (a' := ?_) #[true, true, true, true, true, true, true, true, true, true, true, true, true, false] rfl rfl (any_of HT_.out (by kernel_rfl)) (fun _ _ _ h => h) (Or.inr ⟨by rfl, rfl⟩) ?_ ?_
                          rotate_left
                          · simp only [Act.put, List.setIfInBounds_toArray, List.set_cons_zero, List.set_cons_succ, i64_w, i32_w]
                            rfl
                          refine pure_ (i := 13) (N := some 77) (v := ?_) (a' := ?_) #[true, true, true, true, true, true, true, true, true, true, true, true, true, true] rfl rfl (any_of HT_.out (by kernel_rfl)) (fun _ _ _ h => h) (Or.inl ⟨by rfl, ?_⟩) ?_ ?_
                          rotate_left
                          · intro w'
                            go_simp
                            with_reducible rfl
                          rotate_left
                          · simp only [Act.put, List.setIfInBounds_toArray, List.set_cons_zero, List.set_cons_succ, i64_w, i32_w]
                            rfl
                          refine done_ (done_of HT_.out (by kernel_rfl)) ?_
                          try go_wp2
                          go_roundg kj16
                          case measure => have := HK1.out; have := HK2.out; have := HJ16.out; omega
                          case rel => exact ⟨(wrap64 (x35_2 + 1)), (by first | rfl | (simp; done) | (simp [show ∀ l_ : List UInt8, (l_ != []) = !l_.isEmpty from fun l_ => by cases l_ <;> rfl]; done) | (simp [*]; done)), H', ⟨by have := HK1.out; have := HK2.out; have := HJ16.out; omega⟩, ⟨by repeat (first | (with_reducible first | exact HB.out | apply below_alloc | apply pw_below_drewN | apply below_drew1 | refine below_set ?_ GE225.out) | exact HB.out)⟩⟩
                · rw [if_neg c16] at H
                  exact absurd H (by simp)
              · rw [if_neg c15] at H
                exact absurd H (by simp)
            · rw [if_neg c14] at H
              have c14b0 : decide (x35_2 < (l1.length : Int)) = false := decide_eq_false c14
              clear c14
              obtain rfl := Option.some.inj H
              go_wp2
              go_ret
              exact ⟨by first | rfl | (simp [show ∀ l_ : List UInt8, (l_ == []) = l_.isEmpty from fun l_ => by cases l_ <;> rfl]; done) | (simp [errW_none, errW_some] <;> rfl) | ((repeat rw [Int.tdiv_eq_ediv_of_nonneg (by omega)]); (repeat rw [Int.tmod_eq_emod_of_nonneg (by omega)]); first | rfl | (simp [errW_none, errW_some] <;> rfl)) | (simp [*, errW_none, errW_some] <;> rfl), by repeat (first | (with_reducible first | exact HB.out | apply below_alloc | apply pw_below_drewN | apply below_drew1) | exact HB.out)⟩
end Go.Proofs.Ytlfcpobnkojcbaa.PMrpduBytes
/- What the printed functions of chapter 7 answer: Good, Attr, Compare, Contains, Same. -/
namespace Go.Proofs.Ytlfcpobnkojcbaa.Pm
open Go.RowKit Go.Proofs.Ytlfcpobnkojcbaa.PMrpduBytes Go.Proofs.YtlfcpobnkojcbaaW.PrintWords Go.Proofs.YtlfcpobnkojcbaaW.PrintLast Go.Proofs.YtlfcpobnkojcbaaW.PrintMore
open Wr (putBytes)
theorem rdT_nat (l : List S43) (i : Nat) : rd_T43 l (i : Int) = l.getD i z43 := by simp [rd_T43]
theorem getD_in {α : Type} (l : List α) (i : Nat) (d : α) (h : i < l.length) : l.getD i d = l[i] := by rw [List.getD_eq_getElem?_getD, List.getElem?_eq_getElem h]; rfl
theorem wrap_pred (i : Nat) (h0 : 0 < i) (h : i ≤ 100000000) : wrap64 ((i : Int) - 1) = ((i - 1 : Nat) : Int) := by rw [wrap_id (by omega) (by omega)]; omega
theorem size_eq (k : Int) : mrpdu_size.f k = some ((sizeT k : Nat) : Int) := by
  unfold mrpdu_size.f sizeT
  split
  · rfl
  · split
    · rfl
    · split <;> rfl
theorem refsize_eq (k : Int) : kissgateref07_Size.f k = some ((sizeT k : Nat) : Int) := size_eq k
theorem bit_and (a : Int) (h0 : 0 ≤ a) (h1 : a ≤ 281474976710655) : Go.bits .and .i64 (a / 1099511627776) 1 = a / 1099511627776 % 2 :=
  bits_mask .i64 63 (by decide) wraps_i64 1 (by decide) (a / 1099511627776) (by omega) (by omega)
theorem attr_eq (t v : Int) : mrpdu_Attr.f t v = some (attrB t v) := by
  unfold mrpdu_Attr.f addr_Vid.f addr_Many.f addr_Good.f attrB
  by_cases h1 : t = 1
  · subst h1
    rw [if_pos rfl]
    by_cases h : v ≥ 1
    · rw [if_pos h, Option.bind_some]; simp; omega
    · rw [if_neg h, Option.bind_some]; simp; omega
  rw [if_neg h1]
  by_cases h2 : t = 2
  · subst h2
    rw [if_pos rfl]
    by_cases h : v ≥ 0
    · rw [if_pos h, Option.bind_some]
      by_cases h' : v ≤ 281474976710655
      · rw [decide_eq_true h', if_pos rfl, Option.bind_some, bit_and v h h', decide_eq_true (show 0 ≤ v from h)]; simp
      · rw [decide_eq_false h']; simp
    · rw [if_neg h, Option.bind_some]; simp; omega
  rw [if_neg h2]
  by_cases h3 : t = 3
  · subst h3
    rw [if_pos rfl]
    by_cases h : v = 0
    · rw [if_pos h, h]; rfl
    · rw [if_neg h]; simp [h]
  · rw [if_neg h3]; simp [h1, h2, h3]
theorem word_eq (x : S43) : mrpdu_word.f x.f0.f0 x.f0.f1 x.f1 x.f2 = some (wordB x) := by
  unfold mrpdu_word.f wordB
  rw [attr_eq, Option.bind_some]
  cases attrB x.f0.f0 x.f0.f1
  · simp
  · rw [if_pos rfl]
    by_cases h1 : x.f1 ≥ 0
    · rw [if_pos h1]
      by_cases h2 : x.f1 ≤ 5
      · rw [if_pos h2]
        by_cases h3 : x.f2 ≥ 0
        · rw [if_pos h3]; simp [h1, h2, h3]
        · rw [if_neg h3]; simp; omega
      · rw [if_neg h2]; simp; omega
    · rw [if_neg h1]; simp; omega
theorem refmany_eq (v : Int) : kissgateref02_Many.f v = some (decide (0 ≤ v) && (decide (v ≤ 281474976710655) && (v / 1099511627776 % 2 == 1))) := by
  unfold kissgateref02_Many.f kissgateref02_Good.f
  by_cases h : v ≥ 0
  · rw [if_pos h, Option.bind_some]
    by_cases h' : v < 281474976710656
    · rw [decide_eq_true h', if_pos rfl, Int.tdiv_eq_ediv_of_nonneg h, wrap_id (by omega) (by omega), Int.tmod_eq_emod_of_nonneg (by omega), decide_eq_true (show 0 ≤ v from h), decide_eq_true (show v ≤ 281474976710655 by omega)]; simp
    · rw [decide_eq_false h', if_neg (by decide), decide_eq_false (show ¬ v ≤ 281474976710655 by omega)]; simp
  · rw [if_neg h, Option.bind_some, if_neg (by decide), decide_eq_false (show ¬ 0 ≤ v from h)]; simp
theorem refattr_eq (t v : Int) : kissgateref07_Attr.f t v = some (attrB t v) := by
  unfold kissgateref07_Attr.f attrB
  rw [refmany_eq, Option.bind_some]
  by_cases h1 : t = 1
  · subst h1
    by_cases a : v ≥ 1
    · by_cases b : v ≤ 4094
      · simp [a, b]
      · simp [a, b]
    · simp [a]
  · by_cases h2 : t = 2
    · subst h2
      simp only [if_neg h1]
      by_cases c : (decide (0 ≤ v) && (decide (v ≤ 281474976710655) && (v / 1099511627776 % 2 == 1))) = true
      · rw [if_pos trivial, if_pos c, c]; rfl
      · rw [if_pos trivial, if_neg c, if_neg (by decide)]
        have : (decide (0 ≤ v) && (decide (v ≤ 281474976710655) && (v / 1099511627776 % 2 == 1))) = false := by simpa using c
        rw [this]; rfl
    · rw [if_neg h1, if_neg h2]
      by_cases h3 : t = 3
      · subst h3
        by_cases h : v = 0
        · rw [if_pos rfl, if_pos h, h]; rfl
        · rw [if_pos rfl, if_neg h]; simp [h]
      · rw [if_neg h3]; simp [h1, h2, h3]
def cmpI (a b : Int) : Int := if a < b then -1 else if a > b then 1 else 0
theorem cmp_eq (a b : Int) : cmp_Compare_int.f a b = some (cmpI a b) := by
  unfold cmp_Compare_int.f cmp_isNaN_int.f cmpI
  simp
  split
  · rfl
  · split <;> rfl
def cmpA (t1 v1 t2 v2 : Int) : Int := if cmpI t1 t2 = 0 then cmpI v1 v2 else cmpI t1 t2
theorem or_ev (a b : Int) : Ev (fun k => cmp_Or_int.f k [a, b]) (if a = 0 then b else a) := by
  unfold cmp_Or_int.f
  by_cases h : a = 0
  · rw [if_pos h]
    refine Ev.step (f := fun k => cmp_Or_int.l0 k 0 [a, b] 2 1) (fun k => ?_) ?_
    · show cmp_Or_int.l0 (k + 1) 0 [a, b] 2 0 = _
      rw [cmp_Or_int.l0, if_pos (by decide), if_pos (by decide), if_pos (by simp), show rd [a, b] 0 = a from rfl, if_pos h, show wrap64 ((0 : Int) + 1) = 1 by decide +kernel]
    · by_cases h2 : b = 0
      · refine Ev.step (f := fun k => cmp_Or_int.l0 k 0 [a, b] 2 2) (fun k => ?_) ?_
        · show cmp_Or_int.l0 (k + 1) 0 [a, b] 2 1 = _
          rw [cmp_Or_int.l0, if_pos (by decide), if_pos (by decide), if_pos (by simp), show rd [a, b] 1 = b from rfl, if_pos h2, show wrap64 ((1 : Int) + 1) = 2 by decide +kernel]
        · refine Ev.step (f := fun _ => some b) (fun k => ?_) (Ev.now _)
          rw [cmp_Or_int.l0, if_neg (by decide), h2]
      · refine Ev.step (f := fun _ => some b) (fun k => ?_) (Ev.now _)
        show cmp_Or_int.l0 (k + 1) 0 [a, b] 2 1 = _
        rw [cmp_Or_int.l0, if_pos (by decide), if_pos (by decide), if_pos (by simp), show rd [a, b] 1 = b from rfl, if_neg h2]
  · rw [if_neg h]
    refine Ev.step (f := fun _ => some a) (fun k => ?_) (Ev.now _)
    show cmp_Or_int.l0 (k + 1) 0 [a, b] 2 0 = _
    rw [cmp_Or_int.l0, if_pos (by decide), if_pos (by decide), if_pos (by simp), show rd [a, b] 0 = a from rfl, if_neg h]
theorem compare_ev (t1 v1 t2 v2 : Int) : Ev (fun k => mrpdu_Compare.f k t1 v1 t2 v2) (cmpA t1 v1 t2 v2) := by
  unfold mrpdu_Compare.f
  rw [cmp_eq, cmp_eq]
  simp only [Option.bind_some]
  exact Ev.bind (or_ev _ _) (Ev.now _)
theorem cmp_neg (x y : S43) : cmpA x.f0.f0 x.f0.f1 y.f0.f0 y.f0.f1 < 0 ↔ lessA x y := by
  unfold cmpA cmpI lessA
  split <;> split <;> (try split) <;> omega
instance decLess (x y : S43) : Decidable (lessA x y) := by unfold lessA; infer_instance
theorem less_eq (x y : S43) : kissgateref07_Less.f x.f0.f0 x.f0.f1 y.f0.f0 y.f0.f1 = some (decide (lessA x y)) := by
  unfold kissgateref07_Less.f
  by_cases h : lessA x y
  · rw [decide_eq_true h]
    unfold lessA at h
    by_cases h1 : x.f0.f0 < y.f0.f0
    · rw [if_pos h1]
    · rw [if_neg h1, if_pos (by omega), decide_eq_true (by omega)]
  · rw [decide_eq_false h]
    unfold lessA at h
    rw [if_neg (by omega)]
    by_cases h1 : x.f0.f0 = y.f0.f0
    · rw [if_pos h1, decide_eq_false (by omega)]
    · rw [if_neg h1]
def GA (l : List Int) : Prop := (∀ k ∈ l, k = 1 ∨ k = 2 ∨ k = 3) ∧ l.Pairwise (· < ·)
def GW (l : List S43) : Prop := (∀ x ∈ l, wordB x = true) ∧ l.Pairwise lessA
theorem good_iff {all : List Int} {words : List S43} : GoodP all words ↔ GA all ∧ GW words := ⟨fun h => ⟨⟨h.kinds, h.rise⟩, h.word, h.less⟩, fun h => ⟨h.1.1, h.1.2, h.2.1, h.2.2⟩⟩
theorem size_kind (k : Int) : sizeT k ≠ 0 ↔ k = 1 ∨ k = 2 ∨ k = 3 := by
  unfold sizeT
  split
  · simp [*]
  · split
    · simp [*]
    · split
      · simp [*]
      · simp [*]
theorem lessA_trans {x y z : S43} (h : lessA x y) (k : lessA y z) : lessA x z := by unfold lessA at *; omega
theorem pair_snoc {α : Type} {R : α → α → Prop} (tr : ∀ {x y z}, R x y → R y z → R x z) (l : List α) (x d : α) (h : l.Pairwise R) : (l ++ [x]).Pairwise R ↔ (0 < l.length → R (l.getD (l.length - 1) d) x) := by
  rw [List.pairwise_append]
  constructor
  · rintro ⟨_, _, h3⟩ hp
    exact h3 _ (by rw [getD_in _ _ _ (by omega)]; exact List.getElem_mem _) x (by simp)
  · intro hl
    refine ⟨h, by simp, fun a ha b hb => ?_⟩
    rw [List.mem_singleton] at hb
    subst hb
    obtain ⟨i, hi, rfl⟩ := List.mem_iff_getElem.1 ha
    have hlast := hl (by omega)
    by_cases e : i = l.length - 1
    · subst e; rwa [getD_in _ _ _ (by omega)] at hlast
    · refine tr (List.pairwise_iff_getElem.1 h i (l.length - 1) hi (by omega) (by omega)) ?_
      rwa [getD_in _ _ _ (by omega)] at hlast
theorem GA_succ (l : List Int) (i : Nat) (hi : i < l.length) (h : GA (l.take i)) : GA (l.take (i + 1)) ↔ sizeT (l.getD i 0) ≠ 0 ∧ (0 < i → l.getD (i - 1) 0 < l.getD i 0) := by
  rw [List.take_succ_eq_append_getElem hi, size_kind, getD_in l i 0 hi]
  unfold GA
  have hl : (l.take i).length = i := by rw [List.length_take]; omega
  rw [pair_snoc (R := (· < ·)) (fun {x y z} a b => by omega) (l.take i) (l[i]) 0 h.2, hl]
  have e : ∀ hp : 0 < i, (l.take i).getD (i - 1) 0 = l.getD (i - 1) 0 := fun hp => by rw [getD_in _ _ _ (by omega), getD_in _ _ _ (by omega), List.getElem_take]
  constructor
  · rintro ⟨h1, h2⟩
    exact ⟨h1 _ (List.mem_append_right _ (List.mem_singleton.2 rfl)), fun hp => by rw [← e hp]; exact h2 hp⟩
  · rintro ⟨h1, h2⟩
    refine ⟨fun k hk => ?_, fun hp => by rw [e hp]; exact h2 hp⟩
    rcases List.mem_append.1 hk with hk | hk
    · exact h.1 k hk
    · rw [List.mem_singleton] at hk; subst hk; exact h1
theorem GW_succ (l : List S43) (i : Nat) (hi : i < l.length) (h : GW (l.take i)) : GW (l.take (i + 1)) ↔ wordB (l.getD i z43) = true ∧ (0 < i → lessA (l.getD (i - 1) z43) (l.getD i z43)) := by
  rw [List.take_succ_eq_append_getElem hi, getD_in l i z43 hi]
  unfold GW
  have hl : (l.take i).length = i := by rw [List.length_take]; omega
  rw [pair_snoc (R := lessA) lessA_trans (l.take i) (l[i]) z43 h.2, hl]
  have e : ∀ hp : 0 < i, (l.take i).getD (i - 1) z43 = l.getD (i - 1) z43 := fun hp => by rw [getD_in _ _ _ (by omega), getD_in _ _ _ (by omega), List.getElem_take]
  constructor
  · rintro ⟨h1, h2⟩
    exact ⟨h1 _ (List.mem_append_right _ (List.mem_singleton.2 rfl)), fun hp => by rw [← e hp]; exact h2 hp⟩
  · rintro ⟨h1, h2⟩
    refine ⟨fun k hk => ?_, fun hp => by rw [e hp]; exact h2 hp⟩
    rcases List.mem_append.1 hk with hk | hk
    · exact h.1 k hk
    · rw [List.mem_singleton] at hk; subst hk; exact h1
theorem GA_take {l : List Int} (h : GA l) (i : Nat) : GA (l.take i) := ⟨fun k hk => h.1 k (List.mem_of_mem_take hk), h.2.sublist (List.take_sublist _ _)⟩
theorem GW_take {l : List S43} (h : GW l) (i : Nat) : GW (l.take i) := ⟨fun k hk => h.1 k (List.mem_of_mem_take hk), h.2.sublist (List.take_sublist _ _)⟩
theorem good_no_a {all : List Int} {words : List S43} (i : Nat) (h : ¬ GA (all.take i)) : goodB all words = false := by
  cases hg : goodB all words
  · rfl
  · exact absurd (GA_take (good_iff.1 (goodB_iff.1 hg)).1 i) h
theorem good_no_w {all : List Int} {words : List S43} (i : Nat) (h : ¬ GW (words.take i)) : goodB all words = false := by
  cases hg : goodB all words
  · rfl
  · exact absurd (GW_take (good_iff.1 (goodB_iff.1 hg)).2 i) h
theorem good_j3 {all : List Int} {words : List S43} {i : Nat} (hi : i ≤ 1000000) {b r : Bool} (h : if b = true then r = false else Ev (fun k => mrpdu_Good.l1 k words (words.length : Int) ((i + 1 : Nat) : Int) all words) r) :
    Ev (fun k => mrpdu_Good.j3 k words (words.length : Int) (i : Int) b all words) r := by
  cases b
  · rw [if_neg (by decide)] at h
    refine Ev.step (fun k => ?_) h
    rw [mrpdu_Good.j3, if_neg (by decide), wrap_one i (by omega)]
  · rw [if_pos rfl] at h
    subst h
    refine Ev.step (f := fun _ => some false) (fun k => ?_) (Ev.now _)
    rw [mrpdu_Good.j3, if_pos rfl]
theorem good_l1 (all : List Int) (words : List S43) (hw : words.length ≤ 1000000) (hA : GA all) : ∀ d i : Nat, words.length - i = d → i ≤ words.length → GW (words.take i) →
    Ev (fun k => mrpdu_Good.l1 k words (words.length : Int) (i : Int) all words) (goodB all words) := by
  intro d
  induction d with
  | zero =>
    intro i hd hi h
    rw [List.take_of_length_le (by omega)] at h
    rw [goodB_iff.2 (good_iff.2 ⟨hA, h⟩)]
    refine Ev.step (f := fun _ => some true) (fun k => ?_) (Ev.now _)
    rw [mrpdu_Good.l1, if_neg (by omega)]
  | succ d ih =>
    intro i hd hi h
    have hlt : i < words.length := by omega
    have hs := GW_succ words i hlt h
    by_cases c1 : wordB (words.getD i z43) = true
    · by_cases c2 : 0 < i
      · have hwp := wrap_pred i c2 (by omega)
        have hcmp := compare_ev (words.getD (i - 1) z43).f0.f0 (words.getD (i - 1) z43).f0.f1 (words.getD i z43).f0.f0 (words.getD i z43).f0.f1
        have hneg := cmp_neg (words.getD (i - 1) z43) (words.getD i z43)
        refine Ev.step (f := fun k => (mrpdu_Compare.f k (words.getD (i - 1) z43).f0.f0 (words.getD (i - 1) z43).f0.f1 (words.getD i z43).f0.f0 (words.getD i z43).f0.f1).bind fun t => mrpdu_Good.j3 k words (words.length : Int) (i : Int) (decide (t ≥ 0)) all words) (fun k => ?_) ?_
        · rw [mrpdu_Good.l1, if_pos (by omega), if_pos (by omega), if_pos (by omega), rdT_nat, word_eq, Option.bind_some, if_pos c1, if_pos (by omega), hwp, if_pos (by omega), if_pos (by omega), rdT_nat]
        · refine Ev.bind hcmp (good_j3 (by omega) ?_)
          by_cases c3 : lessA (words.getD (i - 1) z43) (words.getD i z43)
          · rw [if_neg (fun hc => by have := hneg.2 c3; have := of_decide_eq_true hc; omega)]
            exact ih (i + 1) (by omega) (by omega) (hs.2 ⟨c1, fun _ => c3⟩)
          · have hnn : ¬ cmpA (words.getD (i - 1) z43).f0.f0 (words.getD (i - 1) z43).f0.f1 (words.getD i z43).f0.f0 (words.getD i z43).f0.f1 < 0 := fun hc => c3 (hneg.1 hc)
            rw [if_pos (decide_eq_true (by omega))]
            exact good_no_w (i + 1) (fun hc => c3 ((hs.1 hc).2 c2))
      · refine Ev.step (f := fun k => mrpdu_Good.j3 k words (words.length : Int) (i : Int) false all words) (fun k => ?_) (good_j3 (by omega) ?_)
        · rw [mrpdu_Good.l1, if_pos (by omega), if_pos (by omega), if_pos (by omega), rdT_nat, word_eq, Option.bind_some, if_pos c1, if_neg (by omega)]
        · rw [if_neg (by decide)]
          exact ih (i + 1) (by omega) (by omega) (hs.2 ⟨c1, fun hp => absurd hp c2⟩)
    · refine Ev.step (f := fun k => mrpdu_Good.j3 k words (words.length : Int) (i : Int) true all words) (fun k => ?_) (good_j3 (by omega) ?_)
      · rw [mrpdu_Good.l1, if_pos (by omega), if_pos (by omega), if_pos (by omega), rdT_nat, word_eq, Option.bind_some, if_neg c1]
      · rw [if_pos rfl]
        exact good_no_w (i + 1) (fun hc => c1 (hs.1 hc).1)
theorem good_j1 {all : List Int} {words : List S43} {i : Nat} (hi : i ≤ 1000000) {b r : Bool} (h : if b = true then r = false else Ev (fun k => mrpdu_Good.l0 k all (all.length : Int) ((i + 1 : Nat) : Int) all words) r) :
    Ev (fun k => mrpdu_Good.j1 k all (all.length : Int) (i : Int) b all words) r := by
  cases b
  · rw [if_neg (by decide)] at h
    refine Ev.step (fun k => ?_) h
    rw [mrpdu_Good.j1, if_neg (by decide), wrap_one i (by omega)]
  · rw [if_pos rfl] at h
    subst h
    refine Ev.step (f := fun _ => some false) (fun k => ?_) (Ev.now _)
    rw [mrpdu_Good.j1, if_pos rfl]
theorem good_l0 (all : List Int) (words : List S43) (ha : all.length ≤ 1000000) (hw : words.length ≤ 1000000) : ∀ d i : Nat, all.length - i = d → i ≤ all.length → GA (all.take i) →
    Ev (fun k => mrpdu_Good.l0 k all (all.length : Int) (i : Int) all words) (goodB all words) := by
  intro d
  induction d with
  | zero =>
    intro i hd hi h
    rw [List.take_of_length_le (by omega)] at h
    refine Ev.step (fun k => ?_) (good_l1 all words hw h _ 0 rfl (by omega) ⟨by simp, by simp⟩)
    rw [mrpdu_Good.l0, if_neg (by omega)]; rfl
  | succ d ih =>
    intro i hd hi h
    have hlt : i < all.length := by omega
    have hs := GA_succ all i hlt h
    by_cases c1 : sizeT (all.getD i 0) ≠ 0
    · by_cases c2 : 0 < i
      · have hwp := wrap_pred i c2 (by omega)
        refine Ev.step (f := fun k => mrpdu_Good.j1 k all (all.length : Int) (i : Int) (decide (all.getD (i - 1) 0 ≥ all.getD i 0)) all words) (fun k => ?_) (good_j1 (by omega) ?_)
        · rw [mrpdu_Good.l0, if_pos (by omega), if_pos (by omega), if_pos (by omega), rd_nat, size_eq, Option.bind_some, if_neg (by omega), if_pos (by omega), hwp, if_pos (by omega), if_pos (by omega), rd_nat]
        · by_cases c3 : all.getD (i - 1) 0 < all.getD i 0
          · rw [if_neg (by simpa using c3)]
            exact ih (i + 1) (by omega) (by omega) (hs.2 ⟨c1, fun _ => c3⟩)
          · rw [if_pos (decide_eq_true (by omega))]
            exact good_no_a (i + 1) (fun hc => c3 ((hs.1 hc).2 c2))
      · refine Ev.step (f := fun k => mrpdu_Good.j1 k all (all.length : Int) (i : Int) false all words) (fun k => ?_) (good_j1 (by omega) ?_)
        · rw [mrpdu_Good.l0, if_pos (by omega), if_pos (by omega), if_pos (by omega), rd_nat, size_eq, Option.bind_some, if_neg (by omega), if_neg (by omega)]
        · rw [if_neg (by decide)]
          exact ih (i + 1) (by omega) (by omega) (hs.2 ⟨c1, fun hp => absurd hp c2⟩)
    · refine Ev.step (f := fun k => mrpdu_Good.j1 k all (all.length : Int) (i : Int) true all words) (fun k => ?_) (good_j1 (by omega) ?_)
      · rw [mrpdu_Good.l0, if_pos (by omega), if_pos (by omega), if_pos (by omega), rd_nat, size_eq, Option.bind_some, if_pos (by omega)]
      · rw [if_pos rfl]
        exact good_no_a (i + 1) (fun hc => c1 (hs.1 hc).1)
theorem good_ev (all : List Int) (words : List S43) (ha : all.length ≤ 1000000) (hw : words.length ≤ 1000000) : Ev (fun k => mrpdu_Good.f k all words) (goodB all words) := by
  have := good_l0 all words ha hw _ 0 rfl (by omega) ⟨by simp, by simp⟩
  simpa [mrpdu_Good.f] using this
theorem rgood_j3 {words : List S43} {i : Nat} {x : S43} (hi : i ≤ 1000000) (hl : i < words.length) {b r : Bool} (h : if b = true then r = false else if 0 < i ∧ ¬ lessA (words.getD (i - 1) z43) x then r = false else Ev (fun k => kissgateref07_Good.l1 k words words (words.length : Int) ((i + 1 : Nat) : Int)) r) :
    Ev (fun k => kissgateref07_Good.j3 k words (i : Int) words (words.length : Int) (i : Int) b x.f0.f0 x.f0.f1 x.f1 x.f2) r := by
  cases b
  · rw [if_neg (by decide)] at h
    by_cases c2 : 0 < i
    · have hwp := wrap_pred i c2 (by omega)
      by_cases c3 : lessA (words.getD (i - 1) z43) x
      · rw [if_neg (fun hc => hc.2 c3)] at h
        refine Ev.step (fun k => ?_) h
        rw [kissgateref07_Good.j3, if_neg (by decide), if_pos (by omega), hwp, if_pos (by omega), if_pos (by omega), rdT_nat, less_eq, Option.bind_some, decide_eq_true c3, if_pos rfl, wrap_one i (by omega)]
      · rw [if_pos ⟨c2, c3⟩] at h
        subst h
        refine Ev.step (f := fun _ => some false) (fun k => ?_) (Ev.now _)
        rw [kissgateref07_Good.j3, if_neg (by decide), if_pos (by omega), hwp, if_pos (by omega), if_pos (by omega), rdT_nat, less_eq, Option.bind_some, decide_eq_false c3, if_neg (by decide)]
    · rw [if_neg (fun hc => c2 hc.1)] at h
      refine Ev.step (fun k => ?_) h
      rw [kissgateref07_Good.j3, if_neg (by decide), if_neg (by omega), wrap_one i (by omega)]
  · rw [if_pos rfl] at h
    subst h
    refine Ev.step (f := fun _ => some false) (fun k => ?_) (Ev.now _)
    rw [kissgateref07_Good.j3, if_pos rfl]
theorem rgood_l1 (all : List Int) (words : List S43) (hw : words.length ≤ 1000000) (hA : GA all) : ∀ d i : Nat, words.length - i = d → i ≤ words.length → GW (words.take i) →
    Ev (fun k => kissgateref07_Good.l1 k words words (words.length : Int) (i : Int)) (goodB all words) := by
  intro d
  induction d with
  | zero =>
    intro i hd hi h
    rw [List.take_of_length_le (by omega)] at h
    rw [goodB_iff.2 (good_iff.2 ⟨hA, h⟩)]
    refine Ev.step (f := fun _ => some true) (fun k => ?_) (Ev.now _)
    rw [kissgateref07_Good.l1, if_neg (by omega)]
  | succ d ih =>
    intro i hd hi h
    have hlt : i < words.length := by omega
    have hs := GW_succ words i hlt h
    obtain ⟨x, hx⟩ : ∃ x, x = words.getD i z43 := ⟨_, rfl⟩
    rw [← hx] at hs
    refine Ev.step (f := fun k => kissgateref07_Good.j3 k words (i : Int) words (words.length : Int) (i : Int) (!wordB x) x.f0.f0 x.f0.f1 x.f1 x.f2) (fun k => ?_) (rgood_j3 (by omega) hlt ?_)
    · rw [kissgateref07_Good.l1, if_pos (by omega), if_pos (by omega), if_pos (by omega), rdT_nat, ← hx, refattr_eq, Option.bind_some]
      unfold wordB
      cases attrB x.f0.f0 x.f0.f1
      · rw [if_neg (by decide)]; rfl
      · rw [if_pos rfl]
        by_cases h1 : x.f1 < 0
        · rw [if_pos h1, decide_eq_false (by omega)]; rfl
        · rw [if_neg h1]
          by_cases h2 : x.f1 > 5
          · rw [if_pos h2, decide_eq_false (by omega)]; rfl
          · rw [if_neg h2]
            by_cases h3 : x.f2 < 0
            · rw [if_pos h3, decide_eq_false (by omega)]; rfl
            · rw [if_neg h3]
              by_cases h4 : x.f2 > 1048576
              · rw [decide_eq_true h4, decide_eq_false (by omega)]; rfl
              · rw [decide_eq_false h4, decide_eq_true (by omega)]; rfl
    · by_cases c1 : wordB x = true
      · rw [c1, if_neg (by decide)]
        by_cases c3 : 0 < i ∧ ¬ lessA (words.getD (i - 1) z43) x
        · rw [if_pos c3]
          exact good_no_w (i + 1) (fun hc => c3.2 ((hs.1 hc).2 c3.1))
        · rw [if_neg c3]
          refine ih (i + 1) (by omega) (by omega) (hs.2 ⟨c1, fun hp => ?_⟩)
          by_cases c4 : lessA (words.getD (i - 1) z43) x
          · exact c4
          · exact absurd ⟨hp, c4⟩ c3
      · have c1' : wordB x = false := by simpa using c1
        rw [c1', if_pos (by decide)]
        exact good_no_w (i + 1) (fun hc => c1 (hs.1 hc).1)
theorem rgood_j1 {all : List Int} {words : List S43} {i : Nat} (hi : i ≤ 1000000) {b r : Bool} (h : if b = true then r = false else Ev (fun k => kissgateref07_Good.l0 k all words all (all.length : Int) ((i + 1 : Nat) : Int)) r) :
    Ev (fun k => kissgateref07_Good.j1 k all words all (all.length : Int) (i : Int) b) r := by
  cases b
  · rw [if_neg (by decide)] at h
    refine Ev.step (fun k => ?_) h
    rw [kissgateref07_Good.j1, if_neg (by decide), wrap_one i (by omega)]
  · rw [if_pos rfl] at h
    subst h
    refine Ev.step (f := fun _ => some false) (fun k => ?_) (Ev.now _)
    rw [kissgateref07_Good.j1, if_pos rfl]
theorem rgood_l0 (all : List Int) (words : List S43) (ha : all.length ≤ 1000000) (hw : words.length ≤ 1000000) : ∀ d i : Nat, all.length - i = d → i ≤ all.length → GA (all.take i) →
    Ev (fun k => kissgateref07_Good.l0 k all words all (all.length : Int) (i : Int)) (goodB all words) := by
  intro d
  induction d with
  | zero =>
    intro i hd hi h
    rw [List.take_of_length_le (by omega)] at h
    refine Ev.step (fun k => ?_) (rgood_l1 all words hw h _ 0 rfl (by omega) ⟨by simp, by simp⟩)
    rw [kissgateref07_Good.l0, if_neg (by omega)]; rfl
  | succ d ih =>
    intro i hd hi h
    have hlt : i < all.length := by omega
    have hs := GA_succ all i hlt h
    by_cases c1 : sizeT (all.getD i 0) ≠ 0
    · by_cases c2 : 0 < i
      · have hwp := wrap_pred i c2 (by omega)
        refine Ev.step (f := fun k => kissgateref07_Good.j1 k all words all (all.length : Int) (i : Int) (decide (all.getD (i - 1) 0 ≥ all.getD i 0))) (fun k => ?_) (rgood_j1 (by omega) ?_)
        · rw [kissgateref07_Good.l0, if_pos (by omega), if_pos (by omega), if_pos (by omega), rd_nat, refsize_eq, Option.bind_some, if_neg (by omega), if_pos (by omega), hwp, if_pos (by omega), if_pos (by omega), rd_nat]
        · by_cases c3 : all.getD (i - 1) 0 < all.getD i 0
          · rw [if_neg (by simpa using c3)]
            exact ih (i + 1) (by omega) (by omega) (hs.2 ⟨c1, fun _ => c3⟩)
          · rw [if_pos (decide_eq_true (by omega))]
            exact good_no_a (i + 1) (fun hc => c3 ((hs.1 hc).2 c2))
      · refine Ev.step (f := fun k => kissgateref07_Good.j1 k all words all (all.length : Int) (i : Int) false) (fun k => ?_) (rgood_j1 (by omega) ?_)
        · rw [kissgateref07_Good.l0, if_pos (by omega), if_pos (by omega), if_pos (by omega), rd_nat, refsize_eq, Option.bind_some, if_neg (by omega), if_neg (by omega)]
        · rw [if_neg (by decide)]
          exact ih (i + 1) (by omega) (by omega) (hs.2 ⟨c1, fun hp => absurd hp c2⟩)
    · refine Ev.step (f := fun k => kissgateref07_Good.j1 k all words all (all.length : Int) (i : Int) true) (fun k => ?_) (rgood_j1 (by omega) ?_)
      · rw [kissgateref07_Good.l0, if_pos (by omega), if_pos (by omega), if_pos (by omega), rd_nat, refsize_eq, Option.bind_some, if_pos (by omega)]
      · rw [if_pos rfl]
        exact good_no_a (i + 1) (fun hc => c1 (hs.1 hc).1)
theorem rgood_ev (all : List Int) (words : List S43) (ha : all.length ≤ 1000000) (hw : words.length ≤ 1000000) : Ev (fun k => kissgateref07_Good.f k all words) (goodB all words) := by
  have := rgood_l0 all words ha hw _ 0 rfl (by omega) ⟨by simp, by simp⟩
  simpa [kissgateref07_Good.f] using this
end Go.Proofs.Ytlfcpobnkojcbaa.Pm
/- What row answers of any bytes. -/
namespace Go.Proofs.Ytlfcpobnkojcbaa.Pm
open Go.RowKit Go.Proofs.Ytlfcpobnkojcbaa.PMrpduBytes Go.Proofs.YtlfcpobnkojcbaaW.PrintWords Go.Proofs.YtlfcpobnkojcbaaW.PrintLast Go.Proofs.YtlfcpobnkojcbaaW.PrintMore
open Wr (putBytes)
theorem unp_total (s : ByteArray) (hs : s.size ≤ 1000000) (n : Nat) (hn : n ≤ 100000) : ∀ d i : Nat, s.size - i = d → i ≤ s.size → ∀ out : List Int, out.length ≤ n →
    ∃ r : List Int × Bool, Ev (fun k => pack_unpack.l0 k s (n : Int) 3 6 out (s.size : Int) (i : Int)) r ∧ r.1.length ≤ n := by
  intro d
  induction d with
  | zero =>
    intro i hd hi out ho
    refine ⟨(out, true), Ev.step (f := fun _ => some (out, true)) (fun k => ?_) (Ev.now _), ho⟩
    simp only [pack_unpack.l0]; rw [if_neg (by omega)]
  | succ d ih =>
    intro i hd hi out ho
    have hlt : i < s.size := by omega
    have hr := bt_range s (i : Int)
    have key : ∀ r : List Int × Bool, Ev (fun k => pack_unpack.l1 k s (n : Int) 3 6 out (List.replicate 3 0) (bt s (i : Int)) 2 (s.size : Int) (i : Int)) r → Ev (fun k => pack_unpack.l0 k s (n : Int) 3 6 out (s.size : Int) (i : Int)) r := fun r h => by
      refine Ev.step (fun k => ?_) h
      simp only [pack_unpack.l0]
      rw [if_pos (by omega), if_pos (by decide), if_pos (by decide), if_pos (by omega), if_pos (by omega), wrap_id (n := bt s (i : Int)) (by omega) (by omega), show wrap64 ((3 : Int) - 1) = 2 by decide +kernel]
      rfl
    by_cases hv : 216 ≤ bt s (i : Int)
    · exact ⟨([], false), key _ (l1_three hr.1 (by omega) (by rw [if_pos hv])), by simp⟩
    · have hd3 : (d3 (bt s (i : Int))).length = 3 := rfl
      by_cases h3 : out.length + 3 ≤ n
      · obtain ⟨r, hr1, hr2⟩ := ih (i + 1) (by omega) (by omega) (out ++ d3 (bt s (i : Int))) (by rw [List.length_append, hd3]; exact h3)
        refine ⟨r, key _ (l1_three hr.1 (by omega) ?_), hr2⟩
        rw [if_neg hv]
        refine l2_all (by rw [hd3]; decide) _ 0 rfl (by omega) out (by rw [hd3]; omega) (by omega) ?_
        rw [List.drop_zero, wrap_one i (by omega)]
        exact hr1
      · have := l2_some (s := s) (n := n) (many := 3) (b := 6) (i := (i : Int)) (sz := (s.size : Int)) (R := d3 (bt s (i : Int))) (by rw [hd3]; decide) (n - out.length) 0 (by rw [hd3]; omega) out (by omega) (by omega)
        refine ⟨_, key _ (l1_three hr.1 (by omega) (by rw [if_neg hv]; exact this)), ?_⟩
        split
        · simp only [List.length_append, List.length_take, hd3, List.drop_zero]; omega
        · simp
theorem from_total (s : ByteArray) (hs : s.size ≤ 1000000) (n : Nat) (hn : n ≤ 100000) : Ev (fun k => pack_FromThrees.f k s (n : Int)) (fromR s n) ∧ (fromR s n).1.length ≤ n := by
  obtain ⟨r, h1, h2⟩ : ∃ r : List Int × Int, Ev (fun k => pack_FromThrees.f k s (n : Int)) r ∧ r.1.length ≤ n := by
    have hu : ∃ r : List Int × Bool, Ev (fun k => pack_unpack.f k s (n : Int) 3 6) r ∧ r.1.length ≤ n := by
      obtain ⟨r, h1, h2⟩ := unp_total s hs n hn _ 0 rfl (by omega) [] (by simp)
      unfold pack_unpack.f
      by_cases hb : ((s.size : Int) != (wrap64 (Int.tdiv (wrap64 ((wrap64 ((n : Int) + 3)) - 1)) 3))) = true
      · refine ⟨([], false), ?_, by simp⟩
        refine Ev.congr (f := fun k => pack_unpack.j0 k s (n : Int) 3 6 true) (fun k => by rw [if_neg (by omega), if_neg (by decide), hb]) ?_
        refine Ev.step (f := fun _ => some ([], false)) (fun k => ?_) (Ev.now _)
        simp only [pack_unpack.j0]; rw [if_pos trivial]
      · refine ⟨r, ?_, h2⟩
        have hb' : ((s.size : Int) != (wrap64 (Int.tdiv (wrap64 ((wrap64 ((n : Int) + 3)) - 1)) 3))) = false := by simpa using hb
        refine Ev.congr (f := fun k => pack_unpack.j0 k s (n : Int) 3 6 false) (fun k => by rw [if_neg (by omega), if_neg (by decide), hb']) ?_
        refine Ev.step (fun k => ?_) h1
        simp only [pack_unpack.j0]; rw [if_neg (by decide)]; rfl
    obtain ⟨r, h1, h2⟩ := hu
    unfold pack_FromThrees.f
    by_cases hb : r.2 = true
    · exact ⟨(r.1, 0), Ev.bind h1 (Ev.congr (f := fun _ => some (r.1, 0)) (fun k => by rw [if_pos hb]) (Ev.now _)), h2⟩
    · exact ⟨([], 4), Ev.bind h1 (Ev.congr (f := fun _ => some ([], 4)) (fun k => by rw [if_neg hb]) (Ev.now _)), by simp⟩
  rw [fromR_ev h1]
  exact ⟨h1, h2⟩
theorem raw_ev (s : ByteArray) (hs : s.size ≤ 1000000) (i : Nat) (b : Int) (n : Nat) (H : Rs s i b) :
    ∃ (t : ByteArray) (i' : Nat) (b' : Int), octet_Reader_Raw.f s i b n = some (t, s, (i' : Int), b') ∧ Rs s i' b' ∧ i ≤ i' ∧ (b' = -1 ↔ b = -1 ∧ i + n ≤ s.size) ∧ (b' = -1 → i' = i + n ∧ t = s.extract i (i + n)) ∧ t.size ≤ s.size := by
  obtain ⟨hi, hb | hb⟩ := H
  · subst hb
    by_cases h : i + n ≤ s.size
    · refine ⟨_, _, _, ?_, ⟨h, .inl rfl⟩, by omega, ⟨fun _ => ⟨rfl, h⟩, fun _ => rfl⟩, fun _ => ⟨rfl, rfl⟩, ?_⟩
      · unfold octet_Reader_Raw.f
        rw [take_good s i n (by omega) h]; rfl
      · rw [← bytesOf_length, bytesOf_cut, seg_length s i n h]; omega
    · refine ⟨⟨#[]⟩, _, _, ?_, ⟨hi, .inr (Int.natCast_nonneg i)⟩, Nat.le_refl _, ⟨fun e => by omega, fun e => absurd e.2 h⟩, fun e => by omega, Nat.zero_le _⟩
      · unfold octet_Reader_Raw.f
        rw [take_short s i n (by omega) hi h]; rfl
  · refine ⟨⟨#[]⟩, _, _, ?_, ⟨hi, .inr hb⟩, Nat.le_refl _, ⟨fun e => by omega, fun e => by omega⟩, fun e => by omega, Nat.zero_le _⟩
    unfold octet_Reader_Raw.f
    rw [take_bad s i b n hb]; rfl
theorem mkW_snoc (kind born v : Int) (ev : List Int) (j : Nat) (h : j < ev.length) : mkW kind born v (ev.take (j + 1)) = mkW kind born v (ev.take j) ++ [⟨⟨kind, v + j⟩, ev.getD j 0, born⟩] := by
  rw [List.take_succ_eq_append_getElem h, mkW_app, getD_in _ _ _ h, List.length_take, Nat.min_eq_left (by omega)]
  rfl
/-- Whether a row's head fits what it says. -/
def headOk (head : Nat) (first born : Int) : Bool := decide (0 < head % 8192 ∨ (first = 0 ∧ born = 0 ∧ head ≠ 0))
theorem row_l0 (kind : Int) (head : Nat) (first born : Int) (hf : 0 ≤ first ∧ first < 256 ^ 7) (ev : List Int) (he : ev.length ≤ 100000) (s : ByteArray) (i b : Int) : ∀ d j : Nat, ev.length - j = d → j ≤ ev.length →
    Ev (fun k => mrpdu_row.l0 k kind (head : Int) (mkW kind born first (ev.take j)) ((head % 8192 : Nat) : Int) first born ev (ev.length : Int) (j : Int) s i b) (mkW kind born first ev, headOk head first born, s, i, b) := by
  intro d
  induction d with
  | zero =>
    intro j hd hj
    rw [List.take_of_length_le (by omega)]
    refine Ev.step (f := fun _ => some (mkW kind born first ev, headOk head first born, s, i, b)) (fun k => ?_) (Ev.now _)
    simp only [mrpdu_row.l0]
    rw [if_neg (by omega)]
    unfold headOk
    by_cases h1 : 0 < head % 8192
    · rw [if_pos (by omega), decide_eq_true (.inl h1)]
    · rw [if_neg (by omega)]
      by_cases h2 : first = 0
      · rw [if_pos h2]
        by_cases h3 : born = 0
        · rw [if_pos h3]
          by_cases h4 : head = 0
          · subst h4; simp
          · rw [decide_eq_true (.inr ⟨h2, h3, h4⟩), show ((head : Int) != 0) = true from bne_iff_ne.2 (by omega)]
        · rw [if_neg h3, decide_eq_false (by omega)]
      · rw [if_neg h2, decide_eq_false (by omega)]
  | succ d ih =>
    intro j hd hj
    have hlt : j < ev.length := by omega
    have hx := ih (j + 1) (by omega) (by omega)
    rw [mkW_snoc kind born first ev j hlt] at hx
    refine Ev.step (fun k => ?_) hx
    simp only [mrpdu_row.l0]
    have h7 : (256 : Int) ^ 7 = 72057594037927936 := by decide +kernel
    have hwf : wrap64 (first + (j : Int)) = first + (j : Int) := wrap_id (by omega) (by omega)
    rw [if_pos (by omega), if_pos (by omega), if_pos (by omega), if_pos (by rw [mkW_len, List.length_take]; omega), rd_nat, hwf, wrap_one j (by omega)]
theorem and_13 (head : Nat) (h : head < 65536) : Go.bits .and .i64 (head : Int) 8191 = ((head % 8192 : Nat) : Int) := by
  have := bits_mask .i64 63 (by decide) wraps_i64 13 (by decide) (head : Int) (by omega) (by omega)
  rw [show ((head % 8192 : Nat) : Int) = (head : Int) % 8192 by omega]
  exact this
theorem row_j0 (kind : Int) (head : Nat) (first born : Int) (hf : 0 ≤ first ∧ first < 256 ^ 7) (ev : List Int) (he : ev.length ≤ 100000) (s : ByteArray) (i b : Int) (x : Bool) :
    Ev (fun k => mrpdu_row.j0 k kind (head : Int) [] ((head % 8192 : Nat) : Int) first born ev x s i b) (if x = true then ([], false, s, i, b) else (mkW kind born first ev, headOk head first born, s, i, b)) := by
  cases x
  · rw [if_neg (by decide)]
    refine Ev.step (fun k => ?_) (row_l0 kind head first born hf ev he s i b _ 0 rfl (by omega))
    simp only [mrpdu_row.j0]; rw [if_neg (by decide)]; rfl
  · rw [if_pos rfl]
    refine Ev.step (f := fun _ => some ([], false, s, i, b)) (fun k => ?_) (Ev.now _)
    simp only [mrpdu_row.j0]; rw [if_pos trivial]
theorem size_mid (kind : Int) (h : sizeT kind ≠ 0) : 1 ≤ sizeT kind ∧ sizeT kind ≤ 7 := by
  have := (size_kind kind).1 h
  rcases this with rfl | rfl | rfl <;> decide
theorem val_seg (s : ByteArray) (i n : Nat) : 0 ≤ val (seg s i n) ∧ val (seg s i n) < 256 ^ n := by
  have h := val_range (seg_small s i n)
  refine ⟨h.1, Int.lt_of_lt_of_le h.2 ?_⟩
  have hl : (seg s i n).length ≤ n := by unfold seg; exact List.length_take_le _ _
  obtain ⟨m, hm⟩ : ∃ m, n = (seg s i n).length + m := ⟨n - (seg s i n).length, by omega⟩
  conv => rhs; rw [hm, Int.pow_add]
  have h1 : (1 : Int) ≤ 256 ^ m := by have : (0 : Int) < 256 ^ m := Int.pow_pos (by decide); omega
  have h2 : (0 : Int) ≤ 256 ^ (seg s i n).length := Int.le_of_lt (Int.pow_pos (by decide))
  calc (256 : Int) ^ (seg s i n).length = 256 ^ (seg s i n).length * 1 := by omega
    _ ≤ _ := Int.mul_le_mul_of_nonneg_left h1 h2
/-- What is left at a place. -/
def left_ (s : ByteArray) (i : Nat) : List Int := (bytesOf s).drop i
theorem left_len (s : ByteArray) (i : Nat) : (left_ s i).length = s.size - i := by unfold left_; rw [List.length_drop, bytesOf_length]
theorem get_left (s : ByteArray) (i n : Nat) (h : i + n ≤ s.size) : getL n (left_ s i) = some (val (seg s i n), left_ s (i + n)) := by
  unfold getL
  rw [left_len, if_pos (by omega)]
  unfold left_ seg
  rw [List.drop_drop]
theorem get_left_no (s : ByteArray) (i n : Nat) (hi : i ≤ s.size) (h : ¬ i + n ≤ s.size) : getL n (left_ s i) = none := by
  unfold getL
  rw [left_len, if_neg (by omega)]
/-- What row answers: the words and what is left, or that there is none. -/
def RowQ (s : ByteArray) (o : Option (List S43 × List Int)) (r : List S43 × Bool × ByteArray × Int × Int) : Prop :=
  match o with
  | some x => ∃ i' : Nat, r = (x.1, true, s, (i' : Int), -1) ∧ i' ≤ s.size ∧ x.2 = left_ s i'
  | none => ∃ (l : List S43) (i' : Nat) (b' : Int), r = (l, false, s, (i' : Int), b') ∧ Rs s i' b'
set_option maxHeartbeats 1000000 in
theorem row_ev (s : ByteArray) (hs : s.size ≤ 1000000) (i : Nat) (hi : i ≤ s.size) (kind : Int) (hk : sizeT kind ≠ 0) (head : Nat) (hh : head < 65536) :
    ∃ r, Ev (fun k => mrpdu_row.f k s i (-1) kind (head : Int)) r ∧ RowQ s (rowL (left_ s i) kind head) r := by
  obtain ⟨z1, z2⟩ := size_mid kind hk
  obtain ⟨v1, i1, b1, g1, R1, q1, e1⟩ := get_ev s (by omega) i (-1) (sizeT kind) z1 z2 ⟨hi, .inl rfl⟩
  obtain ⟨v2, i2, b2, g2, R2, q2, e2⟩ := get_ev s (by omega) i1 b1 4 (by decide) (by decide) R1
  obtain ⟨t, i3, b3, g3, R3, h3, q3, e3, t3⟩ := raw_ev s hs i2 b2 (nb 3 (head % 8192)) R2
  obtain ⟨f1, f2⟩ := from_total t (by omega) (head % 8192) (by omega)
  have hn8 : head % 8192 ≤ 8191 := by omega
  have base : ∀ r, Ev (fun k => if b3 ≥ 0 then mrpdu_row.j0 k kind (head : Int) [] ((head % 8192 : Nat) : Int) v1 v2 (fromR t (head % 8192)).1 true s i3 b3 else (if (fromR t (head % 8192)).2 = 0 then mrpdu_row.j0 k kind (head : Int) [] ((head % 8192 : Nat) : Int) v1 v2 (fromR t (head % 8192)).1 (((head : Int) / 16384) != 0) s i3 b3 else mrpdu_row.j0 k kind (head : Int) [] ((head % 8192 : Nat) : Int) v1 v2 (fromR t (head % 8192)).1 true s i3 b3)) r →
      Ev (fun k => mrpdu_row.f k s i (-1) kind (head : Int)) r := fun r hr => by
    unfold mrpdu_row.f
    rw [size_eq]
    simp only [Option.bind_some]
    refine Ev.bind g1 (Ev.bind g2 ?_)
    rw [and_13 head hh, size3_is _ (by omega)]
    simp only [Option.bind_some]
    rw [g3]
    simp only [Option.bind_some]
    refine Ev.bind f1 ?_
    unfold octet_Reader_Fault.f
    simp only [Option.bind_some]
    exact hr
  by_cases hb3 : b3 = -1
  · obtain ⟨hb2, hl3⟩ := q3.1 hb3
    obtain ⟨hb1, hl2⟩ := q2.1 hb2
    obtain ⟨_, hl1⟩ := q1.1 hb1
    obtain ⟨rfl, rfl⟩ := e1 hb1
    obtain ⟨rfl, rfl⟩ := e2 hb2
    obtain ⟨rfl, rfl⟩ := e3 hb3
    subst hb3 hb2 hb1
    have hv := val_seg s i (sizeT kind)
    have hf : 0 ≤ val (seg s i (sizeT kind)) ∧ val (seg s i (sizeT kind)) < 256 ^ 7 := by
      refine ⟨hv.1, Int.lt_of_lt_of_le hv.2 ?_⟩
      obtain rfl | rfl | rfl := (size_kind kind).1 hk <;> decide +kernel
    have hstr : strOfNums (seg s (i + sizeT kind + 4) (nb 3 (head % 8192))) = s.extract (i + sizeT kind + 4) (i + sizeT kind + 4 + nb 3 (head % 8192)) := by
      rw [← bytesOf_cut, Wr.str_bytesOf]
    have hrow : rowL (left_ s i) kind head = (unpR (seg s (i + sizeT kind + 4) (nb 3 (head % 8192))) (head % 8192)).bind fun ev => if head / 16384 = 0 ∧ (0 < head % 8192 ∨ (val (seg s i (sizeT kind)) = 0 ∧ val (seg s (i + sizeT kind) 4) = 0 ∧ head ≠ 0)) then some (mkW kind (val (seg s (i + sizeT kind) 4)) (val (seg s i (sizeT kind))) ev, left_ s (i + sizeT kind + 4 + nb 3 (head % 8192))) else none := by
      unfold rowL
      rw [get_left s i _ hl1, Option.bind_some]
      simp only
      rw [get_left s _ _ hl2, Option.bind_some]
      simp only
      rw [left_len, if_pos (by omega)]
      unfold left_ seg
      rw [List.drop_drop]
    have hu : unpR (seg s (i + sizeT kind + 4) (nb 3 (head % 8192))) (head % 8192) = if (fromR (s.extract (i + sizeT kind + 4) (i + sizeT kind + 4 + nb 3 (head % 8192))) (head % 8192)).2 = 0 then some (fromR (s.extract (i + sizeT kind + 4) (i + sizeT kind + 4 + nb 3 (head % 8192))) (head % 8192)).1 else none := by
      unfold unpR; rw [hstr]
    rw [hrow, hu]
    generalize fromR (s.extract (i + sizeT kind + 4) (i + sizeT kind + 4 + nb 3 (head % 8192))) (head % 8192) = F at base f2 ⊢
    generalize val (seg s i (sizeT kind)) = a at base hf ⊢
    generalize val (seg s (i + sizeT kind) 4) = c at base ⊢
    by_cases hF : F.2 = 0
    · have hj := row_j0 kind head a c hf F.1 (by omega) s ((i + sizeT kind + 4 + nb 3 (head % 8192) : Nat) : Int) (-1) (((head : Int) / 16384) != 0)
      refine ⟨_, base _ (Ev.congr (fun k => by rw [if_neg (by decide), if_pos hF]) hj), ?_⟩
      rw [if_pos hF, Option.bind_some]
      by_cases h16 : head / 16384 = 0
      · have : (((head : Int) / 16384) != 0) = false := by rw [bne_eq_false_iff_eq]; omega
        rw [this]
        unfold headOk
        by_cases hc : 0 < head % 8192 ∨ (a = 0 ∧ c = 0 ∧ head ≠ 0)
        · rw [if_pos ⟨h16, hc⟩, decide_eq_true hc]
          exact ⟨_, rfl, R3.1, rfl⟩
        · rw [if_neg (show ¬ (head / 16384 = 0 ∧ (0 < head % 8192 ∨ (a = 0 ∧ c = 0 ∧ head ≠ 0))) from fun h => hc h.2), decide_eq_false hc]
          exact ⟨_, _, _, rfl, R3⟩
      · have : (((head : Int) / 16384) != 0) = true := by rw [bne_iff_ne]; omega
        rw [this, if_neg (show ¬ (head / 16384 = 0 ∧ (0 < head % 8192 ∨ (a = 0 ∧ c = 0 ∧ head ≠ 0))) from fun h => h16 h.1)]
        exact ⟨_, _, _, rfl, R3⟩
    · have hj := row_j0 kind head a c hf F.1 (by omega) s ((i + sizeT kind + 4 + nb 3 (head % 8192) : Nat) : Int) (-1) true
      refine ⟨_, base _ (Ev.congr (fun k => by rw [if_neg (by decide), if_neg hF]) hj), ?_⟩
      rw [if_neg hF, Option.bind_none, if_pos rfl]
      exact ⟨_, _, _, rfl, R3⟩
  · have hb0 : b3 ≥ 0 := by rcases R3.2 with h | h; exact absurd h hb3; exact h
    refine ⟨([], false, s, (i3 : Int), b3), base _ (Ev.congr (f := fun k => mrpdu_row.j0 k kind (head : Int) [] ((head % 8192 : Nat) : Int) v1 v2 (fromR t (head % 8192)).1 true s i3 b3) (fun k => by rw [if_pos hb0]) ?_), ?_⟩
    · refine Ev.step (f := fun _ => some ([], false, s, (i3 : Int), b3)) (fun k => ?_) (Ev.now _)
      simp only [mrpdu_row.j0]; rw [if_pos trivial]
    · have hn : rowL (left_ s i) kind head = none := by
        unfold rowL
        by_cases c1 : i + sizeT kind ≤ s.size
        · have hb1 := q1.2 ⟨rfl, c1⟩
          obtain ⟨hi1, _⟩ := e1 hb1
          rw [get_left s i _ c1, Option.bind_some]
          simp only
          by_cases c2 : i + sizeT kind + 4 ≤ s.size
          · have hb2 := q2.2 ⟨hb1, by omega⟩
            obtain ⟨hi2, _⟩ := e2 hb2
            rw [get_left s _ _ c2, Option.bind_some]
            simp only
            rw [left_len, if_neg]
            intro hc
            exact hb3 (q3.2 ⟨hb2, by omega⟩)
          · rw [get_left_no s _ _ (by omega) c2]; rfl
        · rw [get_left_no s _ _ hi c1]; rfl
      rw [hn]
      exact ⟨_, _, _, rfl, R3⟩
end Go.Proofs.Ytlfcpobnkojcbaa.Pm
/- The reference's vector, what is contained, and whether messages are the same. -/
namespace Go.Proofs.Ytlfcpobnkojcbaa.Pm
open Go.RowKit Go.Proofs.Ytlfcpobnkojcbaa.PMrpduBytes Go.Proofs.YtlfcpobnkojcbaaW.PrintWords Go.Proofs.YtlfcpobnkojcbaaW.PrintLast Go.Proofs.YtlfcpobnkojcbaaW.PrintMore
open Wr (putBytes numOf)
theorem num_sz (kind a : Int) (hk : sizeT kind ≠ 0) : numOf ((sizeT kind : Nat) : Int) a = strOfNums (putBytes a (sizeT kind)) := by
  obtain ⟨h1, h7⟩ := size_mid kind hk
  rw [numOf_eq]
  have := szOf_mid (size := ((sizeT kind : Nat) : Int)) (by omega) (by omega)
  rw [show szOf ((sizeT kind : Nat) : Int) = sizeT kind by omega]
theorem num_1 (a : Int) : numOf 1 a = strOfNums (putBytes a 1) := by rw [numOf_eq, show szOf 1 = 1 by decide]
theorem num_2 (a : Int) : numOf 2 a = strOfNums (putBytes a 2) := by rw [numOf_eq, show szOf 2 = 2 by decide]
theorem num_4 (a : Int) : numOf 4 a = strOfNums (putBytes a 4) := by rw [numOf_eq, show szOf 4 = 4 by decide]
theorem evs_take (l : List S43) (i : Nat) (h : i < l.length) : evs (l.take (i + 1)) = evs (l.take i) ++ [(l.getD i z43).f1] := by
  rw [List.take_succ_eq_append_getElem h, evs_app, getD_in _ _ _ h]
theorem index_l0 (l : List Int) (x : Int) (hl : l.length ≤ 1000000) : ∀ d i : Nat, l.length - i = d → i ≤ l.length → ∃ r : Int, Ev (fun k => slices_Index_int_int.l0 k l x (l.length : Int) (i : Int)) r ∧ (0 ≤ r ↔ x ∈ l.drop i) := by
  intro d
  induction d with
  | zero =>
    intro i hd hi
    rw [List.drop_eq_nil_of_le (by omega)]
    refine ⟨-1, Ev.step (f := fun _ => some (-1)) (fun k => ?_) (Ev.now _), by simp⟩
    simp only [slices_Index_int_int.l0]; rw [if_neg (by omega)]
  | succ d ih =>
    intro i hd hi
    have hlt : i < l.length := by omega
    have hx : l.drop i = l.getD i 0 :: l.drop (i + 1) := by rw [List.drop_eq_getElem_cons hlt, getD_in _ _ _ hlt]
    rw [hx]
    by_cases h : x = l.getD i 0
    · refine ⟨(i : Int), Ev.step (f := fun _ => some (i : Int)) (fun k => ?_) (Ev.now _), by rw [← h]; simp⟩
      simp only [slices_Index_int_int.l0]
      rw [if_pos (by omega), if_pos (by omega), if_pos (by omega), rd_nat, if_pos h]
    · obtain ⟨r, h1, h2⟩ := ih (i + 1) (by omega) (by omega)
      refine ⟨r, Ev.step (fun k => ?_) h1, ?_⟩
      · simp only [slices_Index_int_int.l0]
        rw [if_pos (by omega), if_pos (by omega), if_pos (by omega), rd_nat, if_neg h, wrap_one i (by omega)]
      · rw [h2, List.mem_cons]
        exact ⟨.inr, fun hc => hc.resolve_left h⟩
theorem contains_ev (l : List Int) (x : Int) (hl : l.length ≤ 1000000) : Ev (fun k => slices_Contains_int_int.f k l x) (moreOf l x) := by
  obtain ⟨r, h1, h2⟩ := index_l0 l x hl _ 0 rfl (by omega)
  rw [List.drop_zero] at h2
  unfold slices_Contains_int_int.f moreOf
  refine Ev.bind (show Ev (fun k => slices_Index_int_int.f k l x) r from h1) ?_
  rw [show decide (r ≥ 0) = decide (x ∈ l) from by rw [Bool.eq_iff_iff, decide_eq_true_iff, decide_eq_true_iff]; exact h2]
  exact Ev.now _
noncomputable def sameP (a : List Int) (x : List S43) (b : List Int) (y : List S43) : Bool := open Classical in decide (a = b ∧ x = y)
theorem same_iff {a b : List Int} {x y : List S43} : sameP a x b y = true ↔ a = b ∧ x = y := by unfold sameP; simp
theorem w_eq (x y : S43) : ((!(x.f0.f0 == y.f0.f0) || (!(x.f0.f1 == y.f0.f1))) || (!(x.f1 == y.f1) || (!(x.f2 == y.f2)))) = true ↔ x ≠ y := by
  obtain ⟨⟨a, b⟩, c, d⟩ := x
  obtain ⟨⟨a', b'⟩, c', d'⟩ := y
  simp only [Bool.or_eq_true, Bool.not_eq_true', beq_eq_false_iff_ne, ne_eq, S43.mk.injEq, S37.mk.injEq]
  omega
theorem wsame_l0 (x y : List S43) (hl : x.length = y.length) (hx : x.length ≤ 1000000) : ∀ d i : Nat, x.length - i = d → i ≤ x.length → ∃ r : Bool, Ev (fun k => kissgateref07_Same.l0 k x y (x.length : Int) (i : Int)) r ∧ (r = true ↔ x.drop i = y.drop i) := by
  intro d
  induction d with
  | zero =>
    intro i hd hi
    rw [List.drop_eq_nil_of_le (by omega), List.drop_eq_nil_of_le (by omega)]
    refine ⟨true, Ev.step (f := fun _ => some true) (fun k => ?_) (Ev.now _), by simp⟩
    simp only [kissgateref07_Same.l0]; rw [if_neg (by omega)]
  | succ d ih =>
    intro i hd hi
    have h1 : i < x.length := by omega
    have h2 : i < y.length := by omega
    have e1 : x.drop i = x.getD i z43 :: x.drop (i + 1) := by rw [List.drop_eq_getElem_cons h1, getD_in _ _ _ h1]
    have e2 : y.drop i = y.getD i z43 :: y.drop (i + 1) := by rw [List.drop_eq_getElem_cons h2, getD_in _ _ _ h2]
    rw [e1, e2]
    have hw := w_eq (x.getD i z43) (y.getD i z43)
    by_cases h : x.getD i z43 = y.getD i z43
    · obtain ⟨r, k1, k2⟩ := ih (i + 1) (by omega) (by omega)
      refine ⟨r, Ev.step (fun k => ?_) k1, by rw [k2, List.cons.injEq]; exact ⟨fun hc => ⟨h, hc⟩, fun hc => hc.2⟩⟩
      simp only [kissgateref07_Same.l0]
      rw [if_pos (by omega), if_pos (by omega), if_pos (by omega), if_pos (by omega), rdT_nat, rdT_nat, if_neg (fun hc => hw.1 hc h), wrap_one i (by omega)]
    · refine ⟨false, Ev.step (f := fun _ => some false) (fun k => ?_) (Ev.now _), by simp only [List.cons.injEq]; exact ⟨fun hc => (by cases hc), fun hc => absurd hc.1 h⟩⟩
      simp only [kissgateref07_Same.l0]
      rw [if_pos (by omega), if_pos (by omega), if_pos (by omega), if_pos (by omega), rdT_nat, rdT_nat, if_pos (hw.2 h)]
theorem wsame_ev (a : List Int) (x : List S43) (b : List Int) (y : List S43) (ha : a.length ≤ 1000000) (hx : x.length ≤ 1000000) : Ev (fun k => kissgateref07_Same.f k a x b y) (sameP a x b y) := by
  unfold kissgateref07_Same.f
  by_cases hl : x.length = y.length
  · refine Ev.congr (fun k => by rw [if_pos (show (x.length : Int) = (y.length : Int) by omega)]) (Ev.bind (same_ev a b ha) ?_)
    by_cases hab : a = b
    · obtain ⟨r, h1, h2⟩ := wsame_l0 x y hl hx _ 0 rfl (by omega)
      rw [List.drop_zero, List.drop_zero] at h2
      have e : sameP a x b y = r := by rw [Bool.eq_iff_iff, same_iff, h2]; exact ⟨fun h => h.2, fun h => ⟨hab, h⟩⟩
      rw [e, decide_eq_true hab]
      refine Ev.step (fun k => ?_) h1
      simp only [kissgateref07_Same.j0]; rw [if_neg (by decide)]; rfl
    · have e : sameP a x b y = false := by cases h : sameP a x b y; rfl; exact absurd (same_iff.1 h).1 hab
      rw [e, decide_eq_false hab]
      refine Ev.step (f := fun _ => some false) (fun k => ?_) (Ev.now _)
      simp only [kissgateref07_Same.j0]; rw [if_pos (by decide)]
  · have e : sameP a x b y = false := by cases h : sameP a x b y; rfl; exact absurd (by rw [(same_iff.1 h).2]) hl
    rw [e]
    refine Ev.congr (fun k => by rw [if_neg (show ¬ (x.length : Int) = (y.length : Int) by omega)]) (Ev.step (f := fun _ => some false) (fun k => ?_) (Ev.now _))
    simp only [kissgateref07_Same.j0]; rw [if_pos trivial]
end Go.Proofs.Ytlfcpobnkojcbaa.Pm
