-- Written by a program of this session (see NOTES.md), which reads the translation's print; Lean checks it.
import Derived.Test.YtgmnkilnajkidaaPRegisDoesx0
import Derived.Test.YtgmnkilnajkidaaPRegisDoesx1
namespace Go.Proofs.Ytgmnkilnajkidaa.PRegisDoes
open Go.RowKit Go.Proofs.YtgmnkilnajkidaaW.PrintWords Go.Proofs.YtgmnkilnajkidaaW.PrintLast Go.Proofs.YtgmnkilnajkidaaW.PrintMore
attribute [local go_sem] max2_int min2_int max_two min_two max_three min_three max_four min_four   -- for this text's walks alone
set_option linter.unusedVariables false
set_option linter.unusedSimpArgs false

/-! ### regis_Reg_Mode: function 18 -/
def regis_Reg_Mode.f (s0_0 : Int) (s0_1 : Int) (s0_2 : Int) (s0_3 : Int) : Option (Int × Int × Int × Int × Int) := some (s0_0, s0_0, s0_1, s0_2, s0_3)
set_option maxHeartbeats 8000000 in
set_option maxRecDepth 100000 in
theorem regis_Reg_Mode.calls (g : Nat) (s0_0 : Int) (s0_1 : Int) (s0_2 : Int) (s0_3 : Int) (r1 : Int) (r2 : Int) (r3 : Int) (r4 : Int) (r5 : Int) (w0 w : World) (hI : IsS49 w0 w g s0_0 s0_1 s0_2 s0_3) (hB : Below w0.heap.size w0 w) (h : regis_Reg_Mode.f s0_0 s0_1 s0_2 s0_3 = some (r1, r2, r3, r4, r5)) :
    Calls Try.prog 18 #[.pointer (some ⟨g, 0, none⟩)] w fun e w' => e = .returned (.int .i64 r1) ∧ IsS49 w0 w' g r2 r3 r4 r5 ∧ Below w0.heap.size w0 w' ∧ KeepBut w w' g none := by
  have HI0 := Aside0.mk hI
  have HK := Aside0.mk (KeepBut.refl w g none)
  have HL := Aside0.mk hB.size
  clear hI
  have HW0 := Aside0.mk hB.size
  have HB := Aside0.mk hB
  clear hB
  have H : (some (s0_0, s0_0, s0_1, s0_2, s0_3)) = some (r1, r2, r3, r4, r5) := h
  clear h
  simp only [Option.some.injEq, Prod.mk.injEq] at H
  obtain ⟨rfl, rfl, rfl, rfl, rfl⟩ := H
  obtain ⟨HGz2, hgz2⟩ := HI0.out
  have hcz2_0 := cellS49_0 HGz2
  have hcz2_1 := cellS49_1 HGz2
  have hcz2_2 := cellS49_2 HGz2
  have hcz2_3 := cellS49_3 HGz2
  have hfz2_0 := blk_frozen HGz2 0
  have hfz2_1 := blk_frozen HGz2 1
  have hfz2_2 := blk_frozen HGz2 2
  have hfz2_3 := blk_frozen HGz2 3
  clear HGz2 hgz2
  go_enter Try.func18, Try.ntmps18
  go_wp2
  go_ret
  exact ⟨by first | rfl | (simp [show ∀ l_ : List UInt8, (l_ == []) = l_.isEmpty from fun l_ => by cases l_ <;> rfl]; done) | (simp [errW_none, errW_some] <;> rfl) | ((repeat rw [Int.tdiv_eq_ediv_of_nonneg (by omega)]); (repeat rw [Int.tmod_eq_emod_of_nonneg (by omega)]); first | rfl | (simp [errW_none, errW_some] <;> rfl)) | (simp [*, errW_none, errW_some] <;> rfl), by repeat (first | (with_reducible first | exact HI0.out | apply IsS49.alloc | apply IsS49.drewN | apply IsS49.drew | apply IsS49.set_0 | apply IsS49.set_1 | apply IsS49.set_2 | apply IsS49.set_3) | exact HI0.out), by repeat (first | (with_reducible first | exact HB.out | apply below_alloc | apply pw_below_drewN | apply below_drew1 | refine below_set ?_ (IsS49.ge HI0.out)) | exact HB.out), by repeat (first | (with_reducible first | exact HK.out | apply KeepBut.set_ | apply keep_drewN | apply keep_drew | apply keep_alloc) | exact HK.out)⟩

/-! ### regis_Reg_Set: function 19 -/
def regis_Reg_Set.f (s0_0 : Int) (s0_1 : Int) (s0_2 : Int) (s0_3 : Int) (a1 : Int) : Option (Int × Int × Int × Int × Int) := if a1 < 0 then (some (1, s0_0, s0_1, s0_2, s0_3)) else (if a1 > 2 then (some (1, s0_0, s0_1, s0_2, s0_3)) else (some (0, a1, s0_1, s0_2, s0_3)))
set_option maxHeartbeats 8000000 in
set_option maxRecDepth 100000 in
theorem regis_Reg_Set.calls (g : Nat) (s0_0 : Int) (s0_1 : Int) (s0_2 : Int) (s0_3 : Int) (a1 : Int) (r1 : Int) (r2 : Int) (r3 : Int) (r4 : Int) (r5 : Int) (w0 w : World) (hI : IsS49 w0 w g s0_0 s0_1 s0_2 s0_3) (hB : Below w0.heap.size w0 w) (h : regis_Reg_Set.f s0_0 s0_1 s0_2 s0_3 a1 = some (r1, r2, r3, r4, r5)) :
    Calls Try.prog 19 #[.pointer (some ⟨g, 0, none⟩), .int .i64 a1] w fun e w' => e = .returned (.int .i64 r1) ∧ IsS49 w0 w' g r2 r3 r4 r5 ∧ Below w0.heap.size w0 w' ∧ KeepBut w w' g none := by
  have HI0 := Aside0.mk hI
  have HK := Aside0.mk (KeepBut.refl w g none)
  have HL := Aside0.mk hB.size
  clear hI
  have HW0 := Aside0.mk hB.size
  have HB := Aside0.mk hB
  clear hB
  have H : (if a1 < 0 then (some (1, s0_0, s0_1, s0_2, s0_3)) else (if a1 > 2 then (some (1, s0_0, s0_1, s0_2, s0_3)) else (some (0, a1, s0_1, s0_2, s0_3)))) = some (r1, r2, r3, r4, r5) := h
  clear h
  by_cases c3 : a1 < 0
  · rw [if_pos c3] at H
    have c3b0 : decide (a1 < 0) = true := decide_eq_true c3
    clear c3
    simp only [Option.some.injEq, Prod.mk.injEq] at H
    obtain ⟨rfl, rfl, rfl, rfl, rfl⟩ := H
    go_enter Try.func19, Try.ntmps19
    go_wp2
    go_ret
    exact ⟨by first | rfl | (simp [show ∀ l_ : List UInt8, (l_ == []) = l_.isEmpty from fun l_ => by cases l_ <;> rfl]; done) | (simp [errW_none, errW_some] <;> rfl) | ((repeat rw [Int.tdiv_eq_ediv_of_nonneg (by omega)]); (repeat rw [Int.tmod_eq_emod_of_nonneg (by omega)]); first | rfl | (simp [errW_none, errW_some] <;> rfl)) | (simp [*, errW_none, errW_some] <;> rfl), by repeat (first | (with_reducible first | exact HI0.out | apply IsS49.alloc | apply IsS49.drewN | apply IsS49.drew | apply IsS49.set_0 | apply IsS49.set_1 | apply IsS49.set_2 | apply IsS49.set_3) | exact HI0.out), by repeat (first | (with_reducible first | exact HB.out | apply below_alloc | apply pw_below_drewN | apply below_drew1 | refine below_set ?_ (IsS49.ge HI0.out)) | exact HB.out), by repeat (first | (with_reducible first | exact HK.out | apply KeepBut.set_ | apply keep_drewN | apply keep_drew | apply keep_alloc) | exact HK.out)⟩
  · rw [if_neg c3] at H
    have c3b0 : decide (a1 < 0) = false := decide_eq_false c3
    clear c3
    by_cases c4 : a1 > 2
    · rw [if_pos c4] at H
      have c4b0 : decide (2 < a1) = true := decide_eq_true c4
      clear c4
      simp only [Option.some.injEq, Prod.mk.injEq] at H
      obtain ⟨rfl, rfl, rfl, rfl, rfl⟩ := H
      go_enter Try.func19, Try.ntmps19
      go_wp2
      go_ret
      exact ⟨by first | rfl | (simp [show ∀ l_ : List UInt8, (l_ == []) = l_.isEmpty from fun l_ => by cases l_ <;> rfl]; done) | (simp [errW_none, errW_some] <;> rfl) | ((repeat rw [Int.tdiv_eq_ediv_of_nonneg (by omega)]); (repeat rw [Int.tmod_eq_emod_of_nonneg (by omega)]); first | rfl | (simp [errW_none, errW_some] <;> rfl)) | (simp [*, errW_none, errW_some] <;> rfl), by repeat (first | (with_reducible first | exact HI0.out | apply IsS49.alloc | apply IsS49.drewN | apply IsS49.drew | apply IsS49.set_0 | apply IsS49.set_1 | apply IsS49.set_2 | apply IsS49.set_3) | exact HI0.out), by repeat (first | (with_reducible first | exact HB.out | apply below_alloc | apply pw_below_drewN | apply below_drew1 | refine below_set ?_ (IsS49.ge HI0.out)) | exact HB.out), by repeat (first | (with_reducible first | exact HK.out | apply KeepBut.set_ | apply keep_drewN | apply keep_drew | apply keep_alloc) | exact HK.out)⟩
    · rw [if_neg c4] at H
      have c4b0 : decide (2 < a1) = false := decide_eq_false c4
      clear c4
      simp only [Option.some.injEq, Prod.mk.injEq] at H
      obtain ⟨rfl, rfl, rfl, rfl, rfl⟩ := H
      obtain ⟨HGz5, hgz5⟩ := HI0.out
      have hcz5_0 := cellS49_0 HGz5
      have hcz5_1 := cellS49_1 HGz5
      have hcz5_2 := cellS49_2 HGz5
      have hcz5_3 := cellS49_3 HGz5
      have hfz5_0 := blk_frozen HGz5 0
      have hfz5_1 := blk_frozen HGz5 1
      have hfz5_2 := blk_frozen HGz5 2
      have hfz5_3 := blk_frozen HGz5 3
      clear HGz5 hgz5
      go_enter Try.func19, Try.ntmps19
      go_wp2
      go_ret
      exact ⟨by first | rfl | (simp [show ∀ l_ : List UInt8, (l_ == []) = l_.isEmpty from fun l_ => by cases l_ <;> rfl]; done) | (simp [errW_none, errW_some] <;> rfl) | ((repeat rw [Int.tdiv_eq_ediv_of_nonneg (by omega)]); (repeat rw [Int.tmod_eq_emod_of_nonneg (by omega)]); first | rfl | (simp [errW_none, errW_some] <;> rfl)) | (simp [*, errW_none, errW_some] <;> rfl), by repeat (first | (with_reducible first | exact HI0.out | apply IsS49.alloc | apply IsS49.drewN | apply IsS49.drew | apply IsS49.set_0 | apply IsS49.set_1 | apply IsS49.set_2 | apply IsS49.set_3) | exact HI0.out), by repeat (first | (with_reducible first | exact HB.out | apply below_alloc | apply pw_below_drewN | apply below_drew1 | refine below_set ?_ (IsS49.ge HI0.out)) | exact HB.out), by repeat (first | (with_reducible first | exact HK.out | apply KeepBut.set_ | apply keep_drewN | apply keep_drew | apply keep_alloc) | exact HK.out)⟩

/-! ### regis_Reg_Idle: function 20 -/
def regis_Reg_Idle.f (s0_0 : Int) (s0_1 : Int) (s0_2 : Int) (s0_3 : Int) : Option (Bool × Int × Int × Int × Int) := if s0_0 = 0 then (some ((s0_1 == 0), s0_0, s0_1, s0_2, s0_3)) else (some (false, s0_0, s0_1, s0_2, s0_3))
set_option maxHeartbeats 8000000 in
set_option maxRecDepth 100000 in
theorem regis_Reg_Idle.calls (g : Nat) (s0_0 : Int) (s0_1 : Int) (s0_2 : Int) (s0_3 : Int) (r1 : Bool) (r2 : Int) (r3 : Int) (r4 : Int) (r5 : Int) (w0 w : World) (hI : IsS49 w0 w g s0_0 s0_1 s0_2 s0_3) (hB : Below w0.heap.size w0 w) (h : regis_Reg_Idle.f s0_0 s0_1 s0_2 s0_3 = some (r1, r2, r3, r4, r5)) :
    Calls Try.prog 20 #[.pointer (some ⟨g, 0, none⟩)] w fun e w' => e = .returned (.bool r1) ∧ IsS49 w0 w' g r2 r3 r4 r5 ∧ Below w0.heap.size w0 w' ∧ KeepBut w w' g none := by
  have HI0 := Aside0.mk hI
  have HK := Aside0.mk (KeepBut.refl w g none)
  have HL := Aside0.mk hB.size
  clear hI
  have HW0 := Aside0.mk hB.size
  have HB := Aside0.mk hB
  clear hB
  have H : (if s0_0 = 0 then (some ((s0_1 == 0), s0_0, s0_1, s0_2, s0_3)) else (some (false, s0_0, s0_1, s0_2, s0_3))) = some (r1, r2, r3, r4, r5) := h
  clear h
  by_cases c2 : s0_0 = 0
  · rw [if_pos c2] at H
    have c2b0 : (s0_0 == 0) = true := beq_iff_eq.mpr c2
    have c2b1 : (s0_0 != 0) = false := bne_eq_false_iff_eq.mpr c2
    clear c2
    simp only [Option.some.injEq, Prod.mk.injEq] at H
    obtain ⟨rfl, rfl, rfl, rfl, rfl⟩ := H
    obtain ⟨HGz3, hgz3⟩ := HI0.out
    have hcz3_0 := cellS49_0 HGz3
    have hcz3_1 := cellS49_1 HGz3
    have hcz3_2 := cellS49_2 HGz3
    have hcz3_3 := cellS49_3 HGz3
    have hfz3_0 := blk_frozen HGz3 0
    have hfz3_1 := blk_frozen HGz3 1
    have hfz3_2 := blk_frozen HGz3 2
    have hfz3_3 := blk_frozen HGz3 3
    clear HGz3 hgz3
    go_enter Try.func20, Try.ntmps20
    go_wp2
    go_ret
    exact ⟨by first | rfl | (simp [show ∀ l_ : List UInt8, (l_ == []) = l_.isEmpty from fun l_ => by cases l_ <;> rfl]; done) | (simp [errW_none, errW_some] <;> rfl) | ((repeat rw [Int.tdiv_eq_ediv_of_nonneg (by omega)]); (repeat rw [Int.tmod_eq_emod_of_nonneg (by omega)]); first | rfl | (simp [errW_none, errW_some] <;> rfl)) | (simp [*, errW_none, errW_some] <;> rfl), by repeat (first | (with_reducible first | exact HI0.out | apply IsS49.alloc | apply IsS49.drewN | apply IsS49.drew | apply IsS49.set_0 | apply IsS49.set_1 | apply IsS49.set_2 | apply IsS49.set_3) | exact HI0.out), by repeat (first | (with_reducible first | exact HB.out | apply below_alloc | apply pw_below_drewN | apply below_drew1 | refine below_set ?_ (IsS49.ge HI0.out)) | exact HB.out), by repeat (first | (with_reducible first | exact HK.out | apply KeepBut.set_ | apply keep_drewN | apply keep_drew | apply keep_alloc) | exact HK.out)⟩
  · rw [if_neg c2] at H
    have c2b0 : (s0_0 == 0) = false := beq_eq_false_iff_ne.mpr c2
    have c2b1 : (s0_0 != 0) = true := bne_iff_ne.mpr c2
    simp only [Option.some.injEq, Prod.mk.injEq] at H
    obtain ⟨rfl, rfl, rfl, rfl, rfl⟩ := H
    obtain ⟨HGz4, hgz4⟩ := HI0.out
    have hcz4_0 := cellS49_0 HGz4
    have hcz4_1 := cellS49_1 HGz4
    have hcz4_2 := cellS49_2 HGz4
    have hcz4_3 := cellS49_3 HGz4
    have hfz4_0 := blk_frozen HGz4 0
    have hfz4_1 := blk_frozen HGz4 1
    have hfz4_2 := blk_frozen HGz4 2
    have hfz4_3 := blk_frozen HGz4 3
    clear HGz4 hgz4
    go_enter Try.func20, Try.ntmps20
    go_wp2
    go_ret
    exact ⟨by first | rfl | (simp [show ∀ l_ : List UInt8, (l_ == []) = l_.isEmpty from fun l_ => by cases l_ <;> rfl]; done) | (simp [errW_none, errW_some] <;> rfl) | ((repeat rw [Int.tdiv_eq_ediv_of_nonneg (by omega)]); (repeat rw [Int.tmod_eq_emod_of_nonneg (by omega)]); first | rfl | (simp [errW_none, errW_some] <;> rfl)) | (simp [*, errW_none, errW_some] <;> rfl), by repeat (first | (with_reducible first | exact HI0.out | apply IsS49.alloc | apply IsS49.drewN | apply IsS49.drew | apply IsS49.set_0 | apply IsS49.set_1 | apply IsS49.set_2 | apply IsS49.set_3) | exact HI0.out), by repeat (first | (with_reducible first | exact HB.out | apply below_alloc | apply pw_below_drewN | apply below_drew1 | refine below_set ?_ (IsS49.ge HI0.out)) | exact HB.out), by repeat (first | (with_reducible first | exact HK.out | apply KeepBut.set_ | apply keep_drewN | apply keep_drew | apply keep_alloc) | exact HK.out)⟩

/-- A state of type 45 at block g of W; what its slices lead to came in by w0. -/
def IsS45 (w0 W : World) (g : Nat) (f0 : Int) (f1 : Int) (f2 : Int) (f3 : Int) : Prop := W.heap[g]? = some (.cells #[.int .i64 f0, .int .i64 f1, .int .i64 f2, .int .i64 f3] 45 (0, 0)) ∧ w0.heap.size ≤ g
theorem IsS45.grown {w0 W : World} {g : Nat} {f0 : Int} {f1 : Int} {f2 : Int} {f3 : Int} {W1 : World} {row : Option Nat} (h : IsS45 w0 W g f0 f1 f2 f3) (hw : W.grownBy W1 row) (hne : some g ≠ row) : IsS45 w0 W1 g f0 f1 f2 f3 := by
  obtain ⟨hb, hg⟩ := h
  exact ⟨blk_grown hb hw hne, hg⟩
theorem IsS45.own_neN {w0 W : World} {g : Nat} {f0 : Int} {f1 : Int} {f2 : Int} {f3 : Int} {α : Type} {d : Kd α} {e : Nat} {base : Nat} {ok : Nat → Prop} {v : Value} {xs : List α} (h : IsS45 w0 W g f0 f1 f2 f3) (ho : Kd.N d e W base ok v xs) (ht : e ≠ 45) : some g ≠ v.ownBlock := by
  obtain ⟨hb, hg⟩ := h
  exact Kd.N_ne ho hb ht
theorem IsS45.fresh {w0 W : World} {g : Nat} {f0 : Int} {f1 : Int} {f2 : Int} {f3 : Int} (h : IsS45 w0 W g f0 f1 f2 f3) : ∀ k, W.heap.size ≤ k → k ≠ g := by
  obtain ⟨hb, hg⟩ := h
  exact Kd.freshB hb
theorem IsS45.kept {w0 W : World} {g : Nat} {f0 : Int} {f1 : Int} {f2 : Int} {f3 : Int} {W1 : World} {S : Nat → Prop} (h : IsS45 w0 W g f0 f1 f2 f3) (hk : Kept W W1 S) (hne : ¬ S g) : IsS45 w0 W1 g f0 f1 f2 f3 := by
  obtain ⟨hb, hg⟩ := h
  exact ⟨blk_kept hb hk hne, hg⟩
theorem IsS45.below {w0 W : World} {g : Nat} {f0 : Int} {f1 : Int} {f2 : Int} {f3 : Int} {W1 : World} (h : IsS45 w0 W g f0 f1 f2 f3) (hw : Below W.heap.size W W1) : IsS45 w0 W1 g f0 f1 f2 f3 := h.grown (grown_of_below hw none) (by simp)
theorem IsS45.alloc {w0 W : World} {g : Nat} {f0 : Int} {f1 : Int} {f2 : Int} {f3 : Int} (h : IsS45 w0 W g f0 f1 f2 f3) (o : Obj) : IsS45 w0 (W.alloc o) g f0 f1 f2 f3 := h.below (below_alloc (Below.refl _ _) o)
theorem IsS45.drewN {w0 W : World} {g : Nat} {f0 : Int} {f1 : Int} {f2 : Int} {f3 : Int} (h : IsS45 w0 W g f0 f1 f2 f3) (m : Nat) : IsS45 w0 (W.drewN m) g f0 f1 f2 f3 := h
theorem IsS45.drew {w0 W : World} {g : Nat} {f0 : Int} {f1 : Int} {f2 : Int} {f3 : Int} (h : IsS45 w0 W g f0 f1 f2 f3) : IsS45 w0 W.drew g f0 f1 f2 f3 := h
theorem IsS45.at_ {w0 W : World} {g : Nat} {f0 : Int} {f1 : Int} {f2 : Int} {f3 : Int} {w' : World} {m : Nat} (hq : W.drewN m = w') (h : IsS45 w0 W g f0 f1 f2 f3) : IsS45 w0 w' g f0 f1 f2 f3 := by subst hq; exact IsS45.drewN h m
theorem IsS45.apart {w0 W : World} {g : Nat} {f0 : Int} {f1 : Int} {f2 : Int} {f3 : Int} {α : Type} {d : Kd α} {e : Nat} {base : Nat} {ok : Nat → Prop} {v : Value} {xs : List α} (h : IsS45 w0 W g f0 f1 f2 f3) (ho : d.R e W base ok v xs) (ht : ∀ q, q ∈ e :: d.E → q ≠ 45) : d.R e W base (fun k => ok k ∧ k ≠ g) v xs := by
  obtain ⟨hb, hg⟩ := h
  exact Kd.R_types ho hb ht
theorem IsS45.own_ne {w0 W : World} {g : Nat} {f0 : Int} {f1 : Int} {f2 : Int} {f3 : Int} {α : Type} {d : Kd α} {e : Nat} {base : Nat} {ok : Nat → Prop} {v : Value} {xs : List α} (h : IsS45 w0 W g f0 f1 f2 f3) (ho : d.R e W base ok v xs) (ht : e ≠ 45) : some g ≠ v.ownBlock := by
  obtain ⟨hb, hg⟩ := h
  exact Kd.R_ne ho hb ht
theorem IsS45.apartQ {w0 W : World} {g : Nat} {f0 : Int} {f1 : Int} {f2 : Int} {f3 : Int} {α : Type} {d : Kd α} {e : Nat} {base : Nat} {ok : Nat → Prop} {v : Value} {xs : List α} (h : IsS45 w0 W g f0 f1 f2 f3) (ho : d.Q e W base ok v xs) (ht : ∀ q, q ∈ e :: d.E → q ≠ 45) : d.Q e W base (fun k => ok k ∧ k ≠ g) v xs := by
  obtain ⟨hb, hg⟩ := h
  exact Kd.Q_types ho hb ht
theorem IsS45.own_neQ {w0 W : World} {g : Nat} {f0 : Int} {f1 : Int} {f2 : Int} {f3 : Int} {α : Type} {d : Kd α} {e : Nat} {base : Nat} {ok : Nat → Prop} {v : Value} {xs : List α} (h : IsS45 w0 W g f0 f1 f2 f3) (ho : d.Q e W base ok v xs) (ht : e ≠ 45) : some g ≠ v.ownBlock := by
  obtain ⟨hb, hg⟩ := h
  exact Kd.Q_ne ho hb ht
theorem IsS45.apartS {w0 W : World} {g : Nat} {f0 : Int} {f1 : Int} {f2 : Int} {f3 : Int} {α : Type} {d : Kd α} {e : Nat} {base : Nat} {ok : Nat → Prop} {v : Value} {xs : List α} (h : IsS45 w0 W g f0 f1 f2 f3) (ho : d.S e W base ok v xs) (ht : ∀ q, q ∈ e :: d.E → q ≠ 45) : d.S e W base (fun k => ok k ∧ k ≠ g) v xs := by
  obtain ⟨hb, hg⟩ := h
  exact Kd.S_types ho hb ht
theorem IsS45.own_neS {w0 W : World} {g : Nat} {f0 : Int} {f1 : Int} {f2 : Int} {f3 : Int} {α : Type} {d : Kd α} {e : Nat} {base : Nat} {ok : Nat → Prop} {v : Value} {xs : List α} (h : IsS45 w0 W g f0 f1 f2 f3) (ho : d.S e W base ok v xs) (ht : e ≠ 45) : some g ≠ v.ownBlock := by
  obtain ⟨hb, hg⟩ := h
  exact Kd.S_ne ho hb ht
theorem IsS45.lt {w0 W : World} {g : Nat} {f0 : Int} {f1 : Int} {f2 : Int} {f3 : Int} (h : IsS45 w0 W g f0 f1 f2 f3) : g < W.heap.size := by
  obtain ⟨hb, hg⟩ := h
  exact blk_lt hb
theorem IsS45.ge {w0 W : World} {g : Nat} {f0 : Int} {f1 : Int} {f2 : Int} {f3 : Int} (h : IsS45 w0 W g f0 f1 f2 f3) : w0.heap.size ≤ g := by
  obtain ⟨hb, hg⟩ := h
  exact hg
theorem IsS45.ne_blk {w0 W : World} {g : Nat} {f0 : Int} {f1 : Int} {f2 : Int} {f3 : Int} {a : Nat} {cs : Array Value} {t : TypeId} {fr : Nat × Nat} (h : IsS45 w0 W g f0 f1 f2 f3) (hb2 : W.heap[a]? = some (.cells cs t fr)) (ht : t ≠ 45) : g ≠ a := by
  obtain ⟨hb, hg⟩ := h
  rintro rfl
  rw [hb] at hb2
  injection hb2 with hb2
  injection hb2 with _ ht2
  exact ht ht2.symm
theorem IsS45.far {w0 W : World} {g : Nat} {f0 : Int} {f1 : Int} {f2 : Int} {f3 : Int} {p : Addr} (h : IsS45 w0 W g f0 f1 f2 f3) (hne : g ≠ p.block) (u : Value) : IsS45 w0 (W.setCell p u) g f0 f1 f2 f3 := by
  obtain ⟨hb, hg⟩ := h
  exact ⟨blk_far hb hne u, hg⟩
theorem cellS45_0 {W : World} {g : Nat} {f0 : Int} {f1 : Int} {f2 : Int} {f3 : Int} (h : W.heap[g]? = some (.cells #[.int .i64 f0, .int .i64 f1, .int .i64 f2, .int .i64 f3] 45 (0, 0))) : W.cell? ⟨g, 0, none⟩ = some (.int .i64 f0) := (blk_cell h 0).trans rfl
theorem IsS45.set_0 {w0 W : World} {g : Nat} {f0 : Int} {f1 : Int} {f2 : Int} {f3 : Int} (h : IsS45 w0 W g f0 f1 f2 f3) (x : Int) : IsS45 w0 (W.setCell ⟨g, 0, none⟩ (.int .i64 x)) g x f1 f2 f3 := by
  obtain ⟨hb, hg⟩ := h
  exact ⟨by simpa using blk_set hb 0 (.int .i64 x), hg⟩
theorem cellS45_1 {W : World} {g : Nat} {f0 : Int} {f1 : Int} {f2 : Int} {f3 : Int} (h : W.heap[g]? = some (.cells #[.int .i64 f0, .int .i64 f1, .int .i64 f2, .int .i64 f3] 45 (0, 0))) : W.cell? ⟨g, 1, none⟩ = some (.int .i64 f1) := (blk_cell h 1).trans rfl
theorem IsS45.set_1 {w0 W : World} {g : Nat} {f0 : Int} {f1 : Int} {f2 : Int} {f3 : Int} (h : IsS45 w0 W g f0 f1 f2 f3) (x : Int) : IsS45 w0 (W.setCell ⟨g, 1, none⟩ (.int .i64 x)) g f0 x f2 f3 := by
  obtain ⟨hb, hg⟩ := h
  exact ⟨by simpa using blk_set hb 1 (.int .i64 x), hg⟩
theorem cellS45_2 {W : World} {g : Nat} {f0 : Int} {f1 : Int} {f2 : Int} {f3 : Int} (h : W.heap[g]? = some (.cells #[.int .i64 f0, .int .i64 f1, .int .i64 f2, .int .i64 f3] 45 (0, 0))) : W.cell? ⟨g, 2, none⟩ = some (.int .i64 f2) := (blk_cell h 2).trans rfl
theorem IsS45.set_2 {w0 W : World} {g : Nat} {f0 : Int} {f1 : Int} {f2 : Int} {f3 : Int} (h : IsS45 w0 W g f0 f1 f2 f3) (x : Int) : IsS45 w0 (W.setCell ⟨g, 2, none⟩ (.int .i64 x)) g f0 f1 x f3 := by
  obtain ⟨hb, hg⟩ := h
  exact ⟨by simpa using blk_set hb 2 (.int .i64 x), hg⟩
theorem cellS45_3 {W : World} {g : Nat} {f0 : Int} {f1 : Int} {f2 : Int} {f3 : Int} (h : W.heap[g]? = some (.cells #[.int .i64 f0, .int .i64 f1, .int .i64 f2, .int .i64 f3] 45 (0, 0))) : W.cell? ⟨g, 3, none⟩ = some (.int .i64 f3) := (blk_cell h 3).trans rfl
theorem IsS45.set_3 {w0 W : World} {g : Nat} {f0 : Int} {f1 : Int} {f2 : Int} {f3 : Int} (h : IsS45 w0 W g f0 f1 f2 f3) (x : Int) : IsS45 w0 (W.setCell ⟨g, 3, none⟩ (.int .i64 x)) g f0 f1 f2 x := by
  obtain ⟨hb, hg⟩ := h
  exact ⟨by simpa using blk_set hb 3 (.int .i64 x), hg⟩
theorem IsS45.new (w0 W : World) (f0 : Int) (f1 : Int) (f2 : Int) (f3 : Int) (hB : Below w0.heap.size w0 W) : IsS45 w0 (W.alloc (.cells #[.int .i64 f0, .int .i64 f1, .int .i64 f2, .int .i64 f3] 45)) W.heap.size f0 f1 f2 f3 := ⟨by simpa using heap_alloc_new W _, hB.size⟩

/-! ### kissgateref14_Reg_Has: function 21 -/
def kissgateref14_Reg_Has.f (s0_0 : Int) (s0_1 : Int) (s0_2 : Int) (s0_3 : Int) : Option (Bool × Int × Int × Int × Int) := if s0_0 = 1 then (some (true, s0_0, s0_1, s0_2, s0_3)) else (if s0_0 = 0 then (some (decide (s0_1 > 0), s0_0, s0_1, s0_2, s0_3)) else (some (false, s0_0, s0_1, s0_2, s0_3)))
set_option maxHeartbeats 8000000 in
set_option maxRecDepth 100000 in
theorem kissgateref14_Reg_Has.calls (g : Nat) (s0_0 : Int) (s0_1 : Int) (s0_2 : Int) (s0_3 : Int) (r1 : Bool) (r2 : Int) (r3 : Int) (r4 : Int) (r5 : Int) (w0 w : World) (hI : IsS45 w0 w g s0_0 s0_1 s0_2 s0_3) (hB : Below w0.heap.size w0 w) (h : kissgateref14_Reg_Has.f s0_0 s0_1 s0_2 s0_3 = some (r1, r2, r3, r4, r5)) :
    Calls Try.prog 21 #[.pointer (some ⟨g, 0, none⟩)] w fun e w' => e = .returned (.bool r1) ∧ IsS45 w0 w' g r2 r3 r4 r5 ∧ Below w0.heap.size w0 w' ∧ KeepBut w w' g none := by
  have HI0 := Aside0.mk hI
  have HK := Aside0.mk (KeepBut.refl w g none)
  have HL := Aside0.mk hB.size
  clear hI
  have HW0 := Aside0.mk hB.size
  have HB := Aside0.mk hB
  clear hB
  have H : (if s0_0 = 1 then (some (true, s0_0, s0_1, s0_2, s0_3)) else (if s0_0 = 0 then (some (decide (s0_1 > 0), s0_0, s0_1, s0_2, s0_3)) else (some (false, s0_0, s0_1, s0_2, s0_3)))) = some (r1, r2, r3, r4, r5) := h
  clear h
  by_cases c2 : s0_0 = 1
  · rw [if_pos c2] at H
    have c2b0 : (s0_0 == 1) = true := beq_iff_eq.mpr c2
    have c2b1 : (s0_0 != 1) = false := bne_eq_false_iff_eq.mpr c2
    clear c2
    simp only [Option.some.injEq, Prod.mk.injEq] at H
    obtain ⟨rfl, rfl, rfl, rfl, rfl⟩ := H
    obtain ⟨HGz3, hgz3⟩ := HI0.out
    have hcz3_0 := cellS45_0 HGz3
    have hcz3_1 := cellS45_1 HGz3
    have hcz3_2 := cellS45_2 HGz3
    have hcz3_3 := cellS45_3 HGz3
    have hfz3_0 := blk_frozen HGz3 0
    have hfz3_1 := blk_frozen HGz3 1
    have hfz3_2 := blk_frozen HGz3 2
    have hfz3_3 := blk_frozen HGz3 3
    clear HGz3 hgz3
    go_enter Try.func21, Try.ntmps21
    go_wp2
    go_ret
    exact ⟨by first | rfl | (simp [show ∀ l_ : List UInt8, (l_ == []) = l_.isEmpty from fun l_ => by cases l_ <;> rfl]; done) | (simp [errW_none, errW_some] <;> rfl) | ((repeat rw [Int.tdiv_eq_ediv_of_nonneg (by omega)]); (repeat rw [Int.tmod_eq_emod_of_nonneg (by omega)]); first | rfl | (simp [errW_none, errW_some] <;> rfl)) | (simp [*, errW_none, errW_some] <;> rfl), by repeat (first | (with_reducible first | exact HI0.out | apply IsS45.alloc | apply IsS45.drewN | apply IsS45.drew | apply IsS45.set_0 | apply IsS45.set_1 | apply IsS45.set_2 | apply IsS45.set_3) | exact HI0.out), by repeat (first | (with_reducible first | exact HB.out | apply below_alloc | apply pw_below_drewN | apply below_drew1 | refine below_set ?_ (IsS45.ge HI0.out)) | exact HB.out), by repeat (first | (with_reducible first | exact HK.out | apply KeepBut.set_ | apply keep_drewN | apply keep_drew | apply keep_alloc) | exact HK.out)⟩
  · rw [if_neg c2] at H
    have c2b0 : (s0_0 == 1) = false := beq_eq_false_iff_ne.mpr c2
    have c2b1 : (s0_0 != 1) = true := bne_iff_ne.mpr c2
    by_cases c4 : s0_0 = 0
    · rw [if_pos c4] at H
      have c4b0 : (s0_0 == 0) = true := beq_iff_eq.mpr c4
      have c4b1 : (s0_0 != 0) = false := bne_eq_false_iff_eq.mpr c4
      clear c4
      simp only [Option.some.injEq, Prod.mk.injEq] at H
      obtain ⟨rfl, rfl, rfl, rfl, rfl⟩ := H
      obtain ⟨HGz5, hgz5⟩ := HI0.out
      have hcz5_0 := cellS45_0 HGz5
      have hcz5_1 := cellS45_1 HGz5
      have hcz5_2 := cellS45_2 HGz5
      have hcz5_3 := cellS45_3 HGz5
      have hfz5_0 := blk_frozen HGz5 0
      have hfz5_1 := blk_frozen HGz5 1
      have hfz5_2 := blk_frozen HGz5 2
      have hfz5_3 := blk_frozen HGz5 3
      clear HGz5 hgz5
      go_enter Try.func21, Try.ntmps21
      go_wp2
      go_ret
      exact ⟨by first | rfl | (simp [show ∀ l_ : List UInt8, (l_ == []) = l_.isEmpty from fun l_ => by cases l_ <;> rfl]; done) | (simp [errW_none, errW_some] <;> rfl) | ((repeat rw [Int.tdiv_eq_ediv_of_nonneg (by omega)]); (repeat rw [Int.tmod_eq_emod_of_nonneg (by omega)]); first | rfl | (simp [errW_none, errW_some] <;> rfl)) | (simp [*, errW_none, errW_some] <;> rfl), by repeat (first | (with_reducible first | exact HI0.out | apply IsS45.alloc | apply IsS45.drewN | apply IsS45.drew | apply IsS45.set_0 | apply IsS45.set_1 | apply IsS45.set_2 | apply IsS45.set_3) | exact HI0.out), by repeat (first | (with_reducible first | exact HB.out | apply below_alloc | apply pw_below_drewN | apply below_drew1 | refine below_set ?_ (IsS45.ge HI0.out)) | exact HB.out), by repeat (first | (with_reducible first | exact HK.out | apply KeepBut.set_ | apply keep_drewN | apply keep_drew | apply keep_alloc) | exact HK.out)⟩
    · rw [if_neg c4] at H
      have c4b0 : (s0_0 == 0) = false := beq_eq_false_iff_ne.mpr c4
      have c4b1 : (s0_0 != 0) = true := bne_iff_ne.mpr c4
      simp only [Option.some.injEq, Prod.mk.injEq] at H
      obtain ⟨rfl, rfl, rfl, rfl, rfl⟩ := H
      obtain ⟨HGz6, hgz6⟩ := HI0.out
      have hcz6_0 := cellS45_0 HGz6
      have hcz6_1 := cellS45_1 HGz6
      have hcz6_2 := cellS45_2 HGz6
      have hcz6_3 := cellS45_3 HGz6
      have hfz6_0 := blk_frozen HGz6 0
      have hfz6_1 := blk_frozen HGz6 1
      have hfz6_2 := blk_frozen HGz6 2
      have hfz6_3 := blk_frozen HGz6 3
      clear HGz6 hgz6
      go_enter Try.func21, Try.ntmps21
      go_wp2
      go_ret
      exact ⟨by first | rfl | (simp [show ∀ l_ : List UInt8, (l_ == []) = l_.isEmpty from fun l_ => by cases l_ <;> rfl]; done) | (simp [errW_none, errW_some] <;> rfl) | ((repeat rw [Int.tdiv_eq_ediv_of_nonneg (by omega)]); (repeat rw [Int.tmod_eq_emod_of_nonneg (by omega)]); first | rfl | (simp [errW_none, errW_some] <;> rfl)) | (simp [*, errW_none, errW_some] <;> rfl), by repeat (first | (with_reducible first | exact HI0.out | apply IsS45.alloc | apply IsS45.drewN | apply IsS45.drew | apply IsS45.set_0 | apply IsS45.set_1 | apply IsS45.set_2 | apply IsS45.set_3) | exact HI0.out), by repeat (first | (with_reducible first | exact HB.out | apply below_alloc | apply pw_below_drewN | apply below_drew1 | refine below_set ?_ (IsS45.ge HI0.out)) | exact HB.out), by repeat (first | (with_reducible first | exact HK.out | apply KeepBut.set_ | apply keep_drewN | apply keep_drew | apply keep_alloc) | exact HK.out)⟩

/-! ### kissgateref13_Act: function 27 -/
def kissgateref13_Act.tab (a0 : Bool) : List (List Int) := if a0 = true then [[0, 0, 0, 0, 0, 0], [0, 0, 0, 0, 1, 0], [0, 0, 0, 0, 2, 0], [0, 0, 0, 0, 0, 0], [0, 0, 0, 0, 3, 0]] else [[3, 0, 0, 0, 0], [2, 0, 0, 4, 4], [0, 1, 1, 0, 4]]
def kissgateref13_Act.f (a0 : Bool) (a1 a2 : Int) : Option Int := if 0 ≤ a1 ∧ 0 ≤ a2 then ((kissgateref13_Act.tab a0)[a1.toNat]?).bind fun r => r[a2.toNat]? else none
set_option maxHeartbeats 4000000 in
set_option maxRecDepth 100000 in
theorem kissgateref13_Act.walk_false_0 (a2 : Int) (r : Int) (w : World) (h : kissgateref13_Act.f false 0 a2 = some r) : Calls Try.prog 27 #[.bool false, .int .i64 0, .int .i64 a2] w fun e w' => e = .returned (.int .i64 r) ∧ Drawn0 w w' := by
  have h2 : 0 ≤ a2 ∧ a2 < 5 := by
    unfold kissgateref13_Act.f at h
    by_cases h0 : 0 ≤ a2
    · refine ⟨h0, ?_⟩
      rw [if_pos ⟨by decide, h0⟩] at h
      have h3 : ([3, 0, 0, 0, 0] : List Int)[a2.toNat]? = some r := h
      have := (List.getElem?_eq_some_iff.1 h3).1
      simp only [List.length_cons, List.length_nil] at this
      omega
    · rw [if_neg (fun e => h0 e.2)] at h; cases h
  have hc : a2 = 0 ∨ a2 = 1 ∨ a2 = 2 ∨ a2 = 3 ∨ a2 = 4 := by omega
  have ia : ∀ w, (Instr.index 58 (.agg #[.string ⟨#[51, 48, 48, 48, 48]⟩, .string ⟨#[50, 48, 48, 52, 52]⟩, .string ⟨#[48, 49, 49, 48, 52]⟩]) (.int .i64 0)).run Try.prog w = .ok (.string ⟨#[51, 48, 48, 48, 48]⟩) w := fun _ => by kernel_rfl
  rcases hc with rfl | rfl | rfl | rfl | rfl
  · obtain rfl : (3 : Int) = r := Option.some.inj h
    have ib : ∀ w, (Instr.index 9 (.string ⟨#[51, 48, 48, 48, 48]⟩) (.int .i64 0)).run Try.prog w = .ok (.int .u8 51) w := fun _ => by kernel_rfl
    go_enter Try.func27, Try.ntmps27
    go_wp2
    go_ret
    exact ⟨rfl, by repeat (first | exact Drawn0.refl _ | apply Drawn0.step)⟩
  · obtain rfl : (0 : Int) = r := Option.some.inj h
    have ib : ∀ w, (Instr.index 9 (.string ⟨#[51, 48, 48, 48, 48]⟩) (.int .i64 1)).run Try.prog w = .ok (.int .u8 48) w := fun _ => by kernel_rfl
    go_enter Try.func27, Try.ntmps27
    go_wp2
    go_ret
    exact ⟨rfl, by repeat (first | exact Drawn0.refl _ | apply Drawn0.step)⟩
  · obtain rfl : (0 : Int) = r := Option.some.inj h
    have ib : ∀ w, (Instr.index 9 (.string ⟨#[51, 48, 48, 48, 48]⟩) (.int .i64 2)).run Try.prog w = .ok (.int .u8 48) w := fun _ => by kernel_rfl
    go_enter Try.func27, Try.ntmps27
    go_wp2
    go_ret
    exact ⟨rfl, by repeat (first | exact Drawn0.refl _ | apply Drawn0.step)⟩
  · obtain rfl : (0 : Int) = r := Option.some.inj h
    have ib : ∀ w, (Instr.index 9 (.string ⟨#[51, 48, 48, 48, 48]⟩) (.int .i64 3)).run Try.prog w = .ok (.int .u8 48) w := fun _ => by kernel_rfl
    go_enter Try.func27, Try.ntmps27
    go_wp2
    go_ret
    exact ⟨rfl, by repeat (first | exact Drawn0.refl _ | apply Drawn0.step)⟩
  · obtain rfl : (0 : Int) = r := Option.some.inj h
    have ib : ∀ w, (Instr.index 9 (.string ⟨#[51, 48, 48, 48, 48]⟩) (.int .i64 4)).run Try.prog w = .ok (.int .u8 48) w := fun _ => by kernel_rfl
    go_enter Try.func27, Try.ntmps27
    go_wp2
    go_ret
    exact ⟨rfl, by repeat (first | exact Drawn0.refl _ | apply Drawn0.step)⟩
set_option maxHeartbeats 4000000 in
set_option maxRecDepth 100000 in
theorem kissgateref13_Act.walk_false_1 (a2 : Int) (r : Int) (w : World) (h : kissgateref13_Act.f false 1 a2 = some r) : Calls Try.prog 27 #[.bool false, .int .i64 1, .int .i64 a2] w fun e w' => e = .returned (.int .i64 r) ∧ Drawn0 w w' := by
  have h2 : 0 ≤ a2 ∧ a2 < 5 := by
    unfold kissgateref13_Act.f at h
    by_cases h0 : 0 ≤ a2
    · refine ⟨h0, ?_⟩
      rw [if_pos ⟨by decide, h0⟩] at h
      have h3 : ([2, 0, 0, 4, 4] : List Int)[a2.toNat]? = some r := h
      have := (List.getElem?_eq_some_iff.1 h3).1
      simp only [List.length_cons, List.length_nil] at this
      omega
    · rw [if_neg (fun e => h0 e.2)] at h; cases h
  have hc : a2 = 0 ∨ a2 = 1 ∨ a2 = 2 ∨ a2 = 3 ∨ a2 = 4 := by omega
  have ia : ∀ w, (Instr.index 58 (.agg #[.string ⟨#[51, 48, 48, 48, 48]⟩, .string ⟨#[50, 48, 48, 52, 52]⟩, .string ⟨#[48, 49, 49, 48, 52]⟩]) (.int .i64 1)).run Try.prog w = .ok (.string ⟨#[50, 48, 48, 52, 52]⟩) w := fun _ => by kernel_rfl
  rcases hc with rfl | rfl | rfl | rfl | rfl
  · obtain rfl : (2 : Int) = r := Option.some.inj h
    have ib : ∀ w, (Instr.index 9 (.string ⟨#[50, 48, 48, 52, 52]⟩) (.int .i64 0)).run Try.prog w = .ok (.int .u8 50) w := fun _ => by kernel_rfl
    go_enter Try.func27, Try.ntmps27
    go_wp2
    go_ret
    exact ⟨rfl, by repeat (first | exact Drawn0.refl _ | apply Drawn0.step)⟩
  · obtain rfl : (0 : Int) = r := Option.some.inj h
    have ib : ∀ w, (Instr.index 9 (.string ⟨#[50, 48, 48, 52, 52]⟩) (.int .i64 1)).run Try.prog w = .ok (.int .u8 48) w := fun _ => by kernel_rfl
    go_enter Try.func27, Try.ntmps27
    go_wp2
    go_ret
    exact ⟨rfl, by repeat (first | exact Drawn0.refl _ | apply Drawn0.step)⟩
  · obtain rfl : (0 : Int) = r := Option.some.inj h
    have ib : ∀ w, (Instr.index 9 (.string ⟨#[50, 48, 48, 52, 52]⟩) (.int .i64 2)).run Try.prog w = .ok (.int .u8 48) w := fun _ => by kernel_rfl
    go_enter Try.func27, Try.ntmps27
    go_wp2
    go_ret
    exact ⟨rfl, by repeat (first | exact Drawn0.refl _ | apply Drawn0.step)⟩
  · obtain rfl : (4 : Int) = r := Option.some.inj h
    have ib : ∀ w, (Instr.index 9 (.string ⟨#[50, 48, 48, 52, 52]⟩) (.int .i64 3)).run Try.prog w = .ok (.int .u8 52) w := fun _ => by kernel_rfl
    go_enter Try.func27, Try.ntmps27
    go_wp2
    go_ret
    exact ⟨rfl, by repeat (first | exact Drawn0.refl _ | apply Drawn0.step)⟩
  · obtain rfl : (4 : Int) = r := Option.some.inj h
    have ib : ∀ w, (Instr.index 9 (.string ⟨#[50, 48, 48, 52, 52]⟩) (.int .i64 4)).run Try.prog w = .ok (.int .u8 52) w := fun _ => by kernel_rfl
    go_enter Try.func27, Try.ntmps27
    go_wp2
    go_ret
    exact ⟨rfl, by repeat (first | exact Drawn0.refl _ | apply Drawn0.step)⟩
set_option maxHeartbeats 4000000 in
set_option maxRecDepth 100000 in
theorem kissgateref13_Act.walk_false_2 (a2 : Int) (r : Int) (w : World) (h : kissgateref13_Act.f false 2 a2 = some r) : Calls Try.prog 27 #[.bool false, .int .i64 2, .int .i64 a2] w fun e w' => e = .returned (.int .i64 r) ∧ Drawn0 w w' := by
  have h2 : 0 ≤ a2 ∧ a2 < 5 := by
    unfold kissgateref13_Act.f at h
    by_cases h0 : 0 ≤ a2
    · refine ⟨h0, ?_⟩
      rw [if_pos ⟨by decide, h0⟩] at h
      have h3 : ([0, 1, 1, 0, 4] : List Int)[a2.toNat]? = some r := h
      have := (List.getElem?_eq_some_iff.1 h3).1
      simp only [List.length_cons, List.length_nil] at this
      omega
    · rw [if_neg (fun e => h0 e.2)] at h; cases h
  have hc : a2 = 0 ∨ a2 = 1 ∨ a2 = 2 ∨ a2 = 3 ∨ a2 = 4 := by omega
  have ia : ∀ w, (Instr.index 58 (.agg #[.string ⟨#[51, 48, 48, 48, 48]⟩, .string ⟨#[50, 48, 48, 52, 52]⟩, .string ⟨#[48, 49, 49, 48, 52]⟩]) (.int .i64 2)).run Try.prog w = .ok (.string ⟨#[48, 49, 49, 48, 52]⟩) w := fun _ => by kernel_rfl
  rcases hc with rfl | rfl | rfl | rfl | rfl
  · obtain rfl : (0 : Int) = r := Option.some.inj h
    have ib : ∀ w, (Instr.index 9 (.string ⟨#[48, 49, 49, 48, 52]⟩) (.int .i64 0)).run Try.prog w = .ok (.int .u8 48) w := fun _ => by kernel_rfl
    go_enter Try.func27, Try.ntmps27
    go_wp2
    go_ret
    exact ⟨rfl, by repeat (first | exact Drawn0.refl _ | apply Drawn0.step)⟩
  · obtain rfl : (1 : Int) = r := Option.some.inj h
    have ib : ∀ w, (Instr.index 9 (.string ⟨#[48, 49, 49, 48, 52]⟩) (.int .i64 1)).run Try.prog w = .ok (.int .u8 49) w := fun _ => by kernel_rfl
    go_enter Try.func27, Try.ntmps27
    go_wp2
    go_ret
    exact ⟨rfl, by repeat (first | exact Drawn0.refl _ | apply Drawn0.step)⟩
  · obtain rfl : (1 : Int) = r := Option.some.inj h
    have ib : ∀ w, (Instr.index 9 (.string ⟨#[48, 49, 49, 48, 52]⟩) (.int .i64 2)).run Try.prog w = .ok (.int .u8 49) w := fun _ => by kernel_rfl
    go_enter Try.func27, Try.ntmps27
    go_wp2
    go_ret
    exact ⟨rfl, by repeat (first | exact Drawn0.refl _ | apply Drawn0.step)⟩
  · obtain rfl : (0 : Int) = r := Option.some.inj h
    have ib : ∀ w, (Instr.index 9 (.string ⟨#[48, 49, 49, 48, 52]⟩) (.int .i64 3)).run Try.prog w = .ok (.int .u8 48) w := fun _ => by kernel_rfl
    go_enter Try.func27, Try.ntmps27
    go_wp2
    go_ret
    exact ⟨rfl, by repeat (first | exact Drawn0.refl _ | apply Drawn0.step)⟩
  · obtain rfl : (4 : Int) = r := Option.some.inj h
    have ib : ∀ w, (Instr.index 9 (.string ⟨#[48, 49, 49, 48, 52]⟩) (.int .i64 4)).run Try.prog w = .ok (.int .u8 52) w := fun _ => by kernel_rfl
    go_enter Try.func27, Try.ntmps27
    go_wp2
    go_ret
    exact ⟨rfl, by repeat (first | exact Drawn0.refl _ | apply Drawn0.step)⟩
set_option maxHeartbeats 4000000 in
set_option maxRecDepth 100000 in
theorem kissgateref13_Act.walk_true_0 (a2 : Int) (r : Int) (w : World) (h : kissgateref13_Act.f true 0 a2 = some r) : Calls Try.prog 27 #[.bool true, .int .i64 0, .int .i64 a2] w fun e w' => e = .returned (.int .i64 r) ∧ Drawn0 w w' := by
  have h2 : 0 ≤ a2 ∧ a2 < 6 := by
    unfold kissgateref13_Act.f at h
    by_cases h0 : 0 ≤ a2
    · refine ⟨h0, ?_⟩
      rw [if_pos ⟨by decide, h0⟩] at h
      have h3 : ([0, 0, 0, 0, 0, 0] : List Int)[a2.toNat]? = some r := h
      have := (List.getElem?_eq_some_iff.1 h3).1
      simp only [List.length_cons, List.length_nil] at this
      omega
    · rw [if_neg (fun e => h0 e.2)] at h; cases h
  have hc : a2 = 0 ∨ a2 = 1 ∨ a2 = 2 ∨ a2 = 3 ∨ a2 = 4 ∨ a2 = 5 := by omega
  have ia : ∀ w, (Instr.index 59 (.agg #[.string ⟨#[48, 48, 48, 48, 48, 48]⟩, .string ⟨#[48, 48, 48, 48, 49, 48]⟩, .string ⟨#[48, 48, 48, 48, 50, 48]⟩, .string ⟨#[48, 48, 48, 48, 48, 48]⟩, .string ⟨#[48, 48, 48, 48, 51, 48]⟩]) (.int .i64 0)).run Try.prog w = .ok (.string ⟨#[48, 48, 48, 48, 48, 48]⟩) w := fun _ => by kernel_rfl
  rcases hc with rfl | rfl | rfl | rfl | rfl | rfl
  · obtain rfl : (0 : Int) = r := Option.some.inj h
    have ib : ∀ w, (Instr.index 9 (.string ⟨#[48, 48, 48, 48, 48, 48]⟩) (.int .i64 0)).run Try.prog w = .ok (.int .u8 48) w := fun _ => by kernel_rfl
    go_enter Try.func27, Try.ntmps27
    go_wp2
    go_ret
    exact ⟨rfl, by repeat (first | exact Drawn0.refl _ | apply Drawn0.step)⟩
  · obtain rfl : (0 : Int) = r := Option.some.inj h
    have ib : ∀ w, (Instr.index 9 (.string ⟨#[48, 48, 48, 48, 48, 48]⟩) (.int .i64 1)).run Try.prog w = .ok (.int .u8 48) w := fun _ => by kernel_rfl
    go_enter Try.func27, Try.ntmps27
    go_wp2
    go_ret
    exact ⟨rfl, by repeat (first | exact Drawn0.refl _ | apply Drawn0.step)⟩
  · obtain rfl : (0 : Int) = r := Option.some.inj h
    have ib : ∀ w, (Instr.index 9 (.string ⟨#[48, 48, 48, 48, 48, 48]⟩) (.int .i64 2)).run Try.prog w = .ok (.int .u8 48) w := fun _ => by kernel_rfl
    go_enter Try.func27, Try.ntmps27
    go_wp2
    go_ret
    exact ⟨rfl, by repeat (first | exact Drawn0.refl _ | apply Drawn0.step)⟩
  · obtain rfl : (0 : Int) = r := Option.some.inj h
    have ib : ∀ w, (Instr.index 9 (.string ⟨#[48, 48, 48, 48, 48, 48]⟩) (.int .i64 3)).run Try.prog w = .ok (.int .u8 48) w := fun _ => by kernel_rfl
    go_enter Try.func27, Try.ntmps27
    go_wp2
    go_ret
    exact ⟨rfl, by repeat (first | exact Drawn0.refl _ | apply Drawn0.step)⟩
  · obtain rfl : (0 : Int) = r := Option.some.inj h
    have ib : ∀ w, (Instr.index 9 (.string ⟨#[48, 48, 48, 48, 48, 48]⟩) (.int .i64 4)).run Try.prog w = .ok (.int .u8 48) w := fun _ => by kernel_rfl
    go_enter Try.func27, Try.ntmps27
    go_wp2
    go_ret
    exact ⟨rfl, by repeat (first | exact Drawn0.refl _ | apply Drawn0.step)⟩
  · obtain rfl : (0 : Int) = r := Option.some.inj h
    have ib : ∀ w, (Instr.index 9 (.string ⟨#[48, 48, 48, 48, 48, 48]⟩) (.int .i64 5)).run Try.prog w = .ok (.int .u8 48) w := fun _ => by kernel_rfl
    go_enter Try.func27, Try.ntmps27
    go_wp2
    go_ret
    exact ⟨rfl, by repeat (first | exact Drawn0.refl _ | apply Drawn0.step)⟩
set_option maxHeartbeats 4000000 in
set_option maxRecDepth 100000 in
theorem kissgateref13_Act.walk_true_1 (a2 : Int) (r : Int) (w : World) (h : kissgateref13_Act.f true 1 a2 = some r) : Calls Try.prog 27 #[.bool true, .int .i64 1, .int .i64 a2] w fun e w' => e = .returned (.int .i64 r) ∧ Drawn0 w w' := by
  have h2 : 0 ≤ a2 ∧ a2 < 6 := by
    unfold kissgateref13_Act.f at h
    by_cases h0 : 0 ≤ a2
    · refine ⟨h0, ?_⟩
      rw [if_pos ⟨by decide, h0⟩] at h
      have h3 : ([0, 0, 0, 0, 1, 0] : List Int)[a2.toNat]? = some r := h
      have := (List.getElem?_eq_some_iff.1 h3).1
      simp only [List.length_cons, List.length_nil] at this
      omega
    · rw [if_neg (fun e => h0 e.2)] at h; cases h
  have hc : a2 = 0 ∨ a2 = 1 ∨ a2 = 2 ∨ a2 = 3 ∨ a2 = 4 ∨ a2 = 5 := by omega
  have ia : ∀ w, (Instr.index 59 (.agg #[.string ⟨#[48, 48, 48, 48, 48, 48]⟩, .string ⟨#[48, 48, 48, 48, 49, 48]⟩, .string ⟨#[48, 48, 48, 48, 50, 48]⟩, .string ⟨#[48, 48, 48, 48, 48, 48]⟩, .string ⟨#[48, 48, 48, 48, 51, 48]⟩]) (.int .i64 1)).run Try.prog w = .ok (.string ⟨#[48, 48, 48, 48, 49, 48]⟩) w := fun _ => by kernel_rfl
  rcases hc with rfl | rfl | rfl | rfl | rfl | rfl
  · obtain rfl : (0 : Int) = r := Option.some.inj h
    have ib : ∀ w, (Instr.index 9 (.string ⟨#[48, 48, 48, 48, 49, 48]⟩) (.int .i64 0)).run Try.prog w = .ok (.int .u8 48) w := fun _ => by kernel_rfl
    go_enter Try.func27, Try.ntmps27
    go_wp2
    go_ret
    exact ⟨rfl, by repeat (first | exact Drawn0.refl _ | apply Drawn0.step)⟩
  · obtain rfl : (0 : Int) = r := Option.some.inj h
    have ib : ∀ w, (Instr.index 9 (.string ⟨#[48, 48, 48, 48, 49, 48]⟩) (.int .i64 1)).run Try.prog w = .ok (.int .u8 48) w := fun _ => by kernel_rfl
    go_enter Try.func27, Try.ntmps27
    go_wp2
    go_ret
    exact ⟨rfl, by repeat (first | exact Drawn0.refl _ | apply Drawn0.step)⟩
  · obtain rfl : (0 : Int) = r := Option.some.inj h
    have ib : ∀ w, (Instr.index 9 (.string ⟨#[48, 48, 48, 48, 49, 48]⟩) (.int .i64 2)).run Try.prog w = .ok (.int .u8 48) w := fun _ => by kernel_rfl
    go_enter Try.func27, Try.ntmps27
    go_wp2
    go_ret
    exact ⟨rfl, by repeat (first | exact Drawn0.refl _ | apply Drawn0.step)⟩
  · obtain rfl : (0 : Int) = r := Option.some.inj h
    have ib : ∀ w, (Instr.index 9 (.string ⟨#[48, 48, 48, 48, 49, 48]⟩) (.int .i64 3)).run Try.prog w = .ok (.int .u8 48) w := fun _ => by kernel_rfl
    go_enter Try.func27, Try.ntmps27
    go_wp2
    go_ret
    exact ⟨rfl, by repeat (first | exact Drawn0.refl _ | apply Drawn0.step)⟩
  · obtain rfl : (1 : Int) = r := Option.some.inj h
    have ib : ∀ w, (Instr.index 9 (.string ⟨#[48, 48, 48, 48, 49, 48]⟩) (.int .i64 4)).run Try.prog w = .ok (.int .u8 49) w := fun _ => by kernel_rfl
    go_enter Try.func27, Try.ntmps27
    go_wp2
    go_ret
    exact ⟨rfl, by repeat (first | exact Drawn0.refl _ | apply Drawn0.step)⟩
  · obtain rfl : (0 : Int) = r := Option.some.inj h
    have ib : ∀ w, (Instr.index 9 (.string ⟨#[48, 48, 48, 48, 49, 48]⟩) (.int .i64 5)).run Try.prog w = .ok (.int .u8 48) w := fun _ => by kernel_rfl
    go_enter Try.func27, Try.ntmps27
    go_wp2
    go_ret
    exact ⟨rfl, by repeat (first | exact Drawn0.refl _ | apply Drawn0.step)⟩
set_option maxHeartbeats 4000000 in
set_option maxRecDepth 100000 in
theorem kissgateref13_Act.walk_true_2 (a2 : Int) (r : Int) (w : World) (h : kissgateref13_Act.f true 2 a2 = some r) : Calls Try.prog 27 #[.bool true, .int .i64 2, .int .i64 a2] w fun e w' => e = .returned (.int .i64 r) ∧ Drawn0 w w' := by
  have h2 : 0 ≤ a2 ∧ a2 < 6 := by
    unfold kissgateref13_Act.f at h
    by_cases h0 : 0 ≤ a2
    · refine ⟨h0, ?_⟩
      rw [if_pos ⟨by decide, h0⟩] at h
      have h3 : ([0, 0, 0, 0, 2, 0] : List Int)[a2.toNat]? = some r := h
      have := (List.getElem?_eq_some_iff.1 h3).1
      simp only [List.length_cons, List.length_nil] at this
      omega
    · rw [if_neg (fun e => h0 e.2)] at h; cases h
  have hc : a2 = 0 ∨ a2 = 1 ∨ a2 = 2 ∨ a2 = 3 ∨ a2 = 4 ∨ a2 = 5 := by omega
  have ia : ∀ w, (Instr.index 59 (.agg #[.string ⟨#[48, 48, 48, 48, 48, 48]⟩, .string ⟨#[48, 48, 48, 48, 49, 48]⟩, .string ⟨#[48, 48, 48, 48, 50, 48]⟩, .string ⟨#[48, 48, 48, 48, 48, 48]⟩, .string ⟨#[48, 48, 48, 48, 51, 48]⟩]) (.int .i64 2)).run Try.prog w = .ok (.string ⟨#[48, 48, 48, 48, 50, 48]⟩) w := fun _ => by kernel_rfl
  rcases hc with rfl | rfl | rfl | rfl | rfl | rfl
  · obtain rfl : (0 : Int) = r := Option.some.inj h
    have ib : ∀ w, (Instr.index 9 (.string ⟨#[48, 48, 48, 48, 50, 48]⟩) (.int .i64 0)).run Try.prog w = .ok (.int .u8 48) w := fun _ => by kernel_rfl
    go_enter Try.func27, Try.ntmps27
    go_wp2
    go_ret
    exact ⟨rfl, by repeat (first | exact Drawn0.refl _ | apply Drawn0.step)⟩
  · obtain rfl : (0 : Int) = r := Option.some.inj h
    have ib : ∀ w, (Instr.index 9 (.string ⟨#[48, 48, 48, 48, 50, 48]⟩) (.int .i64 1)).run Try.prog w = .ok (.int .u8 48) w := fun _ => by kernel_rfl
    go_enter Try.func27, Try.ntmps27
    go_wp2
    go_ret
    exact ⟨rfl, by repeat (first | exact Drawn0.refl _ | apply Drawn0.step)⟩
  · obtain rfl : (0 : Int) = r := Option.some.inj h
    have ib : ∀ w, (Instr.index 9 (.string ⟨#[48, 48, 48, 48, 50, 48]⟩) (.int .i64 2)).run Try.prog w = .ok (.int .u8 48) w := fun _ => by kernel_rfl
    go_enter Try.func27, Try.ntmps27
    go_wp2
    go_ret
    exact ⟨rfl, by repeat (first | exact Drawn0.refl _ | apply Drawn0.step)⟩
  · obtain rfl : (0 : Int) = r := Option.some.inj h
    have ib : ∀ w, (Instr.index 9 (.string ⟨#[48, 48, 48, 48, 50, 48]⟩) (.int .i64 3)).run Try.prog w = .ok (.int .u8 48) w := fun _ => by kernel_rfl
    go_enter Try.func27, Try.ntmps27
    go_wp2
    go_ret
    exact ⟨rfl, by repeat (first | exact Drawn0.refl _ | apply Drawn0.step)⟩
  · obtain rfl : (2 : Int) = r := Option.some.inj h
    have ib : ∀ w, (Instr.index 9 (.string ⟨#[48, 48, 48, 48, 50, 48]⟩) (.int .i64 4)).run Try.prog w = .ok (.int .u8 50) w := fun _ => by kernel_rfl
    go_enter Try.func27, Try.ntmps27
    go_wp2
    go_ret
    exact ⟨rfl, by repeat (first | exact Drawn0.refl _ | apply Drawn0.step)⟩
  · obtain rfl : (0 : Int) = r := Option.some.inj h
    have ib : ∀ w, (Instr.index 9 (.string ⟨#[48, 48, 48, 48, 50, 48]⟩) (.int .i64 5)).run Try.prog w = .ok (.int .u8 48) w := fun _ => by kernel_rfl
    go_enter Try.func27, Try.ntmps27
    go_wp2
    go_ret
    exact ⟨rfl, by repeat (first | exact Drawn0.refl _ | apply Drawn0.step)⟩
set_option maxHeartbeats 4000000 in
set_option maxRecDepth 100000 in
theorem kissgateref13_Act.walk_true_3 (a2 : Int) (r : Int) (w : World) (h : kissgateref13_Act.f true 3 a2 = some r) : Calls Try.prog 27 #[.bool true, .int .i64 3, .int .i64 a2] w fun e w' => e = .returned (.int .i64 r) ∧ Drawn0 w w' := by
  have h2 : 0 ≤ a2 ∧ a2 < 6 := by
    unfold kissgateref13_Act.f at h
    by_cases h0 : 0 ≤ a2
    · refine ⟨h0, ?_⟩
      rw [if_pos ⟨by decide, h0⟩] at h
      have h3 : ([0, 0, 0, 0, 0, 0] : List Int)[a2.toNat]? = some r := h
      have := (List.getElem?_eq_some_iff.1 h3).1
      simp only [List.length_cons, List.length_nil] at this
      omega
    · rw [if_neg (fun e => h0 e.2)] at h; cases h
  have hc : a2 = 0 ∨ a2 = 1 ∨ a2 = 2 ∨ a2 = 3 ∨ a2 = 4 ∨ a2 = 5 := by omega
  have ia : ∀ w, (Instr.index 59 (.agg #[.string ⟨#[48, 48, 48, 48, 48, 48]⟩, .string ⟨#[48, 48, 48, 48, 49, 48]⟩, .string ⟨#[48, 48, 48, 48, 50, 48]⟩, .string ⟨#[48, 48, 48, 48, 48, 48]⟩, .string ⟨#[48, 48, 48, 48, 51, 48]⟩]) (.int .i64 3)).run Try.prog w = .ok (.string ⟨#[48, 48, 48, 48, 48, 48]⟩) w := fun _ => by kernel_rfl
  rcases hc with rfl | rfl | rfl | rfl | rfl | rfl
  · obtain rfl : (0 : Int) = r := Option.some.inj h
    have ib : ∀ w, (Instr.index 9 (.string ⟨#[48, 48, 48, 48, 48, 48]⟩) (.int .i64 0)).run Try.prog w = .ok (.int .u8 48) w := fun _ => by kernel_rfl
    go_enter Try.func27, Try.ntmps27
    go_wp2
    go_ret
    exact ⟨rfl, by repeat (first | exact Drawn0.refl _ | apply Drawn0.step)⟩
  · obtain rfl : (0 : Int) = r := Option.some.inj h
    have ib : ∀ w, (Instr.index 9 (.string ⟨#[48, 48, 48, 48, 48, 48]⟩) (.int .i64 1)).run Try.prog w = .ok (.int .u8 48) w := fun _ => by kernel_rfl
    go_enter Try.func27, Try.ntmps27
    go_wp2
    go_ret
    exact ⟨rfl, by repeat (first | exact Drawn0.refl _ | apply Drawn0.step)⟩
  · obtain rfl : (0 : Int) = r := Option.some.inj h
    have ib : ∀ w, (Instr.index 9 (.string ⟨#[48, 48, 48, 48, 48, 48]⟩) (.int .i64 2)).run Try.prog w = .ok (.int .u8 48) w := fun _ => by kernel_rfl
    go_enter Try.func27, Try.ntmps27
    go_wp2
    go_ret
    exact ⟨rfl, by repeat (first | exact Drawn0.refl _ | apply Drawn0.step)⟩
  · obtain rfl : (0 : Int) = r := Option.some.inj h
    have ib : ∀ w, (Instr.index 9 (.string ⟨#[48, 48, 48, 48, 48, 48]⟩) (.int .i64 3)).run Try.prog w = .ok (.int .u8 48) w := fun _ => by kernel_rfl
    go_enter Try.func27, Try.ntmps27
    go_wp2
    go_ret
    exact ⟨rfl, by repeat (first | exact Drawn0.refl _ | apply Drawn0.step)⟩
  · obtain rfl : (0 : Int) = r := Option.some.inj h
    have ib : ∀ w, (Instr.index 9 (.string ⟨#[48, 48, 48, 48, 48, 48]⟩) (.int .i64 4)).run Try.prog w = .ok (.int .u8 48) w := fun _ => by kernel_rfl
    go_enter Try.func27, Try.ntmps27
    go_wp2
    go_ret
    exact ⟨rfl, by repeat (first | exact Drawn0.refl _ | apply Drawn0.step)⟩
  · obtain rfl : (0 : Int) = r := Option.some.inj h
    have ib : ∀ w, (Instr.index 9 (.string ⟨#[48, 48, 48, 48, 48, 48]⟩) (.int .i64 5)).run Try.prog w = .ok (.int .u8 48) w := fun _ => by kernel_rfl
    go_enter Try.func27, Try.ntmps27
    go_wp2
    go_ret
    exact ⟨rfl, by repeat (first | exact Drawn0.refl _ | apply Drawn0.step)⟩
set_option maxHeartbeats 4000000 in
set_option maxRecDepth 100000 in
theorem kissgateref13_Act.walk_true_4 (a2 : Int) (r : Int) (w : World) (h : kissgateref13_Act.f true 4 a2 = some r) : Calls Try.prog 27 #[.bool true, .int .i64 4, .int .i64 a2] w fun e w' => e = .returned (.int .i64 r) ∧ Drawn0 w w' := by
  have h2 : 0 ≤ a2 ∧ a2 < 6 := by
    unfold kissgateref13_Act.f at h
    by_cases h0 : 0 ≤ a2
    · refine ⟨h0, ?_⟩
      rw [if_pos ⟨by decide, h0⟩] at h
      have h3 : ([0, 0, 0, 0, 3, 0] : List Int)[a2.toNat]? = some r := h
      have := (List.getElem?_eq_some_iff.1 h3).1
      simp only [List.length_cons, List.length_nil] at this
      omega
    · rw [if_neg (fun e => h0 e.2)] at h; cases h
  have hc : a2 = 0 ∨ a2 = 1 ∨ a2 = 2 ∨ a2 = 3 ∨ a2 = 4 ∨ a2 = 5 := by omega
  have ia : ∀ w, (Instr.index 59 (.agg #[.string ⟨#[48, 48, 48, 48, 48, 48]⟩, .string ⟨#[48, 48, 48, 48, 49, 48]⟩, .string ⟨#[48, 48, 48, 48, 50, 48]⟩, .string ⟨#[48, 48, 48, 48, 48, 48]⟩, .string ⟨#[48, 48, 48, 48, 51, 48]⟩]) (.int .i64 4)).run Try.prog w = .ok (.string ⟨#[48, 48, 48, 48, 51, 48]⟩) w := fun _ => by kernel_rfl
  rcases hc with rfl | rfl | rfl | rfl | rfl | rfl
  · obtain rfl : (0 : Int) = r := Option.some.inj h
    have ib : ∀ w, (Instr.index 9 (.string ⟨#[48, 48, 48, 48, 51, 48]⟩) (.int .i64 0)).run Try.prog w = .ok (.int .u8 48) w := fun _ => by kernel_rfl
    go_enter Try.func27, Try.ntmps27
    go_wp2
    go_ret
    exact ⟨rfl, by repeat (first | exact Drawn0.refl _ | apply Drawn0.step)⟩
  · obtain rfl : (0 : Int) = r := Option.some.inj h
    have ib : ∀ w, (Instr.index 9 (.string ⟨#[48, 48, 48, 48, 51, 48]⟩) (.int .i64 1)).run Try.prog w = .ok (.int .u8 48) w := fun _ => by kernel_rfl
    go_enter Try.func27, Try.ntmps27
    go_wp2
    go_ret
    exact ⟨rfl, by repeat (first | exact Drawn0.refl _ | apply Drawn0.step)⟩
  · obtain rfl : (0 : Int) = r := Option.some.inj h
    have ib : ∀ w, (Instr.index 9 (.string ⟨#[48, 48, 48, 48, 51, 48]⟩) (.int .i64 2)).run Try.prog w = .ok (.int .u8 48) w := fun _ => by kernel_rfl
    go_enter Try.func27, Try.ntmps27
    go_wp2
    go_ret
    exact ⟨rfl, by repeat (first | exact Drawn0.refl _ | apply Drawn0.step)⟩
  · obtain rfl : (0 : Int) = r := Option.some.inj h
    have ib : ∀ w, (Instr.index 9 (.string ⟨#[48, 48, 48, 48, 51, 48]⟩) (.int .i64 3)).run Try.prog w = .ok (.int .u8 48) w := fun _ => by kernel_rfl
    go_enter Try.func27, Try.ntmps27
    go_wp2
    go_ret
    exact ⟨rfl, by repeat (first | exact Drawn0.refl _ | apply Drawn0.step)⟩
  · obtain rfl : (3 : Int) = r := Option.some.inj h
    have ib : ∀ w, (Instr.index 9 (.string ⟨#[48, 48, 48, 48, 51, 48]⟩) (.int .i64 4)).run Try.prog w = .ok (.int .u8 51) w := fun _ => by kernel_rfl
    go_enter Try.func27, Try.ntmps27
    go_wp2
    go_ret
    exact ⟨rfl, by repeat (first | exact Drawn0.refl _ | apply Drawn0.step)⟩
  · obtain rfl : (0 : Int) = r := Option.some.inj h
    have ib : ∀ w, (Instr.index 9 (.string ⟨#[48, 48, 48, 48, 51, 48]⟩) (.int .i64 5)).run Try.prog w = .ok (.int .u8 48) w := fun _ => by kernel_rfl
    go_enter Try.func27, Try.ntmps27
    go_wp2
    go_ret
    exact ⟨rfl, by repeat (first | exact Drawn0.refl _ | apply Drawn0.step)⟩
theorem kissgateref13_Act.calls (a0 : Bool) (a1 : Int) (a2 : Int) (r : Int) (w : World) (h : kissgateref13_Act.f a0 a1 a2 = some r) : Calls Try.prog 27 #[.bool a0, .int .i64 a1, .int .i64 a2] w fun e w' => e = .returned (.int .i64 r) ∧ Drawn0 w w' := by
  have h1 : 0 ≤ a1 ∧ a1 < (kissgateref13_Act.tab a0).length := by
    unfold kissgateref13_Act.f at h
    by_cases h0 : 0 ≤ a1 ∧ 0 ≤ a2
    · rw [if_pos h0] at h
      obtain ⟨q, hq, _⟩ := Option.bind_eq_some_iff.mp h
      have := (List.getElem?_eq_some_iff.1 hq).1
      omega
    · rw [if_neg h0] at h; cases h
  cases a0 with
  | false =>
    have hc : a1 = 0 ∨ a1 = 1 ∨ a1 = 2 := by have := h1.2; simp only [kissgateref13_Act.tab, Bool.false_eq_true, if_false, List.length_cons, List.length_nil] at this; omega
    rcases hc with rfl | rfl | rfl
    · exact kissgateref13_Act.walk_false_0 a2 r w h
    · exact kissgateref13_Act.walk_false_1 a2 r w h
    · exact kissgateref13_Act.walk_false_2 a2 r w h
  | true =>
    have hc : a1 = 0 ∨ a1 = 1 ∨ a1 = 2 ∨ a1 = 3 ∨ a1 = 4 := by have := h1.2; simp only [kissgateref13_Act.tab, if_true, List.length_cons, List.length_nil] at this; omega
    rcases hc with rfl | rfl | rfl | rfl | rfl
    · exact kissgateref13_Act.walk_true_0 a2 r w h
    · exact kissgateref13_Act.walk_true_1 a2 r w h
    · exact kissgateref13_Act.walk_true_2 a2 r w h
    · exact kissgateref13_Act.walk_true_3 a2 r w h
    · exact kissgateref13_Act.walk_true_4 a2 r w h


end Go.Proofs.Ytgmnkilnajkidaa.PRegisDoes
