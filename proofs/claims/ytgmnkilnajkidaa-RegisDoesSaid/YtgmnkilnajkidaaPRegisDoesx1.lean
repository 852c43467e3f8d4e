-- Written by a program of this session (see NOTES.md), which reads the translation's print; Lean checks it.
import Derived.Test.YtgmnkilnajkidaaPRegisDoesx0
namespace Go.Proofs.Ytgmnkilnajkidaa.PRegisDoes
open Go.RowKit Go.Proofs.YtgmnkilnajkidaaW.PrintWords Go.Proofs.YtgmnkilnajkidaaW.PrintLast Go.Proofs.YtgmnkilnajkidaaW.PrintMore
attribute [local go_sem] max2_int min2_int max_two min_two max_three min_three max_four min_four   -- for this text's walks alone
set_option linter.unusedVariables false
set_option linter.unusedSimpArgs false

/-- A state of type 49 at block g of W; what its slices lead to came in by w0. -/
def IsS49 (w0 W : World) (g : Nat) (f0 : Int) (f1 : Int) (f2 : Int) (f3 : Int) : Prop := W.heap[g]? = some (.cells #[.int .i64 f0, .int .i64 f1, .int .i64 f2, .int .i64 f3] 49 (0, 0)) ∧ w0.heap.size ≤ g
theorem IsS49.grown {w0 W : World} {g : Nat} {f0 : Int} {f1 : Int} {f2 : Int} {f3 : Int} {W1 : World} {row : Option Nat} (h : IsS49 w0 W g f0 f1 f2 f3) (hw : W.grownBy W1 row) (hne : some g ≠ row) : IsS49 w0 W1 g f0 f1 f2 f3 := by
  obtain ⟨hb, hg⟩ := h
  exact ⟨blk_grown hb hw hne, hg⟩
theorem IsS49.own_neN {w0 W : World} {g : Nat} {f0 : Int} {f1 : Int} {f2 : Int} {f3 : Int} {α : Type} {d : Kd α} {e : Nat} {base : Nat} {ok : Nat → Prop} {v : Value} {xs : List α} (h : IsS49 w0 W g f0 f1 f2 f3) (ho : Kd.N d e W base ok v xs) (ht : e ≠ 49) : some g ≠ v.ownBlock := by
  obtain ⟨hb, hg⟩ := h
  exact Kd.N_ne ho hb ht
theorem IsS49.fresh {w0 W : World} {g : Nat} {f0 : Int} {f1 : Int} {f2 : Int} {f3 : Int} (h : IsS49 w0 W g f0 f1 f2 f3) : ∀ k, W.heap.size ≤ k → k ≠ g := by
  obtain ⟨hb, hg⟩ := h
  exact Kd.freshB hb
theorem IsS49.kept {w0 W : World} {g : Nat} {f0 : Int} {f1 : Int} {f2 : Int} {f3 : Int} {W1 : World} {S : Nat → Prop} (h : IsS49 w0 W g f0 f1 f2 f3) (hk : Kept W W1 S) (hne : ¬ S g) : IsS49 w0 W1 g f0 f1 f2 f3 := by
  obtain ⟨hb, hg⟩ := h
  exact ⟨blk_kept hb hk hne, hg⟩
theorem IsS49.below {w0 W : World} {g : Nat} {f0 : Int} {f1 : Int} {f2 : Int} {f3 : Int} {W1 : World} (h : IsS49 w0 W g f0 f1 f2 f3) (hw : Below W.heap.size W W1) : IsS49 w0 W1 g f0 f1 f2 f3 := h.grown (grown_of_below hw none) (by simp)
theorem IsS49.alloc {w0 W : World} {g : Nat} {f0 : Int} {f1 : Int} {f2 : Int} {f3 : Int} (h : IsS49 w0 W g f0 f1 f2 f3) (o : Obj) : IsS49 w0 (W.alloc o) g f0 f1 f2 f3 := h.below (below_alloc (Below.refl _ _) o)
theorem IsS49.drewN {w0 W : World} {g : Nat} {f0 : Int} {f1 : Int} {f2 : Int} {f3 : Int} (h : IsS49 w0 W g f0 f1 f2 f3) (m : Nat) : IsS49 w0 (W.drewN m) g f0 f1 f2 f3 := h
theorem IsS49.drew {w0 W : World} {g : Nat} {f0 : Int} {f1 : Int} {f2 : Int} {f3 : Int} (h : IsS49 w0 W g f0 f1 f2 f3) : IsS49 w0 W.drew g f0 f1 f2 f3 := h
theorem IsS49.at_ {w0 W : World} {g : Nat} {f0 : Int} {f1 : Int} {f2 : Int} {f3 : Int} {w' : World} {m : Nat} (hq : W.drewN m = w') (h : IsS49 w0 W g f0 f1 f2 f3) : IsS49 w0 w' g f0 f1 f2 f3 := by subst hq; exact IsS49.drewN h m
theorem IsS49.apart {w0 W : World} {g : Nat} {f0 : Int} {f1 : Int} {f2 : Int} {f3 : Int} {α : Type} {d : Kd α} {e : Nat} {base : Nat} {ok : Nat → Prop} {v : Value} {xs : List α} (h : IsS49 w0 W g f0 f1 f2 f3) (ho : d.R e W base ok v xs) (ht : ∀ q, q ∈ e :: d.E → q ≠ 49) : d.R e W base (fun k => ok k ∧ k ≠ g) v xs := by
  obtain ⟨hb, hg⟩ := h
  exact Kd.R_types ho hb ht
theorem IsS49.own_ne {w0 W : World} {g : Nat} {f0 : Int} {f1 : Int} {f2 : Int} {f3 : Int} {α : Type} {d : Kd α} {e : Nat} {base : Nat} {ok : Nat → Prop} {v : Value} {xs : List α} (h : IsS49 w0 W g f0 f1 f2 f3) (ho : d.R e W base ok v xs) (ht : e ≠ 49) : some g ≠ v.ownBlock := by
  obtain ⟨hb, hg⟩ := h
  exact Kd.R_ne ho hb ht
theorem IsS49.apartQ {w0 W : World} {g : Nat} {f0 : Int} {f1 : Int} {f2 : Int} {f3 : Int} {α : Type} {d : Kd α} {e : Nat} {base : Nat} {ok : Nat → Prop} {v : Value} {xs : List α} (h : IsS49 w0 W g f0 f1 f2 f3) (ho : d.Q e W base ok v xs) (ht : ∀ q, q ∈ e :: d.E → q ≠ 49) : d.Q e W base (fun k => ok k ∧ k ≠ g) v xs := by
  obtain ⟨hb, hg⟩ := h
  exact Kd.Q_types ho hb ht
theorem IsS49.own_neQ {w0 W : World} {g : Nat} {f0 : Int} {f1 : Int} {f2 : Int} {f3 : Int} {α : Type} {d : Kd α} {e : Nat} {base : Nat} {ok : Nat → Prop} {v : Value} {xs : List α} (h : IsS49 w0 W g f0 f1 f2 f3) (ho : d.Q e W base ok v xs) (ht : e ≠ 49) : some g ≠ v.ownBlock := by
  obtain ⟨hb, hg⟩ := h
  exact Kd.Q_ne ho hb ht
theorem IsS49.apartS {w0 W : World} {g : Nat} {f0 : Int} {f1 : Int} {f2 : Int} {f3 : Int} {α : Type} {d : Kd α} {e : Nat} {base : Nat} {ok : Nat → Prop} {v : Value} {xs : List α} (h : IsS49 w0 W g f0 f1 f2 f3) (ho : d.S e W base ok v xs) (ht : ∀ q, q ∈ e :: d.E → q ≠ 49) : d.S e W base (fun k => ok k ∧ k ≠ g) v xs := by
  obtain ⟨hb, hg⟩ := h
  exact Kd.S_types ho hb ht
theorem IsS49.own_neS {w0 W : World} {g : Nat} {f0 : Int} {f1 : Int} {f2 : Int} {f3 : Int} {α : Type} {d : Kd α} {e : Nat} {base : Nat} {ok : Nat → Prop} {v : Value} {xs : List α} (h : IsS49 w0 W g f0 f1 f2 f3) (ho : d.S e W base ok v xs) (ht : e ≠ 49) : some g ≠ v.ownBlock := by
  obtain ⟨hb, hg⟩ := h
  exact Kd.S_ne ho hb ht
theorem IsS49.lt {w0 W : World} {g : Nat} {f0 : Int} {f1 : Int} {f2 : Int} {f3 : Int} (h : IsS49 w0 W g f0 f1 f2 f3) : g < W.heap.size := by
  obtain ⟨hb, hg⟩ := h
  exact blk_lt hb
theorem IsS49.ge {w0 W : World} {g : Nat} {f0 : Int} {f1 : Int} {f2 : Int} {f3 : Int} (h : IsS49 w0 W g f0 f1 f2 f3) : w0.heap.size ≤ g := by
  obtain ⟨hb, hg⟩ := h
  exact hg
theorem IsS49.ne_blk {w0 W : World} {g : Nat} {f0 : Int} {f1 : Int} {f2 : Int} {f3 : Int} {a : Nat} {cs : Array Value} {t : TypeId} {fr : Nat × Nat} (h : IsS49 w0 W g f0 f1 f2 f3) (hb2 : W.heap[a]? = some (.cells cs t fr)) (ht : t ≠ 49) : g ≠ a := by
  obtain ⟨hb, hg⟩ := h
  rintro rfl
  rw [hb] at hb2
  injection hb2 with hb2
  injection hb2 with _ ht2
  exact ht ht2.symm
theorem IsS49.far {w0 W : World} {g : Nat} {f0 : Int} {f1 : Int} {f2 : Int} {f3 : Int} {p : Addr} (h : IsS49 w0 W g f0 f1 f2 f3) (hne : g ≠ p.block) (u : Value) : IsS49 w0 (W.setCell p u) g f0 f1 f2 f3 := by
  obtain ⟨hb, hg⟩ := h
  exact ⟨blk_far hb hne u, hg⟩
theorem cellS49_0 {W : World} {g : Nat} {f0 : Int} {f1 : Int} {f2 : Int} {f3 : Int} (h : W.heap[g]? = some (.cells #[.int .i64 f0, .int .i64 f1, .int .i64 f2, .int .i64 f3] 49 (0, 0))) : W.cell? ⟨g, 0, none⟩ = some (.int .i64 f0) := (blk_cell h 0).trans rfl
theorem IsS49.set_0 {w0 W : World} {g : Nat} {f0 : Int} {f1 : Int} {f2 : Int} {f3 : Int} (h : IsS49 w0 W g f0 f1 f2 f3) (x : Int) : IsS49 w0 (W.setCell ⟨g, 0, none⟩ (.int .i64 x)) g x f1 f2 f3 := by
  obtain ⟨hb, hg⟩ := h
  exact ⟨by simpa using blk_set hb 0 (.int .i64 x), hg⟩
theorem cellS49_1 {W : World} {g : Nat} {f0 : Int} {f1 : Int} {f2 : Int} {f3 : Int} (h : W.heap[g]? = some (.cells #[.int .i64 f0, .int .i64 f1, .int .i64 f2, .int .i64 f3] 49 (0, 0))) : W.cell? ⟨g, 1, none⟩ = some (.int .i64 f1) := (blk_cell h 1).trans rfl
theorem IsS49.set_1 {w0 W : World} {g : Nat} {f0 : Int} {f1 : Int} {f2 : Int} {f3 : Int} (h : IsS49 w0 W g f0 f1 f2 f3) (x : Int) : IsS49 w0 (W.setCell ⟨g, 1, none⟩ (.int .i64 x)) g f0 x f2 f3 := by
  obtain ⟨hb, hg⟩ := h
  exact ⟨by simpa using blk_set hb 1 (.int .i64 x), hg⟩
theorem cellS49_2 {W : World} {g : Nat} {f0 : Int} {f1 : Int} {f2 : Int} {f3 : Int} (h : W.heap[g]? = some (.cells #[.int .i64 f0, .int .i64 f1, .int .i64 f2, .int .i64 f3] 49 (0, 0))) : W.cell? ⟨g, 2, none⟩ = some (.int .i64 f2) := (blk_cell h 2).trans rfl
theorem IsS49.set_2 {w0 W : World} {g : Nat} {f0 : Int} {f1 : Int} {f2 : Int} {f3 : Int} (h : IsS49 w0 W g f0 f1 f2 f3) (x : Int) : IsS49 w0 (W.setCell ⟨g, 2, none⟩ (.int .i64 x)) g f0 f1 x f3 := by
  obtain ⟨hb, hg⟩ := h
  exact ⟨by simpa using blk_set hb 2 (.int .i64 x), hg⟩
theorem cellS49_3 {W : World} {g : Nat} {f0 : Int} {f1 : Int} {f2 : Int} {f3 : Int} (h : W.heap[g]? = some (.cells #[.int .i64 f0, .int .i64 f1, .int .i64 f2, .int .i64 f3] 49 (0, 0))) : W.cell? ⟨g, 3, none⟩ = some (.int .i64 f3) := (blk_cell h 3).trans rfl
theorem IsS49.set_3 {w0 W : World} {g : Nat} {f0 : Int} {f1 : Int} {f2 : Int} {f3 : Int} (h : IsS49 w0 W g f0 f1 f2 f3) (x : Int) : IsS49 w0 (W.setCell ⟨g, 3, none⟩ (.int .i64 x)) g f0 f1 f2 x := by
  obtain ⟨hb, hg⟩ := h
  exact ⟨by simpa using blk_set hb 3 (.int .i64 x), hg⟩
theorem IsS49.new (w0 W : World) (f0 : Int) (f1 : Int) (f2 : Int) (f3 : Int) (hB : Below w0.heap.size w0 W) : IsS49 w0 (W.alloc (.cells #[.int .i64 f0, .int .i64 f1, .int .i64 f2, .int .i64 f3] 49)) W.heap.size f0 f1 f2 f3 := ⟨by simpa using heap_alloc_new W _, hB.size⟩

/-! ### regis_New: function 9 -/
set_option maxHeartbeats 4000000 in
set_option maxRecDepth 100000 in
theorem regis_New.good (a0 : Int) (h0 : 0 ≤ a0) (h1 : a0 ≤ 2) (w0 w : World) (hB : Below w0.heap.size w0 w) :
    Calls Try.prog 9 #[.int .i64 a0] w fun e w' => ∃ g_ : Nat, e = .returned (.tuple #[.pointer (some ⟨g_, 0, none⟩), .int .i64 0]) ∧ w.heap.size ≤ g_ ∧ IsS49 w0 w' g_ a0 0 0 0 ∧ Below w0.heap.size w0 w' ∧ Below w.heap.size w w' := by
  have c1 : decide (a0 < 0) = false := by simp; omega
  have c2 : decide (2 < a0) = false := by simp; omega
  have hu := Try.underlying49
  go_enter Try.func9, Try.ntmps9
  go_wp2_with fail
  go_ret2
  exact ⟨_, rfl, Nat.le_refl _, ⟨heap_alloc_new _ _, hB.size⟩, below_alloc hB _, below_alloc (Below.refl _ _) _⟩
set_option maxHeartbeats 4000000 in
set_option maxRecDepth 100000 in
theorem regis_New.bad (a0 : Int) (h0 : ¬ (0 ≤ a0 ∧ a0 ≤ 2)) (w : World) :
    Calls Try.prog 9 #[.int .i64 a0] w fun e w' => e = .returned (.tuple #[.pointer none, .int .i64 1]) ∧ ∃ nd : Nat, w' = w.drewN nd := by
  go_enter Try.func9, Try.ntmps9
  by_cases c : a0 < 0
  · have c1 : decide (a0 < 0) = true := by simpa using c
    go_wp2_with fail
    go_ret2
    exact ⟨rfl, 0, rfl⟩
  · have c1 : decide (a0 < 0) = false := by simpa using c
    have c2 : decide (2 < a0) = true := by simp; omega
    go_wp2_with fail
    go_ret2
    exact ⟨rfl, 0, rfl⟩


/-! ### regis_Reg_Has: function 12 -/
def regis_Reg_Has.f (s0_0 : Int) (s0_1 : Int) (s0_2 : Int) (s0_3 : Int) : Option (Bool × Int × Int × Int × Int) := if s0_0 = 1 then (some (true, s0_0, s0_1, s0_2, s0_3)) else (if s0_0 = 0 then (some ((s0_1 != 0), s0_0, s0_1, s0_2, s0_3)) else (some (false, s0_0, s0_1, s0_2, s0_3)))
set_option maxHeartbeats 8000000 in
set_option maxRecDepth 100000 in
theorem regis_Reg_Has.calls (g : Nat) (s0_0 : Int) (s0_1 : Int) (s0_2 : Int) (s0_3 : Int) (r1 : Bool) (r2 : Int) (r3 : Int) (r4 : Int) (r5 : Int) (w0 w : World) (hI : IsS49 w0 w g s0_0 s0_1 s0_2 s0_3) (hB : Below w0.heap.size w0 w) (h : regis_Reg_Has.f s0_0 s0_1 s0_2 s0_3 = some (r1, r2, r3, r4, r5)) :
    Calls Try.prog 12 #[.pointer (some ⟨g, 0, none⟩)] w fun e w' => e = .returned (.bool r1) ∧ IsS49 w0 w' g r2 r3 r4 r5 ∧ Below w0.heap.size w0 w' ∧ KeepBut w w' g none := by
  have HI0 := Aside0.mk hI
  have HK := Aside0.mk (KeepBut.refl w g none)
  have HL := Aside0.mk hB.size
  clear hI
  have HW0 := Aside0.mk hB.size
  have HB := Aside0.mk hB
  clear hB
  have H : (if s0_0 = 1 then (some (true, s0_0, s0_1, s0_2, s0_3)) else (if s0_0 = 0 then (some ((s0_1 != 0), s0_0, s0_1, s0_2, s0_3)) else (some (false, s0_0, s0_1, s0_2, s0_3)))) = some (r1, r2, r3, r4, r5) := h
  clear h
  by_cases c2 : s0_0 = 1
  · rw [if_pos c2] at H
    have c2b0 : (s0_0 == 1) = true := beq_iff_eq.mpr c2
    have c2b1 : (s0_0 != 1) = false := bne_eq_false_iff_eq.mpr c2
    clear c2
    simp only [Option.some.injEq, Prod.mk.injEq] at H
    obtain ⟨rfl, rfl, rfl, rfl, rfl⟩ := H
    obtain ⟨HGz3, hgz3⟩ := HI0.out
    have hcz3_0 := cellS49_0 HGz3
    have hcz3_1 := cellS49_1 HGz3
    have hcz3_2 := cellS49_2 HGz3
    have hcz3_3 := cellS49_3 HGz3
    have hfz3_0 := blk_frozen HGz3 0
    have hfz3_1 := blk_frozen HGz3 1
    have hfz3_2 := blk_frozen HGz3 2
    have hfz3_3 := blk_frozen HGz3 3
    clear HGz3 hgz3
    go_enter Try.func12, Try.ntmps12
    go_wp2
    go_ret
    exact ⟨by first | rfl | (simp [show ∀ l_ : List UInt8, (l_ == []) = l_.isEmpty from fun l_ => by cases l_ <;> rfl]; done) | (simp [errW_none, errW_some] <;> rfl) | ((repeat rw [Int.tdiv_eq_ediv_of_nonneg (by omega)]); (repeat rw [Int.tmod_eq_emod_of_nonneg (by omega)]); first | rfl | (simp [errW_none, errW_some] <;> rfl)) | (simp [*, errW_none, errW_some] <;> rfl), by repeat (first | (with_reducible first | exact HI0.out | apply IsS49.alloc | apply IsS49.drewN | apply IsS49.drew | apply IsS49.set_0 | apply IsS49.set_1 | apply IsS49.set_2 | apply IsS49.set_3) | exact HI0.out), by repeat (first | (with_reducible first | exact HB.out | apply below_alloc | apply pw_below_drewN | apply below_drew1 | refine below_set ?_ (IsS49.ge HI0.out)) | exact HB.out), by repeat (first | (with_reducible first | exact HK.out | apply KeepBut.set_ | apply keep_drewN | apply keep_drew | apply keep_alloc) | exact HK.out)⟩
  · rw [if_neg c2] at H
    have c2b0 : (s0_0 == 1) = false := beq_eq_false_iff_ne.mpr c2
    have c2b1 : (s0_0 != 1) = true := bne_iff_ne.mpr c2
    by_cases c4 : s0_0 = 0
    · rw [if_pos c4] at H
      have c4b0 : (s0_0 == 0) = true := beq_iff_eq.mpr c4
      have c4b1 : (s0_0 != 0) = false := bne_eq_false_iff_eq.mpr c4
      clear c4
      simp only [Option.some.injEq, Prod.mk.injEq] at H
      obtain ⟨rfl, rfl, rfl, rfl, rfl⟩ := H
      obtain ⟨HGz5, hgz5⟩ := HI0.out
      have hcz5_0 := cellS49_0 HGz5
      have hcz5_1 := cellS49_1 HGz5
      have hcz5_2 := cellS49_2 HGz5
      have hcz5_3 := cellS49_3 HGz5
      have hfz5_0 := blk_frozen HGz5 0
      have hfz5_1 := blk_frozen HGz5 1
      have hfz5_2 := blk_frozen HGz5 2
      have hfz5_3 := blk_frozen HGz5 3
      clear HGz5 hgz5
      go_enter Try.func12, Try.ntmps12
      go_wp2
      go_ret
      exact ⟨by first | rfl | (simp [show ∀ l_ : List UInt8, (l_ == []) = l_.isEmpty from fun l_ => by cases l_ <;> rfl]; done) | (simp [errW_none, errW_some] <;> rfl) | ((repeat rw [Int.tdiv_eq_ediv_of_nonneg (by omega)]); (repeat rw [Int.tmod_eq_emod_of_nonneg (by omega)]); first | rfl | (simp [errW_none, errW_some] <;> rfl)) | (simp [*, errW_none, errW_some] <;> rfl), by repeat (first | (with_reducible first | exact HI0.out | apply IsS49.alloc | apply IsS49.drewN | apply IsS49.drew | apply IsS49.set_0 | apply IsS49.set_1 | apply IsS49.set_2 | apply IsS49.set_3) | exact HI0.out), by repeat (first | (with_reducible first | exact HB.out | apply below_alloc | apply pw_below_drewN | apply below_drew1 | refine below_set ?_ (IsS49.ge HI0.out)) | exact HB.out), by repeat (first | (with_reducible first | exact HK.out | apply KeepBut.set_ | apply keep_drewN | apply keep_drew | apply keep_alloc) | exact HK.out)⟩
    · rw [if_neg c4] at H
      have c4b0 : (s0_0 == 0) = false := beq_eq_false_iff_ne.mpr c4
      have c4b1 : (s0_0 != 0) = true := bne_iff_ne.mpr c4
      simp only [Option.some.injEq, Prod.mk.injEq] at H
      obtain ⟨rfl, rfl, rfl, rfl, rfl⟩ := H
      obtain ⟨HGz6, hgz6⟩ := HI0.out
      have hcz6_0 := cellS49_0 HGz6
      have hcz6_1 := cellS49_1 HGz6
      have hcz6_2 := cellS49_2 HGz6
      have hcz6_3 := cellS49_3 HGz6
      have hfz6_0 := blk_frozen HGz6 0
      have hfz6_1 := blk_frozen HGz6 1
      have hfz6_2 := blk_frozen HGz6 2
      have hfz6_3 := blk_frozen HGz6 3
      clear HGz6 hgz6
      go_enter Try.func12, Try.ntmps12
      go_wp2
      go_ret
      exact ⟨by first | rfl | (simp [show ∀ l_ : List UInt8, (l_ == []) = l_.isEmpty from fun l_ => by cases l_ <;> rfl]; done) | (simp [errW_none, errW_some] <;> rfl) | ((repeat rw [Int.tdiv_eq_ediv_of_nonneg (by omega)]); (repeat rw [Int.tmod_eq_emod_of_nonneg (by omega)]); first | rfl | (simp [errW_none, errW_some] <;> rfl)) | (simp [*, errW_none, errW_some] <;> rfl), by repeat (first | (with_reducible first | exact HI0.out | apply IsS49.alloc | apply IsS49.drewN | apply IsS49.drew | apply IsS49.set_0 | apply IsS49.set_1 | apply IsS49.set_2 | apply IsS49.set_3) | exact HI0.out), by repeat (first | (with_reducible first | exact HB.out | apply below_alloc | apply pw_below_drewN | apply below_drew1 | refine below_set ?_ (IsS49.ge HI0.out)) | exact HB.out), by repeat (first | (with_reducible first | exact HK.out | apply KeepBut.set_ | apply keep_drewN | apply keep_drew | apply keep_alloc) | exact HK.out)⟩

/-! ### regis_old: function 25 -/
def regis_old.f (a0 : Int) (a1 : Int) : Option (Bool) := some (decide ((wrap64 (a1 - a0)) > 120))
set_option maxHeartbeats 8000000 in
set_option maxRecDepth 100000 in
theorem regis_old.calls (a0 : Int) (a1 : Int) (r : Bool) (w : World) (h : regis_old.f a0 a1 = some r) :
    Calls Try.prog 25 #[.int .i64 a0, .int .i64 a1] w fun e w' => e = .returned (.bool r) ∧ Drawn0 w w' := by
  have H : (some (decide ((wrap64 (a1 - a0)) > 120))) = some r := h
  clear h
  obtain rfl := Option.some.inj H
  go_enter Try.func25, Try.ntmps25
  go_wp2
  go_ret
  exact ⟨by first | rfl | (simp; done) | (simp [show ∀ l_ : List UInt8, (l_ != []) = !l_.isEmpty from fun l_ => by cases l_ <;> rfl]; done) | (simp [*]; done), by repeat (first | exact Drawn0.refl _ | apply Drawn0.step)⟩

/-! ### table_At: function 29 -/
def table_At.f (l0 : List (List (S52))) (a1 : Int) (a2 : Int) : Option (Int × Int × Bool) := if a1 < 0 then (some (a1, 0, false)) else (if a1 ≥ (l0.length : Int) then (some (a1, 0, false)) else (if a2 < 0 then (some (a1, 0, false)) else (if 0 ≤ a1 then (if a1 < (l0.length : Int) then (if a2 ≥ ((rd_L2 l0 a1).length : Int) then (some (a1, 0, false)) else (if 0 ≤ a2 then (if a2 < ((rd_L2 l0 a1).length : Int) then (some ((rd_T52 (rd_L2 l0 a1) a2).f0, (rd_T52 (rd_L2 l0 a1) a2).f1, true)) else (none)) else (none))) else (none)) else (none))))
set_option maxHeartbeats 8000000 in
set_option maxRecDepth 100000 in
theorem table_At.calls (A0 : Option Addr) (c0 : Nat) (l0 : List (List (S52))) (a1 : Int) (a2 : Int) (r1 : Int) (r2 : Int) (r3 : Bool) (w : World) (hr0 : Kd.C (Kd.slice 52 k52) w A0 l0.length l0) (hc0 : l0.length ≤ c0) (h : table_At.f l0 a1 a2 = some (r1, r2, r3)) :
    Calls Try.prog 29 #[.slice A0 l0.length c0, .int .i64 a1, .int .i64 a2] w fun e w' => e = .returned (.tuple #[.agg #[.int .i64 r1, .int .i64 r2], .bool r3]) ∧ Below w.heap.size w w' := by
  have hu52 := Try.underlying52
  have HR0 := Aside0.mk hr0
  have HC0 := Aside0.mk hc0
  clear hr0 hc0
  have HB := Aside0.mk (Below.refl w.heap.size w)
  have H : (if a1 < 0 then (some (a1, 0, false)) else (if a1 ≥ (l0.length : Int) then (some (a1, 0, false)) else (if a2 < 0 then (some (a1, 0, false)) else (if 0 ≤ a1 then (if a1 < (l0.length : Int) then (if a2 ≥ ((rd_L2 l0 a1).length : Int) then (some (a1, 0, false)) else (if 0 ≤ a2 then (if a2 < ((rd_L2 l0 a1).length : Int) then (some ((rd_T52 (rd_L2 l0 a1) a2).f0, (rd_T52 (rd_L2 l0 a1) a2).f1, true)) else (none)) else (none))) else (none)) else (none))))) = some (r1, r2, r3) := h
  clear h
  by_cases c4 : a1 < 0
  · rw [if_pos c4] at H
    have c4b0 : decide (a1 < 0) = true := decide_eq_true c4
    clear c4
    simp only [Option.some.injEq, Prod.mk.injEq] at H
    obtain ⟨rfl, rfl, rfl⟩ := H
    go_enter Try.func29, Try.ntmps29
    go_wp2_with (first | ((with_reducible refine gate_dst (N := 6) rfl ?_); (try (refine gate_guard (by rfl) ?_; dsimp only)); refine box_event ?hg (N := 6) ?hd (cs := #[.int .i64 0, .int .i64 0]) (t := 52) ?hr ?_; (case hd => rfl); (case hg => rfl); (case hr => first | (go_simp; done) | (go_simp; rfl)); intro gb101 hg w5 hbox hb; have n0_ := Aside0.mk (below_step (by repeat (first | (with_reducible first | exact HB.out | apply below_alloc | apply pw_below_drewN | apply below_drew1) | exact HB.out)) hb); have n1_ := Aside0.mk (hbox); have n2_ := Aside0.mk ((by rw [hg]; exact (below_size (by repeat (first | (with_reducible first | exact HB.out | apply below_alloc | apply pw_below_drewN | apply below_drew1) | exact HB.out))) : w.heap.size ≤ gb101)); have n3_ := Aside0.mk ((by rw [hg]; exact (below_size (by repeat (first | (with_reducible first | exact HB.out | apply below_alloc | apply pw_below_drewN | apply below_drew1) | exact HB.out))) : w.heap.size ≤ gb101)); clear HB; have HB := n0_; have BK101 := n1_; have GW101 := n2_; have GE101 := n3_; clear n0_ n1_ n2_ n3_; clear hb hbox hg; have hcz6_0 : w5.cell? ⟨gb101, 0, none⟩ = some (.int .i64 0) := (blk_cell BK101.out 0).trans rfl; have hcz6_1 : w5.cell? ⟨gb101, 1, none⟩ = some (.int .i64 0) := (blk_cell BK101.out 1).trans rfl; have hfz6_0 := blk_frozen BK101.out 0; have hfz6_1 := blk_frozen BK101.out 1))
    refine bodyPost_ret (results_ct rfl _ _ gb101 52 #[.int .i64 a1, .int .i64 0] (0, 0) _ rfl (by (with_reducible repeat (first | refine blk_drewN ?_ _ | refine blk_drew ?_ | refine blk_alloc ?_ _)); refine blk_put (cs := #[.int .i64 a1, .int .i64 0]) ?_ 1 _ rfl; (with_reducible repeat (first | refine blk_drewN ?_ _ | refine blk_drew ?_ | refine blk_alloc ?_ _)); refine blk_put (cs := #[.int .i64 0, .int .i64 0]) ?_ 0 _ rfl; (with_reducible repeat (first | refine blk_drewN ?_ _ | refine blk_drew ?_ | refine blk_alloc ?_ _)); exact BK101.out) Try.underlying52 rfl (by kernel_rfl)) rfl ?_
    exact ⟨by first | rfl | (simp [show ∀ l_ : List UInt8, (l_ == []) = l_.isEmpty from fun l_ => by cases l_ <;> rfl]; done) | (simp [errW_none, errW_some] <;> rfl) | ((repeat rw [Int.tdiv_eq_ediv_of_nonneg (by omega)]); (repeat rw [Int.tmod_eq_emod_of_nonneg (by omega)]); first | rfl | (simp [errW_none, errW_some] <;> rfl)) | (simp [*, errW_none, errW_some] <;> rfl), by repeat (first | (with_reducible first | exact HB.out | apply below_alloc | apply pw_below_drewN | apply below_drew1 | refine below_set ?_ GE101.out) | exact HB.out)⟩
  · rw [if_neg c4] at H
    have c4b0 : decide (a1 < 0) = false := decide_eq_false c4
    clear c4
    by_cases c7 : a1 ≥ (l0.length : Int)
    · rw [if_pos c7] at H
      have c7b0 : decide ((l0.length : Int) ≤ a1) = true := decide_eq_true c7
      clear c7
      simp only [Option.some.injEq, Prod.mk.injEq] at H
      obtain ⟨rfl, rfl, rfl⟩ := H
      go_enter Try.func29, Try.ntmps29
      go_wp2_with (first | ((with_reducible refine gate_dst (N := 6) rfl ?_); (try (refine gate_guard (by rfl) ?_; dsimp only)); refine box_event ?hg (N := 6) ?hd (cs := #[.int .i64 0, .int .i64 0]) (t := 52) ?hr ?_; (case hd => rfl); (case hg => rfl); (case hr => first | (go_simp; done) | (go_simp; rfl)); intro gb101 hg w8 hbox hb; have n0_ := Aside0.mk (below_step (by repeat (first | (with_reducible first | exact HB.out | apply below_alloc | apply pw_below_drewN | apply below_drew1) | exact HB.out)) hb); have n1_ := Aside0.mk (hbox); have n2_ := Aside0.mk ((by rw [hg]; exact (below_size (by repeat (first | (with_reducible first | exact HB.out | apply below_alloc | apply pw_below_drewN | apply below_drew1) | exact HB.out))) : w.heap.size ≤ gb101)); have n3_ := Aside0.mk ((by rw [hg]; exact (below_size (by repeat (first | (with_reducible first | exact HB.out | apply below_alloc | apply pw_below_drewN | apply below_drew1) | exact HB.out))) : w.heap.size ≤ gb101)); clear HB; have HB := n0_; have BK101 := n1_; have GW101 := n2_; have GE101 := n3_; clear n0_ n1_ n2_ n3_; clear hb hbox hg; have hcz9_0 : w8.cell? ⟨gb101, 0, none⟩ = some (.int .i64 0) := (blk_cell BK101.out 0).trans rfl; have hcz9_1 : w8.cell? ⟨gb101, 1, none⟩ = some (.int .i64 0) := (blk_cell BK101.out 1).trans rfl; have hfz9_0 := blk_frozen BK101.out 0; have hfz9_1 := blk_frozen BK101.out 1))
      refine bodyPost_ret (results_ct rfl _ _ gb101 52 #[.int .i64 a1, .int .i64 0] (0, 0) _ rfl (by (with_reducible repeat (first | refine blk_drewN ?_ _ | refine blk_drew ?_ | refine blk_alloc ?_ _)); refine blk_put (cs := #[.int .i64 a1, .int .i64 0]) ?_ 1 _ rfl; (with_reducible repeat (first | refine blk_drewN ?_ _ | refine blk_drew ?_ | refine blk_alloc ?_ _)); refine blk_put (cs := #[.int .i64 0, .int .i64 0]) ?_ 0 _ rfl; (with_reducible repeat (first | refine blk_drewN ?_ _ | refine blk_drew ?_ | refine blk_alloc ?_ _)); exact BK101.out) Try.underlying52 rfl (by kernel_rfl)) rfl ?_
      exact ⟨by first | rfl | (simp [show ∀ l_ : List UInt8, (l_ == []) = l_.isEmpty from fun l_ => by cases l_ <;> rfl]; done) | (simp [errW_none, errW_some] <;> rfl) | ((repeat rw [Int.tdiv_eq_ediv_of_nonneg (by omega)]); (repeat rw [Int.tmod_eq_emod_of_nonneg (by omega)]); first | rfl | (simp [errW_none, errW_some] <;> rfl)) | (simp [*, errW_none, errW_some] <;> rfl), by repeat (first | (with_reducible first | exact HB.out | apply below_alloc | apply pw_below_drewN | apply below_drew1 | refine below_set ?_ GE101.out) | exact HB.out)⟩
    · rw [if_neg c7] at H
      have c7b0 : decide ((l0.length : Int) ≤ a1) = false := decide_eq_false c7
      clear c7
      by_cases c10 : a2 < 0
      · rw [if_pos c10] at H
        have c10b0 : decide (a2 < 0) = true := decide_eq_true c10
        clear c10
        simp only [Option.some.injEq, Prod.mk.injEq] at H
        obtain ⟨rfl, rfl, rfl⟩ := H
        go_enter Try.func29, Try.ntmps29
        go_wp2_with (first | ((with_reducible refine gate_dst (N := 6) rfl ?_); (try (refine gate_guard (by rfl) ?_; dsimp only)); refine box_event ?hg (N := 6) ?hd (cs := #[.int .i64 0, .int .i64 0]) (t := 52) ?hr ?_; (case hd => rfl); (case hg => rfl); (case hr => first | (go_simp; done) | (go_simp; rfl)); intro gb101 hg w11 hbox hb; have n0_ := Aside0.mk (below_step (by repeat (first | (with_reducible first | exact HB.out | apply below_alloc | apply pw_below_drewN | apply below_drew1) | exact HB.out)) hb); have n1_ := Aside0.mk (hbox); have n2_ := Aside0.mk ((by rw [hg]; exact (below_size (by repeat (first | (with_reducible first | exact HB.out | apply below_alloc | apply pw_below_drewN | apply below_drew1) | exact HB.out))) : w.heap.size ≤ gb101)); have n3_ := Aside0.mk ((by rw [hg]; exact (below_size (by repeat (first | (with_reducible first | exact HB.out | apply below_alloc | apply pw_below_drewN | apply below_drew1) | exact HB.out))) : w.heap.size ≤ gb101)); clear HB; have HB := n0_; have BK101 := n1_; have GW101 := n2_; have GE101 := n3_; clear n0_ n1_ n2_ n3_; clear hb hbox hg; have hcz12_0 : w11.cell? ⟨gb101, 0, none⟩ = some (.int .i64 0) := (blk_cell BK101.out 0).trans rfl; have hcz12_1 : w11.cell? ⟨gb101, 1, none⟩ = some (.int .i64 0) := (blk_cell BK101.out 1).trans rfl; have hfz12_0 := blk_frozen BK101.out 0; have hfz12_1 := blk_frozen BK101.out 1))
        refine bodyPost_ret (results_ct rfl _ _ gb101 52 #[.int .i64 a1, .int .i64 0] (0, 0) _ rfl (by (with_reducible repeat (first | refine blk_drewN ?_ _ | refine blk_drew ?_ | refine blk_alloc ?_ _)); refine blk_put (cs := #[.int .i64 a1, .int .i64 0]) ?_ 1 _ rfl; (with_reducible repeat (first | refine blk_drewN ?_ _ | refine blk_drew ?_ | refine blk_alloc ?_ _)); refine blk_put (cs := #[.int .i64 0, .int .i64 0]) ?_ 0 _ rfl; (with_reducible repeat (first | refine blk_drewN ?_ _ | refine blk_drew ?_ | refine blk_alloc ?_ _)); exact BK101.out) Try.underlying52 rfl (by kernel_rfl)) rfl ?_
        exact ⟨by first | rfl | (simp [show ∀ l_ : List UInt8, (l_ == []) = l_.isEmpty from fun l_ => by cases l_ <;> rfl]; done) | (simp [errW_none, errW_some] <;> rfl) | ((repeat rw [Int.tdiv_eq_ediv_of_nonneg (by omega)]); (repeat rw [Int.tmod_eq_emod_of_nonneg (by omega)]); first | rfl | (simp [errW_none, errW_some] <;> rfl)) | (simp [*, errW_none, errW_some] <;> rfl), by repeat (first | (with_reducible first | exact HB.out | apply below_alloc | apply pw_below_drewN | apply below_drew1 | refine below_set ?_ GE101.out) | exact HB.out)⟩
      · rw [if_neg c10] at H
        have c10b0 : decide (a2 < 0) = false := decide_eq_false c10
        clear c10
        by_cases c13 : 0 ≤ a1
        · rw [if_pos c13] at H
          have c13b0 : decide (0 ≤ a1) = true := decide_eq_true c13
          clear c13
          by_cases c14 : a1 < (l0.length : Int)
          · rw [if_pos c14] at H
            have c14b0 : decide (a1 < (l0.length : Int)) = true := decide_eq_true c14
            clear c14
            by_cases c15 : a2 ≥ ((rd_L2 l0 a1).length : Int)
            · rw [if_pos c15] at H
              have c15b0 : decide (((rd_L2 l0 a1).length : Int) ≤ a2) = true := decide_eq_true c15
              clear c15
              simp only [Option.some.injEq, Prod.mk.injEq] at H
              obtain ⟨rfl, rfl, rfl⟩ := H
              go_enter Try.func29, Try.ntmps29
              go_wp2_with (first | ((with_reducible refine gate_dst (N := 6) rfl ?_); (try (refine gate_guard (by rfl) ?_; dsimp only)); refine box_event ?hg (N := 6) ?hd (cs := #[.int .i64 0, .int .i64 0]) (t := 52) ?hr ?_; (case hd => rfl); (case hg => rfl); (case hr => first | (go_simp; done) | (go_simp; rfl)); intro gb101 hg w16 hbox hb; have n0_ := Aside0.mk (below_step (by repeat (first | (with_reducible first | exact HB.out | apply below_alloc | apply pw_below_drewN | apply below_drew1) | exact HB.out)) hb); have n1_ := Aside0.mk (hbox); have n2_ := Aside0.mk ((by rw [hg]; exact (below_size (by repeat (first | (with_reducible first | exact HB.out | apply below_alloc | apply pw_below_drewN | apply below_drew1) | exact HB.out))) : w.heap.size ≤ gb101)); have n3_ := Aside0.mk ((by rw [hg]; exact (below_size (by repeat (first | (with_reducible first | exact HB.out | apply below_alloc | apply pw_below_drewN | apply below_drew1) | exact HB.out))) : w.heap.size ≤ gb101)); clear HB; have HB := n0_; have BK101 := n1_; have GW101 := n2_; have GE101 := n3_; clear n0_ n1_ n2_ n3_; clear hb hbox hg; have p102 : 0 ≤ (a1 : Int) := of_decide_eq_true (by first | (with_reducible assumption) | assumption); have q102 : a1 < (l0.length : Int) := of_decide_eq_true (by first | (with_reducible assumption) | assumption); obtain ⟨ad102, A102_0, c102_0, e102, hx102_0, hl102_0, hi102_0⟩ := at_L2 HR0.out a1 p102 q102; cases e102; (try replace hx102_0 := (HB.out.cell (World.block_lt_of_cell? w _ hx102_0)).trans hx102_0); have HR102_0 := Aside0.mk hi102_0; have HC102_0 := Aside0.mk hl102_0; clear hi102_0 hl102_0; replace p102 := eq_true p102; replace q102 := eq_true q102; have hcz17_0 : w16.cell? ⟨gb101, 0, none⟩ = some (.int .i64 0) := (blk_cell BK101.out 0).trans rfl; have hcz17_1 : w16.cell? ⟨gb101, 1, none⟩ = some (.int .i64 0) := (blk_cell BK101.out 1).trans rfl; have hfz17_0 := blk_frozen BK101.out 0; have hfz17_1 := blk_frozen BK101.out 1))
              refine bodyPost_ret (results_ct rfl _ _ gb101 52 #[.int .i64 a1, .int .i64 0] (0, 0) _ rfl (by (with_reducible repeat (first | refine blk_drewN ?_ _ | refine blk_drew ?_ | refine blk_alloc ?_ _)); refine blk_put (cs := #[.int .i64 a1, .int .i64 0]) ?_ 1 _ rfl; (with_reducible repeat (first | refine blk_drewN ?_ _ | refine blk_drew ?_ | refine blk_alloc ?_ _)); refine blk_put (cs := #[.int .i64 0, .int .i64 0]) ?_ 0 _ rfl; (with_reducible repeat (first | refine blk_drewN ?_ _ | refine blk_drew ?_ | refine blk_alloc ?_ _)); exact BK101.out) Try.underlying52 rfl (by kernel_rfl)) rfl ?_
              exact ⟨by first | rfl | (simp [show ∀ l_ : List UInt8, (l_ == []) = l_.isEmpty from fun l_ => by cases l_ <;> rfl]; done) | (simp [errW_none, errW_some] <;> rfl) | ((repeat rw [Int.tdiv_eq_ediv_of_nonneg (by omega)]); (repeat rw [Int.tmod_eq_emod_of_nonneg (by omega)]); first | rfl | (simp [errW_none, errW_some] <;> rfl)) | (simp [*, errW_none, errW_some] <;> rfl), by repeat (first | (with_reducible first | exact HB.out | apply below_alloc | apply pw_below_drewN | apply below_drew1 | refine below_set ?_ GE101.out) | exact HB.out)⟩
            · rw [if_neg c15] at H
              have c15b0 : decide (((rd_L2 l0 a1).length : Int) ≤ a2) = false := decide_eq_false c15
              clear c15
              by_cases c18 : 0 ≤ a2
              · rw [if_pos c18] at H
                have c18b0 : decide (0 ≤ a2) = true := decide_eq_true c18
                clear c18
                by_cases c19 : a2 < ((rd_L2 l0 a1).length : Int)
                · rw [if_pos c19] at H
                  have c19b0 : decide (a2 < ((rd_L2 l0 a1).length : Int)) = true := decide_eq_true c19
                  clear c19
                  simp only [Option.some.injEq, Prod.mk.injEq] at H
                  obtain ⟨rfl, rfl, rfl⟩ := H
                  go_enter Try.func29, Try.ntmps29
                  go_wp2_with (first | ((with_reducible refine gate_dst (N := 6) rfl ?_); (try (refine gate_guard (by rfl) ?_; dsimp only)); refine box_event ?hg (N := 6) ?hd (cs := #[.int .i64 0, .int .i64 0]) (t := 52) ?hr ?_; (case hd => rfl); (case hg => rfl); (case hr => first | (go_simp; done) | (go_simp; rfl)); intro gb101 hg w20 hbox hb; have n0_ := Aside0.mk (below_step (by repeat (first | (with_reducible first | exact HB.out | apply below_alloc | apply pw_below_drewN | apply below_drew1) | exact HB.out)) hb); have n1_ := Aside0.mk (hbox); have n2_ := Aside0.mk ((by rw [hg]; exact (below_size (by repeat (first | (with_reducible first | exact HB.out | apply below_alloc | apply pw_below_drewN | apply below_drew1) | exact HB.out))) : w.heap.size ≤ gb101)); have n3_ := Aside0.mk ((by rw [hg]; exact (below_size (by repeat (first | (with_reducible first | exact HB.out | apply below_alloc | apply pw_below_drewN | apply below_drew1) | exact HB.out))) : w.heap.size ≤ gb101)); clear HB; have HB := n0_; have BK101 := n1_; have GW101 := n2_; have GE101 := n3_; clear n0_ n1_ n2_ n3_; clear hb hbox hg; have p102 : 0 ≤ (a1 : Int) := of_decide_eq_true (by first | (with_reducible assumption) | assumption); have q102 : a1 < (l0.length : Int) := of_decide_eq_true (by first | (with_reducible assumption) | assumption); obtain ⟨ad102, A102_0, c102_0, e102, hx102_0, hl102_0, hi102_0⟩ := at_L2 HR0.out a1 p102 q102; cases e102; (try replace hx102_0 := (HB.out.cell (World.block_lt_of_cell? w _ hx102_0)).trans hx102_0); have HR102_0 := Aside0.mk hi102_0; have HC102_0 := Aside0.mk hl102_0; clear hi102_0 hl102_0; replace p102 := eq_true p102; replace q102 := eq_true q102; have p103 : 0 ≤ (a1 : Int) := of_decide_eq_true (by first | (with_reducible assumption) | assumption); have q103 : a1 < (l0.length : Int) := of_decide_eq_true (by first | (with_reducible assumption) | assumption); obtain ⟨ad103, A103_0, c103_0, e103, hx103_0, hl103_0, hi103_0⟩ := at_L2 HR0.out a1 p103 q103; obtain rfl : ad102 = ad103 := (by injection e103); (try replace hx103_0 := (HB.out.cell (World.block_lt_of_cell? w _ hx103_0)).trans hx103_0); have HR103_0 := Aside0.mk hi103_0; have HC103_0 := Aside0.mk hl103_0; clear hi103_0 hl103_0; replace p103 := eq_true p103; replace q103 := eq_true q103; have ea_ := Option.some.inj (hx102_0.symm.trans hx103_0); injection ea_ with ea_ en_ ec_; subst ea_; subst ec_; clear en_; have p104 : 0 ≤ (a2 : Int) := of_decide_eq_true (by first | (with_reducible assumption) | assumption); have q104 : a2 < ((rd_L2 l0 a1).length : Int) := of_decide_eq_true (by first | (with_reducible assumption) | assumption); obtain ⟨ad104, e104, hx104_0, hx104_1⟩ := at_T52 HR103_0.out a2 p104 q104; cases e104; (try replace hx104_0 := (HB.out.cell (World.block_lt_of_cell? w _ hx104_0)).trans hx104_0); (try replace hx104_1 := (HB.out.cell (World.block_lt_of_cell? w _ hx104_1)).trans hx104_1); replace p104 := eq_true p104; replace q104 := eq_true q104; have hcz21_0 : w20.cell? ⟨gb101, 0, none⟩ = some (.int .i64 0) := (blk_cell BK101.out 0).trans rfl; have hcz21_1 : w20.cell? ⟨gb101, 1, none⟩ = some (.int .i64 0) := (blk_cell BK101.out 1).trans rfl; have hfz21_0 := blk_frozen BK101.out 0; have hfz21_1 := blk_frozen BK101.out 1))
                  refine bodyPost_ret (results_ct rfl _ _ gb101 52 #[.int .i64 ((rd_T52 (rd_L2 l0 a1) a2).f0), .int .i64 ((rd_T52 (rd_L2 l0 a1) a2).f1)] (0, 0) _ rfl (by (with_reducible repeat (first | refine blk_drewN ?_ _ | refine blk_drew ?_ | refine blk_alloc ?_ _)); refine blk_put (cs := #[.int .i64 ((rd_T52 (rd_L2 l0 a1) a2).f0), .int .i64 0]) ?_ 1 _ rfl; (with_reducible repeat (first | refine blk_drewN ?_ _ | refine blk_drew ?_ | refine blk_alloc ?_ _)); refine blk_put (cs := #[.int .i64 0, .int .i64 0]) ?_ 0 _ rfl; (with_reducible repeat (first | refine blk_drewN ?_ _ | refine blk_drew ?_ | refine blk_alloc ?_ _)); exact BK101.out) Try.underlying52 rfl (by kernel_rfl)) rfl ?_
                  exact ⟨by first | rfl | (simp [show ∀ l_ : List UInt8, (l_ == []) = l_.isEmpty from fun l_ => by cases l_ <;> rfl]; done) | (simp [errW_none, errW_some] <;> rfl) | ((repeat rw [Int.tdiv_eq_ediv_of_nonneg (by omega)]); (repeat rw [Int.tmod_eq_emod_of_nonneg (by omega)]); first | rfl | (simp [errW_none, errW_some] <;> rfl)) | (simp [*, errW_none, errW_some] <;> rfl), by repeat (first | (with_reducible first | exact HB.out | apply below_alloc | apply pw_below_drewN | apply below_drew1 | refine below_set ?_ GE101.out) | exact HB.out)⟩
                · rw [if_neg c19] at H
                  exact absurd H (by simp)
              · rw [if_neg c18] at H
                exact absurd H (by simp)
          · rw [if_neg c14] at H
            exact absurd H (by simp)
        · rw [if_neg c13] at H
          exact absurd H (by simp)

/-! ### table_Registrar: function 30 -/
def table_Registrar.f  : Option ((List (List (S52)))) := some (([(([(⟨2, 3⟩ : S52), (⟨0, 0⟩ : S52), (⟨0, 0⟩ : S52), (⟨0, 0⟩ : S52), (⟨0, 0⟩ : S52)] : List (S52))), (([(⟨2, 2⟩ : S52), (⟨1, 0⟩ : S52), (⟨1, 0⟩ : S52), (⟨0, 4⟩ : S52), (⟨0, 4⟩ : S52)] : List (S52))), (([(⟨2, 0⟩ : S52), (⟨1, 1⟩ : S52), (⟨1, 1⟩ : S52), (⟨2, 0⟩ : S52), (⟨0, 4⟩ : S52)] : List (S52)))] : List (List (S52))))
set_option maxHeartbeats 8000000 in
set_option maxRecDepth 100000 in
theorem table_Registrar.calls  (r : List (List (S52))) (w : World) (h : table_Registrar.f  = some r) :
    Calls Try.prog 30 #[] w fun e w' => ∃ v0_ : Value, e = .returned (v0_) ∧ Kd.N (Kd.slice 52 k52) 60 w' w.heap.size (fun k_ => (w.heap.size ≤ k_)) v0_ r ∧ Below w.heap.size w w' := by
  have hu52 := Try.underlying52
  have HB := Aside0.mk (Below.refl w.heap.size w)
  have H : (some (([(([(⟨2, 3⟩ : S52), (⟨0, 0⟩ : S52), (⟨0, 0⟩ : S52), (⟨0, 0⟩ : S52), (⟨0, 0⟩ : S52)] : List (S52))), (([(⟨2, 2⟩ : S52), (⟨1, 0⟩ : S52), (⟨1, 0⟩ : S52), (⟨0, 4⟩ : S52), (⟨0, 4⟩ : S52)] : List (S52))), (([(⟨2, 0⟩ : S52), (⟨1, 1⟩ : S52), (⟨1, 1⟩ : S52), (⟨2, 0⟩ : S52), (⟨0, 4⟩ : S52)] : List (S52)))] : List (List (S52))))) = some r := h
  clear h
  obtain ⟨y105, hy105⟩ : ∃ y_ : List (S52), y_ = (([(⟨2, 3⟩ : S52), (⟨0, 0⟩ : S52), (⟨0, 0⟩ : S52), (⟨0, 0⟩ : S52), (⟨0, 0⟩ : S52)] : List (S52))) := ⟨_, rfl⟩
  replace H : (some (([y105, (([(⟨2, 2⟩ : S52), (⟨1, 0⟩ : S52), (⟨1, 0⟩ : S52), (⟨0, 4⟩ : S52), (⟨0, 4⟩ : S52)] : List (S52))), (([(⟨2, 0⟩ : S52), (⟨1, 1⟩ : S52), (⟨1, 1⟩ : S52), (⟨2, 0⟩ : S52), (⟨0, 4⟩ : S52)] : List (S52)))] : List (List (S52))))) = some r := by first | (rw [hy105]; with_reducible exact H) | (have H2_ := (Option.bind_some _ _).symm.trans H; rw [hy105]; with_reducible exact H2_) | (have H2_ := (Option.bind_some _ _).symm.trans H; with_reducible exact H2_) | with_reducible exact H | (rw [hy105]; exact H) | exact H
  have Ny105 := Aside0.mk hy105
  clear hy105
  obtain ⟨y108, hy108⟩ : ∃ y_ : List (S52), y_ = (([(⟨2, 2⟩ : S52), (⟨1, 0⟩ : S52), (⟨1, 0⟩ : S52), (⟨0, 4⟩ : S52), (⟨0, 4⟩ : S52)] : List (S52))) := ⟨_, rfl⟩
  replace H : (some (([y105, y108, (([(⟨2, 0⟩ : S52), (⟨1, 1⟩ : S52), (⟨1, 1⟩ : S52), (⟨2, 0⟩ : S52), (⟨0, 4⟩ : S52)] : List (S52)))] : List (List (S52))))) = some r := by first | (rw [hy108]; with_reducible exact H) | (have H2_ := (Option.bind_some _ _).symm.trans H; rw [hy108]; with_reducible exact H2_) | (have H2_ := (Option.bind_some _ _).symm.trans H; with_reducible exact H2_) | with_reducible exact H | (rw [hy108]; exact H) | exact H
  have Ny108 := Aside0.mk hy108
  clear hy108
  obtain ⟨y111, hy111⟩ : ∃ y_ : List (S52), y_ = (([(⟨2, 0⟩ : S52), (⟨1, 1⟩ : S52), (⟨1, 1⟩ : S52), (⟨2, 0⟩ : S52), (⟨0, 4⟩ : S52)] : List (S52))) := ⟨_, rfl⟩
  replace H : (some (([y105, y108, y111] : List (List (S52))))) = some r := by first | (rw [hy111]; with_reducible exact H) | (have H2_ := (Option.bind_some _ _).symm.trans H; rw [hy111]; with_reducible exact H2_) | (have H2_ := (Option.bind_some _ _).symm.trans H; with_reducible exact H2_) | with_reducible exact H | (rw [hy111]; exact H) | exact H
  have Ny111 := Aside0.mk hy111
  clear hy111
  obtain ⟨y114, hy114⟩ : ∃ y_ : List (List (S52)), y_ = (([y105, y108, y111] : List (List (S52)))) := ⟨_, rfl⟩
  replace H : (some y114) = some r := by first | (rw [hy114]; with_reducible exact H) | (have H2_ := (Option.bind_some _ _).symm.trans H; rw [hy114]; with_reducible exact H2_) | (have H2_ := (Option.bind_some _ _).symm.trans H; with_reducible exact H2_) | with_reducible exact H | (rw [hy114]; exact H) | exact H
  have Ny114 := Aside0.mk hy114
  clear hy114
  obtain rfl := Option.some.inj H
  go_enter Try.func30, Try.ntmps30
  go_wp2_with (first | ((with_reducible refine gate_dst (N := 6) rfl ?_); refine Kd.R_lit k52 _ 52 ?hg (N := 6) ?hd (xs := ([(⟨2, 3⟩ : S52), (⟨0, 0⟩ : S52), (⟨0, 0⟩ : S52), (⟨0, 0⟩ : S52), (⟨0, 0⟩ : S52)] : List (S52))) (inner := [.int .i64 2, .int .i64 3, .int .i64 0, .int .i64 0, .int .i64 0, .int .i64 0, .int .i64 0, .int .i64 0, .int .i64 0, .int .i64 0]) (ok := fun _ => True) (okp := fun _ => True) ?hr ?hp (fun _ hk => hk) trivial (Below.refl _ _) (Nat.le_refl _) (by simp) ?_; (case hd => rfl); (case hg => rfl); (case hr => first | (go_simp; done) | (go_simp; rfl)); (case hp => exact (Reps.c2 (show Kd.M k52 _ _ _ (⟨2, 3⟩ : S52) [.int .i64 2, .int .i64 3] from (k52_mkM _ _ _ (⟨2, 3⟩ : S52) )) (Reps.c2 (show Kd.M k52 _ _ _ (⟨0, 0⟩ : S52) [.int .i64 0, .int .i64 0] from (k52_mkM _ _ _ (⟨0, 0⟩ : S52) )) (Reps.c2 (show Kd.M k52 _ _ _ (⟨0, 0⟩ : S52) [.int .i64 0, .int .i64 0] from (k52_mkM _ _ _ (⟨0, 0⟩ : S52) )) (Reps.c2 (show Kd.M k52 _ _ _ (⟨0, 0⟩ : S52) [.int .i64 0, .int .i64 0] from (k52_mkM _ _ _ (⟨0, 0⟩ : S52) )) (Reps.c2 (show Kd.M k52 _ _ _ (⟨0, 0⟩ : S52) [.int .i64 0, .int .i64 0] from (k52_mkM _ _ _ (⟨0, 0⟩ : S52) )) (Reps.none _ _))))))); intro v106 w1 ho2 hb hg_ hnew_; clear hg_ hnew_; (first | rw [← Ny105.out] at ho2 | (simp only [Int.reduceToNat] at ho2; rw [← Ny105.out] at ho2)); have n0_ := Aside0.mk (Kd.R_lower (Kd.R_newM (M := fun k_ => (w.heap.size ≤ k_)) ho2 (below_size (by repeat (first | (with_reducible first | exact HB.out | apply below_alloc | apply pw_below_drewN | apply below_drew1) | exact HB.out))) (fun k_ h_ => h_)) (below_size (by repeat (first | (with_reducible first | exact HB.out | apply below_alloc | apply pw_below_drewN | apply below_drew1) | exact HB.out)))); have n1_ := Aside0.mk (below_step (by repeat (first | (with_reducible first | exact HB.out | apply below_alloc | apply pw_below_drewN | apply below_drew1) | exact HB.out)) hb); clear HB; have HO107 := n0_; have HB := n1_; clear n0_ n1_; clear hb ho2) | ((with_reducible refine gate_dst (N := 12) rfl ?_); refine Kd.R_lit k52 _ 52 ?hg (N := 12) ?hd (xs := ([(⟨2, 2⟩ : S52), (⟨1, 0⟩ : S52), (⟨1, 0⟩ : S52), (⟨0, 4⟩ : S52), (⟨0, 4⟩ : S52)] : List (S52))) (inner := [.int .i64 2, .int .i64 2, .int .i64 1, .int .i64 0, .int .i64 1, .int .i64 0, .int .i64 0, .int .i64 4, .int .i64 0, .int .i64 4]) (ok := fun _ => True) (okp := fun _ => True) ?hr ?hp (fun _ hk => hk) trivial (Below.refl _ _) (Nat.le_refl _) (by simp) ?_; (case hd => rfl); (case hg => rfl); (case hr => first | (go_simp; done) | (go_simp; rfl)); (case hp => exact (Reps.c2 (show Kd.M k52 _ _ _ (⟨2, 2⟩ : S52) [.int .i64 2, .int .i64 2] from (k52_mkM _ _ _ (⟨2, 2⟩ : S52) )) (Reps.c2 (show Kd.M k52 _ _ _ (⟨1, 0⟩ : S52) [.int .i64 1, .int .i64 0] from (k52_mkM _ _ _ (⟨1, 0⟩ : S52) )) (Reps.c2 (show Kd.M k52 _ _ _ (⟨1, 0⟩ : S52) [.int .i64 1, .int .i64 0] from (k52_mkM _ _ _ (⟨1, 0⟩ : S52) )) (Reps.c2 (show Kd.M k52 _ _ _ (⟨0, 4⟩ : S52) [.int .i64 0, .int .i64 4] from (k52_mkM _ _ _ (⟨0, 4⟩ : S52) )) (Reps.c2 (show Kd.M k52 _ _ _ (⟨0, 4⟩ : S52) [.int .i64 0, .int .i64 4] from (k52_mkM _ _ _ (⟨0, 4⟩ : S52) )) (Reps.none _ _))))))); intro v109 w3 ho4 hb hg_ hnew_; clear hg_ hnew_; (first | rw [← Ny108.out] at ho4 | (simp only [Int.reduceToNat] at ho4; rw [← Ny108.out] at ho4)); have n0_ := Aside0.mk (Kd.R_elder' (by (with_reducible repeat (first | apply Kd.R_alloc | apply Kd.R_drewN | apply Kd.R_drew)); exact HO107.out) (Kd.R_base ho4) hb); have n1_ := Aside0.mk (Kd.R_lower (Kd.R_new' (Kd.R_newM (M := fun k_ => (w.heap.size ≤ k_)) ho4 (below_size (by repeat (first | (with_reducible first | exact HB.out | apply below_alloc | apply pw_below_drewN | apply below_drew1) | exact HB.out))) (fun k_ h_ => h_)) (Kd.R_lt (by (with_reducible repeat (first | apply Kd.R_alloc | apply Kd.R_drewN | apply Kd.R_drew)); exact HO107.out))) (below_size (by repeat (first | (with_reducible first | exact HB.out | apply below_alloc | apply pw_below_drewN | apply below_drew1) | exact HB.out)))); have n2_ := Aside0.mk (below_step (by repeat (first | (with_reducible first | exact HB.out | apply below_alloc | apply pw_below_drewN | apply below_drew1) | exact HB.out)) hb); clear HO107; clear HB; have HO107 := n0_; have HO110 := n1_; have HB := n2_; clear n0_ n1_ n2_; clear hb ho4) | ((with_reducible refine gate_dst (N := 18) rfl ?_); refine Kd.R_lit k52 _ 52 ?hg (N := 18) ?hd (xs := ([(⟨2, 0⟩ : S52), (⟨1, 1⟩ : S52), (⟨1, 1⟩ : S52), (⟨2, 0⟩ : S52), (⟨0, 4⟩ : S52)] : List (S52))) (inner := [.int .i64 2, .int .i64 0, .int .i64 1, .int .i64 1, .int .i64 1, .int .i64 1, .int .i64 2, .int .i64 0, .int .i64 0, .int .i64 4]) (ok := fun _ => True) (okp := fun _ => True) ?hr ?hp (fun _ hk => hk) trivial (Below.refl _ _) (Nat.le_refl _) (by simp) ?_; (case hd => rfl); (case hg => rfl); (case hr => first | (go_simp; done) | (go_simp; rfl)); (case hp => exact (Reps.c2 (show Kd.M k52 _ _ _ (⟨2, 0⟩ : S52) [.int .i64 2, .int .i64 0] from (k52_mkM _ _ _ (⟨2, 0⟩ : S52) )) (Reps.c2 (show Kd.M k52 _ _ _ (⟨1, 1⟩ : S52) [.int .i64 1, .int .i64 1] from (k52_mkM _ _ _ (⟨1, 1⟩ : S52) )) (Reps.c2 (show Kd.M k52 _ _ _ (⟨1, 1⟩ : S52) [.int .i64 1, .int .i64 1] from (k52_mkM _ _ _ (⟨1, 1⟩ : S52) )) (Reps.c2 (show Kd.M k52 _ _ _ (⟨2, 0⟩ : S52) [.int .i64 2, .int .i64 0] from (k52_mkM _ _ _ (⟨2, 0⟩ : S52) )) (Reps.c2 (show Kd.M k52 _ _ _ (⟨0, 4⟩ : S52) [.int .i64 0, .int .i64 4] from (k52_mkM _ _ _ (⟨0, 4⟩ : S52) )) (Reps.none _ _))))))); intro v112 w5 ho6 hb hg_ hnew_; clear hg_ hnew_; (first | rw [← Ny111.out] at ho6 | (simp only [Int.reduceToNat] at ho6; rw [← Ny111.out] at ho6)); have n0_ := Aside0.mk (Kd.R_elder' (by (with_reducible repeat (first | apply Kd.R_alloc | apply Kd.R_drewN | apply Kd.R_drew)); exact HO107.out) (Kd.R_base ho6) hb); have n1_ := Aside0.mk (Kd.R_elder' (by (with_reducible repeat (first | apply Kd.R_alloc | apply Kd.R_drewN | apply Kd.R_drew)); exact HO110.out) (Kd.R_base ho6) hb); have n2_ := Aside0.mk (Kd.R_lower (Kd.R_new' (Kd.R_new' (Kd.R_newM (M := fun k_ => (w.heap.size ≤ k_)) ho6 (below_size (by repeat (first | (with_reducible first | exact HB.out | apply below_alloc | apply pw_below_drewN | apply below_drew1) | exact HB.out))) (fun k_ h_ => h_)) (Kd.R_lt (by (with_reducible repeat (first | apply Kd.R_alloc | apply Kd.R_drewN | apply Kd.R_drew)); exact HO107.out))) (Kd.R_lt (by (with_reducible repeat (first | apply Kd.R_alloc | apply Kd.R_drewN | apply Kd.R_drew)); exact HO110.out))) (below_size (by repeat (first | (with_reducible first | exact HB.out | apply below_alloc | apply pw_below_drewN | apply below_drew1) | exact HB.out)))); have n3_ := Aside0.mk (below_step (by repeat (first | (with_reducible first | exact HB.out | apply below_alloc | apply pw_below_drewN | apply below_drew1) | exact HB.out)) hb); clear HO107; clear HO110; clear HB; have HO107 := n0_; have HO110 := n1_; have HO113 := n2_; have HB := n3_; clear n0_ n1_ n2_ n3_; clear hb ho6; obtain ⟨Ao7, co7, eo7⟩ := Kd.R_slice HO107.out; subst eo7; obtain ⟨Ao8, co8, eo8⟩ := Kd.R_slice HO110.out; subst eo8; obtain ⟨Ao9, co9, eo9⟩ := Kd.R_slice HO113.out; subst eo9) | ((with_reducible refine gate_dst (N := 19) rfl ?_); refine Kd.N_lit (Kd.slice 52 k52) _ 60 ?hg (N' := 19) ?hd (xs := ([y105, y108, y111] : List (List (S52)))) (inner := [.slice Ao7 y105.length co7, .slice Ao8 y108.length co8, .slice Ao9 y111.length co9]) (ok := (fun k_ => (w.heap.size ≤ k_))) (okp := (fun k_ => (w.heap.size ≤ k_))) ?hr ?hp (fun _ hk => hk) ((show ∀ k_, w5.heap.size ≤ k_ → (fun k_ => (w.heap.size ≤ k_)) k_ from fun k_ hk => (Nat.le_trans (below_size (by repeat (first | (with_reducible first | exact HB.out | apply below_alloc | apply pw_below_drewN | apply below_drew1) | exact HB.out))) hk)) _ (Nat.le_refl _)) (Below.refl _ _) (Nat.le_refl _) (by simp) ?_; (case hd => rfl); (case hg => rfl); (case hr => first | (go_simp; done) | (go_simp; rfl)); (case hp => exact (Reps.one (show Kd.FK (Kd.slice 52 k52) _ _ y105 [.slice Ao7 y105.length co7] from (Kd.FK_slice_mk (Kd.R_reads' (Kd.R_mono (ok' := (fun k_ => (w.heap.size ≤ k_))) (HO107.out) (fun k_ hk => hk.1.1.1))).2.1 (Kd.R_F (Kd.R_mono (ok' := (fun k_ => (w.heap.size ≤ k_))) (HO107.out) (fun k_ hk => hk.1.1.1))))) (Reps.one (show Kd.FK (Kd.slice 52 k52) _ _ y108 [.slice Ao8 y108.length co8] from (Kd.FK_slice_mk (Kd.R_reads' (Kd.R_mono (ok' := (fun k_ => (w.heap.size ≤ k_))) (HO110.out) (fun k_ hk => hk.1.1.1))).2.1 (Kd.R_F (Kd.R_mono (ok' := (fun k_ => (w.heap.size ≤ k_))) (HO110.out) (fun k_ hk => hk.1.1.1))))) (Reps.one (show Kd.FK (Kd.slice 52 k52) _ _ y111 [.slice Ao9 y111.length co9] from (Kd.FK_slice_mk (Kd.R_reads' (Kd.R_mono (ok' := (fun k_ => (w.heap.size ≤ k_))) (HO113.out) (fun k_ hk => hk.1.1.1))).2.1 (Kd.R_F (Kd.R_mono (ok' := (fun k_ => (w.heap.size ≤ k_))) (HO113.out) (fun k_ hk => hk.1.1.1))))) (Reps.none _ _))))); intro v115 w10 ho11 hb hg_ hnew_; clear hg_ hnew_; (first | rw [← Ny114.out] at ho11 | (simp only [Int.reduceToNat] at ho11; rw [← Ny114.out] at ho11)); have n0_ := Aside0.mk (Kd.N_lower ho11 (below_size (by repeat (first | (with_reducible first | exact HB.out | apply below_alloc | apply pw_below_drewN | apply below_drew1) | exact HB.out)))); have n1_ := Aside0.mk (below_step (by repeat (first | (with_reducible first | exact HB.out | apply below_alloc | apply pw_below_drewN | apply below_drew1) | exact HB.out)) hb); clear HB; clear HO107; clear HO110; clear HO113; have HO116 := n0_; have HB := n1_; clear n0_ n1_; clear hb ho11))
  go_ret
  exact ⟨_, by first | rfl | (simp [show ∀ l_ : List UInt8, (l_ == []) = l_.isEmpty from fun l_ => by cases l_ <;> rfl]; done) | (simp [errW_none, errW_some] <;> rfl) | ((repeat rw [Int.tdiv_eq_ediv_of_nonneg (by omega)]); (repeat rw [Int.tmod_eq_emod_of_nonneg (by omega)]); first | rfl | (simp [errW_none, errW_some] <;> rfl)) | (simp [*, errW_none, errW_some] <;> rfl), by (with_reducible repeat (first | apply Kd.N_alloc | apply Kd.N_drewN | apply Kd.N_drew)); exact HO116.out, by repeat (first | (with_reducible first | exact HB.out | apply below_alloc | apply pw_below_drewN | apply below_drew1) | exact HB.out)⟩

/-! ### regis_Reg_step: function 26 -/
def regis_Reg_step.f (s0_0 s0_1 s0_2 s0_3 a1 a2 : Int) : Option (Int × Int × Int × Int) :=
  (table_Registrar.f).bind fun t => (table_At.f t s0_1 a1).bind fun c => if (c.2.1 == 1) = true then some (s0_0, c.1, s0_2, wrap64 (a2 + 24)) else some (s0_0, c.1, s0_2, s0_3)
set_option maxHeartbeats 4000000 in
set_option maxRecDepth 100000 in
theorem regis_Reg_step.calls (g : Nat) (s0_0 : Int) (s0_1 : Int) (s0_2 : Int) (s0_3 : Int) (a1 : Int) (a2 : Int) (r1 : Int) (r2 : Int) (r3 : Int) (r4 : Int) (w0 w : World) (hI : IsS49 w0 w g s0_0 s0_1 s0_2 s0_3) (hB : Below w0.heap.size w0 w) (h : regis_Reg_step.f s0_0 s0_1 s0_2 s0_3 a1 a2 = some (r1, r2, r3, r4)) :
    Calls Try.prog 26 #[.pointer (some ⟨g, 0, none⟩), .int .i64 a1, .int .i64 a2] w fun e w' => e = .returned (.tuple #[]) ∧ IsS49 w0 w' g r1 r2 r3 r4 ∧ Below w0.heap.size w0 w' ∧ KeepBut w w' g none := by
  unfold regis_Reg_step.f at h
  obtain ⟨t, ht, h⟩ := Option.bind_eq_some_iff.mp h
  obtain ⟨⟨c1, c2, c3⟩, hc, h⟩ := Option.bind_eq_some_iff.mp h
  have hu := Try.underlying52
  have HT := Aside0.mk ht
  have HC := Aside0.mk hc
  have HH := Aside0.mk h
  have q1 := (blk_cell hI.1 1).trans rfl
  have HI := Aside0.mk hI
  have HB := Aside0.mk hB
  clear ht hc h hI hB
  go_enter Try.func26, Try.ntmps26
  go_wp2_with fail
  go_region_held3 (fun w' => w'.cell? ⟨g, 1, none⟩ = some (.int .i64 s0_1)) (first | go_keep | exact ((show Below w.heap.size w _ from (by repeat (first | exact HB2.out | exact HB1.out | apply below_alloc | apply below_drew1 | apply pw_below_drewN | exact Below.refl _ _ | (refine below_set ?_ (by first | exact Nat.le_refl _ | exact HB1.out.size | exact HB2.out.size | (simp only [World.heap_alloc_size]; omega)))))).cell (World.block_lt_of_cell? w _ q1)).trans q1)
    ((first | (go_at_call 30; refine (table_Registrar.calls t _ HT.out).mono ?_; rintro e w1 ⟨v0, rfl, hn, hb⟩; obtain ⟨A, cp, rfl, hle, hcc⟩ := Kd.N_reads hn; have HB1 := Aside0.mk (below_step (show Below w.heap.size w _ from (by repeat (first | exact HB2.out | exact HB1.out | apply below_alloc | apply below_drew1 | apply pw_below_drewN | exact Below.refl _ _ | (refine below_set ?_ (by first | exact Nat.le_refl _ | exact HB1.out.size | exact HB2.out.size | (simp only [World.heap_alloc_size]; omega)))))) hb); have HCC := Aside0.mk hcc; (try have HZ : Aside0 (w1.heap[w.heap.size]? = some (.cells #[.int .i64 0, .int .i64 0] 52)) := Aside0.mk (blk_below (w := (w.alloc (.cells #[.int .i64 0, .int .i64 0] 52)).drew) (heap_alloc_new w (.cells #[.int .i64 0, .int .i64 0] 52)) hb)); clear hn hb hcc) | (go_at_call 29; refine (table_At.calls A cp t s0_1 a1 c1 c2 c3 _ (Kd.C_below HCC.out (by repeat (first | exact Below.refl _ _ | apply below_alloc | apply below_drew1 | apply pw_below_drewN))) hle HC.out).mono ?_; rintro e w2 ⟨rfl, hb2⟩; have HB2 := Aside0.mk (below_step (show Below w.heap.size w _ from (by repeat (first | exact HB2.out | exact HB1.out | apply below_alloc | apply below_drew1 | apply pw_below_drewN | exact Below.refl _ _ | (refine below_set ?_ (by first | exact Nat.le_refl _ | exact HB1.out.size | exact HB2.out.size | (simp only [World.heap_alloc_size]; omega)))))) hb2); (first | (with_reducible have hz := blk_below (heap_alloc_new w1 (.cells #[.int .i64 0, .int .i64 0] 52)) hb2) | (with_reducible have hz := blk_below HZ.out hb2) | skip); (try (have cz0 := (blk_cell hz 0).trans rfl; have cz1 := (blk_cell hz 1).trans rfl; have fz0 := blk_frozen hz 0; have fz1 := blk_frozen hz 1)); clear hb2)))
  · obtain ⟨gc, hgc⟩ : ∃ gc, gc = w2.heap.size := ⟨_, rfl⟩
    obtain ⟨W, hW⟩ : ∃ W, W = w2.alloc (.cells #[.int .i64 c1, .int .i64 c2] 52) := ⟨_, rfl⟩
    have hb : Below w.heap.size w W := by rw [hW]; exact (by repeat (first | exact HB2.out | exact HB1.out | apply below_alloc | apply below_drew1 | apply pw_below_drewN | exact Below.refl _ _ | (refine below_set ?_ (by first | exact Nat.le_refl _ | exact HB1.out.size | exact HB2.out.size | (simp only [World.heap_alloc_size]; omega)))))
    have hge : w.heap.size ≤ gc := by rw [hgc]; exact HB2.out.size
    have hlt := IsS49.lt HI.out
    have hne : gc ≠ g := by omega
    have hne2 : g ≠ gc := by omega
    have cc0 : W.cell? ⟨gc, 0, none⟩ = some (.int .i64 c1) := by rw [hW, hgc]; exact (blk_cell (heap_alloc_new w2 (.cells #[.int .i64 c1, .int .i64 c2] 52)) 0).trans rfl
    have cc1 : W.cell? ⟨gc, 1, none⟩ = some (.int .i64 c2) := by rw [hW, hgc]; exact (blk_cell (heap_alloc_new w2 (.cells #[.int .i64 c1, .int .i64 c2] 52)) 1).trans rfl
    rw [← hW, ← hgc]
    have hI := IsS49.below HI.out hb
    have k1 := (blk_cell hI.1 1).trans rfl
    have k3 := (blk_cell hI.1 3).trans rfl
    have f1 := blk_frozen hI.1 1
    have f3 := blk_frozen hI.1 3
    have HIW := Aside0.mk hI
    have HBW := Aside0.mk hb
    have HGE := Aside0.mk hge
    clear hW hgc hI hb hge hlt q1
    by_cases cq : (c2 == 1) = true
    · have h := HH.out
      rw [if_pos cq] at h
      obtain ⟨rfl, rfl, rfl, rfl⟩ : s0_0 = r1 ∧ c1 = r2 ∧ s0_2 = r3 ∧ wrap64 (a2 + 24) = r4 := by simpa using h
      clear h
      go_wp2
      go_end0
      exact ⟨rfl, (HIW.out.set_1 c1).set_3 _, (below_step HB.out HBW.out |>.setCell HIW.out.2 _).setCell HIW.out.2 _, ((KeepBut.of_below HBW.out g none).set_ 1 _).set_ 3 _⟩
    · have cq : (c2 == 1) = false := Bool.eq_false_iff.mpr cq
      have h := HH.out
      rw [if_neg (by rw [cq]; decide)] at h
      obtain ⟨rfl, rfl, rfl, rfl⟩ : s0_0 = r1 ∧ c1 = r2 ∧ s0_2 = r3 ∧ s0_3 = r4 := by simpa using h
      clear h
      go_wp2
      go_end0
      exact ⟨rfl, HIW.out.set_1 c1, below_step HB.out HBW.out |>.setCell HIW.out.2 _, (KeepBut.of_below HBW.out g none).set_ 1 _⟩
  · obtain ⟨gc, hgc⟩ : ∃ gc, gc = w1.heap.size := ⟨_, rfl⟩
    obtain ⟨W, hW⟩ : ∃ W, W = (w2.setCell ⟨w1.heap.size, 0, none⟩ (.int .i64 c1)).setCell ⟨w1.heap.size, 1, none⟩ (.int .i64 c2) := ⟨_, rfl⟩
    have hb : Below w.heap.size w W := by rw [hW]; exact (by repeat (first | exact HB2.out | exact HB1.out | apply below_alloc | apply below_drew1 | apply pw_below_drewN | exact Below.refl _ _ | (refine below_set ?_ (by first | exact Nat.le_refl _ | exact HB1.out.size | exact HB2.out.size | (simp only [World.heap_alloc_size]; omega)))))
    have hge : w.heap.size ≤ gc := by rw [hgc]; exact HB1.out.size
    have hlt := IsS49.lt HI.out
    have hne : gc ≠ g := by omega
    have hne2 : g ≠ gc := by omega
    have cc0 : W.cell? ⟨gc, 0, none⟩ = some (.int .i64 c1) := by rw [hW, hgc]; exact (blk_cell (blk_set (blk_set hz 0 (.int .i64 c1)) 1 (.int .i64 c2)) 0).trans rfl
    have cc1 : W.cell? ⟨gc, 1, none⟩ = some (.int .i64 c2) := by rw [hW, hgc]; exact (blk_cell (blk_set (blk_set hz 0 (.int .i64 c1)) 1 (.int .i64 c2)) 1).trans rfl
    rw [← hW, ← hgc]
    have hI := IsS49.below HI.out hb
    have k1 := (blk_cell hI.1 1).trans rfl
    have k3 := (blk_cell hI.1 3).trans rfl
    have f1 := blk_frozen hI.1 1
    have f3 := blk_frozen hI.1 3
    have HIW := Aside0.mk hI
    have HBW := Aside0.mk hb
    have HGE := Aside0.mk hge
    clear hW hgc hI hb hge hlt q1
    by_cases cq : (c2 == 1) = true
    · have h := HH.out
      rw [if_pos cq] at h
      obtain ⟨rfl, rfl, rfl, rfl⟩ : s0_0 = r1 ∧ c1 = r2 ∧ s0_2 = r3 ∧ wrap64 (a2 + 24) = r4 := by simpa using h
      clear h
      go_wp2
      go_end0
      exact ⟨rfl, (HIW.out.set_1 c1).set_3 _, (below_step HB.out HBW.out |>.setCell HIW.out.2 _).setCell HIW.out.2 _, ((KeepBut.of_below HBW.out g none).set_ 1 _).set_ 3 _⟩
    · have cq : (c2 == 1) = false := Bool.eq_false_iff.mpr cq
      have h := HH.out
      rw [if_neg (by rw [cq]; decide)] at h
      obtain ⟨rfl, rfl, rfl, rfl⟩ : s0_0 = r1 ∧ c1 = r2 ∧ s0_2 = r3 ∧ s0_3 = r4 := by simpa using h
      clear h
      go_wp2
      go_end0
      exact ⟨rfl, HIW.out.set_1 c1, below_step HB.out HBW.out |>.setCell HIW.out.2 _, (KeepBut.of_below HBW.out g none).set_ 1 _⟩
  · obtain ⟨gc, hgc⟩ : ∃ gc, gc = w.heap.size := ⟨_, rfl⟩
    obtain ⟨W, hW⟩ : ∃ W, W = (w2.setCell ⟨w.heap.size, 0, none⟩ (.int .i64 c1)).setCell ⟨w.heap.size, 1, none⟩ (.int .i64 c2) := ⟨_, rfl⟩
    have hb : Below w.heap.size w W := by rw [hW]; exact (by repeat (first | exact HB2.out | exact HB1.out | apply below_alloc | apply below_drew1 | apply pw_below_drewN | exact Below.refl _ _ | (refine below_set ?_ (by first | exact Nat.le_refl _ | exact HB1.out.size | exact HB2.out.size | (simp only [World.heap_alloc_size]; omega)))))
    have hge : w.heap.size ≤ gc := by rw [hgc]; exact Nat.le_refl _
    have hlt := IsS49.lt HI.out
    have hne : gc ≠ g := by omega
    have hne2 : g ≠ gc := by omega
    have cc0 : W.cell? ⟨gc, 0, none⟩ = some (.int .i64 c1) := by rw [hW, hgc]; exact (blk_cell (blk_set (blk_set hz 0 (.int .i64 c1)) 1 (.int .i64 c2)) 0).trans rfl
    have cc1 : W.cell? ⟨gc, 1, none⟩ = some (.int .i64 c2) := by rw [hW, hgc]; exact (blk_cell (blk_set (blk_set hz 0 (.int .i64 c1)) 1 (.int .i64 c2)) 1).trans rfl
    rw [← hW, ← hgc]
    have hI := IsS49.below HI.out hb
    have k1 := (blk_cell hI.1 1).trans rfl
    have k3 := (blk_cell hI.1 3).trans rfl
    have f1 := blk_frozen hI.1 1
    have f3 := blk_frozen hI.1 3
    have HIW := Aside0.mk hI
    have HBW := Aside0.mk hb
    have HGE := Aside0.mk hge
    clear hW hgc hI hb hge hlt q1
    by_cases cq : (c2 == 1) = true
    · have h := HH.out
      rw [if_pos cq] at h
      obtain ⟨rfl, rfl, rfl, rfl⟩ : s0_0 = r1 ∧ c1 = r2 ∧ s0_2 = r3 ∧ wrap64 (a2 + 24) = r4 := by simpa using h
      clear h
      go_wp2
      go_end0
      exact ⟨rfl, (HIW.out.set_1 c1).set_3 _, (below_step HB.out HBW.out |>.setCell HIW.out.2 _).setCell HIW.out.2 _, ((KeepBut.of_below HBW.out g none).set_ 1 _).set_ 3 _⟩
    · have cq : (c2 == 1) = false := Bool.eq_false_iff.mpr cq
      have h := HH.out
      rw [if_neg (by rw [cq]; decide)] at h
      obtain ⟨rfl, rfl, rfl, rfl⟩ : s0_0 = r1 ∧ c1 = r2 ∧ s0_2 = r3 ∧ s0_3 = r4 := by simpa using h
      clear h
      go_wp2
      go_end0
      exact ⟨rfl, HIW.out.set_1 c1, below_step HB.out HBW.out |>.setCell HIW.out.2 _, (KeepBut.of_below HBW.out g none).set_ 1 _⟩


/-! ### regis_Reg_Hear: function 10 -/
mutual
def regis_Reg_Hear.j0 : Nat → Int → Int → Bool → Int → Bool → Int → Int → Int → Int → Option (Bool × Int × Int × Int × Int)
  | 0, _, _, _, _, _, _, _, _, _ => none
  | k + 1, x2, x3, x9, x14, x15, x1000, x1001, x1002, x1003 => if x15 = true then ((regis_old.f (mn x2 x3) x3).bind fun t122 => (if t122 = true then (regis_Reg_Hear.j1 k (mn x2 x3) x3 x9 false x1000 x1001 x1002 x1003) else (regis_Reg_Hear.j1 k (mn x2 x3) x3 x9 (decide ((mn x2 x3) ≥ 0)) x1000 x1001 x1002 x1003))) else (if x14 = 5 then ((regis_Reg_step.f x1000 x1001 x1002 x1003 1 x3).bind fun bt146 => ((regis_Reg_Has.f bt146.1 bt146.2.1 bt146.2.2.1 bt146.2.2.2).bind fun bt150 => (some ((bt150.1 != x9), bt150.2.1, bt150.2.2.1, bt150.2.2.2.1, bt150.2.2.2.2)))) else ((regis_Reg_Has.f x1000 x1001 x1002 x1003).bind fun bt155 => (some ((bt155.1 != x9), bt155.2.1, bt155.2.2.1, bt155.2.2.2.1, bt155.2.2.2.2))))
def regis_Reg_Hear.j1 : Nat → Int → Int → Bool → Bool → Int → Int → Int → Int → Option (Bool × Int × Int × Int × Int)
  | 0, _, _, _, _, _, _, _, _ => none
  | k + 1, x2, x3, x9, x29, x1000, x1001, x1002, x1003 => if x29 = true then (if x1001 = 0 then ((regis_Reg_step.f x1000 x1001 (mx x2 x2) x1003 0 x3).bind fun bt123 => ((regis_Reg_Has.f bt123.1 bt123.2.1 bt123.2.2.1 bt123.2.2.2).bind fun bt127 => (some ((bt127.1 != x9), bt127.2.1, bt127.2.2.1, bt127.2.2.2.1, bt127.2.2.2.2)))) else ((regis_Reg_step.f x1000 x1001 (mx x1002 x2) x1003 0 x3).bind fun bt132 => ((regis_Reg_Has.f bt132.1 bt132.2.1 bt132.2.2.1 bt132.2.2.2).bind fun bt136 => (some ((bt136.1 != x9), bt136.2.1, bt136.2.2.1, bt136.2.2.2.1, bt136.2.2.2.2))))) else ((regis_Reg_Has.f x1000 x1001 x1002 x1003).bind fun bt141 => (some ((bt141.1 != x9), bt141.2.1, bt141.2.2.1, bt141.2.2.2.1, bt141.2.2.2.2)))
end
def regis_Reg_Hear.f (k : Nat) (s0_0 : Int) (s0_1 : Int) (s0_2 : Int) (s0_3 : Int) (a1 : Int) (a2 : Int) (a3 : Int) : Option (Bool × Int × Int × Int × Int) := (regis_Reg_Has.f s0_0 s0_1 s0_2 s0_3).bind fun bt117 => (if a1 = 0 then (regis_Reg_Hear.j0 k a2 a3 bt117.1 a1 (a1 == 0) bt117.2.1 bt117.2.2.1 bt117.2.2.2.1 bt117.2.2.2.2) else (if a1 = 1 then (regis_Reg_Hear.j0 k a2 a3 bt117.1 a1 (a1 == 1) bt117.2.1 bt117.2.2.1 bt117.2.2.2.1 bt117.2.2.2.2) else (regis_Reg_Hear.j0 k a2 a3 bt117.1 a1 (a1 == 3) bt117.2.1 bt117.2.2.1 bt117.2.2.2.1 bt117.2.2.2.2)))
theorem regis_Reg_Hear.mono_l : ∀ k, (∀ y0 y1 y2 y3 y4 y5 y6 y7 y8, LeO (regis_Reg_Hear.j0 k y0 y1 y2 y3 y4 y5 y6 y7 y8) (regis_Reg_Hear.j0 (k + 1) y0 y1 y2 y3 y4 y5 y6 y7 y8)) ∧ (∀ y0 y1 y2 y3 y4 y5 y6 y7, LeO (regis_Reg_Hear.j1 k y0 y1 y2 y3 y4 y5 y6 y7) (regis_Reg_Hear.j1 (k + 1) y0 y1 y2 y3 y4 y5 y6 y7))
  | 0 => ⟨fun _ _ _ _ _ _ _ _ _ r h => by simp [regis_Reg_Hear.j0] at h, fun _ _ _ _ _ _ _ _ r h => by simp [regis_Reg_Hear.j1] at h⟩
  | k + 1 => by
    obtain ⟨ih0, ih1⟩ := regis_Reg_Hear.mono_l k
    refine ⟨?_, ?_⟩
    · intro y0 y1 y2 y3 y4 y5 y6 y7 y8
      unfold regis_Reg_Hear.j0
      repeat' first
      | (with_reducible exact ih0 _ _ _ _ _ _ _ _ _)
      | (with_reducible exact ih1 _ _ _ _ _ _ _ _)
      | (with_reducible exact LeO.refl _)
      | (with_reducible exact LeO.none _)
      | (with_reducible refine LeO.ite ?_ ?_)
      | (with_reducible refine LeO.bind ?_ (fun _ => ?_))
      | exact ih0 _ _ _ _ _ _ _ _ _
      | exact ih1 _ _ _ _ _ _ _ _
      | exact LeO.none _
      | refine LeO.ite ?_ ?_
      | refine LeO.bind ?_ (fun _ => ?_)
    · intro y0 y1 y2 y3 y4 y5 y6 y7
      unfold regis_Reg_Hear.j1
      repeat' first
      | (with_reducible exact ih0 _ _ _ _ _ _ _ _ _)
      | (with_reducible exact ih1 _ _ _ _ _ _ _ _)
      | (with_reducible exact LeO.refl _)
      | (with_reducible exact LeO.none _)
      | (with_reducible refine LeO.ite ?_ ?_)
      | (with_reducible refine LeO.bind ?_ (fun _ => ?_))
      | exact ih0 _ _ _ _ _ _ _ _ _
      | exact ih1 _ _ _ _ _ _ _ _
      | exact LeO.none _
      | refine LeO.ite ?_ ?_
      | refine LeO.bind ?_ (fun _ => ?_)
theorem regis_Reg_Hear.mono : ∀ a0 a1 a2 a3 a4 a5 a6 k, LeO (regis_Reg_Hear.f k a0 a1 a2 a3 a4 a5 a6) (regis_Reg_Hear.f (k + 1) a0 a1 a2 a3 a4 a5 a6) := by
  intro a0 a1 a2 a3 a4 a5 a6 k
  obtain ⟨ih0, ih1⟩ := regis_Reg_Hear.mono_l k
  unfold regis_Reg_Hear.f
  repeat' first
      | (with_reducible exact ih0 _ _ _ _ _ _ _ _ _)
      | (with_reducible exact ih1 _ _ _ _ _ _ _ _)
      | (with_reducible exact LeO.refl _)
      | (with_reducible exact LeO.none _)
      | (with_reducible refine LeO.ite ?_ ?_)
      | (with_reducible refine LeO.bind ?_ (fun _ => ?_))
      | exact ih0 _ _ _ _ _ _ _ _ _
      | exact ih1 _ _ _ _ _ _ _ _
      | exact LeO.none _
      | refine LeO.ite ?_ ?_
      | refine LeO.bind ?_ (fun _ => ?_)
set_option maxHeartbeats 8000000 in
set_option maxRecDepth 100000 in
theorem regis_Reg_Hear.calls (k : Nat) (g : Nat) (s0_0 : Int) (s0_1 : Int) (s0_2 : Int) (s0_3 : Int) (a1 : Int) (a2 : Int) (a3 : Int) (r1 : Bool) (r2 : Int) (r3 : Int) (r4 : Int) (r5 : Int) (w0 w : World) (hI : IsS49 w0 w g s0_0 s0_1 s0_2 s0_3) (hB : Below w0.heap.size w0 w) (h : regis_Reg_Hear.f k s0_0 s0_1 s0_2 s0_3 a1 a2 a3 = some (r1, r2, r3, r4, r5)) :
    Calls Try.prog 10 #[.pointer (some ⟨g, 0, none⟩), .int .i64 a1, .int .i64 a2, .int .i64 a3] w fun e w' => e = .returned (.bool r1) ∧ IsS49 w0 w' g r2 r3 r4 r5 ∧ Below w0.heap.size w0 w' ∧ KeepBut w w' g none := by
  have HI0 := Aside0.mk hI
  have HK := Aside0.mk (KeepBut.refl w g none)
  have HL := Aside0.mk hB.size
  clear hI
  have HW0 := Aside0.mk hB.size
  have HB := Aside0.mk hB
  clear hB
  have H : ((regis_Reg_Has.f s0_0 s0_1 s0_2 s0_3).bind fun bt117 => (if a1 = 0 then (regis_Reg_Hear.j0 k a2 a3 bt117.1 a1 (a1 == 0) bt117.2.1 bt117.2.2.1 bt117.2.2.2.1 bt117.2.2.2.2) else (if a1 = 1 then (regis_Reg_Hear.j0 k a2 a3 bt117.1 a1 (a1 == 1) bt117.2.1 bt117.2.2.1 bt117.2.2.2.1 bt117.2.2.2.2) else (regis_Reg_Hear.j0 k a2 a3 bt117.1 a1 (a1 == 3) bt117.2.1 bt117.2.2.1 bt117.2.2.2.1 bt117.2.2.2.2)))) = some (r1, r2, r3, r4, r5) := h
  clear h
  replace H := Option.bind_eq_some_iff.mp H
  obtain ⟨⟨t117, t118, t119, t120, t121⟩, A50, H⟩ := H
  replace H : (if a1 = 0 then (regis_Reg_Hear.j0 k a2 a3 t117 a1 (a1 == 0) t118 t119 t120 t121) else (if a1 = 1 then (regis_Reg_Hear.j0 k a2 a3 t117 a1 (a1 == 1) t118 t119 t120 t121) else (regis_Reg_Hear.j0 k a2 a3 t117 a1 (a1 == 3) t118 t119 t120 t121))) = some (r1, r2, r3, r4, r5) := H
  have A5 := Aside0.mk A50
  clear A50
  have HC6 := Aside0.mk H
  clear H
  go_enter Try.func10, Try.ntmps10
  go_upto_if 15 with (first | ((with_reducible refine gate_callee (f := 12) rfl ?_); refine goesL_ (some 13) rfl rfl Try.func12 (by kernel_rfl) rfl #[.pointer (some ⟨g, 0, none⟩)] rfl (by (try simp only [List.map_toArray, List.map_cons, List.map_nil]); first | done | rfl | (simp only [List.length_drop, List.length_take]; rfl) | (go_simp; first | done | (unfold wrap64; omega))) ?_; (with_reducible refine (regis_Reg_Has.calls g s0_0 s0_1 s0_2 s0_3 t117 t118 t119 t120 t121 w0 _ ?side1 ?side2 A5.out).mono ?_); (case side1 => repeat (first | (with_reducible first | exact HI0.out | apply IsS49.alloc | apply IsS49.drewN | apply IsS49.drew | apply IsS49.set_0 | apply IsS49.set_1 | apply IsS49.set_2 | apply IsS49.set_3) | exact HI0.out)); (case side2 => repeat (first | (with_reducible first | exact HB.out | apply below_alloc | apply pw_below_drewN | apply below_drew1 | refine below_set ?_ (IsS49.ge HI0.out)) | exact HB.out)); rintro e w7 ⟨rfl, hi, hb, hk⟩; refine ⟨_, rfl, ?_⟩; have n0_ := Aside0.mk (KeepBut.trans (by repeat (first | (with_reducible first | exact HK.out | apply KeepBut.set_ | apply keep_drewN | apply keep_drew | apply keep_alloc) | exact HK.out)) hk (.inl rfl)); have n1_ := Aside0.mk (hb); have n2_ := Aside0.mk (hi); clear HK; clear HB; clear HI0; have HK := n0_; have HB := n1_; have HI0 := n2_; clear n0_ n1_ n2_; (try clear hb); (try clear hb2); (try clear hk); (try clear hi)))
  (try simp only [Act.put, List.setIfInBounds_toArray, List.set_cons_zero, List.set_cons_succ])
  go_cut [15] (fun v15 wc => ∃ (kq : Nat) (x15_5 : Bool), v15 = .bool x15_5 ∧ Aside0 (regis_Reg_Hear.j0 kq a2 a3 t117 a1 x15_5 t118 t119 t120 t121 = some (r1, r2, r3, r4, r5)) ∧ Aside0 (kq ≤ k) ∧ Aside0 (IsS49 w0 wc g t118 t119 t120 t121) ∧ Aside0 (KeepBut w wc g none) ∧ Aside0 (Below w0.heap.size w0 wc))
  case first =>
    have H := HC6.out
    clear HC6
    by_cases c8 : a1 = 0
    · rw [if_pos c8] at H
      have c8b0 : (a1 == 0) = true := beq_iff_eq.mpr c8
      have c8b1 : (a1 != 0) = false := bne_eq_false_iff_eq.mpr c8
      clear c8
      (first | rw [c8b0] | (simp only [i64_w, i32_w]; rw [c8b0]) | skip)
      have H' := Aside0.mk H
      clear H
      go_wp2
      go_meet
      case rel => exact ⟨_, ((a1 == 0)), (by first | rfl | (simp; done) | (simp [show ∀ l_ : List UInt8, (l_ != []) = !l_.isEmpty from fun l_ => by cases l_ <;> rfl]; done) | (simp [*]; done)), H', ⟨by first | omega | exact Nat.le_refl _⟩, ⟨by repeat (first | (with_reducible first | exact HI0.out | apply IsS49.alloc | apply IsS49.drewN | apply IsS49.drew | apply IsS49.set_0 | apply IsS49.set_1 | apply IsS49.set_2 | apply IsS49.set_3) | exact HI0.out)⟩, ⟨by repeat (first | (with_reducible first | exact HK.out | apply KeepBut.set_ | apply keep_drewN | apply keep_drew | apply keep_alloc) | exact HK.out)⟩, ⟨by repeat (first | (with_reducible first | exact HB.out | apply below_alloc | apply pw_below_drewN | apply below_drew1 | refine below_set ?_ (IsS49.ge HI0.out)) | exact HB.out)⟩⟩
    · rw [if_neg c8] at H
      have c8b0 : (a1 == 0) = false := beq_eq_false_iff_ne.mpr c8
      have c8b1 : (a1 != 0) = true := bne_iff_ne.mpr c8
      (first | rw [c8b0] | (simp only [i64_w, i32_w]; rw [c8b0]) | skip)
      by_cases c9 : a1 = 1
      · rw [if_pos c9] at H
        have c9b0 : (a1 == 1) = true := beq_iff_eq.mpr c9
        have c9b1 : (a1 != 1) = false := bne_eq_false_iff_eq.mpr c9
        clear c9
        have H' := Aside0.mk H
        clear H
        go_wp2
        go_meet
        case rel => exact ⟨_, ((a1 == 1)), (by first | rfl | (simp; done) | (simp [show ∀ l_ : List UInt8, (l_ != []) = !l_.isEmpty from fun l_ => by cases l_ <;> rfl]; done) | (simp [*]; done)), H', ⟨by first | omega | exact Nat.le_refl _⟩, ⟨by repeat (first | (with_reducible first | exact HI0.out | apply IsS49.alloc | apply IsS49.drewN | apply IsS49.drew | apply IsS49.set_0 | apply IsS49.set_1 | apply IsS49.set_2 | apply IsS49.set_3) | exact HI0.out)⟩, ⟨by repeat (first | (with_reducible first | exact HK.out | apply KeepBut.set_ | apply keep_drewN | apply keep_drew | apply keep_alloc) | exact HK.out)⟩, ⟨by repeat (first | (with_reducible first | exact HB.out | apply below_alloc | apply pw_below_drewN | apply below_drew1 | refine below_set ?_ (IsS49.ge HI0.out)) | exact HB.out)⟩⟩
      · rw [if_neg c9] at H
        have c9b0 : (a1 == 1) = false := beq_eq_false_iff_ne.mpr c9
        have c9b1 : (a1 != 1) = true := bne_iff_ne.mpr c9
        have H' := Aside0.mk H
        clear H
        go_wp2
        go_meet
        case rel => exact ⟨_, ((a1 == 3)), (by first | rfl | (simp; done) | (simp [show ∀ l_ : List UInt8, (l_ != []) = !l_.isEmpty from fun l_ => by cases l_ <;> rfl]; done) | (simp [*]; done)), H', ⟨by first | omega | exact Nat.le_refl _⟩, ⟨by repeat (first | (with_reducible first | exact HI0.out | apply IsS49.alloc | apply IsS49.drewN | apply IsS49.drew | apply IsS49.set_0 | apply IsS49.set_1 | apply IsS49.set_2 | apply IsS49.set_3) | exact HI0.out)⟩, ⟨by repeat (first | (with_reducible first | exact HK.out | apply KeepBut.set_ | apply keep_drewN | apply keep_drew | apply keep_alloc) | exact HK.out)⟩, ⟨by repeat (first | (with_reducible first | exact HB.out | apply below_alloc | apply pw_below_drewN | apply below_drew1 | refine below_set ?_ (IsS49.ge HI0.out)) | exact HB.out)⟩⟩
  case rest =>
    clear HC6
    try clear c1
    try clear p2
    try clear p6
    try clear c8
    try clear c8b0
    try clear c8b1
    try clear c9
    try clear c9b0
    try clear c9b1
    obtain ⟨kq, x15_5, rfl, HA, HJ5, HI0, HK, HB⟩ := hcut
    cases kq with
    | zero => exact absurd HA.out (by simp [regis_Reg_Hear.j0])
    | succ kj5 =>
      have H := HA.out
      clear HA
      simp only [regis_Reg_Hear.j0] at H
      by_cases c10 : x15_5 = true
      · subst c10
        have H1 : ((regis_old.f (mn a2 a3) a3).bind fun t122 => (if t122 = true then (regis_Reg_Hear.j1 kj5 (mn a2 a3) a3 t117 false t118 t119 t120 t121) else (regis_Reg_Hear.j1 kj5 (mn a2 a3) a3 t117 (decide ((mn a2 a3) ≥ 0)) t118 t119 t120 t121))) = some (r1, r2, r3, r4, r5) := by rw [if_pos rfl] at H; exact H
        clear H
        have H := H1
        clear H1
        obtain ⟨ji11, hji11⟩ : ∃ j_ : Int, (mn a2 a3) = j_ := ⟨_, rfl⟩
        replace H : ((regis_old.f (ji11) a3).bind fun t122 => (if t122 = true then (regis_Reg_Hear.j1 kj5 ji11 a3 t117 false t118 t119 t120 t121) else (regis_Reg_Hear.j1 kj5 ji11 a3 t117 (decide ((ji11) ≥ 0)) t118 t119 t120 t121))) = some (r1, r2, r3, r4, r5) := by first | (rw [hji11] at H; exact H) | (simp only [hji11] at H ⊢; exact H)
        have hji11_ : (if a3 < a2 then a3 else a2) = ji11 := hji11
        have HC12 := Aside0.mk H
        clear H
        go_upto_region 9 with (fail)
        go_cut [29] (fun v29 wc => ∃ (kq : Nat) (x29_11 : Bool), v29 = .bool x29_11 ∧ Aside0 (regis_Reg_Hear.j1 kq ji11 a3 t117 x29_11 t118 t119 t120 t121 = some (r1, r2, r3, r4, r5)) ∧ Aside0 (kq ≤ kj5) ∧ Aside0 (IsS49 w0 wc g t118 t119 t120 t121) ∧ Aside0 (KeepBut w wc g none) ∧ Aside0 (Below w0.heap.size w0 wc))
        case first =>
          have H := HC12.out
          clear HC12
          replace H := Option.bind_eq_some_iff.mp H
          obtain ⟨t122, A130, H⟩ := H
          replace H : (if t122 = true then (regis_Reg_Hear.j1 kj5 ji11 a3 t117 false t118 t119 t120 t121) else (regis_Reg_Hear.j1 kj5 ji11 a3 t117 (decide ((ji11) ≥ 0)) t118 t119 t120 t121)) = some (r1, r2, r3, r4, r5) := H
          have A13 := Aside0.mk A130
          clear A130
          by_cases c14 : t122 = true
          · subst c14
            have H1 : (regis_Reg_Hear.j1 kj5 ji11 a3 t117 false t118 t119 t120 t121) = some (r1, r2, r3, r4, r5) := by rw [if_pos rfl] at H; exact H
            clear H
            have H := H1
            clear H1
            have H' := Aside0.mk H
            clear H
            go_wp2_with (first | ((with_reducible refine gate_callee (f := 25) rfl ?_); refine goesL_ (some 24) rfl rfl Try.func25 (by kernel_rfl) rfl #[.int .i64 ji11, .int .i64 a3] rfl (by (try simp only [List.map_toArray, List.map_cons, List.map_nil]); first | done | (simp only [hji11]; rfl) | rfl | (simp only [List.length_drop, List.length_take]; rfl) | (go_simp; first | done | (unfold wrap64; omega))) ?_; (with_reducible refine (regis_old.calls ji11 a3 true _ A13.out).mono ?_); rintro e w' ⟨rfl, ⟨nd, rfl⟩⟩; refine ⟨_, rfl, ?_⟩))
            go_meet
            case rel => exact ⟨_, (false), (by first | rfl | (simp; done) | (simp [show ∀ l_ : List UInt8, (l_ != []) = !l_.isEmpty from fun l_ => by cases l_ <;> rfl]; done) | (simp [*]; done)), H', ⟨by have := HJ5.out; first | omega | exact Nat.le_refl _⟩, ⟨by repeat (first | (with_reducible first | exact HI0.out | apply IsS49.alloc | apply IsS49.drewN | apply IsS49.drew | apply IsS49.set_0 | apply IsS49.set_1 | apply IsS49.set_2 | apply IsS49.set_3) | exact HI0.out)⟩, ⟨by repeat (first | (with_reducible first | exact HK.out | apply KeepBut.set_ | apply keep_drewN | apply keep_drew | apply keep_alloc) | exact HK.out)⟩, ⟨by repeat (first | (with_reducible first | exact HB.out | apply below_alloc | apply pw_below_drewN | apply below_drew1 | refine below_set ?_ (IsS49.ge HI0.out)) | exact HB.out)⟩⟩
          · replace c14 := Bool.eq_false_iff.mpr c14
            subst c14
            have H1 : (regis_Reg_Hear.j1 kj5 ji11 a3 t117 (decide ((ji11) ≥ 0)) t118 t119 t120 t121) = some (r1, r2, r3, r4, r5) := by rw [if_neg (show ¬ (false = true) by decide)] at H; exact H
            clear H
            have H := H1
            clear H1
            have H' := Aside0.mk H
            clear H
            go_wp2_with (first | ((with_reducible refine gate_callee (f := 25) rfl ?_); refine goesL_ (some 24) rfl rfl Try.func25 (by kernel_rfl) rfl #[.int .i64 ji11, .int .i64 a3] rfl (by (try simp only [List.map_toArray, List.map_cons, List.map_nil]); first | done | (simp only [hji11]; rfl) | rfl | (simp only [List.length_drop, List.length_take]; rfl) | (go_simp; first | done | (unfold wrap64; omega))) ?_; (with_reducible refine (regis_old.calls ji11 a3 false _ A13.out).mono ?_); rintro e w' ⟨rfl, ⟨nd, rfl⟩⟩; refine ⟨_, rfl, ?_⟩))
            go_meet
            case rel => exact ⟨_, (decide ((ji11) ≥ 0)), (by first | rfl | (simp; done) | (simp only [← hji11] <;> (first | rfl | simp)) | (simp [*]; done)), H', ⟨by have := HJ5.out; first | omega | exact Nat.le_refl _⟩, ⟨by repeat (first | (with_reducible first | exact HI0.out | apply IsS49.alloc | apply IsS49.drewN | apply IsS49.drew | apply IsS49.set_0 | apply IsS49.set_1 | apply IsS49.set_2 | apply IsS49.set_3) | exact HI0.out)⟩, ⟨by repeat (first | (with_reducible first | exact HK.out | apply KeepBut.set_ | apply keep_drewN | apply keep_drew | apply keep_alloc) | exact HK.out)⟩, ⟨by repeat (first | (with_reducible first | exact HB.out | apply below_alloc | apply pw_below_drewN | apply below_drew1 | refine below_set ?_ (IsS49.ge HI0.out)) | exact HB.out)⟩⟩
        case rest =>
          clear HC12
          try clear c1
          try clear c2
          try clear p2
          try clear p6
          try clear c8
          try clear c8b0
          try clear c8b1
          try clear c9
          try clear c9b0
          try clear c9b1
          try clear c10
          try clear c12
          try clear c14
          try clear p2
          try clear p6
          obtain ⟨kq, x29_11, rfl, HA, HJ11, HI0, HK, HB⟩ := hcut
          cases kq with
          | zero => exact absurd HA.out (by simp [regis_Reg_Hear.j1])
          | succ kj11 =>
            have H := HA.out
            clear HA
            simp only [regis_Reg_Hear.j1] at H
            by_cases c15 : x29_11 = true
            · subst c15
              have H1 : (if t119 = 0 then ((regis_Reg_step.f t118 t119 (mx ji11 ji11) t121 0 a3).bind fun bt123 => ((regis_Reg_Has.f bt123.1 bt123.2.1 bt123.2.2.1 bt123.2.2.2).bind fun bt127 => (some ((bt127.1 != t117), bt127.2.1, bt127.2.2.1, bt127.2.2.2.1, bt127.2.2.2.2)))) else ((regis_Reg_step.f t118 t119 (mx t120 ji11) t121 0 a3).bind fun bt132 => ((regis_Reg_Has.f bt132.1 bt132.2.1 bt132.2.2.1 bt132.2.2.2).bind fun bt136 => (some ((bt136.1 != t117), bt136.2.1, bt136.2.2.1, bt136.2.2.2.1, bt136.2.2.2.2))))) = some (r1, r2, r3, r4, r5) := by rw [if_pos rfl] at H; exact H
              clear H
              have H := H1
              clear H1
              by_cases c16 : t119 = 0
              · rw [if_pos c16] at H
                have c16b0 : (t119 == 0) = true := beq_iff_eq.mpr c16
                have c16b1 : (t119 != 0) = false := bne_eq_false_iff_eq.mpr c16
                clear c16
                have hji17 : (mx ji11 ji11) = ji11 := by unfold mx; simp
                replace H : ((regis_Reg_step.f t118 t119 (ji11) t121 0 a3).bind fun bt123 => ((regis_Reg_Has.f bt123.1 bt123.2.1 bt123.2.2.1 bt123.2.2.2).bind fun bt127 => (some ((bt127.1 != t117), bt127.2.1, bt127.2.2.1, bt127.2.2.2.1, bt127.2.2.2.2)))) = some (r1, r2, r3, r4, r5) := by first | (rw [hji17] at H; exact H) | (simp only [hji17] at H ⊢; exact H)
                have hji17_ : (if ji11 < ji11 then ji11 else ji11) = ji11 := hji17
                replace H := Option.bind_eq_some_iff.mp H
                obtain ⟨⟨t123, t124, t125, t126⟩, A180, H⟩ := H
                replace H : ((regis_Reg_Has.f t123 t124 t125 t126).bind fun bt127 => (some ((bt127.1 != t117), bt127.2.1, bt127.2.2.1, bt127.2.2.2.1, bt127.2.2.2.2))) = some (r1, r2, r3, r4, r5) := H
                have A18 := Aside0.mk A180
                clear A180
                replace H := Option.bind_eq_some_iff.mp H
                obtain ⟨⟨t127, t128, t129, t130, t131⟩, A190, H⟩ := H
                replace H : (some ((t127 != t117), t128, t129, t130, t131)) = some (r1, r2, r3, r4, r5) := H
                have A19 := Aside0.mk A190
                clear A190
                simp only [Option.some.injEq, Prod.mk.injEq] at H
                obtain ⟨rfl, rfl, rfl, rfl, rfl⟩ := H
                obtain ⟨HGz20, hgz20⟩ := HI0.out
                have hcz20_0 := cellS49_0 HGz20
                have hcz20_1 := cellS49_1 HGz20
                have hcz20_2 := cellS49_2 HGz20
                have hcz20_3 := cellS49_3 HGz20
                have hfz20_0 := blk_frozen HGz20 0
                have hfz20_1 := blk_frozen HGz20 1
                have hfz20_2 := blk_frozen HGz20 2
                have hfz20_3 := blk_frozen HGz20 3
                clear HGz20 hgz20
                go_wp2_with (first | ((with_reducible refine gate_callee (f := 26) rfl ?_); refine goesL_ (some 50) rfl rfl Try.func26 (by kernel_rfl) rfl #[.pointer (some ⟨g, 0, none⟩), .int .i64 0, .int .i64 a3] rfl (by (try simp only [List.map_toArray, List.map_cons, List.map_nil]); first | done | rfl | (simp only [List.length_drop, List.length_take]; rfl) | (go_simp; first | done | (unfold wrap64; omega))) ?_; (with_reducible refine (regis_Reg_step.calls g t118 t119 ji11 t121 0 a3 t123 t124 t125 t126 w0 _ ?side1 ?side2 A18.out).mono ?_); (case side1 => repeat (first | (with_reducible first | exact HI0.out | apply IsS49.alloc | apply IsS49.drewN | apply IsS49.drew | apply IsS49.set_0 | apply IsS49.set_1 | apply IsS49.set_2 | apply IsS49.set_3) | exact HI0.out)); (case side2 => repeat (first | (with_reducible first | exact HB.out | apply below_alloc | apply pw_below_drewN | apply below_drew1 | refine below_set ?_ (IsS49.ge HI0.out)) | exact HB.out)); rintro e w21 ⟨rfl, hi, hb, hk⟩; refine ⟨_, rfl, ?_⟩; have n0_ := Aside0.mk (KeepBut.trans (by repeat (first | (with_reducible first | exact HK.out | apply KeepBut.set_ | apply keep_drewN | apply keep_drew | apply keep_alloc) | exact HK.out)) hk (.inl rfl)); have n1_ := Aside0.mk (hb); have n2_ := Aside0.mk (hi); clear HK; clear HB; clear HI0; have HK := n0_; have HB := n1_; have HI0 := n2_; clear n0_ n1_ n2_; (try clear hb); (try clear hb2); (try clear hk); (try clear hi)) | ((with_reducible refine gate_callee (f := 12) rfl ?_); refine goesL_ (some 57) rfl rfl Try.func12 (by kernel_rfl) rfl #[.pointer (some ⟨g, 0, none⟩)] rfl (by (try simp only [List.map_toArray, List.map_cons, List.map_nil]); first | done | rfl | (simp only [List.length_drop, List.length_take]; rfl) | (go_simp; first | done | (unfold wrap64; omega))) ?_; (with_reducible refine (regis_Reg_Has.calls g t123 t124 t125 t126 t127 t128 t129 t130 t131 w0 _ ?side1 ?side2 A19.out).mono ?_); (case side1 => repeat (first | (with_reducible first | exact HI0.out | apply IsS49.alloc | apply IsS49.drewN | apply IsS49.drew | apply IsS49.set_0 | apply IsS49.set_1 | apply IsS49.set_2 | apply IsS49.set_3) | exact HI0.out)); (case side2 => repeat (first | (with_reducible first | exact HB.out | apply below_alloc | apply pw_below_drewN | apply below_drew1 | refine below_set ?_ (IsS49.ge HI0.out)) | exact HB.out)); rintro e w22 ⟨rfl, hi, hb, hk⟩; refine ⟨_, rfl, ?_⟩; have n0_ := Aside0.mk (KeepBut.trans (by repeat (first | (with_reducible first | exact HK.out | apply KeepBut.set_ | apply keep_drewN | apply keep_drew | apply keep_alloc) | exact HK.out)) hk (.inl rfl)); have n1_ := Aside0.mk (hb); have n2_ := Aside0.mk (hi); clear HK; clear HB; clear HI0; have HK := n0_; have HB := n1_; have HI0 := n2_; clear n0_ n1_ n2_; (try clear hb); (try clear hb2); (try clear hk); (try clear hi)))
                go_ret
                exact ⟨by first | rfl | (simp [show ∀ l_ : List UInt8, (l_ == []) = l_.isEmpty from fun l_ => by cases l_ <;> rfl]; done) | (simp [errW_none, errW_some] <;> rfl) | (simp only [← hji11]; first | rfl | (simp [errW_none, errW_some] <;> rfl)) | ((repeat rw [Int.tdiv_eq_ediv_of_nonneg (by omega)]); (repeat rw [Int.tmod_eq_emod_of_nonneg (by omega)]); first | rfl | (simp [errW_none, errW_some] <;> rfl)) | (simp [*, errW_none, errW_some] <;> rfl), by repeat (first | (with_reducible first | exact HI0.out | apply IsS49.alloc | apply IsS49.drewN | apply IsS49.drew | apply IsS49.set_0 | apply IsS49.set_1 | apply IsS49.set_2 | apply IsS49.set_3) | exact HI0.out), by repeat (first | (with_reducible first | exact HB.out | apply below_alloc | apply pw_below_drewN | apply below_drew1 | refine below_set ?_ (IsS49.ge HI0.out)) | exact HB.out), by repeat (first | (with_reducible first | exact HK.out | apply KeepBut.set_ | apply keep_drewN | apply keep_drew | apply keep_alloc) | exact HK.out)⟩
              · rw [if_neg c16] at H
                have c16b0 : (t119 == 0) = false := beq_eq_false_iff_ne.mpr c16
                have c16b1 : (t119 != 0) = true := bne_iff_ne.mpr c16
                obtain ⟨ji23, hji23⟩ : ∃ j_ : Int, (mx t120 ji11) = j_ := ⟨_, rfl⟩
                replace H : ((regis_Reg_step.f t118 t119 (ji23) t121 0 a3).bind fun bt132 => ((regis_Reg_Has.f bt132.1 bt132.2.1 bt132.2.2.1 bt132.2.2.2).bind fun bt136 => (some ((bt136.1 != t117), bt136.2.1, bt136.2.2.1, bt136.2.2.2.1, bt136.2.2.2.2)))) = some (r1, r2, r3, r4, r5) := by first | (rw [hji23] at H; exact H) | (simp only [hji23] at H ⊢; exact H)
                have hji23_ : (if t120 < ji11 then ji11 else t120) = ji23 := hji23
                replace H := Option.bind_eq_some_iff.mp H
                obtain ⟨⟨t132, t133, t134, t135⟩, A240, H⟩ := H
                replace H : ((regis_Reg_Has.f t132 t133 t134 t135).bind fun bt136 => (some ((bt136.1 != t117), bt136.2.1, bt136.2.2.1, bt136.2.2.2.1, bt136.2.2.2.2))) = some (r1, r2, r3, r4, r5) := H
                have A24 := Aside0.mk A240
                clear A240
                replace H := Option.bind_eq_some_iff.mp H
                obtain ⟨⟨t136, t137, t138, t139, t140⟩, A250, H⟩ := H
                replace H : (some ((t136 != t117), t137, t138, t139, t140)) = some (r1, r2, r3, r4, r5) := H
                have A25 := Aside0.mk A250
                clear A250
                simp only [Option.some.injEq, Prod.mk.injEq] at H
                obtain ⟨rfl, rfl, rfl, rfl, rfl⟩ := H
                obtain ⟨HGz26, hgz26⟩ := HI0.out
                have hcz26_0 := cellS49_0 HGz26
                have hcz26_1 := cellS49_1 HGz26
                have hcz26_2 := cellS49_2 HGz26
                have hcz26_3 := cellS49_3 HGz26
                have hfz26_0 := blk_frozen HGz26 0
                have hfz26_1 := blk_frozen HGz26 1
                have hfz26_2 := blk_frozen HGz26 2
                have hfz26_3 := blk_frozen HGz26 3
                clear HGz26 hgz26
                go_wp2_with (first | ((with_reducible refine gate_callee (f := 26) rfl ?_); refine goesL_ (some 50) rfl rfl Try.func26 (by kernel_rfl) rfl #[.pointer (some ⟨g, 0, none⟩), .int .i64 0, .int .i64 a3] rfl (by (try simp only [List.map_toArray, List.map_cons, List.map_nil]); first | done | rfl | (simp only [List.length_drop, List.length_take]; rfl) | (go_simp; first | done | (unfold wrap64; omega))) ?_; (with_reducible refine (regis_Reg_step.calls g t118 t119 ji23 t121 0 a3 t132 t133 t134 t135 w0 _ ?side1 ?side2 A24.out).mono ?_); (case side1 => repeat (first | (with_reducible first | exact HI0.out | apply IsS49.alloc | apply IsS49.drewN | apply IsS49.drew | apply IsS49.set_0 | apply IsS49.set_1 | apply IsS49.set_2 | apply IsS49.set_3) | exact HI0.out)); (case side2 => repeat (first | (with_reducible first | exact HB.out | apply below_alloc | apply pw_below_drewN | apply below_drew1 | refine below_set ?_ (IsS49.ge HI0.out)) | exact HB.out)); rintro e w27 ⟨rfl, hi, hb, hk⟩; refine ⟨_, rfl, ?_⟩; have n0_ := Aside0.mk (KeepBut.trans (by repeat (first | (with_reducible first | exact HK.out | apply KeepBut.set_ | apply keep_drewN | apply keep_drew | apply keep_alloc) | exact HK.out)) hk (.inl rfl)); have n1_ := Aside0.mk (hb); have n2_ := Aside0.mk (hi); clear HK; clear HB; clear HI0; have HK := n0_; have HB := n1_; have HI0 := n2_; clear n0_ n1_ n2_; (try clear hb); (try clear hb2); (try clear hk); (try clear hi)) | ((with_reducible refine gate_callee (f := 12) rfl ?_); refine goesL_ (some 57) rfl rfl Try.func12 (by kernel_rfl) rfl #[.pointer (some ⟨g, 0, none⟩)] rfl (by (try simp only [List.map_toArray, List.map_cons, List.map_nil]); first | done | rfl | (simp only [List.length_drop, List.length_take]; rfl) | (go_simp; first | done | (unfold wrap64; omega))) ?_; (with_reducible refine (regis_Reg_Has.calls g t132 t133 t134 t135 t136 t137 t138 t139 t140 w0 _ ?side1 ?side2 A25.out).mono ?_); (case side1 => repeat (first | (with_reducible first | exact HI0.out | apply IsS49.alloc | apply IsS49.drewN | apply IsS49.drew | apply IsS49.set_0 | apply IsS49.set_1 | apply IsS49.set_2 | apply IsS49.set_3) | exact HI0.out)); (case side2 => repeat (first | (with_reducible first | exact HB.out | apply below_alloc | apply pw_below_drewN | apply below_drew1 | refine below_set ?_ (IsS49.ge HI0.out)) | exact HB.out)); rintro e w28 ⟨rfl, hi, hb, hk⟩; refine ⟨_, rfl, ?_⟩; have n0_ := Aside0.mk (KeepBut.trans (by repeat (first | (with_reducible first | exact HK.out | apply KeepBut.set_ | apply keep_drewN | apply keep_drew | apply keep_alloc) | exact HK.out)) hk (.inl rfl)); have n1_ := Aside0.mk (hb); have n2_ := Aside0.mk (hi); clear HK; clear HB; clear HI0; have HK := n0_; have HB := n1_; have HI0 := n2_; clear n0_ n1_ n2_; (try clear hb); (try clear hb2); (try clear hk); (try clear hi)))
                go_ret
                exact ⟨by first | rfl | (simp [show ∀ l_ : List UInt8, (l_ == []) = l_.isEmpty from fun l_ => by cases l_ <;> rfl]; done) | (simp [errW_none, errW_some] <;> rfl) | (simp only [← hji11, ← hji23]; first | rfl | (simp [errW_none, errW_some] <;> rfl)) | ((repeat rw [Int.tdiv_eq_ediv_of_nonneg (by omega)]); (repeat rw [Int.tmod_eq_emod_of_nonneg (by omega)]); first | rfl | (simp [errW_none, errW_some] <;> rfl)) | (simp [*, errW_none, errW_some] <;> rfl), by repeat (first | (with_reducible first | exact HI0.out | apply IsS49.alloc | apply IsS49.drewN | apply IsS49.drew | apply IsS49.set_0 | apply IsS49.set_1 | apply IsS49.set_2 | apply IsS49.set_3) | exact HI0.out), by repeat (first | (with_reducible first | exact HB.out | apply below_alloc | apply pw_below_drewN | apply below_drew1 | refine below_set ?_ (IsS49.ge HI0.out)) | exact HB.out), by repeat (first | (with_reducible first | exact HK.out | apply KeepBut.set_ | apply keep_drewN | apply keep_drew | apply keep_alloc) | exact HK.out)⟩
            · replace c15 := Bool.eq_false_iff.mpr c15
              subst c15
              have H1 : ((regis_Reg_Has.f t118 t119 t120 t121).bind fun bt141 => (some ((bt141.1 != t117), bt141.2.1, bt141.2.2.1, bt141.2.2.2.1, bt141.2.2.2.2))) = some (r1, r2, r3, r4, r5) := by rw [if_neg (show ¬ (false = true) by decide)] at H; exact H
              clear H
              have H := H1
              clear H1
              replace H := Option.bind_eq_some_iff.mp H
              obtain ⟨⟨t141, t142, t143, t144, t145⟩, A290, H⟩ := H
              replace H : (some ((t141 != t117), t142, t143, t144, t145)) = some (r1, r2, r3, r4, r5) := H
              have A29 := Aside0.mk A290
              clear A290
              simp only [Option.some.injEq, Prod.mk.injEq] at H
              obtain ⟨rfl, rfl, rfl, rfl, rfl⟩ := H
              go_wp2_with (first | ((with_reducible refine gate_callee (f := 12) rfl ?_); refine goesL_ (some 57) rfl rfl Try.func12 (by kernel_rfl) rfl #[.pointer (some ⟨g, 0, none⟩)] rfl (by (try simp only [List.map_toArray, List.map_cons, List.map_nil]); first | done | rfl | (simp only [List.length_drop, List.length_take]; rfl) | (go_simp; first | done | (unfold wrap64; omega))) ?_; (with_reducible refine (regis_Reg_Has.calls g t118 t119 t120 t121 t141 t142 t143 t144 t145 w0 _ ?side1 ?side2 A29.out).mono ?_); (case side1 => repeat (first | (with_reducible first | exact HI0.out | apply IsS49.alloc | apply IsS49.drewN | apply IsS49.drew | apply IsS49.set_0 | apply IsS49.set_1 | apply IsS49.set_2 | apply IsS49.set_3) | exact HI0.out)); (case side2 => repeat (first | (with_reducible first | exact HB.out | apply below_alloc | apply pw_below_drewN | apply below_drew1 | refine below_set ?_ (IsS49.ge HI0.out)) | exact HB.out)); rintro e w30 ⟨rfl, hi, hb, hk⟩; refine ⟨_, rfl, ?_⟩; have n0_ := Aside0.mk (KeepBut.trans (by repeat (first | (with_reducible first | exact HK.out | apply KeepBut.set_ | apply keep_drewN | apply keep_drew | apply keep_alloc) | exact HK.out)) hk (.inl rfl)); have n1_ := Aside0.mk (hb); have n2_ := Aside0.mk (hi); clear HK; clear HB; clear HI0; have HK := n0_; have HB := n1_; have HI0 := n2_; clear n0_ n1_ n2_; (try clear hb); (try clear hb2); (try clear hk); (try clear hi)))
              go_ret
              exact ⟨by first | rfl | (simp [show ∀ l_ : List UInt8, (l_ == []) = l_.isEmpty from fun l_ => by cases l_ <;> rfl]; done) | (simp [errW_none, errW_some] <;> rfl) | (simp only [← hji11]; first | rfl | (simp [errW_none, errW_some] <;> rfl)) | ((repeat rw [Int.tdiv_eq_ediv_of_nonneg (by omega)]); (repeat rw [Int.tmod_eq_emod_of_nonneg (by omega)]); first | rfl | (simp [errW_none, errW_some] <;> rfl)) | (simp [*, errW_none, errW_some] <;> rfl), by repeat (first | (with_reducible first | exact HI0.out | apply IsS49.alloc | apply IsS49.drewN | apply IsS49.drew | apply IsS49.set_0 | apply IsS49.set_1 | apply IsS49.set_2 | apply IsS49.set_3) | exact HI0.out), by repeat (first | (with_reducible first | exact HB.out | apply below_alloc | apply pw_below_drewN | apply below_drew1 | refine below_set ?_ (IsS49.ge HI0.out)) | exact HB.out), by repeat (first | (with_reducible first | exact HK.out | apply KeepBut.set_ | apply keep_drewN | apply keep_drew | apply keep_alloc) | exact HK.out)⟩
      · replace c10 := Bool.eq_false_iff.mpr c10
        subst c10
        have H1 : (if a1 = 5 then ((regis_Reg_step.f t118 t119 t120 t121 1 a3).bind fun bt146 => ((regis_Reg_Has.f bt146.1 bt146.2.1 bt146.2.2.1 bt146.2.2.2).bind fun bt150 => (some ((bt150.1 != t117), bt150.2.1, bt150.2.2.1, bt150.2.2.2.1, bt150.2.2.2.2)))) else ((regis_Reg_Has.f t118 t119 t120 t121).bind fun bt155 => (some ((bt155.1 != t117), bt155.2.1, bt155.2.2.1, bt155.2.2.2.1, bt155.2.2.2.2)))) = some (r1, r2, r3, r4, r5) := by rw [if_neg (show ¬ (false = true) by decide)] at H; exact H
        clear H
        have H := H1
        clear H1
        by_cases c31 : a1 = 5
        · rw [if_pos c31] at H
          have c31b0 : (a1 == 5) = true := beq_iff_eq.mpr c31
          have c31b1 : (a1 != 5) = false := bne_eq_false_iff_eq.mpr c31
          clear c31
          replace H := Option.bind_eq_some_iff.mp H
          obtain ⟨⟨t146, t147, t148, t149⟩, A320, H⟩ := H
          replace H : ((regis_Reg_Has.f t146 t147 t148 t149).bind fun bt150 => (some ((bt150.1 != t117), bt150.2.1, bt150.2.2.1, bt150.2.2.2.1, bt150.2.2.2.2))) = some (r1, r2, r3, r4, r5) := H
          have A32 := Aside0.mk A320
          clear A320
          replace H := Option.bind_eq_some_iff.mp H
          obtain ⟨⟨t150, t151, t152, t153, t154⟩, A330, H⟩ := H
          replace H : (some ((t150 != t117), t151, t152, t153, t154)) = some (r1, r2, r3, r4, r5) := H
          have A33 := Aside0.mk A330
          clear A330
          simp only [Option.some.injEq, Prod.mk.injEq] at H
          obtain ⟨rfl, rfl, rfl, rfl, rfl⟩ := H
          go_wp2_with (first | ((with_reducible refine gate_callee (f := 26) rfl ?_); refine goesL_ (some 55) rfl rfl Try.func26 (by kernel_rfl) rfl #[.pointer (some ⟨g, 0, none⟩), .int .i64 1, .int .i64 a3] rfl (by (try simp only [List.map_toArray, List.map_cons, List.map_nil]); first | done | rfl | (simp only [List.length_drop, List.length_take]; rfl) | (go_simp; first | done | (unfold wrap64; omega))) ?_; (with_reducible refine (regis_Reg_step.calls g t118 t119 t120 t121 1 a3 t146 t147 t148 t149 w0 _ ?side1 ?side2 A32.out).mono ?_); (case side1 => repeat (first | (with_reducible first | exact HI0.out | apply IsS49.alloc | apply IsS49.drewN | apply IsS49.drew | apply IsS49.set_0 | apply IsS49.set_1 | apply IsS49.set_2 | apply IsS49.set_3) | exact HI0.out)); (case side2 => repeat (first | (with_reducible first | exact HB.out | apply below_alloc | apply pw_below_drewN | apply below_drew1 | refine below_set ?_ (IsS49.ge HI0.out)) | exact HB.out)); rintro e w34 ⟨rfl, hi, hb, hk⟩; refine ⟨_, rfl, ?_⟩; have n0_ := Aside0.mk (KeepBut.trans (by repeat (first | (with_reducible first | exact HK.out | apply KeepBut.set_ | apply keep_drewN | apply keep_drew | apply keep_alloc) | exact HK.out)) hk (.inl rfl)); have n1_ := Aside0.mk (hb); have n2_ := Aside0.mk (hi); clear HK; clear HB; clear HI0; have HK := n0_; have HB := n1_; have HI0 := n2_; clear n0_ n1_ n2_; (try clear hb); (try clear hb2); (try clear hk); (try clear hi)) | ((with_reducible refine gate_callee (f := 12) rfl ?_); refine goesL_ (some 57) rfl rfl Try.func12 (by kernel_rfl) rfl #[.pointer (some ⟨g, 0, none⟩)] rfl (by (try simp only [List.map_toArray, List.map_cons, List.map_nil]); first | done | rfl | (simp only [List.length_drop, List.length_take]; rfl) | (go_simp; first | done | (unfold wrap64; omega))) ?_; (with_reducible refine (regis_Reg_Has.calls g t146 t147 t148 t149 t150 t151 t152 t153 t154 w0 _ ?side1 ?side2 A33.out).mono ?_); (case side1 => repeat (first | (with_reducible first | exact HI0.out | apply IsS49.alloc | apply IsS49.drewN | apply IsS49.drew | apply IsS49.set_0 | apply IsS49.set_1 | apply IsS49.set_2 | apply IsS49.set_3) | exact HI0.out)); (case side2 => repeat (first | (with_reducible first | exact HB.out | apply below_alloc | apply pw_below_drewN | apply below_drew1 | refine below_set ?_ (IsS49.ge HI0.out)) | exact HB.out)); rintro e w35 ⟨rfl, hi, hb, hk⟩; refine ⟨_, rfl, ?_⟩; have n0_ := Aside0.mk (KeepBut.trans (by repeat (first | (with_reducible first | exact HK.out | apply KeepBut.set_ | apply keep_drewN | apply keep_drew | apply keep_alloc) | exact HK.out)) hk (.inl rfl)); have n1_ := Aside0.mk (hb); have n2_ := Aside0.mk (hi); clear HK; clear HB; clear HI0; have HK := n0_; have HB := n1_; have HI0 := n2_; clear n0_ n1_ n2_; (try clear hb); (try clear hb2); (try clear hk); (try clear hi)))
          go_ret
          exact ⟨by first | rfl | (simp [show ∀ l_ : List UInt8, (l_ == []) = l_.isEmpty from fun l_ => by cases l_ <;> rfl]; done) | (simp [errW_none, errW_some] <;> rfl) | ((repeat rw [Int.tdiv_eq_ediv_of_nonneg (by omega)]); (repeat rw [Int.tmod_eq_emod_of_nonneg (by omega)]); first | rfl | (simp [errW_none, errW_some] <;> rfl)) | (simp [*, errW_none, errW_some] <;> rfl), by repeat (first | (with_reducible first | exact HI0.out | apply IsS49.alloc | apply IsS49.drewN | apply IsS49.drew | apply IsS49.set_0 | apply IsS49.set_1 | apply IsS49.set_2 | apply IsS49.set_3) | exact HI0.out), by repeat (first | (with_reducible first | exact HB.out | apply below_alloc | apply pw_below_drewN | apply below_drew1 | refine below_set ?_ (IsS49.ge HI0.out)) | exact HB.out), by repeat (first | (with_reducible first | exact HK.out | apply KeepBut.set_ | apply keep_drewN | apply keep_drew | apply keep_alloc) | exact HK.out)⟩
        · rw [if_neg c31] at H
          have c31b0 : (a1 == 5) = false := beq_eq_false_iff_ne.mpr c31
          have c31b1 : (a1 != 5) = true := bne_iff_ne.mpr c31
          replace H := Option.bind_eq_some_iff.mp H
          obtain ⟨⟨t155, t156, t157, t158, t159⟩, A360, H⟩ := H
          replace H : (some ((t155 != t117), t156, t157, t158, t159)) = some (r1, r2, r3, r4, r5) := H
          have A36 := Aside0.mk A360
          clear A360
          simp only [Option.some.injEq, Prod.mk.injEq] at H
          obtain ⟨rfl, rfl, rfl, rfl, rfl⟩ := H
          go_wp2_with (first | ((with_reducible refine gate_callee (f := 12) rfl ?_); refine goesL_ (some 57) rfl rfl Try.func12 (by kernel_rfl) rfl #[.pointer (some ⟨g, 0, none⟩)] rfl (by (try simp only [List.map_toArray, List.map_cons, List.map_nil]); first | done | rfl | (simp only [List.length_drop, List.length_take]; rfl) | (go_simp; first | done | (unfold wrap64; omega))) ?_; (with_reducible refine (regis_Reg_Has.calls g t118 t119 t120 t121 t155 t156 t157 t158 t159 w0 _ ?side1 ?side2 A36.out).mono ?_); (case side1 => repeat (first | (with_reducible first | exact HI0.out | apply IsS49.alloc | apply IsS49.drewN | apply IsS49.drew | apply IsS49.set_0 | apply IsS49.set_1 | apply IsS49.set_2 | apply IsS49.set_3) | exact HI0.out)); (case side2 => repeat (first | (with_reducible first | exact HB.out | apply below_alloc | apply pw_below_drewN | apply below_drew1 | refine below_set ?_ (IsS49.ge HI0.out)) | exact HB.out)); rintro e w37 ⟨rfl, hi, hb, hk⟩; refine ⟨_, rfl, ?_⟩; have n0_ := Aside0.mk (KeepBut.trans (by repeat (first | (with_reducible first | exact HK.out | apply KeepBut.set_ | apply keep_drewN | apply keep_drew | apply keep_alloc) | exact HK.out)) hk (.inl rfl)); have n1_ := Aside0.mk (hb); have n2_ := Aside0.mk (hi); clear HK; clear HB; clear HI0; have HK := n0_; have HB := n1_; have HI0 := n2_; clear n0_ n1_ n2_; (try clear hb); (try clear hb2); (try clear hk); (try clear hi)))
          go_ret
          exact ⟨by first | rfl | (simp [show ∀ l_ : List UInt8, (l_ == []) = l_.isEmpty from fun l_ => by cases l_ <;> rfl]; done) | (simp [errW_none, errW_some] <;> rfl) | ((repeat rw [Int.tdiv_eq_ediv_of_nonneg (by omega)]); (repeat rw [Int.tmod_eq_emod_of_nonneg (by omega)]); first | rfl | (simp [errW_none, errW_some] <;> rfl)) | (simp [*, errW_none, errW_some] <;> rfl), by repeat (first | (with_reducible first | exact HI0.out | apply IsS49.alloc | apply IsS49.drewN | apply IsS49.drew | apply IsS49.set_0 | apply IsS49.set_1 | apply IsS49.set_2 | apply IsS49.set_3) | exact HI0.out), by repeat (first | (with_reducible first | exact HB.out | apply below_alloc | apply pw_below_drewN | apply below_drew1 | refine below_set ?_ (IsS49.ge HI0.out)) | exact HB.out), by repeat (first | (with_reducible first | exact HK.out | apply KeepBut.set_ | apply keep_drewN | apply keep_drew | apply keep_alloc) | exact HK.out)⟩

end Go.Proofs.Ytgmnkilnajkidaa.PRegisDoes
