-- Written by a program of this session (see NOTES.md), which reads the translation's print; Lean checks it.
import Derived.Test.YtnphindpbdjmpaaDoorPAppliDoesx0
namespace Go.Proofs.YtnphindpbdjmpaaDoor.PAppliDoes
open Go.RowKit Go.Proofs.YtnphindpbdjmpaaDoorW.PrintWords Go.Proofs.YtnphindpbdjmpaaDoorW.PrintLast Go.Proofs.YtnphindpbdjmpaaDoorW.PrintMore
attribute [local go_sem] max2_int min2_int max_two min_two max_three min_three max_four min_four   -- for this text's walks alone
set_option linter.unusedVariables false
set_option linter.unusedSimpArgs false

/-- A state of type 38 at block g of W; what its slices lead to came in by w0. -/
def IsS38 (w0 W : World) (g : Nat) (f0 : Int) (f1 : Int) : Prop := W.heap[g]? = some (.cells #[.int .i64 f0, .int .i64 f1] 38 (0, 0)) ∧ w0.heap.size ≤ g
theorem IsS38.grown {w0 W : World} {g : Nat} {f0 : Int} {f1 : Int} {W1 : World} {row : Option Nat} (h : IsS38 w0 W g f0 f1) (hw : W.grownBy W1 row) (hne : some g ≠ row) : IsS38 w0 W1 g f0 f1 := by
  obtain ⟨hb, hg⟩ := h
  exact ⟨blk_grown hb hw hne, hg⟩
theorem IsS38.own_neN {w0 W : World} {g : Nat} {f0 : Int} {f1 : Int} {α : Type} {d : Kd α} {e : Nat} {base : Nat} {ok : Nat → Prop} {v : Value} {xs : List α} (h : IsS38 w0 W g f0 f1) (ho : Kd.N d e W base ok v xs) (ht : e ≠ 38) : some g ≠ v.ownBlock := by
  obtain ⟨hb, hg⟩ := h
  exact Kd.N_ne ho hb ht
theorem IsS38.fresh {w0 W : World} {g : Nat} {f0 : Int} {f1 : Int} (h : IsS38 w0 W g f0 f1) : ∀ k, W.heap.size ≤ k → k ≠ g := by
  obtain ⟨hb, hg⟩ := h
  exact Kd.freshB hb
theorem IsS38.kept {w0 W : World} {g : Nat} {f0 : Int} {f1 : Int} {W1 : World} {S : Nat → Prop} (h : IsS38 w0 W g f0 f1) (hk : Kept W W1 S) (hne : ¬ S g) : IsS38 w0 W1 g f0 f1 := by
  obtain ⟨hb, hg⟩ := h
  exact ⟨blk_kept hb hk hne, hg⟩
theorem IsS38.below {w0 W : World} {g : Nat} {f0 : Int} {f1 : Int} {W1 : World} (h : IsS38 w0 W g f0 f1) (hw : Below W.heap.size W W1) : IsS38 w0 W1 g f0 f1 := h.grown (grown_of_below hw none) (by simp)
theorem IsS38.alloc {w0 W : World} {g : Nat} {f0 : Int} {f1 : Int} (h : IsS38 w0 W g f0 f1) (o : Obj) : IsS38 w0 (W.alloc o) g f0 f1 := h.below (below_alloc (Below.refl _ _) o)
theorem IsS38.drewN {w0 W : World} {g : Nat} {f0 : Int} {f1 : Int} (h : IsS38 w0 W g f0 f1) (m : Nat) : IsS38 w0 (W.drewN m) g f0 f1 := h
theorem IsS38.drew {w0 W : World} {g : Nat} {f0 : Int} {f1 : Int} (h : IsS38 w0 W g f0 f1) : IsS38 w0 W.drew g f0 f1 := h
theorem IsS38.at_ {w0 W : World} {g : Nat} {f0 : Int} {f1 : Int} {w' : World} {m : Nat} (hq : W.drewN m = w') (h : IsS38 w0 W g f0 f1) : IsS38 w0 w' g f0 f1 := by subst hq; exact IsS38.drewN h m
theorem IsS38.apart {w0 W : World} {g : Nat} {f0 : Int} {f1 : Int} {α : Type} {d : Kd α} {e : Nat} {base : Nat} {ok : Nat → Prop} {v : Value} {xs : List α} (h : IsS38 w0 W g f0 f1) (ho : d.R e W base ok v xs) (ht : ∀ q, q ∈ e :: d.E → q ≠ 38) : d.R e W base (fun k => ok k ∧ k ≠ g) v xs := by
  obtain ⟨hb, hg⟩ := h
  exact Kd.R_types ho hb ht
theorem IsS38.own_ne {w0 W : World} {g : Nat} {f0 : Int} {f1 : Int} {α : Type} {d : Kd α} {e : Nat} {base : Nat} {ok : Nat → Prop} {v : Value} {xs : List α} (h : IsS38 w0 W g f0 f1) (ho : d.R e W base ok v xs) (ht : e ≠ 38) : some g ≠ v.ownBlock := by
  obtain ⟨hb, hg⟩ := h
  exact Kd.R_ne ho hb ht
theorem IsS38.apartQ {w0 W : World} {g : Nat} {f0 : Int} {f1 : Int} {α : Type} {d : Kd α} {e : Nat} {base : Nat} {ok : Nat → Prop} {v : Value} {xs : List α} (h : IsS38 w0 W g f0 f1) (ho : d.Q e W base ok v xs) (ht : ∀ q, q ∈ e :: d.E → q ≠ 38) : d.Q e W base (fun k => ok k ∧ k ≠ g) v xs := by
  obtain ⟨hb, hg⟩ := h
  exact Kd.Q_types ho hb ht
theorem IsS38.own_neQ {w0 W : World} {g : Nat} {f0 : Int} {f1 : Int} {α : Type} {d : Kd α} {e : Nat} {base : Nat} {ok : Nat → Prop} {v : Value} {xs : List α} (h : IsS38 w0 W g f0 f1) (ho : d.Q e W base ok v xs) (ht : e ≠ 38) : some g ≠ v.ownBlock := by
  obtain ⟨hb, hg⟩ := h
  exact Kd.Q_ne ho hb ht
theorem IsS38.apartS {w0 W : World} {g : Nat} {f0 : Int} {f1 : Int} {α : Type} {d : Kd α} {e : Nat} {base : Nat} {ok : Nat → Prop} {v : Value} {xs : List α} (h : IsS38 w0 W g f0 f1) (ho : d.S e W base ok v xs) (ht : ∀ q, q ∈ e :: d.E → q ≠ 38) : d.S e W base (fun k => ok k ∧ k ≠ g) v xs := by
  obtain ⟨hb, hg⟩ := h
  exact Kd.S_types ho hb ht
theorem IsS38.own_neS {w0 W : World} {g : Nat} {f0 : Int} {f1 : Int} {α : Type} {d : Kd α} {e : Nat} {base : Nat} {ok : Nat → Prop} {v : Value} {xs : List α} (h : IsS38 w0 W g f0 f1) (ho : d.S e W base ok v xs) (ht : e ≠ 38) : some g ≠ v.ownBlock := by
  obtain ⟨hb, hg⟩ := h
  exact Kd.S_ne ho hb ht
theorem IsS38.lt {w0 W : World} {g : Nat} {f0 : Int} {f1 : Int} (h : IsS38 w0 W g f0 f1) : g < W.heap.size := by
  obtain ⟨hb, hg⟩ := h
  exact blk_lt hb
theorem IsS38.ge {w0 W : World} {g : Nat} {f0 : Int} {f1 : Int} (h : IsS38 w0 W g f0 f1) : w0.heap.size ≤ g := by
  obtain ⟨hb, hg⟩ := h
  exact hg
theorem IsS38.ne_blk {w0 W : World} {g : Nat} {f0 : Int} {f1 : Int} {a : Nat} {cs : Array Value} {t : TypeId} {fr : Nat × Nat} (h : IsS38 w0 W g f0 f1) (hb2 : W.heap[a]? = some (.cells cs t fr)) (ht : t ≠ 38) : g ≠ a := by
  obtain ⟨hb, hg⟩ := h
  rintro rfl
  rw [hb] at hb2
  injection hb2 with hb2
  injection hb2 with _ ht2
  exact ht ht2.symm
theorem IsS38.far {w0 W : World} {g : Nat} {f0 : Int} {f1 : Int} {p : Addr} (h : IsS38 w0 W g f0 f1) (hne : g ≠ p.block) (u : Value) : IsS38 w0 (W.setCell p u) g f0 f1 := by
  obtain ⟨hb, hg⟩ := h
  exact ⟨blk_far hb hne u, hg⟩
theorem cellS38_0 {W : World} {g : Nat} {f0 : Int} {f1 : Int} (h : W.heap[g]? = some (.cells #[.int .i64 f0, .int .i64 f1] 38 (0, 0))) : W.cell? ⟨g, 0, none⟩ = some (.int .i64 f0) := (blk_cell h 0).trans rfl
theorem IsS38.set_0 {w0 W : World} {g : Nat} {f0 : Int} {f1 : Int} (h : IsS38 w0 W g f0 f1) (x : Int) : IsS38 w0 (W.setCell ⟨g, 0, none⟩ (.int .i64 x)) g x f1 := by
  obtain ⟨hb, hg⟩ := h
  exact ⟨by simpa using blk_set hb 0 (.int .i64 x), hg⟩
theorem cellS38_1 {W : World} {g : Nat} {f0 : Int} {f1 : Int} (h : W.heap[g]? = some (.cells #[.int .i64 f0, .int .i64 f1] 38 (0, 0))) : W.cell? ⟨g, 1, none⟩ = some (.int .i64 f1) := (blk_cell h 1).trans rfl
theorem IsS38.set_1 {w0 W : World} {g : Nat} {f0 : Int} {f1 : Int} (h : IsS38 w0 W g f0 f1) (x : Int) : IsS38 w0 (W.setCell ⟨g, 1, none⟩ (.int .i64 x)) g f0 x := by
  obtain ⟨hb, hg⟩ := h
  exact ⟨by simpa using blk_set hb 1 (.int .i64 x), hg⟩
theorem IsS38.new (w0 W : World) (f0 : Int) (f1 : Int) (hB : Below w0.heap.size w0 W) : IsS38 w0 (W.alloc (.cells #[.int .i64 f0, .int .i64 f1] 38)) W.heap.size f0 f1 := ⟨by simpa using heap_alloc_new W _, hB.size⟩

/-! ### kissgateref15_App_Speaks: function 19 -/
def kissgateref15_App_Speaks.f (s0_0 : Int) (s0_1 : Int) : Option (Bool × Int × Int) := if s0_0 ≥ 1 then (some (decide (s0_0 ≤ 3), s0_0, s0_1)) else (some (false, s0_0, s0_1))
set_option maxHeartbeats 8000000 in
set_option maxRecDepth 100000 in
theorem kissgateref15_App_Speaks.calls (g : Nat) (s0_0 : Int) (s0_1 : Int) (r1 : Bool) (r2 : Int) (r3 : Int) (w0 w : World) (hI : IsS38 w0 w g s0_0 s0_1) (hB : Below w0.heap.size w0 w) (h : kissgateref15_App_Speaks.f s0_0 s0_1 = some (r1, r2, r3)) :
    Calls Tryd.prog 19 #[.pointer (some ⟨g, 0, none⟩)] w fun e w' => e = .returned (.bool r1) ∧ IsS38 w0 w' g r2 r3 ∧ Below w0.heap.size w0 w' ∧ KeepBut w w' g none := by
  have HI0 := Aside0.mk hI
  have HK := Aside0.mk (KeepBut.refl w g none)
  have HL := Aside0.mk hB.size
  clear hI
  have HW0 := Aside0.mk hB.size
  have HB := Aside0.mk hB
  clear hB
  have H : (if s0_0 ≥ 1 then (some (decide (s0_0 ≤ 3), s0_0, s0_1)) else (some (false, s0_0, s0_1))) = some (r1, r2, r3) := h
  clear h
  by_cases c2 : s0_0 ≥ 1
  · rw [if_pos c2] at H
    have c2b0 : decide (1 ≤ s0_0) = true := decide_eq_true c2
    clear c2
    simp only [Option.some.injEq, Prod.mk.injEq] at H
    obtain ⟨rfl, rfl, rfl⟩ := H
    obtain ⟨HGz3, hgz3⟩ := HI0.out
    have hcz3_0 := cellS38_0 HGz3
    have hcz3_1 := cellS38_1 HGz3
    have hfz3_0 := blk_frozen HGz3 0
    have hfz3_1 := blk_frozen HGz3 1
    clear HGz3 hgz3
    go_enter Tryd.func19, Tryd.ntmps19
    go_wp2
    go_ret
    exact ⟨by first | rfl | (simp [show ∀ l_ : List UInt8, (l_ == []) = l_.isEmpty from fun l_ => by cases l_ <;> rfl]; done) | (simp [errW_none, errW_some] <;> rfl) | ((repeat rw [Int.tdiv_eq_ediv_of_nonneg (by omega)]); (repeat rw [Int.tmod_eq_emod_of_nonneg (by omega)]); first | rfl | (simp [errW_none, errW_some] <;> rfl)) | (simp [*, errW_none, errW_some] <;> rfl), by repeat (first | (with_reducible first | exact HI0.out | apply IsS38.alloc | apply IsS38.drewN | apply IsS38.drew | apply IsS38.set_0 | apply IsS38.set_1) | exact HI0.out), by repeat (first | (with_reducible first | exact HB.out | apply below_alloc | apply pw_below_drewN | apply below_drew1 | refine below_set ?_ (IsS38.ge HI0.out)) | exact HB.out), by repeat (first | (with_reducible first | exact HK.out | apply KeepBut.set_ | apply keep_drewN | apply keep_drew | apply keep_alloc) | exact HK.out)⟩
  · rw [if_neg c2] at H
    have c2b0 : decide (1 ≤ s0_0) = false := decide_eq_false c2
    clear c2
    simp only [Option.some.injEq, Prod.mk.injEq] at H
    obtain ⟨rfl, rfl, rfl⟩ := H
    obtain ⟨HGz4, hgz4⟩ := HI0.out
    have hcz4_0 := cellS38_0 HGz4
    have hcz4_1 := cellS38_1 HGz4
    have hfz4_0 := blk_frozen HGz4 0
    have hfz4_1 := blk_frozen HGz4 1
    clear HGz4 hgz4
    go_enter Tryd.func19, Tryd.ntmps19
    go_wp2
    go_ret
    exact ⟨by first | rfl | (simp [show ∀ l_ : List UInt8, (l_ == []) = l_.isEmpty from fun l_ => by cases l_ <;> rfl]; done) | (simp [errW_none, errW_some] <;> rfl) | ((repeat rw [Int.tdiv_eq_ediv_of_nonneg (by omega)]); (repeat rw [Int.tmod_eq_emod_of_nonneg (by omega)]); first | rfl | (simp [errW_none, errW_some] <;> rfl)) | (simp [*, errW_none, errW_some] <;> rfl), by repeat (first | (with_reducible first | exact HI0.out | apply IsS38.alloc | apply IsS38.drewN | apply IsS38.drew | apply IsS38.set_0 | apply IsS38.set_1) | exact HI0.out), by repeat (first | (with_reducible first | exact HB.out | apply below_alloc | apply pw_below_drewN | apply below_drew1 | refine below_set ?_ (IsS38.ge HI0.out)) | exact HB.out), by repeat (first | (with_reducible first | exact HK.out | apply KeepBut.set_ | apply keep_drewN | apply keep_drew | apply keep_alloc) | exact HK.out)⟩

/-! ### kissgateref13_Act: function 25 -/
def kissgateref13_Act.tab (a0 : Bool) : List (List Int) := if a0 = true then [[0, 0, 0, 0, 0, 0], [0, 0, 0, 0, 1, 0], [0, 0, 0, 0, 2, 0], [0, 0, 0, 0, 0, 0], [0, 0, 0, 0, 3, 0]] else [[3, 0, 0, 0, 0], [2, 0, 0, 4, 4], [0, 1, 1, 0, 4]]
def kissgateref13_Act.f (a0 : Bool) (a1 a2 : Int) : Option Int := if 0 ≤ a1 ∧ 0 ≤ a2 then ((kissgateref13_Act.tab a0)[a1.toNat]?).bind fun r => r[a2.toNat]? else none
set_option maxHeartbeats 4000000 in
set_option maxRecDepth 100000 in
theorem kissgateref13_Act.walk_false_0 (a2 : Int) (r : Int) (w : World) (h : kissgateref13_Act.f false 0 a2 = some r) : Calls Tryd.prog 25 #[.bool false, .int .i64 0, .int .i64 a2] w fun e w' => e = .returned (.int .i64 r) ∧ Drawn0 w w' := by
  have h2 : 0 ≤ a2 ∧ a2 < 5 := by
    unfold kissgateref13_Act.f at h
    by_cases h0 : 0 ≤ a2
    · refine ⟨h0, ?_⟩
      rw [if_pos ⟨by decide, h0⟩] at h
      have h3 : ([3, 0, 0, 0, 0] : List Int)[a2.toNat]? = some r := h
      have := (List.getElem?_eq_some_iff.1 h3).1
      simp only [List.length_cons, List.length_nil] at this
      omega
    · rw [if_neg (fun e => h0 e.2)] at h; cases h
  have hc : a2 = 0 ∨ a2 = 1 ∨ a2 = 2 ∨ a2 = 3 ∨ a2 = 4 := by omega
  have ia : ∀ w, (Instr.index 53 (.agg #[.string ⟨#[51, 48, 48, 48, 48]⟩, .string ⟨#[50, 48, 48, 52, 52]⟩, .string ⟨#[48, 49, 49, 48, 52]⟩]) (.int .i64 0)).run Tryd.prog w = .ok (.string ⟨#[51, 48, 48, 48, 48]⟩) w := fun _ => by kernel_rfl
  rcases hc with rfl | rfl | rfl | rfl | rfl
  · obtain rfl : (3 : Int) = r := Option.some.inj h
    have ib : ∀ w, (Instr.index 9 (.string ⟨#[51, 48, 48, 48, 48]⟩) (.int .i64 0)).run Tryd.prog w = .ok (.int .u8 51) w := fun _ => by kernel_rfl
    go_enter Tryd.func25, Tryd.ntmps25
    go_wp2
    go_ret
    exact ⟨rfl, by repeat (first | exact Drawn0.refl _ | apply Drawn0.step)⟩
  · obtain rfl : (0 : Int) = r := Option.some.inj h
    have ib : ∀ w, (Instr.index 9 (.string ⟨#[51, 48, 48, 48, 48]⟩) (.int .i64 1)).run Tryd.prog w = .ok (.int .u8 48) w := fun _ => by kernel_rfl
    go_enter Tryd.func25, Tryd.ntmps25
    go_wp2
    go_ret
    exact ⟨rfl, by repeat (first | exact Drawn0.refl _ | apply Drawn0.step)⟩
  · obtain rfl : (0 : Int) = r := Option.some.inj h
    have ib : ∀ w, (Instr.index 9 (.string ⟨#[51, 48, 48, 48, 48]⟩) (.int .i64 2)).run Tryd.prog w = .ok (.int .u8 48) w := fun _ => by kernel_rfl
    go_enter Tryd.func25, Tryd.ntmps25
    go_wp2
    go_ret
    exact ⟨rfl, by repeat (first | exact Drawn0.refl _ | apply Drawn0.step)⟩
  · obtain rfl : (0 : Int) = r := Option.some.inj h
    have ib : ∀ w, (Instr.index 9 (.string ⟨#[51, 48, 48, 48, 48]⟩) (.int .i64 3)).run Tryd.prog w = .ok (.int .u8 48) w := fun _ => by kernel_rfl
    go_enter Tryd.func25, Tryd.ntmps25
    go_wp2
    go_ret
    exact ⟨rfl, by repeat (first | exact Drawn0.refl _ | apply Drawn0.step)⟩
  · obtain rfl : (0 : Int) = r := Option.some.inj h
    have ib : ∀ w, (Instr.index 9 (.string ⟨#[51, 48, 48, 48, 48]⟩) (.int .i64 4)).run Tryd.prog w = .ok (.int .u8 48) w := fun _ => by kernel_rfl
    go_enter Tryd.func25, Tryd.ntmps25
    go_wp2
    go_ret
    exact ⟨rfl, by repeat (first | exact Drawn0.refl _ | apply Drawn0.step)⟩
set_option maxHeartbeats 4000000 in
set_option maxRecDepth 100000 in
theorem kissgateref13_Act.walk_false_1 (a2 : Int) (r : Int) (w : World) (h : kissgateref13_Act.f false 1 a2 = some r) : Calls Tryd.prog 25 #[.bool false, .int .i64 1, .int .i64 a2] w fun e w' => e = .returned (.int .i64 r) ∧ Drawn0 w w' := by
  have h2 : 0 ≤ a2 ∧ a2 < 5 := by
    unfold kissgateref13_Act.f at h
    by_cases h0 : 0 ≤ a2
    · refine ⟨h0, ?_⟩
      rw [if_pos ⟨by decide, h0⟩] at h
      have h3 : ([2, 0, 0, 4, 4] : List Int)[a2.toNat]? = some r := h
      have := (List.getElem?_eq_some_iff.1 h3).1
      simp only [List.length_cons, List.length_nil] at this
      omega
    · rw [if_neg (fun e => h0 e.2)] at h; cases h
  have hc : a2 = 0 ∨ a2 = 1 ∨ a2 = 2 ∨ a2 = 3 ∨ a2 = 4 := by omega
  have ia : ∀ w, (Instr.index 53 (.agg #[.string ⟨#[51, 48, 48, 48, 48]⟩, .string ⟨#[50, 48, 48, 52, 52]⟩, .string ⟨#[48, 49, 49, 48, 52]⟩]) (.int .i64 1)).run Tryd.prog w = .ok (.string ⟨#[50, 48, 48, 52, 52]⟩) w := fun _ => by kernel_rfl
  rcases hc with rfl | rfl | rfl | rfl | rfl
  · obtain rfl : (2 : Int) = r := Option.some.inj h
    have ib : ∀ w, (Instr.index 9 (.string ⟨#[50, 48, 48, 52, 52]⟩) (.int .i64 0)).run Tryd.prog w = .ok (.int .u8 50) w := fun _ => by kernel_rfl
    go_enter Tryd.func25, Tryd.ntmps25
    go_wp2
    go_ret
    exact ⟨rfl, by repeat (first | exact Drawn0.refl _ | apply Drawn0.step)⟩
  · obtain rfl : (0 : Int) = r := Option.some.inj h
    have ib : ∀ w, (Instr.index 9 (.string ⟨#[50, 48, 48, 52, 52]⟩) (.int .i64 1)).run Tryd.prog w = .ok (.int .u8 48) w := fun _ => by kernel_rfl
    go_enter Tryd.func25, Tryd.ntmps25
    go_wp2
    go_ret
    exact ⟨rfl, by repeat (first | exact Drawn0.refl _ | apply Drawn0.step)⟩
  · obtain rfl : (0 : Int) = r := Option.some.inj h
    have ib : ∀ w, (Instr.index 9 (.string ⟨#[50, 48, 48, 52, 52]⟩) (.int .i64 2)).run Tryd.prog w = .ok (.int .u8 48) w := fun _ => by kernel_rfl
    go_enter Tryd.func25, Tryd.ntmps25
    go_wp2
    go_ret
    exact ⟨rfl, by repeat (first | exact Drawn0.refl _ | apply Drawn0.step)⟩
  · obtain rfl : (4 : Int) = r := Option.some.inj h
    have ib : ∀ w, (Instr.index 9 (.string ⟨#[50, 48, 48, 52, 52]⟩) (.int .i64 3)).run Tryd.prog w = .ok (.int .u8 52) w := fun _ => by kernel_rfl
    go_enter Tryd.func25, Tryd.ntmps25
    go_wp2
    go_ret
    exact ⟨rfl, by repeat (first | exact Drawn0.refl _ | apply Drawn0.step)⟩
  · obtain rfl : (4 : Int) = r := Option.some.inj h
    have ib : ∀ w, (Instr.index 9 (.string ⟨#[50, 48, 48, 52, 52]⟩) (.int .i64 4)).run Tryd.prog w = .ok (.int .u8 52) w := fun _ => by kernel_rfl
    go_enter Tryd.func25, Tryd.ntmps25
    go_wp2
    go_ret
    exact ⟨rfl, by repeat (first | exact Drawn0.refl _ | apply Drawn0.step)⟩
set_option maxHeartbeats 4000000 in
set_option maxRecDepth 100000 in
theorem kissgateref13_Act.walk_false_2 (a2 : Int) (r : Int) (w : World) (h : kissgateref13_Act.f false 2 a2 = some r) : Calls Tryd.prog 25 #[.bool false, .int .i64 2, .int .i64 a2] w fun e w' => e = .returned (.int .i64 r) ∧ Drawn0 w w' := by
  have h2 : 0 ≤ a2 ∧ a2 < 5 := by
    unfold kissgateref13_Act.f at h
    by_cases h0 : 0 ≤ a2
    · refine ⟨h0, ?_⟩
      rw [if_pos ⟨by decide, h0⟩] at h
      have h3 : ([0, 1, 1, 0, 4] : List Int)[a2.toNat]? = some r := h
      have := (List.getElem?_eq_some_iff.1 h3).1
      simp only [List.length_cons, List.length_nil] at this
      omega
    · rw [if_neg (fun e => h0 e.2)] at h; cases h
  have hc : a2 = 0 ∨ a2 = 1 ∨ a2 = 2 ∨ a2 = 3 ∨ a2 = 4 := by omega
  have ia : ∀ w, (Instr.index 53 (.agg #[.string ⟨#[51, 48, 48, 48, 48]⟩, .string ⟨#[50, 48, 48, 52, 52]⟩, .string ⟨#[48, 49, 49, 48, 52]⟩]) (.int .i64 2)).run Tryd.prog w = .ok (.string ⟨#[48, 49, 49, 48, 52]⟩) w := fun _ => by kernel_rfl
  rcases hc with rfl | rfl | rfl | rfl | rfl
  · obtain rfl : (0 : Int) = r := Option.some.inj h
    have ib : ∀ w, (Instr.index 9 (.string ⟨#[48, 49, 49, 48, 52]⟩) (.int .i64 0)).run Tryd.prog w = .ok (.int .u8 48) w := fun _ => by kernel_rfl
    go_enter Tryd.func25, Tryd.ntmps25
    go_wp2
    go_ret
    exact ⟨rfl, by repeat (first | exact Drawn0.refl _ | apply Drawn0.step)⟩
  · obtain rfl : (1 : Int) = r := Option.some.inj h
    have ib : ∀ w, (Instr.index 9 (.string ⟨#[48, 49, 49, 48, 52]⟩) (.int .i64 1)).run Tryd.prog w = .ok (.int .u8 49) w := fun _ => by kernel_rfl
    go_enter Tryd.func25, Tryd.ntmps25
    go_wp2
    go_ret
    exact ⟨rfl, by repeat (first | exact Drawn0.refl _ | apply Drawn0.step)⟩
  · obtain rfl : (1 : Int) = r := Option.some.inj h
    have ib : ∀ w, (Instr.index 9 (.string ⟨#[48, 49, 49, 48, 52]⟩) (.int .i64 2)).run Tryd.prog w = .ok (.int .u8 49) w := fun _ => by kernel_rfl
    go_enter Tryd.func25, Tryd.ntmps25
    go_wp2
    go_ret
    exact ⟨rfl, by repeat (first | exact Drawn0.refl _ | apply Drawn0.step)⟩
  · obtain rfl : (0 : Int) = r := Option.some.inj h
    have ib : ∀ w, (Instr.index 9 (.string ⟨#[48, 49, 49, 48, 52]⟩) (.int .i64 3)).run Tryd.prog w = .ok (.int .u8 48) w := fun _ => by kernel_rfl
    go_enter Tryd.func25, Tryd.ntmps25
    go_wp2
    go_ret
    exact ⟨rfl, by repeat (first | exact Drawn0.refl _ | apply Drawn0.step)⟩
  · obtain rfl : (4 : Int) = r := Option.some.inj h
    have ib : ∀ w, (Instr.index 9 (.string ⟨#[48, 49, 49, 48, 52]⟩) (.int .i64 4)).run Tryd.prog w = .ok (.int .u8 52) w := fun _ => by kernel_rfl
    go_enter Tryd.func25, Tryd.ntmps25
    go_wp2
    go_ret
    exact ⟨rfl, by repeat (first | exact Drawn0.refl _ | apply Drawn0.step)⟩
set_option maxHeartbeats 4000000 in
set_option maxRecDepth 100000 in
theorem kissgateref13_Act.walk_true_0 (a2 : Int) (r : Int) (w : World) (h : kissgateref13_Act.f true 0 a2 = some r) : Calls Tryd.prog 25 #[.bool true, .int .i64 0, .int .i64 a2] w fun e w' => e = .returned (.int .i64 r) ∧ Drawn0 w w' := by
  have h2 : 0 ≤ a2 ∧ a2 < 6 := by
    unfold kissgateref13_Act.f at h
    by_cases h0 : 0 ≤ a2
    · refine ⟨h0, ?_⟩
      rw [if_pos ⟨by decide, h0⟩] at h
      have h3 : ([0, 0, 0, 0, 0, 0] : List Int)[a2.toNat]? = some r := h
      have := (List.getElem?_eq_some_iff.1 h3).1
      simp only [List.length_cons, List.length_nil] at this
      omega
    · rw [if_neg (fun e => h0 e.2)] at h; cases h
  have hc : a2 = 0 ∨ a2 = 1 ∨ a2 = 2 ∨ a2 = 3 ∨ a2 = 4 ∨ a2 = 5 := by omega
  have ia : ∀ w, (Instr.index 54 (.agg #[.string ⟨#[48, 48, 48, 48, 48, 48]⟩, .string ⟨#[48, 48, 48, 48, 49, 48]⟩, .string ⟨#[48, 48, 48, 48, 50, 48]⟩, .string ⟨#[48, 48, 48, 48, 48, 48]⟩, .string ⟨#[48, 48, 48, 48, 51, 48]⟩]) (.int .i64 0)).run Tryd.prog w = .ok (.string ⟨#[48, 48, 48, 48, 48, 48]⟩) w := fun _ => by kernel_rfl
  rcases hc with rfl | rfl | rfl | rfl | rfl | rfl
  · obtain rfl : (0 : Int) = r := Option.some.inj h
    have ib : ∀ w, (Instr.index 9 (.string ⟨#[48, 48, 48, 48, 48, 48]⟩) (.int .i64 0)).run Tryd.prog w = .ok (.int .u8 48) w := fun _ => by kernel_rfl
    go_enter Tryd.func25, Tryd.ntmps25
    go_wp2
    go_ret
    exact ⟨rfl, by repeat (first | exact Drawn0.refl _ | apply Drawn0.step)⟩
  · obtain rfl : (0 : Int) = r := Option.some.inj h
    have ib : ∀ w, (Instr.index 9 (.string ⟨#[48, 48, 48, 48, 48, 48]⟩) (.int .i64 1)).run Tryd.prog w = .ok (.int .u8 48) w := fun _ => by kernel_rfl
    go_enter Tryd.func25, Tryd.ntmps25
    go_wp2
    go_ret
    exact ⟨rfl, by repeat (first | exact Drawn0.refl _ | apply Drawn0.step)⟩
  · obtain rfl : (0 : Int) = r := Option.some.inj h
    have ib : ∀ w, (Instr.index 9 (.string ⟨#[48, 48, 48, 48, 48, 48]⟩) (.int .i64 2)).run Tryd.prog w = .ok (.int .u8 48) w := fun _ => by kernel_rfl
    go_enter Tryd.func25, Tryd.ntmps25
    go_wp2
    go_ret
    exact ⟨rfl, by repeat (first | exact Drawn0.refl _ | apply Drawn0.step)⟩
  · obtain rfl : (0 : Int) = r := Option.some.inj h
    have ib : ∀ w, (Instr.index 9 (.string ⟨#[48, 48, 48, 48, 48, 48]⟩) (.int .i64 3)).run Tryd.prog w = .ok (.int .u8 48) w := fun _ => by kernel_rfl
    go_enter Tryd.func25, Tryd.ntmps25
    go_wp2
    go_ret
    exact ⟨rfl, by repeat (first | exact Drawn0.refl _ | apply Drawn0.step)⟩
  · obtain rfl : (0 : Int) = r := Option.some.inj h
    have ib : ∀ w, (Instr.index 9 (.string ⟨#[48, 48, 48, 48, 48, 48]⟩) (.int .i64 4)).run Tryd.prog w = .ok (.int .u8 48) w := fun _ => by kernel_rfl
    go_enter Tryd.func25, Tryd.ntmps25
    go_wp2
    go_ret
    exact ⟨rfl, by repeat (first | exact Drawn0.refl _ | apply Drawn0.step)⟩
  · obtain rfl : (0 : Int) = r := Option.some.inj h
    have ib : ∀ w, (Instr.index 9 (.string ⟨#[48, 48, 48, 48, 48, 48]⟩) (.int .i64 5)).run Tryd.prog w = .ok (.int .u8 48) w := fun _ => by kernel_rfl
    go_enter Tryd.func25, Tryd.ntmps25
    go_wp2
    go_ret
    exact ⟨rfl, by repeat (first | exact Drawn0.refl _ | apply Drawn0.step)⟩
set_option maxHeartbeats 4000000 in
set_option maxRecDepth 100000 in
theorem kissgateref13_Act.walk_true_1 (a2 : Int) (r : Int) (w : World) (h : kissgateref13_Act.f true 1 a2 = some r) : Calls Tryd.prog 25 #[.bool true, .int .i64 1, .int .i64 a2] w fun e w' => e = .returned (.int .i64 r) ∧ Drawn0 w w' := by
  have h2 : 0 ≤ a2 ∧ a2 < 6 := by
    unfold kissgateref13_Act.f at h
    by_cases h0 : 0 ≤ a2
    · refine ⟨h0, ?_⟩
      rw [if_pos ⟨by decide, h0⟩] at h
      have h3 : ([0, 0, 0, 0, 1, 0] : List Int)[a2.toNat]? = some r := h
      have := (List.getElem?_eq_some_iff.1 h3).1
      simp only [List.length_cons, List.length_nil] at this
      omega
    · rw [if_neg (fun e => h0 e.2)] at h; cases h
  have hc : a2 = 0 ∨ a2 = 1 ∨ a2 = 2 ∨ a2 = 3 ∨ a2 = 4 ∨ a2 = 5 := by omega
  have ia : ∀ w, (Instr.index 54 (.agg #[.string ⟨#[48, 48, 48, 48, 48, 48]⟩, .string ⟨#[48, 48, 48, 48, 49, 48]⟩, .string ⟨#[48, 48, 48, 48, 50, 48]⟩, .string ⟨#[48, 48, 48, 48, 48, 48]⟩, .string ⟨#[48, 48, 48, 48, 51, 48]⟩]) (.int .i64 1)).run Tryd.prog w = .ok (.string ⟨#[48, 48, 48, 48, 49, 48]⟩) w := fun _ => by kernel_rfl
  rcases hc with rfl | rfl | rfl | rfl | rfl | rfl
  · obtain rfl : (0 : Int) = r := Option.some.inj h
    have ib : ∀ w, (Instr.index 9 (.string ⟨#[48, 48, 48, 48, 49, 48]⟩) (.int .i64 0)).run Tryd.prog w = .ok (.int .u8 48) w := fun _ => by kernel_rfl
    go_enter Tryd.func25, Tryd.ntmps25
    go_wp2
    go_ret
    exact ⟨rfl, by repeat (first | exact Drawn0.refl _ | apply Drawn0.step)⟩
  · obtain rfl : (0 : Int) = r := Option.some.inj h
    have ib : ∀ w, (Instr.index 9 (.string ⟨#[48, 48, 48, 48, 49, 48]⟩) (.int .i64 1)).run Tryd.prog w = .ok (.int .u8 48) w := fun _ => by kernel_rfl
    go_enter Tryd.func25, Tryd.ntmps25
    go_wp2
    go_ret
    exact ⟨rfl, by repeat (first | exact Drawn0.refl _ | apply Drawn0.step)⟩
  · obtain rfl : (0 : Int) = r := Option.some.inj h
    have ib : ∀ w, (Instr.index 9 (.string ⟨#[48, 48, 48, 48, 49, 48]⟩) (.int .i64 2)).run Tryd.prog w = .ok (.int .u8 48) w := fun _ => by kernel_rfl
    go_enter Tryd.func25, Tryd.ntmps25
    go_wp2
    go_ret
    exact ⟨rfl, by repeat (first | exact Drawn0.refl _ | apply Drawn0.step)⟩
  · obtain rfl : (0 : Int) = r := Option.some.inj h
    have ib : ∀ w, (Instr.index 9 (.string ⟨#[48, 48, 48, 48, 49, 48]⟩) (.int .i64 3)).run Tryd.prog w = .ok (.int .u8 48) w := fun _ => by kernel_rfl
    go_enter Tryd.func25, Tryd.ntmps25
    go_wp2
    go_ret
    exact ⟨rfl, by repeat (first | exact Drawn0.refl _ | apply Drawn0.step)⟩
  · obtain rfl : (1 : Int) = r := Option.some.inj h
    have ib : ∀ w, (Instr.index 9 (.string ⟨#[48, 48, 48, 48, 49, 48]⟩) (.int .i64 4)).run Tryd.prog w = .ok (.int .u8 49) w := fun _ => by kernel_rfl
    go_enter Tryd.func25, Tryd.ntmps25
    go_wp2
    go_ret
    exact ⟨rfl, by repeat (first | exact Drawn0.refl _ | apply Drawn0.step)⟩
  · obtain rfl : (0 : Int) = r := Option.some.inj h
    have ib : ∀ w, (Instr.index 9 (.string ⟨#[48, 48, 48, 48, 49, 48]⟩) (.int .i64 5)).run Tryd.prog w = .ok (.int .u8 48) w := fun _ => by kernel_rfl
    go_enter Tryd.func25, Tryd.ntmps25
    go_wp2
    go_ret
    exact ⟨rfl, by repeat (first | exact Drawn0.refl _ | apply Drawn0.step)⟩
set_option maxHeartbeats 4000000 in
set_option maxRecDepth 100000 in
theorem kissgateref13_Act.walk_true_2 (a2 : Int) (r : Int) (w : World) (h : kissgateref13_Act.f true 2 a2 = some r) : Calls Tryd.prog 25 #[.bool true, .int .i64 2, .int .i64 a2] w fun e w' => e = .returned (.int .i64 r) ∧ Drawn0 w w' := by
  have h2 : 0 ≤ a2 ∧ a2 < 6 := by
    unfold kissgateref13_Act.f at h
    by_cases h0 : 0 ≤ a2
    · refine ⟨h0, ?_⟩
      rw [if_pos ⟨by decide, h0⟩] at h
      have h3 : ([0, 0, 0, 0, 2, 0] : List Int)[a2.toNat]? = some r := h
      have := (List.getElem?_eq_some_iff.1 h3).1
      simp only [List.length_cons, List.length_nil] at this
      omega
    · rw [if_neg (fun e => h0 e.2)] at h; cases h
  have hc : a2 = 0 ∨ a2 = 1 ∨ a2 = 2 ∨ a2 = 3 ∨ a2 = 4 ∨ a2 = 5 := by omega
  have ia : ∀ w, (Instr.index 54 (.agg #[.string ⟨#[48, 48, 48, 48, 48, 48]⟩, .string ⟨#[48, 48, 48, 48, 49, 48]⟩, .string ⟨#[48, 48, 48, 48, 50, 48]⟩, .string ⟨#[48, 48, 48, 48, 48, 48]⟩, .string ⟨#[48, 48, 48, 48, 51, 48]⟩]) (.int .i64 2)).run Tryd.prog w = .ok (.string ⟨#[48, 48, 48, 48, 50, 48]⟩) w := fun _ => by kernel_rfl
  rcases hc with rfl | rfl | rfl | rfl | rfl | rfl
  · obtain rfl : (0 : Int) = r := Option.some.inj h
    have ib : ∀ w, (Instr.index 9 (.string ⟨#[48, 48, 48, 48, 50, 48]⟩) (.int .i64 0)).run Tryd.prog w = .ok (.int .u8 48) w := fun _ => by kernel_rfl
    go_enter Tryd.func25, Tryd.ntmps25
    go_wp2
    go_ret
    exact ⟨rfl, by repeat (first | exact Drawn0.refl _ | apply Drawn0.step)⟩
  · obtain rfl : (0 : Int) = r := Option.some.inj h
    have ib : ∀ w, (Instr.index 9 (.string ⟨#[48, 48, 48, 48, 50, 48]⟩) (.int .i64 1)).run Tryd.prog w = .ok (.int .u8 48) w := fun _ => by kernel_rfl
    go_enter Tryd.func25, Tryd.ntmps25
    go_wp2
    go_ret
    exact ⟨rfl, by repeat (first | exact Drawn0.refl _ | apply Drawn0.step)⟩
  · obtain rfl : (0 : Int) = r := Option.some.inj h
    have ib : ∀ w, (Instr.index 9 (.string ⟨#[48, 48, 48, 48, 50, 48]⟩) (.int .i64 2)).run Tryd.prog w = .ok (.int .u8 48) w := fun _ => by kernel_rfl
    go_enter Tryd.func25, Tryd.ntmps25
    go_wp2
    go_ret
    exact ⟨rfl, by repeat (first | exact Drawn0.refl _ | apply Drawn0.step)⟩
  · obtain rfl : (0 : Int) = r := Option.some.inj h
    have ib : ∀ w, (Instr.index 9 (.string ⟨#[48, 48, 48, 48, 50, 48]⟩) (.int .i64 3)).run Tryd.prog w = .ok (.int .u8 48) w := fun _ => by kernel_rfl
    go_enter Tryd.func25, Tryd.ntmps25
    go_wp2
    go_ret
    exact ⟨rfl, by repeat (first | exact Drawn0.refl _ | apply Drawn0.step)⟩
  · obtain rfl : (2 : Int) = r := Option.some.inj h
    have ib : ∀ w, (Instr.index 9 (.string ⟨#[48, 48, 48, 48, 50, 48]⟩) (.int .i64 4)).run Tryd.prog w = .ok (.int .u8 50) w := fun _ => by kernel_rfl
    go_enter Tryd.func25, Tryd.ntmps25
    go_wp2
    go_ret
    exact ⟨rfl, by repeat (first | exact Drawn0.refl _ | apply Drawn0.step)⟩
  · obtain rfl : (0 : Int) = r := Option.some.inj h
    have ib : ∀ w, (Instr.index 9 (.string ⟨#[48, 48, 48, 48, 50, 48]⟩) (.int .i64 5)).run Tryd.prog w = .ok (.int .u8 48) w := fun _ => by kernel_rfl
    go_enter Tryd.func25, Tryd.ntmps25
    go_wp2
    go_ret
    exact ⟨rfl, by repeat (first | exact Drawn0.refl _ | apply Drawn0.step)⟩
set_option maxHeartbeats 4000000 in
set_option maxRecDepth 100000 in
theorem kissgateref13_Act.walk_true_3 (a2 : Int) (r : Int) (w : World) (h : kissgateref13_Act.f true 3 a2 = some r) : Calls Tryd.prog 25 #[.bool true, .int .i64 3, .int .i64 a2] w fun e w' => e = .returned (.int .i64 r) ∧ Drawn0 w w' := by
  have h2 : 0 ≤ a2 ∧ a2 < 6 := by
    unfold kissgateref13_Act.f at h
    by_cases h0 : 0 ≤ a2
    · refine ⟨h0, ?_⟩
      rw [if_pos ⟨by decide, h0⟩] at h
      have h3 : ([0, 0, 0, 0, 0, 0] : List Int)[a2.toNat]? = some r := h
      have := (List.getElem?_eq_some_iff.1 h3).1
      simp only [List.length_cons, List.length_nil] at this
      omega
    · rw [if_neg (fun e => h0 e.2)] at h; cases h
  have hc : a2 = 0 ∨ a2 = 1 ∨ a2 = 2 ∨ a2 = 3 ∨ a2 = 4 ∨ a2 = 5 := by omega
  have ia : ∀ w, (Instr.index 54 (.agg #[.string ⟨#[48, 48, 48, 48, 48, 48]⟩, .string ⟨#[48, 48, 48, 48, 49, 48]⟩, .string ⟨#[48, 48, 48, 48, 50, 48]⟩, .string ⟨#[48, 48, 48, 48, 48, 48]⟩, .string ⟨#[48, 48, 48, 48, 51, 48]⟩]) (.int .i64 3)).run Tryd.prog w = .ok (.string ⟨#[48, 48, 48, 48, 48, 48]⟩) w := fun _ => by kernel_rfl
  rcases hc with rfl | rfl | rfl | rfl | rfl | rfl
  · obtain rfl : (0 : Int) = r := Option.some.inj h
    have ib : ∀ w, (Instr.index 9 (.string ⟨#[48, 48, 48, 48, 48, 48]⟩) (.int .i64 0)).run Tryd.prog w = .ok (.int .u8 48) w := fun _ => by kernel_rfl
    go_enter Tryd.func25, Tryd.ntmps25
    go_wp2
    go_ret
    exact ⟨rfl, by repeat (first | exact Drawn0.refl _ | apply Drawn0.step)⟩
  · obtain rfl : (0 : Int) = r := Option.some.inj h
    have ib : ∀ w, (Instr.index 9 (.string ⟨#[48, 48, 48, 48, 48, 48]⟩) (.int .i64 1)).run Tryd.prog w = .ok (.int .u8 48) w := fun _ => by kernel_rfl
    go_enter Tryd.func25, Tryd.ntmps25
    go_wp2
    go_ret
    exact ⟨rfl, by repeat (first | exact Drawn0.refl _ | apply Drawn0.step)⟩
  · obtain rfl : (0 : Int) = r := Option.some.inj h
    have ib : ∀ w, (Instr.index 9 (.string ⟨#[48, 48, 48, 48, 48, 48]⟩) (.int .i64 2)).run Tryd.prog w = .ok (.int .u8 48) w := fun _ => by kernel_rfl
    go_enter Tryd.func25, Tryd.ntmps25
    go_wp2
    go_ret
    exact ⟨rfl, by repeat (first | exact Drawn0.refl _ | apply Drawn0.step)⟩
  · obtain rfl : (0 : Int) = r := Option.some.inj h
    have ib : ∀ w, (Instr.index 9 (.string ⟨#[48, 48, 48, 48, 48, 48]⟩) (.int .i64 3)).run Tryd.prog w = .ok (.int .u8 48) w := fun _ => by kernel_rfl
    go_enter Tryd.func25, Tryd.ntmps25
    go_wp2
    go_ret
    exact ⟨rfl, by repeat (first | exact Drawn0.refl _ | apply Drawn0.step)⟩
  · obtain rfl : (0 : Int) = r := Option.some.inj h
    have ib : ∀ w, (Instr.index 9 (.string ⟨#[48, 48, 48, 48, 48, 48]⟩) (.int .i64 4)).run Tryd.prog w = .ok (.int .u8 48) w := fun _ => by kernel_rfl
    go_enter Tryd.func25, Tryd.ntmps25
    go_wp2
    go_ret
    exact ⟨rfl, by repeat (first | exact Drawn0.refl _ | apply Drawn0.step)⟩
  · obtain rfl : (0 : Int) = r := Option.some.inj h
    have ib : ∀ w, (Instr.index 9 (.string ⟨#[48, 48, 48, 48, 48, 48]⟩) (.int .i64 5)).run Tryd.prog w = .ok (.int .u8 48) w := fun _ => by kernel_rfl
    go_enter Tryd.func25, Tryd.ntmps25
    go_wp2
    go_ret
    exact ⟨rfl, by repeat (first | exact Drawn0.refl _ | apply Drawn0.step)⟩
set_option maxHeartbeats 4000000 in
set_option maxRecDepth 100000 in
theorem kissgateref13_Act.walk_true_4 (a2 : Int) (r : Int) (w : World) (h : kissgateref13_Act.f true 4 a2 = some r) : Calls Tryd.prog 25 #[.bool true, .int .i64 4, .int .i64 a2] w fun e w' => e = .returned (.int .i64 r) ∧ Drawn0 w w' := by
  have h2 : 0 ≤ a2 ∧ a2 < 6 := by
    unfold kissgateref13_Act.f at h
    by_cases h0 : 0 ≤ a2
    · refine ⟨h0, ?_⟩
      rw [if_pos ⟨by decide, h0⟩] at h
      have h3 : ([0, 0, 0, 0, 3, 0] : List Int)[a2.toNat]? = some r := h
      have := (List.getElem?_eq_some_iff.1 h3).1
      simp only [List.length_cons, List.length_nil] at this
      omega
    · rw [if_neg (fun e => h0 e.2)] at h; cases h
  have hc : a2 = 0 ∨ a2 = 1 ∨ a2 = 2 ∨ a2 = 3 ∨ a2 = 4 ∨ a2 = 5 := by omega
  have ia : ∀ w, (Instr.index 54 (.agg #[.string ⟨#[48, 48, 48, 48, 48, 48]⟩, .string ⟨#[48, 48, 48, 48, 49, 48]⟩, .string ⟨#[48, 48, 48, 48, 50, 48]⟩, .string ⟨#[48, 48, 48, 48, 48, 48]⟩, .string ⟨#[48, 48, 48, 48, 51, 48]⟩]) (.int .i64 4)).run Tryd.prog w = .ok (.string ⟨#[48, 48, 48, 48, 51, 48]⟩) w := fun _ => by kernel_rfl
  rcases hc with rfl | rfl | rfl | rfl | rfl | rfl
  · obtain rfl : (0 : Int) = r := Option.some.inj h
    have ib : ∀ w, (Instr.index 9 (.string ⟨#[48, 48, 48, 48, 51, 48]⟩) (.int .i64 0)).run Tryd.prog w = .ok (.int .u8 48) w := fun _ => by kernel_rfl
    go_enter Tryd.func25, Tryd.ntmps25
    go_wp2
    go_ret
    exact ⟨rfl, by repeat (first | exact Drawn0.refl _ | apply Drawn0.step)⟩
  · obtain rfl : (0 : Int) = r := Option.some.inj h
    have ib : ∀ w, (Instr.index 9 (.string ⟨#[48, 48, 48, 48, 51, 48]⟩) (.int .i64 1)).run Tryd.prog w = .ok (.int .u8 48) w := fun _ => by kernel_rfl
    go_enter Tryd.func25, Tryd.ntmps25
    go_wp2
    go_ret
    exact ⟨rfl, by repeat (first | exact Drawn0.refl _ | apply Drawn0.step)⟩
  · obtain rfl : (0 : Int) = r := Option.some.inj h
    have ib : ∀ w, (Instr.index 9 (.string ⟨#[48, 48, 48, 48, 51, 48]⟩) (.int .i64 2)).run Tryd.prog w = .ok (.int .u8 48) w := fun _ => by kernel_rfl
    go_enter Tryd.func25, Tryd.ntmps25
    go_wp2
    go_ret
    exact ⟨rfl, by repeat (first | exact Drawn0.refl _ | apply Drawn0.step)⟩
  · obtain rfl : (0 : Int) = r := Option.some.inj h
    have ib : ∀ w, (Instr.index 9 (.string ⟨#[48, 48, 48, 48, 51, 48]⟩) (.int .i64 3)).run Tryd.prog w = .ok (.int .u8 48) w := fun _ => by kernel_rfl
    go_enter Tryd.func25, Tryd.ntmps25
    go_wp2
    go_ret
    exact ⟨rfl, by repeat (first | exact Drawn0.refl _ | apply Drawn0.step)⟩
  · obtain rfl : (3 : Int) = r := Option.some.inj h
    have ib : ∀ w, (Instr.index 9 (.string ⟨#[48, 48, 48, 48, 51, 48]⟩) (.int .i64 4)).run Tryd.prog w = .ok (.int .u8 51) w := fun _ => by kernel_rfl
    go_enter Tryd.func25, Tryd.ntmps25
    go_wp2
    go_ret
    exact ⟨rfl, by repeat (first | exact Drawn0.refl _ | apply Drawn0.step)⟩
  · obtain rfl : (0 : Int) = r := Option.some.inj h
    have ib : ∀ w, (Instr.index 9 (.string ⟨#[48, 48, 48, 48, 51, 48]⟩) (.int .i64 5)).run Tryd.prog w = .ok (.int .u8 48) w := fun _ => by kernel_rfl
    go_enter Tryd.func25, Tryd.ntmps25
    go_wp2
    go_ret
    exact ⟨rfl, by repeat (first | exact Drawn0.refl _ | apply Drawn0.step)⟩
theorem kissgateref13_Act.calls (a0 : Bool) (a1 : Int) (a2 : Int) (r : Int) (w : World) (h : kissgateref13_Act.f a0 a1 a2 = some r) : Calls Tryd.prog 25 #[.bool a0, .int .i64 a1, .int .i64 a2] w fun e w' => e = .returned (.int .i64 r) ∧ Drawn0 w w' := by
  have h1 : 0 ≤ a1 ∧ a1 < (kissgateref13_Act.tab a0).length := by
    unfold kissgateref13_Act.f at h
    by_cases h0 : 0 ≤ a1 ∧ 0 ≤ a2
    · rw [if_pos h0] at h
      obtain ⟨q, hq, _⟩ := Option.bind_eq_some_iff.mp h
      have := (List.getElem?_eq_some_iff.1 hq).1
      omega
    · rw [if_neg h0] at h; cases h
  cases a0 with
  | false =>
    have hc : a1 = 0 ∨ a1 = 1 ∨ a1 = 2 := by have := h1.2; simp only [kissgateref13_Act.tab, Bool.false_eq_true, if_false, List.length_cons, List.length_nil] at this; omega
    rcases hc with rfl | rfl | rfl
    · exact kissgateref13_Act.walk_false_0 a2 r w h
    · exact kissgateref13_Act.walk_false_1 a2 r w h
    · exact kissgateref13_Act.walk_false_2 a2 r w h
  | true =>
    have hc : a1 = 0 ∨ a1 = 1 ∨ a1 = 2 ∨ a1 = 3 ∨ a1 = 4 := by have := h1.2; simp only [kissgateref13_Act.tab, if_true, List.length_cons, List.length_nil] at this; omega
    rcases hc with rfl | rfl | rfl | rfl | rfl
    · exact kissgateref13_Act.walk_true_0 a2 r w h
    · exact kissgateref13_Act.walk_true_1 a2 r w h
    · exact kissgateref13_Act.walk_true_2 a2 r w h
    · exact kissgateref13_Act.walk_true_3 a2 r w h
    · exact kissgateref13_Act.walk_true_4 a2 r w h


end Go.Proofs.YtnphindpbdjmpaaDoor.PAppliDoes
