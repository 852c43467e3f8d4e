-- Written by a program of this session (see NOTES.md), which reads the translation's print; Lean checks it.
import Derived.Test.YtkjkcmcfbnamaaaPOctetPutsx0
namespace Go.Proofs.Ytkjkcmcfbnamaaa.POctetPuts
open Go.RowKit Go.Proofs.YtkjkcmcfbnamaaaW.PrintWords Go.Proofs.YtkjkcmcfbnamaaaW.PrintLast Go.Proofs.YtkjkcmcfbnamaaaW.PrintMore
attribute [local go_sem] max2_int min2_int max_two min_two max_three min_three max_four min_four   -- for this text's walks alone
set_option linter.unusedVariables false
set_option linter.unusedSimpArgs false

-- NOT PRINTED: function 9 (octet_Writer_Put)

-- NOT PRINTED: function 11 (octet_Writer_Raw)

-- NOT PRINTED: function 12 (octet_Writer_Text)

/-- A state of type 51 at block g of W; what its slices lead to came in by w0. -/
def IsS51 (w0 W : World) (g : Nat) (f0 : ByteArray) (f1 : Int) (f2 : Int) : Prop := W.heap[g]? = some (.cells #[.string f0, .int .i64 f1, .int .i64 f2] 51 (0, 0)) ∧ w0.heap.size ≤ g
theorem IsS51.grown {w0 W : World} {g : Nat} {f0 : ByteArray} {f1 : Int} {f2 : Int} {W1 : World} {row : Option Nat} (h : IsS51 w0 W g f0 f1 f2) (hw : W.grownBy W1 row) (hne : some g ≠ row) : IsS51 w0 W1 g f0 f1 f2 := by
  obtain ⟨hb, hg⟩ := h
  exact ⟨blk_grown hb hw hne, hg⟩
theorem IsS51.own_neN {w0 W : World} {g : Nat} {f0 : ByteArray} {f1 : Int} {f2 : Int} {α : Type} {d : Kd α} {e : Nat} {base : Nat} {ok : Nat → Prop} {v : Value} {xs : List α} (h : IsS51 w0 W g f0 f1 f2) (ho : Kd.N d e W base ok v xs) (ht : e ≠ 51) : some g ≠ v.ownBlock := by
  obtain ⟨hb, hg⟩ := h
  exact Kd.N_ne ho hb ht
theorem IsS51.fresh {w0 W : World} {g : Nat} {f0 : ByteArray} {f1 : Int} {f2 : Int} (h : IsS51 w0 W g f0 f1 f2) : ∀ k, W.heap.size ≤ k → k ≠ g := by
  obtain ⟨hb, hg⟩ := h
  exact Kd.freshB hb
theorem IsS51.kept {w0 W : World} {g : Nat} {f0 : ByteArray} {f1 : Int} {f2 : Int} {W1 : World} {S : Nat → Prop} (h : IsS51 w0 W g f0 f1 f2) (hk : Kept W W1 S) (hne : ¬ S g) : IsS51 w0 W1 g f0 f1 f2 := by
  obtain ⟨hb, hg⟩ := h
  exact ⟨blk_kept hb hk hne, hg⟩
theorem IsS51.below {w0 W : World} {g : Nat} {f0 : ByteArray} {f1 : Int} {f2 : Int} {W1 : World} (h : IsS51 w0 W g f0 f1 f2) (hw : Below W.heap.size W W1) : IsS51 w0 W1 g f0 f1 f2 := h.grown (grown_of_below hw none) (by simp)
theorem IsS51.alloc {w0 W : World} {g : Nat} {f0 : ByteArray} {f1 : Int} {f2 : Int} (h : IsS51 w0 W g f0 f1 f2) (o : Obj) : IsS51 w0 (W.alloc o) g f0 f1 f2 := h.below (below_alloc (Below.refl _ _) o)
theorem IsS51.drewN {w0 W : World} {g : Nat} {f0 : ByteArray} {f1 : Int} {f2 : Int} (h : IsS51 w0 W g f0 f1 f2) (m : Nat) : IsS51 w0 (W.drewN m) g f0 f1 f2 := h
theorem IsS51.drew {w0 W : World} {g : Nat} {f0 : ByteArray} {f1 : Int} {f2 : Int} (h : IsS51 w0 W g f0 f1 f2) : IsS51 w0 W.drew g f0 f1 f2 := h
theorem IsS51.at_ {w0 W : World} {g : Nat} {f0 : ByteArray} {f1 : Int} {f2 : Int} {w' : World} {m : Nat} (hq : W.drewN m = w') (h : IsS51 w0 W g f0 f1 f2) : IsS51 w0 w' g f0 f1 f2 := by subst hq; exact IsS51.drewN h m
theorem IsS51.apart {w0 W : World} {g : Nat} {f0 : ByteArray} {f1 : Int} {f2 : Int} {α : Type} {d : Kd α} {e : Nat} {base : Nat} {ok : Nat → Prop} {v : Value} {xs : List α} (h : IsS51 w0 W g f0 f1 f2) (ho : d.R e W base ok v xs) (ht : ∀ q, q ∈ e :: d.E → q ≠ 51) : d.R e W base (fun k => ok k ∧ k ≠ g) v xs := by
  obtain ⟨hb, hg⟩ := h
  exact Kd.R_types ho hb ht
theorem IsS51.own_ne {w0 W : World} {g : Nat} {f0 : ByteArray} {f1 : Int} {f2 : Int} {α : Type} {d : Kd α} {e : Nat} {base : Nat} {ok : Nat → Prop} {v : Value} {xs : List α} (h : IsS51 w0 W g f0 f1 f2) (ho : d.R e W base ok v xs) (ht : e ≠ 51) : some g ≠ v.ownBlock := by
  obtain ⟨hb, hg⟩ := h
  exact Kd.R_ne ho hb ht
theorem IsS51.apartQ {w0 W : World} {g : Nat} {f0 : ByteArray} {f1 : Int} {f2 : Int} {α : Type} {d : Kd α} {e : Nat} {base : Nat} {ok : Nat → Prop} {v : Value} {xs : List α} (h : IsS51 w0 W g f0 f1 f2) (ho : d.Q e W base ok v xs) (ht : ∀ q, q ∈ e :: d.E → q ≠ 51) : d.Q e W base (fun k => ok k ∧ k ≠ g) v xs := by
  obtain ⟨hb, hg⟩ := h
  exact Kd.Q_types ho hb ht
theorem IsS51.own_neQ {w0 W : World} {g : Nat} {f0 : ByteArray} {f1 : Int} {f2 : Int} {α : Type} {d : Kd α} {e : Nat} {base : Nat} {ok : Nat → Prop} {v : Value} {xs : List α} (h : IsS51 w0 W g f0 f1 f2) (ho : d.Q e W base ok v xs) (ht : e ≠ 51) : some g ≠ v.ownBlock := by
  obtain ⟨hb, hg⟩ := h
  exact Kd.Q_ne ho hb ht
theorem IsS51.apartS {w0 W : World} {g : Nat} {f0 : ByteArray} {f1 : Int} {f2 : Int} {α : Type} {d : Kd α} {e : Nat} {base : Nat} {ok : Nat → Prop} {v : Value} {xs : List α} (h : IsS51 w0 W g f0 f1 f2) (ho : d.S e W base ok v xs) (ht : ∀ q, q ∈ e :: d.E → q ≠ 51) : d.S e W base (fun k => ok k ∧ k ≠ g) v xs := by
  obtain ⟨hb, hg⟩ := h
  exact Kd.S_types ho hb ht
theorem IsS51.own_neS {w0 W : World} {g : Nat} {f0 : ByteArray} {f1 : Int} {f2 : Int} {α : Type} {d : Kd α} {e : Nat} {base : Nat} {ok : Nat → Prop} {v : Value} {xs : List α} (h : IsS51 w0 W g f0 f1 f2) (ho : d.S e W base ok v xs) (ht : e ≠ 51) : some g ≠ v.ownBlock := by
  obtain ⟨hb, hg⟩ := h
  exact Kd.S_ne ho hb ht
theorem IsS51.lt {w0 W : World} {g : Nat} {f0 : ByteArray} {f1 : Int} {f2 : Int} (h : IsS51 w0 W g f0 f1 f2) : g < W.heap.size := by
  obtain ⟨hb, hg⟩ := h
  exact blk_lt hb
theorem IsS51.ge {w0 W : World} {g : Nat} {f0 : ByteArray} {f1 : Int} {f2 : Int} (h : IsS51 w0 W g f0 f1 f2) : w0.heap.size ≤ g := by
  obtain ⟨hb, hg⟩ := h
  exact hg
theorem IsS51.ne_blk {w0 W : World} {g : Nat} {f0 : ByteArray} {f1 : Int} {f2 : Int} {a : Nat} {cs : Array Value} {t : TypeId} {fr : Nat × Nat} (h : IsS51 w0 W g f0 f1 f2) (hb2 : W.heap[a]? = some (.cells cs t fr)) (ht : t ≠ 51) : g ≠ a := by
  obtain ⟨hb, hg⟩ := h
  rintro rfl
  rw [hb] at hb2
  injection hb2 with hb2
  injection hb2 with _ ht2
  exact ht ht2.symm
theorem IsS51.far {w0 W : World} {g : Nat} {f0 : ByteArray} {f1 : Int} {f2 : Int} {p : Addr} (h : IsS51 w0 W g f0 f1 f2) (hne : g ≠ p.block) (u : Value) : IsS51 w0 (W.setCell p u) g f0 f1 f2 := by
  obtain ⟨hb, hg⟩ := h
  exact ⟨blk_far hb hne u, hg⟩
theorem cellS51_0 {W : World} {g : Nat} {f0 : ByteArray} {f1 : Int} {f2 : Int} (h : W.heap[g]? = some (.cells #[.string f0, .int .i64 f1, .int .i64 f2] 51 (0, 0))) : W.cell? ⟨g, 0, none⟩ = some (.string f0) := (blk_cell h 0).trans rfl
theorem IsS51.set_0 {w0 W : World} {g : Nat} {f0 : ByteArray} {f1 : Int} {f2 : Int} (h : IsS51 w0 W g f0 f1 f2) (x : ByteArray) : IsS51 w0 (W.setCell ⟨g, 0, none⟩ (.string x)) g x f1 f2 := by
  obtain ⟨hb, hg⟩ := h
  exact ⟨by simpa using blk_set hb 0 (.string x), hg⟩
theorem cellS51_1 {W : World} {g : Nat} {f0 : ByteArray} {f1 : Int} {f2 : Int} (h : W.heap[g]? = some (.cells #[.string f0, .int .i64 f1, .int .i64 f2] 51 (0, 0))) : W.cell? ⟨g, 1, none⟩ = some (.int .i64 f1) := (blk_cell h 1).trans rfl
theorem IsS51.set_1 {w0 W : World} {g : Nat} {f0 : ByteArray} {f1 : Int} {f2 : Int} (h : IsS51 w0 W g f0 f1 f2) (x : Int) : IsS51 w0 (W.setCell ⟨g, 1, none⟩ (.int .i64 x)) g f0 x f2 := by
  obtain ⟨hb, hg⟩ := h
  exact ⟨by simpa using blk_set hb 1 (.int .i64 x), hg⟩
theorem cellS51_2 {W : World} {g : Nat} {f0 : ByteArray} {f1 : Int} {f2 : Int} (h : W.heap[g]? = some (.cells #[.string f0, .int .i64 f1, .int .i64 f2] 51 (0, 0))) : W.cell? ⟨g, 2, none⟩ = some (.int .i64 f2) := (blk_cell h 2).trans rfl
theorem IsS51.set_2 {w0 W : World} {g : Nat} {f0 : ByteArray} {f1 : Int} {f2 : Int} (h : IsS51 w0 W g f0 f1 f2) (x : Int) : IsS51 w0 (W.setCell ⟨g, 2, none⟩ (.int .i64 x)) g f0 f1 x := by
  obtain ⟨hb, hg⟩ := h
  exact ⟨by simpa using blk_set hb 2 (.int .i64 x), hg⟩
theorem IsS51.new (w0 W : World) (f0 : ByteArray) (f1 : Int) (f2 : Int) (hB : Below w0.heap.size w0 W) : IsS51 w0 (W.alloc (.cells #[.string f0, .int .i64 f1, .int .i64 f2] 51)) W.heap.size f0 f1 f2 := ⟨by simpa using heap_alloc_new W _, hB.size⟩

/-! ### octet_Open: function 13 -/
def octet_Open.f (a0 : ByteArray) : Option (ByteArray × Int × Int) := some (a0, 0, (-1))
set_option maxHeartbeats 8000000 in
set_option maxRecDepth 100000 in
theorem octet_Open.calls (a0 : ByteArray) (r1 : ByteArray) (r2 : Int) (r3 : Int) (w0 w : World) (hB : Below w0.heap.size w0 w) (h : octet_Open.f a0 = some (r1, r2, r3)) :
    Calls Try.prog 13 #[.string a0] w fun e w' => ∃ g_ : Nat, e = .returned (.pointer (some ⟨g_, 0, none⟩)) ∧ IsS51 w0 w' g_ r1 r2 r3 ∧ Below w0.heap.size w0 w' ∧ Below w.heap.size w w' := by
  have hu51 := Try.underlying51
  have HBW := Aside0.mk (Below.refl w.heap.size w)
  have HW0 := Aside0.mk hB.size
  have HB := Aside0.mk hB
  clear hB
  have H : (some (a0, 0, (-1))) = some (r1, r2, r3) := h
  clear h
  simp only [Option.some.injEq, Prod.mk.injEq] at H
  obtain ⟨rfl, rfl, rfl⟩ := H
  go_enter Try.func13, Try.ntmps13
  go_wp2_with (first | ((with_reducible refine gate_dst (N := 5) rfl ?_); refine box_event ?hg (N := 5) ?hd (cs := #[.string a0, .int .i64 0, .int .i64 (-1)]) (t := 51) ?hr ?_; (case hd => rfl); (case hg => rfl); (case hr => first | (go_simp; done) | (go_simp; rfl)); intro gb101 hg w2 hbox hb; have n0_ := Aside0.mk (below_step HBW.out hb); have n1_ := Aside0.mk (below_step (by repeat (first | (with_reducible first | exact HB.out | apply below_alloc | apply pw_below_drewN | apply below_drew1) | exact HB.out)) hb); have n2_ := Aside0.mk (hbox); have n3_ := Aside0.mk ((by rw [hg]; exact (below_size (by repeat (first | (with_reducible first | exact HBW.out | apply below_alloc | apply pw_below_drewN | apply below_drew1) | exact HBW.out))) : w.heap.size ≤ gb101)); have n4_ := Aside0.mk ((Nat.le_trans HW0.out (by rw [hg]; exact (below_size (by repeat (first | (with_reducible first | exact HBW.out | apply below_alloc | apply pw_below_drewN | apply below_drew1) | exact HBW.out))) : w.heap.size ≤ gb101) : w0.heap.size ≤ gb101)); clear HBW; clear HB; have HBW := n0_; have HB := n1_; have BK101 := n2_; have GW101 := n3_; have GE101 := n4_; clear n0_ n1_ n2_ n3_ n4_; clear hb hbox hg))
  go_ret
  exact ⟨_, rfl, (show IsS51 w0 _ gb101 a0 0 (-1) from ⟨by (with_reducible repeat (first | refine blk_drewN ?_ _ | refine blk_drew ?_ | refine blk_alloc ?_ _)); exact BK101.out, GE101.out⟩), by repeat (first | (with_reducible first | exact HB.out | apply below_alloc | apply pw_below_drewN | apply below_drew1 | refine below_set ?_ GE101.out) | exact HB.out), by repeat (first | (with_reducible first | exact HBW.out | apply below_alloc | apply pw_below_drewN | apply below_drew1 | refine below_set ?_ GW101.out) | exact HBW.out)⟩

/-! ### octet_Reader_End: function 15 -/
def octet_Reader_End.f (s0_0 : ByteArray) (s0_1 : Int) (s0_2 : Int) : Option (Int × ByteArray × Int × Int) := if s0_2 ≥ 0 then (some (4, s0_0, s0_1, s0_2)) else (if s0_1 < (s0_0.size : Int) then (some (4, s0_0, s0_1, s0_2)) else (some (0, s0_0, s0_1, s0_2)))
set_option maxHeartbeats 8000000 in
set_option maxRecDepth 100000 in
theorem octet_Reader_End.calls (g : Nat) (s0_0 : ByteArray) (s0_1 : Int) (s0_2 : Int) (r1 : Int) (r2 : ByteArray) (r3 : Int) (r4 : Int) (w0 w : World) (hI : IsS51 w0 w g s0_0 s0_1 s0_2) (hB : Below w0.heap.size w0 w) (h : octet_Reader_End.f s0_0 s0_1 s0_2 = some (r1, r2, r3, r4)) :
    Calls Try.prog 15 #[.pointer (some ⟨g, 0, none⟩)] w fun e w' => e = .returned (.int .i64 r1) ∧ IsS51 w0 w' g r2 r3 r4 ∧ Below w0.heap.size w0 w' ∧ KeepBut w w' g none := by
  have HI0 := Aside0.mk hI
  have HK := Aside0.mk (KeepBut.refl w g none)
  have HL := Aside0.mk hB.size
  clear hI
  have HW0 := Aside0.mk hB.size
  have HB := Aside0.mk hB
  clear hB
  have H : (if s0_2 ≥ 0 then (some (4, s0_0, s0_1, s0_2)) else (if s0_1 < (s0_0.size : Int) then (some (4, s0_0, s0_1, s0_2)) else (some (0, s0_0, s0_1, s0_2)))) = some (r1, r2, r3, r4) := h
  clear h
  by_cases c2 : s0_2 ≥ 0
  · rw [if_pos c2] at H
    have c2b0 : decide (0 ≤ s0_2) = true := decide_eq_true c2
    clear c2
    simp only [Option.some.injEq, Prod.mk.injEq] at H
    obtain ⟨rfl, rfl, rfl, rfl⟩ := H
    obtain ⟨HGz3, hgz3⟩ := HI0.out
    have hcz3_0 := cellS51_0 HGz3
    have hcz3_1 := cellS51_1 HGz3
    have hcz3_2 := cellS51_2 HGz3
    have hfz3_0 := blk_frozen HGz3 0
    have hfz3_1 := blk_frozen HGz3 1
    have hfz3_2 := blk_frozen HGz3 2
    clear HGz3 hgz3
    go_enter Try.func15, Try.ntmps15
    go_wp2
    repeat (go_quiet (fail); try go_wp2)
    go_ret
    exact ⟨by first | rfl | (simp [show ∀ l_ : List UInt8, (l_ == []) = l_.isEmpty from fun l_ => by cases l_ <;> rfl]; done) | (simp [errW_none, errW_some] <;> rfl) | ((repeat rw [Int.tdiv_eq_ediv_of_nonneg (by omega)]); (repeat rw [Int.tmod_eq_emod_of_nonneg (by omega)]); first | rfl | (simp [errW_none, errW_some] <;> rfl)) | (simp [*, errW_none, errW_some] <;> rfl), by repeat (first | (with_reducible first | exact HI0.out | apply IsS51.alloc | apply IsS51.drewN | apply IsS51.drew | apply IsS51.set_0 | apply IsS51.set_1 | apply IsS51.set_2) | exact HI0.out), by repeat (first | (with_reducible first | exact HB.out | apply below_alloc | apply pw_below_drewN | apply below_drew1 | refine below_set ?_ (IsS51.ge HI0.out)) | exact HB.out), by repeat (first | (with_reducible first | exact HK.out | apply KeepBut.set_ | apply keep_drewN | apply keep_drew | apply keep_alloc) | exact HK.out)⟩
  · rw [if_neg c2] at H
    have c2b0 : decide (0 ≤ s0_2) = false := decide_eq_false c2
    clear c2
    by_cases c4 : s0_1 < (s0_0.size : Int)
    · rw [if_pos c4] at H
      have c4b0 : decide (s0_1 < (s0_0.size : Int)) = true := decide_eq_true c4
      clear c4
      simp only [Option.some.injEq, Prod.mk.injEq] at H
      obtain ⟨rfl, rfl, rfl, rfl⟩ := H
      obtain ⟨HGz5, hgz5⟩ := HI0.out
      have hcz5_0 := cellS51_0 HGz5
      have hcz5_1 := cellS51_1 HGz5
      have hcz5_2 := cellS51_2 HGz5
      have hfz5_0 := blk_frozen HGz5 0
      have hfz5_1 := blk_frozen HGz5 1
      have hfz5_2 := blk_frozen HGz5 2
      clear HGz5 hgz5
      go_enter Try.func15, Try.ntmps15
      go_wp2
      repeat (go_quiet (fail); try go_wp2)
      go_ret
      exact ⟨by first | rfl | (simp [show ∀ l_ : List UInt8, (l_ == []) = l_.isEmpty from fun l_ => by cases l_ <;> rfl]; done) | (simp [errW_none, errW_some] <;> rfl) | ((repeat rw [Int.tdiv_eq_ediv_of_nonneg (by omega)]); (repeat rw [Int.tmod_eq_emod_of_nonneg (by omega)]); first | rfl | (simp [errW_none, errW_some] <;> rfl)) | (simp [*, errW_none, errW_some] <;> rfl), by repeat (first | (with_reducible first | exact HI0.out | apply IsS51.alloc | apply IsS51.drewN | apply IsS51.drew | apply IsS51.set_0 | apply IsS51.set_1 | apply IsS51.set_2) | exact HI0.out), by repeat (first | (with_reducible first | exact HB.out | apply below_alloc | apply pw_below_drewN | apply below_drew1 | refine below_set ?_ (IsS51.ge HI0.out)) | exact HB.out), by repeat (first | (with_reducible first | exact HK.out | apply KeepBut.set_ | apply keep_drewN | apply keep_drew | apply keep_alloc) | exact HK.out)⟩
    · rw [if_neg c4] at H
      have c4b0 : decide (s0_1 < (s0_0.size : Int)) = false := decide_eq_false c4
      clear c4
      simp only [Option.some.injEq, Prod.mk.injEq] at H
      obtain ⟨rfl, rfl, rfl, rfl⟩ := H
      obtain ⟨HGz6, hgz6⟩ := HI0.out
      have hcz6_0 := cellS51_0 HGz6
      have hcz6_1 := cellS51_1 HGz6
      have hcz6_2 := cellS51_2 HGz6
      have hfz6_0 := blk_frozen HGz6 0
      have hfz6_1 := blk_frozen HGz6 1
      have hfz6_2 := blk_frozen HGz6 2
      clear HGz6 hgz6
      go_enter Try.func15, Try.ntmps15
      go_wp2
      repeat (go_quiet (fail); try go_wp2)
      go_ret
      exact ⟨by first | rfl | (simp [show ∀ l_ : List UInt8, (l_ == []) = l_.isEmpty from fun l_ => by cases l_ <;> rfl]; done) | (simp [errW_none, errW_some] <;> rfl) | ((repeat rw [Int.tdiv_eq_ediv_of_nonneg (by omega)]); (repeat rw [Int.tmod_eq_emod_of_nonneg (by omega)]); first | rfl | (simp [errW_none, errW_some] <;> rfl)) | (simp [*, errW_none, errW_some] <;> rfl), by repeat (first | (with_reducible first | exact HI0.out | apply IsS51.alloc | apply IsS51.drewN | apply IsS51.drew | apply IsS51.set_0 | apply IsS51.set_1 | apply IsS51.set_2) | exact HI0.out), by repeat (first | (with_reducible first | exact HB.out | apply below_alloc | apply pw_below_drewN | apply below_drew1 | refine below_set ?_ (IsS51.ge HI0.out)) | exact HB.out), by repeat (first | (with_reducible first | exact HK.out | apply KeepBut.set_ | apply keep_drewN | apply keep_drew | apply keep_alloc) | exact HK.out)⟩

/-! ### octet_Reader_Fault: function 22 -/
def octet_Reader_Fault.f (s0_0 : ByteArray) (s0_1 : Int) (s0_2 : Int) : Option (Int × ByteArray × Int × Int) := some (s0_2, s0_0, s0_1, s0_2)
set_option maxHeartbeats 8000000 in
set_option maxRecDepth 100000 in
theorem octet_Reader_Fault.calls (g : Nat) (s0_0 : ByteArray) (s0_1 : Int) (s0_2 : Int) (r1 : Int) (r2 : ByteArray) (r3 : Int) (r4 : Int) (w0 w : World) (hI : IsS51 w0 w g s0_0 s0_1 s0_2) (hB : Below w0.heap.size w0 w) (h : octet_Reader_Fault.f s0_0 s0_1 s0_2 = some (r1, r2, r3, r4)) :
    Calls Try.prog 22 #[.pointer (some ⟨g, 0, none⟩)] w fun e w' => e = .returned (.int .i64 r1) ∧ IsS51 w0 w' g r2 r3 r4 ∧ Below w0.heap.size w0 w' ∧ KeepBut w w' g none := by
  have HI0 := Aside0.mk hI
  have HK := Aside0.mk (KeepBut.refl w g none)
  have HL := Aside0.mk hB.size
  clear hI
  have HW0 := Aside0.mk hB.size
  have HB := Aside0.mk hB
  clear hB
  have H : (some (s0_2, s0_0, s0_1, s0_2)) = some (r1, r2, r3, r4) := h
  clear h
  simp only [Option.some.injEq, Prod.mk.injEq] at H
  obtain ⟨rfl, rfl, rfl, rfl⟩ := H
  obtain ⟨HGz2, hgz2⟩ := HI0.out
  have hcz2_0 := cellS51_0 HGz2
  have hcz2_1 := cellS51_1 HGz2
  have hcz2_2 := cellS51_2 HGz2
  have hfz2_0 := blk_frozen HGz2 0
  have hfz2_1 := blk_frozen HGz2 1
  have hfz2_2 := blk_frozen HGz2 2
  clear HGz2 hgz2
  go_enter Try.func22, Try.ntmps22
  go_wp2
  go_ret
  exact ⟨by first | rfl | (simp [show ∀ l_ : List UInt8, (l_ == []) = l_.isEmpty from fun l_ => by cases l_ <;> rfl]; done) | (simp [errW_none, errW_some] <;> rfl) | ((repeat rw [Int.tdiv_eq_ediv_of_nonneg (by omega)]); (repeat rw [Int.tmod_eq_emod_of_nonneg (by omega)]); first | rfl | (simp [errW_none, errW_some] <;> rfl)) | (simp [*, errW_none, errW_some] <;> rfl), by repeat (first | (with_reducible first | exact HI0.out | apply IsS51.alloc | apply IsS51.drewN | apply IsS51.drew | apply IsS51.set_0 | apply IsS51.set_1 | apply IsS51.set_2) | exact HI0.out), by repeat (first | (with_reducible first | exact HB.out | apply below_alloc | apply pw_below_drewN | apply below_drew1 | refine below_set ?_ (IsS51.ge HI0.out)) | exact HB.out), by repeat (first | (with_reducible first | exact HK.out | apply KeepBut.set_ | apply keep_drewN | apply keep_drew | apply keep_alloc) | exact HK.out)⟩

/-! ### kissgatelaw01_alive: function 8 -/
open Wr
theorem wrap_id {n : Int} (h0 : -9223372036854775808 ≤ n) (h1 : n ≤ 9223372036854775807) : wrap64 n = n := by unfold wrap64; omega
/-- A reader's state. -/
def Rd (s : ByteArray) (i b : Int) : Prop := s.size ≤ 100000 ∧ 0 ≤ i ∧ i ≤ s.size ∧ (b = -1 ∨ 0 ≤ b)
def endV (s : ByteArray) (i b : Int) : Int := if b = -1 ∧ i = s.size then 0 else 4
theorem end_eq {s : ByteArray} {i b : Int} (h : Rd s i b) : octet_Reader_End.f s i b = some (endV s i b, s, i, b) := by
  obtain ⟨h0, h1, h2, h3⟩ := h
  unfold octet_Reader_End.f endV
  rcases h3 with rfl | h3
  · rw [if_neg (by decide)]
    by_cases c : i < s.size
    · rw [if_pos c, if_neg (by omega)]
    · rw [if_neg c, if_pos ⟨rfl, by omega⟩]
  · rw [if_pos h3, if_neg (by omega)]
theorem End_nice {g : Nat} {s : ByteArray} {i b : Int} {w0 w : World} (hI : IsS51 w0 w g s i b) (hB : Below w0.heap.size w0 w) (hR : Rd s i b) :
    Calls Try.prog 15 #[.pointer (some ⟨g, 0, none⟩)] w fun e w' => e = .returned (.int .i64 (endV s i b)) ∧ IsS51 w0 w' g s i b ∧ Below w0.heap.size w0 w' ∧ KeepBut w w' g none := octet_Reader_End.calls g s i b _ _ _ _ w0 w hI hB (end_eq hR)
theorem Fault_nice {g : Nat} {s : ByteArray} {i b : Int} {w0 w : World} (hI : IsS51 w0 w g s i b) (hB : Below w0.heap.size w0 w) (hR : Rd s i b) :
    Calls Try.prog 22 #[.pointer (some ⟨g, 0, none⟩)] w fun e w' => e = .returned (.int .i64 b) ∧ IsS51 w0 w' g s i b ∧ Below w0.heap.size w0 w' ∧ KeepBut w w' g none := octet_Reader_Fault.calls g s i b _ _ _ _ w0 w hI hB rfl
theorem Open_nice (s : ByteArray) {w0 w : World} (hB : Below w0.heap.size w0 w) : Calls Try.prog 13 #[.string s] w fun e w' => ∃ g_ : Nat, e = .returned (.pointer (some ⟨g_, 0, none⟩)) ∧ IsS51 w0 w' g_ s 0 (-1) ∧ Below w0.heap.size w0 w' ∧ Below w.heap.size w w' := octet_Open.calls s _ _ _ w0 w hB rfl
theorem Rd_new (s : ByteArray) (h : s.size ≤ 100000) : Rd s 0 (-1) := ⟨h, by omega, by omega, .inl rfl⟩
theorem Rd_nil : Rd ⟨#[]⟩ 0 (-1) := Rd_new _ (by decide)
set_option maxHeartbeats 4000000 in
set_option maxRecDepth 100000 in
theorem kissgatelaw01_alive.good (w0 w : World) (hB : Below w0.heap.size w0 w) :
    Calls Try.prog 8 #[] w fun e w' => e = .returned (.bool true) ∧ Below w0.heap.size w0 w' := by
  have HB := Aside0.mk hB
  clear hB
  have hu := Try.underlying27
  go_enter Try.func8, Try.ntmps8
  go_upto_region 2 with (fail)
  have HW := Aside0.mk (WS.new HB.out HB.out.size)
  generalize w.alloc (.cells #[.slice none 0 0] 27) = W at HW ⊢
  generalize w.heap.size = g at HW ⊢
  go_wp2_with fail
  go_at_call 9
  refine (put_ws _ _ HW (by omega)).mono ?_
  rintro e w1 ⟨rfl, HW⟩
  go_wp2_with fail
  go_at_call 11
  refine (raw_ws _ 1 HW (by decide) (by omega)).mono ?_
  rintro e w2 ⟨rfl, HW⟩
  have ht : ((⟨#[]⟩ : ByteArray) ++ numOf 2 258) ++ ⟨#[97]⟩ = ⟨#[1, 2, 97]⟩ := by decide +kernel
  rw [ht] at HW
  clear ht
  go_wp2_with fail
  go_at_call 12
  refine (text_ws HW).mono ?_
  rintro e w3 ⟨rfl, rfl⟩
  have HB := Aside0.mk HW.out.below
  go_wp2_with fail
  go_at_call 13
  refine (Open_nice _ HB.out).mono ?_
  rintro e w4 ⟨g1, rfl, hi, hb, _⟩
  have HI := Aside0.mk hi
  have HB := Aside0.mk hb
  clear hi hb
  go_wp2_with fail
  go_at_call 15
  refine (End_nice HI.out HB.out Rd_nil).mono ?_
  rw [show endV ⟨#[]⟩ 0 (-1) = 0 from rfl]
  rintro e w5 ⟨rfl, hi, hb, _⟩
  have HB := Aside0.mk hb
  clear hi hb
  go_wp2_with fail
  go_at_call 13
  refine (Open_nice _ HB.out).mono ?_
  rintro e w4 ⟨g2, rfl, hi, hb, _⟩
  have HI := Aside0.mk hi
  have HB := Aside0.mk hb
  clear hi hb
  go_wp2_with fail
  go_at_call 22
  refine (Fault_nice HI.out HB.out Rd_nil).mono ?_
  rintro e w5 ⟨rfl, hi, hb, _⟩
  have HB := Aside0.mk hb
  clear hi hb
  go_wp2_with fail
  go_ret
  exact ⟨rfl, HB.out⟩


/-! ### kissgateref01_Number: function 10 -/
mutual
def kissgateref01_Number.j0 : Nat → Int → Int → Option (ByteArray)
  | 0, _, _ => none
  | k + 1, x0, x1 => if x0 > 8 then (kissgateref01_Number.j1 k 8 x1) else (kissgateref01_Number.j1 k x0 x1)
def kissgateref01_Number.j1 : Nat → Int → Int → Option (ByteArray)
  | 0, _, _ => none
  | k + 1, x0, x1 => kissgateref01_Number.l0 k x0 (⟨#[]⟩ : ByteArray) (IntKind.u64.wrap (x1)) 0
def kissgateref01_Number.l0 : Nat → Int → ByteArray → Int → Int → Option (ByteArray)
  | 0, _, _, _, _ => none
  | k + 1, x0, x5, x6, x7 => if x7 < x0 then ((some (([(Int.tmod x6 256) % 256] : List Int) : List Int)).bind fun y102 => (if (strOfNums y102).size + x5.size ≤ 9223372036854775807 then (kissgateref01_Number.l0 k x0 ((strOfNums y102) ++ x5) (IntKind.u64.wrap (Int.tdiv x6 256)) (wrap64 (x7 + 1))) else (none))) else (some x5)
end
def kissgateref01_Number.f (k : Nat) (a0 : Int) (a1 : Int) : Option (ByteArray) := if a0 < 1 then (kissgateref01_Number.j0 k 1 a1) else (kissgateref01_Number.j0 k a0 a1)
theorem kissgateref01_Number.mono_l : ∀ k, (∀ y0 y1, LeO (kissgateref01_Number.j0 k y0 y1) (kissgateref01_Number.j0 (k + 1) y0 y1)) ∧ (∀ y0 y1, LeO (kissgateref01_Number.j1 k y0 y1) (kissgateref01_Number.j1 (k + 1) y0 y1)) ∧ (∀ y0 y1 y2 y3, LeO (kissgateref01_Number.l0 k y0 y1 y2 y3) (kissgateref01_Number.l0 (k + 1) y0 y1 y2 y3))
  | 0 => ⟨fun _ _ r h => by simp [kissgateref01_Number.j0] at h, fun _ _ r h => by simp [kissgateref01_Number.j1] at h, fun _ _ _ _ r h => by simp [kissgateref01_Number.l0] at h⟩
  | k + 1 => by
    obtain ⟨ih0, ih1, ih2⟩ := kissgateref01_Number.mono_l k
    refine ⟨?_, ?_, ?_⟩
    · intro y0 y1
      unfold kissgateref01_Number.j0
      repeat' first
      | (with_reducible exact ih0 _ _)
      | (with_reducible exact ih1 _ _)
      | (with_reducible exact ih2 _ _ _ _)
      | (with_reducible exact LeO.refl _)
      | (with_reducible exact LeO.none _)
      | (with_reducible refine LeO.ite ?_ ?_)
      | (with_reducible refine LeO.bind ?_ (fun _ => ?_))
      | exact ih0 _ _
      | exact ih1 _ _
      | exact ih2 _ _ _ _
      | exact LeO.none _
      | refine LeO.ite ?_ ?_
      | refine LeO.bind ?_ (fun _ => ?_)
    · intro y0 y1
      unfold kissgateref01_Number.j1
      repeat' first
      | (with_reducible exact ih0 _ _)
      | (with_reducible exact ih1 _ _)
      | (with_reducible exact ih2 _ _ _ _)
      | (with_reducible exact LeO.refl _)
      | (with_reducible exact LeO.none _)
      | (with_reducible refine LeO.ite ?_ ?_)
      | (with_reducible refine LeO.bind ?_ (fun _ => ?_))
      | exact ih0 _ _
      | exact ih1 _ _
      | exact ih2 _ _ _ _
      | exact LeO.none _
      | refine LeO.ite ?_ ?_
      | refine LeO.bind ?_ (fun _ => ?_)
    · intro y0 y1 y2 y3
      unfold kissgateref01_Number.l0
      repeat' first
      | (with_reducible exact ih0 _ _)
      | (with_reducible exact ih1 _ _)
      | (with_reducible exact ih2 _ _ _ _)
      | (with_reducible exact LeO.refl _)
      | (with_reducible exact LeO.none _)
      | (with_reducible refine LeO.ite ?_ ?_)
      | (with_reducible refine LeO.bind ?_ (fun _ => ?_))
      | exact ih0 _ _
      | exact ih1 _ _
      | exact ih2 _ _ _ _
      | exact LeO.none _
      | refine LeO.ite ?_ ?_
      | refine LeO.bind ?_ (fun _ => ?_)
theorem kissgateref01_Number.mono : ∀ a0 a1 k, LeO (kissgateref01_Number.f k a0 a1) (kissgateref01_Number.f (k + 1) a0 a1) := by
  intro a0 a1 k
  obtain ⟨ih0, ih1, ih2⟩ := kissgateref01_Number.mono_l k
  unfold kissgateref01_Number.f
  repeat' first
      | (with_reducible exact ih0 _ _)
      | (with_reducible exact ih1 _ _)
      | (with_reducible exact ih2 _ _ _ _)
      | (with_reducible exact LeO.refl _)
      | (with_reducible exact LeO.none _)
      | (with_reducible refine LeO.ite ?_ ?_)
      | (with_reducible refine LeO.bind ?_ (fun _ => ?_))
      | exact ih0 _ _
      | exact ih1 _ _
      | exact ih2 _ _ _ _
      | exact LeO.none _
      | refine LeO.ite ?_ ?_
      | refine LeO.bind ?_ (fun _ => ?_)
set_option maxHeartbeats 8000000 in
set_option maxRecDepth 100000 in
theorem kissgateref01_Number.calls (k : Nat) (a0 : Int) (a1 : Int) (r : ByteArray) (w : World) (h : kissgateref01_Number.f k a0 a1 = some r) :
    Calls Try.prog 10 #[.int .i64 a0, .int .i64 a1] w fun e w' => e = .returned (.string r) ∧ Below w.heap.size w w' := by
  have HB := Aside0.mk (Below.refl w.heap.size w)
  have H : (if a0 < 1 then (kissgateref01_Number.j0 k 1 a1) else (kissgateref01_Number.j0 k a0 a1)) = some r := h
  clear h
  have HC3 := Aside0.mk H
  clear H
  go_enter Try.func10, Try.ntmps10
  go_upto_if 9 with (fail)
  go_cut [0] (fun v0 wc => ∃ (kq : Nat) (x0_2 : Int), v0 = .int .i64 x0_2 ∧ Aside0 (kissgateref01_Number.j0 kq x0_2 a1 = some r) ∧ Aside0 (kq ≤ k) ∧ Aside0 (Below w.heap.size w wc))
  case first =>
    have H := HC3.out
    clear HC3
    by_cases c4 : a0 < 1
    · rw [if_pos c4] at H
      have c4b0 : decide (a0 < 1) = true := decide_eq_true c4
      clear c4
      (first | rw [c4b0] | (simp only [i64_w, i32_w]; rw [c4b0]) | skip)
      have H' := Aside0.mk H
      clear H
      go_wp2
      go_meet
      case rel => exact ⟨_, (1), (by first | rfl | (simp; done) | (simp [show ∀ l_ : List UInt8, (l_ != []) = !l_.isEmpty from fun l_ => by cases l_ <;> rfl]; done) | (simp [*]; done)), H', ⟨by first | omega | exact Nat.le_refl _⟩, ⟨by repeat (first | (with_reducible first | exact HB.out | apply below_alloc | apply pw_below_drewN | apply below_drew1) | exact HB.out)⟩⟩
    · rw [if_neg c4] at H
      have c4b0 : decide (a0 < 1) = false := decide_eq_false c4
      clear c4
      (first | rw [c4b0] | (simp only [i64_w, i32_w]; rw [c4b0]) | skip)
      have H' := Aside0.mk H
      clear H
      go_wp2
      go_meet
      case rel => exact ⟨_, (a0), (by first | rfl | (simp; done) | (simp [show ∀ l_ : List UInt8, (l_ != []) = !l_.isEmpty from fun l_ => by cases l_ <;> rfl]; done) | (simp [*]; done)), H', ⟨by first | omega | exact Nat.le_refl _⟩, ⟨by repeat (first | (with_reducible first | exact HB.out | apply below_alloc | apply pw_below_drewN | apply below_drew1) | exact HB.out)⟩⟩
  case rest =>
    clear HC3
    try clear c1
    try clear p2
    try clear c4
    try clear c4b0
    obtain ⟨kq, x0_2, rfl, HA, HJ2, HB⟩ := hcut
    cases kq with
    | zero => exact absurd HA.out (by simp [kissgateref01_Number.j0])
    | succ kj2 =>
      have H := HA.out
      clear HA
      simp only [kissgateref01_Number.j0] at H
      have HC5 := Aside0.mk H
      clear H
      go_upto_if 11 with (fail)
      go_cut [0] (fun v0 wc => ∃ (kq : Nat) (x0_4 : Int), v0 = .int .i64 x0_4 ∧ Aside0 (kissgateref01_Number.j1 kq x0_4 a1 = some r) ∧ Aside0 (kq ≤ kj2) ∧ Aside0 (Below w.heap.size w wc))
      case first =>
        have H := HC5.out
        clear HC5
        by_cases c6 : x0_2 > 8
        · rw [if_pos c6] at H
          have c6b0 : decide (8 < x0_2) = true := decide_eq_true c6
          clear c6
          (first | rw [c6b0] | (simp only [i64_w, i32_w]; rw [c6b0]) | skip)
          have H' := Aside0.mk H
          clear H
          go_wp2
          go_meet
          case rel => exact ⟨_, (8), (by first | rfl | (simp; done) | (simp [show ∀ l_ : List UInt8, (l_ != []) = !l_.isEmpty from fun l_ => by cases l_ <;> rfl]; done) | (simp [*]; done)), H', ⟨by have := HJ2.out; first | omega | exact Nat.le_refl _⟩, ⟨by repeat (first | (with_reducible first | exact HB.out | apply below_alloc | apply pw_below_drewN | apply below_drew1) | exact HB.out)⟩⟩
        · rw [if_neg c6] at H
          have c6b0 : decide (8 < x0_2) = false := decide_eq_false c6
          clear c6
          (first | rw [c6b0] | (simp only [i64_w, i32_w]; rw [c6b0]) | skip)
          have H' := Aside0.mk H
          clear H
          go_wp2
          go_meet
          case rel => exact ⟨_, (x0_2), (by first | rfl | (simp; done) | (simp [show ∀ l_ : List UInt8, (l_ != []) = !l_.isEmpty from fun l_ => by cases l_ <;> rfl]; done) | (simp [*]; done)), H', ⟨by have := HJ2.out; first | omega | exact Nat.le_refl _⟩, ⟨by repeat (first | (with_reducible first | exact HB.out | apply below_alloc | apply pw_below_drewN | apply below_drew1) | exact HB.out)⟩⟩
      case rest =>
        clear HC5
        try clear c1
        try clear p2
        try clear c4
        try clear c4b0
        try clear c6
        try clear c6b0
        try clear p2
        obtain ⟨kq, x0_4, rfl, HA, HJ4, HB⟩ := hcut
        cases kq with
        | zero => exact absurd HA.out (by simp [kissgateref01_Number.j1])
        | succ kj4 =>
          have H := HA.out
          clear HA
          simp only [kissgateref01_Number.j1] at H
          have H' := Aside0.mk H
          clear H
          go_wp2
          go_loopg [5, 6, 7] kj4 (fun kq v5 v6 v7 w' => ∃ (x5_3 : ByteArray) (x6_3 : Int) (x7_3 : Int), v5 = .string x5_3 ∧ v6 = .int .u64 x6_3 ∧ v7 = .int .i64 x7_3 ∧ Aside0 (kissgateref01_Number.l0 kq x0_4 x5_3 x6_3 x7_3 = some r) ∧ Aside0 (kq ≤ kj4) ∧ Aside0 (Below w.heap.size w w'))
          case atStart => exact ⟨((⟨#[]⟩ : ByteArray)), (IntKind.u64.wrap (a1)), (0), (by first | rfl | (simp; done) | (simp [show ∀ l_ : List UInt8, (l_ != []) = !l_.isEmpty from fun l_ => by cases l_ <;> rfl]; done) | (simp [*]; done)), (by first | rfl | (simp; done) | (simp [show ∀ l_ : List UInt8, (l_ != []) = !l_.isEmpty from fun l_ => by cases l_ <;> rfl]; done) | (simp [*]; done)), (by first | rfl | (simp; done) | (simp [show ∀ l_ : List UInt8, (l_ != []) = !l_.isEmpty from fun l_ => by cases l_ <;> rfl]; done) | (simp [*]; done)), H', ⟨Nat.le_refl _⟩, ⟨by repeat (first | (with_reducible first | exact HB.out | apply below_alloc | apply pw_below_drewN | apply below_drew1) | exact HB.out)⟩⟩
          case round =>
            clear H'
            try clear c1
            try clear p2
            try clear c4
            try clear c4b0
            try clear c6
            try clear c6b0
            try clear p2
            obtain ⟨x5_3, x6_3, x7_3, rfl, rfl, rfl, HA, HK3, HB⟩ := hrel
            cases gk with
            | zero => exact absurd HA.out (by simp [kissgateref01_Number.l0])
            | succ k3 =>
              have H := HA.out
              clear HA
              simp only [kissgateref01_Number.l0] at H
              by_cases c7 : x7_3 < x0_4
              · rw [if_pos c7] at H
                have c7b0 : decide (x7_3 < x0_4) = true := decide_eq_true c7
                clear c7
                obtain ⟨y102, hy102⟩ : ∃ y_ : List Int, y_ = (([(Int.tmod x6_3 256) % 256] : List Int)) := ⟨_, rfl⟩
                replace H : (if (strOfNums y102).size + x5_3.size ≤ 9223372036854775807 then (kissgateref01_Number.l0 k3 x0_4 ((strOfNums y102) ++ x5_3) (IntKind.u64.wrap (Int.tdiv x6_3 256)) (wrap64 (x7_3 + 1))) else (none)) = some r := by first | (rw [hy102]; with_reducible exact H) | (have H2_ := (Option.bind_some _ _).symm.trans H; rw [hy102]; with_reducible exact H2_) | (have H2_ := (Option.bind_some _ _).symm.trans H; with_reducible exact H2_) | with_reducible exact H | (rw [hy102]; exact H) | exact H
                have Ny102 := Aside0.mk hy102
                clear hy102
                by_cases c8 : (strOfNums y102).size + x5_3.size ≤ 9223372036854775807
                · rw [if_pos c8] at H
                  have c8b0 := eq_true c8
                  have c8b1 : decide ((strOfNums y102).size + x5_3.size ≤ 9223372036854775807) = true := decide_eq_true c8
                  try have c8b2 : (9223372036854775807 < (strOfNums y102).size + x5_3.size) = False := eq_false (Nat.not_lt.2 c8)
                  have H' := Aside0.mk H
                  clear H
                  go_wp2_with (first | ((with_reducible refine gate_dst (N := 22) rfl ?_); refine Kd.R_lit (Kd.int .u8) _ 5 ?hg (N := 22) ?hd (xs := ([(Int.tmod x6_3 256) % 256] : List Int)) (inner := [.int .u8 ((Int.tmod x6_3 256) % 256)]) (ok := fun _ => True) (okp := fun _ => True) ?hr ?hp (fun _ hk => hk) trivial (Below.refl _ _) (Nat.le_refl _) (by simp) ?_; (case hd => rfl); (case hg => rfl); (case hr => first | (go_simp; done) | (go_simp; rfl)); (case hp => exact (Reps.one (show Kd.M (Kd.int .u8) _ _ _ ((Int.tmod x6_3 256) % 256) [.int .u8 ((Int.tmod x6_3 256) % 256)] from rfl) (Reps.none _ _))); intro v103 w9 ho10 hb hg_ hnew_; clear hg_ hnew_; (first | rw [← Ny102.out] at ho10 | (simp only [Int.reduceToNat] at ho10; rw [← Ny102.out] at ho10)); have n0_ := Aside0.mk (Kd.R_lower ho10 (below_size (by repeat (first | (with_reducible first | exact HB.out | apply below_alloc | apply pw_below_drewN | apply below_drew1) | exact HB.out)))); have n1_ := Aside0.mk (below_step (by repeat (first | (with_reducible first | exact HB.out | apply below_alloc | apply pw_below_drewN | apply below_drew1) | exact HB.out)) hb); clear HB; have HO104 := n0_; have HB := n1_; clear n0_ n1_; clear hb ho10; have hcv11 := own_string (P := Try.prog) Try.underlying25 Try.underlying5 Try.underlying9 (Kd.own_of_R HO104.out)))
                  go_roundg k3
                  case measure => have := HJ2.out; have := HJ4.out; have := HK3.out; omega
                  case rel => exact ⟨((strOfNums y102) ++ x5_3), (IntKind.u64.wrap (Int.tdiv x6_3 256)), (wrap64 (x7_3 + 1)), (by first | rfl | (simp; done) | (simp [show ∀ l_ : List UInt8, (l_ != []) = !l_.isEmpty from fun l_ => by cases l_ <;> rfl]; done) | (simp [*]; done)), (by first | rfl | (simp; done) | (simp [show ∀ l_ : List UInt8, (l_ != []) = !l_.isEmpty from fun l_ => by cases l_ <;> rfl]; done) | (simp [*]; done)), (by first | rfl | (simp; done) | (simp [show ∀ l_ : List UInt8, (l_ != []) = !l_.isEmpty from fun l_ => by cases l_ <;> rfl]; done) | (simp [*]; done)), H', ⟨by have := HJ2.out; have := HJ4.out; have := HK3.out; omega⟩, ⟨by repeat (first | (with_reducible first | exact HB.out | apply below_alloc | apply pw_below_drewN | apply below_drew1) | exact HB.out)⟩⟩
                · rw [if_neg c8] at H
                  exact absurd H (by simp)
              · rw [if_neg c7] at H
                have c7b0 : decide (x7_3 < x0_4) = false := decide_eq_false c7
                clear c7
                obtain rfl := Option.some.inj H
                go_wp2
                go_ret
                exact ⟨by first | rfl | (simp [show ∀ l_ : List UInt8, (l_ == []) = l_.isEmpty from fun l_ => by cases l_ <;> rfl]; done) | (simp [errW_none, errW_some] <;> rfl) | ((repeat rw [Int.tdiv_eq_ediv_of_nonneg (by omega)]); (repeat rw [Int.tmod_eq_emod_of_nonneg (by omega)]); first | rfl | (simp [errW_none, errW_some] <;> rfl)) | (simp [*, errW_none, errW_some] <;> rfl), by repeat (first | (with_reducible first | exact HB.out | apply below_alloc | apply pw_below_drewN | apply below_drew1) | exact HB.out)⟩

/-! ### kissgatelaw01_OctetPuts: function 3 -/
theorem wrap_one (t : Nat) (h : t ≤ 100000000) : wrap64 ((t : Int) + 1) = ((t + 1 : Nat) : Int) := by rw [wrap_id (by omega) (by omega)]; omega
theorem wraps_i64 (n : Int) (h0 : 0 ≤ n) (h1 : n < 2 ^ 63) : IntKind.i64.wrap n = n := by rw [IntKind.wrap_i64]; omega
theorem str_size (xs : List Int) : (strOfNums xs).size = xs.length := by simp [strOfNums, ByteArray.size]
theorem str_append (xs ys : List Int) : strOfNums xs ++ strOfNums ys = strOfNums (xs ++ ys) := by
  apply ByteArray.ext
  simp [strOfNums]
theorem toList_append (a b : ByteArray) : (a ++ b).toList = a.toList ++ b.toList := by
  rw [ByteArray.toList_eq, ByteArray.toList_eq, ByteArray.toList_eq]; simp
theorem toList_inj {a b : ByteArray} (h : a.toList = b.toList) : a = b := by
  rw [ByteArray.toList_eq, ByteArray.toList_eq] at h
  exact ByteArray.ext (Array.toList_inj.1 h)

/-! ### Numbers as bytes -/
open Wr (putBytes numOf)
theorem putBytes_length (a : Int) : ∀ k, (putBytes a k).length = k
  | 0 => rfl
  | k + 1 => by simp [putBytes, putBytes_length a k]
theorem putBytes_small (a : Int) : ∀ k, ∀ x ∈ putBytes a k, 0 ≤ x ∧ x < 256
  | 0 => fun x h => by simp [putBytes] at h
  | k + 1 => fun x h => by
    simp only [putBytes, List.mem_cons] at h
    rcases h with rfl | h
    · omega
    · exact putBytes_small a k x h

/-- The value of bytes, the highest first. -/
def val (xs : List Int) : Int := xs.foldl (fun n x => n * 256 + x) 0
theorem val_from (xs : List Int) : ∀ n : Int, xs.foldl (fun n x => n * 256 + x) n = n * 256 ^ xs.length + val xs := by
  induction xs with
  | nil => intro n; simp [val]
  | cons x xs ih =>
    intro n
    unfold val
    rw [List.foldl_cons, List.foldl_cons, ih, ih (0 * 256 + x), List.length_cons, Int.pow_succ, Int.zero_mul, Int.zero_add, Int.add_mul]
    rw [show n * (256 ^ xs.length * 256) = n * 256 * 256 ^ xs.length by rw [Int.mul_comm (256 ^ xs.length) 256, Int.mul_assoc]]
    omega
theorem val_cons (x : Int) (xs : List Int) : val (x :: xs) = x * 256 ^ xs.length + val xs := by
  have := val_from xs x
  unfold val at this ⊢
  rw [List.foldl_cons, Int.zero_mul, Int.zero_add]; exact this
theorem val_range {xs : List Int} (h : ∀ x ∈ xs, 0 ≤ x ∧ x < 256) : 0 ≤ val xs ∧ val xs < 256 ^ xs.length := by
  induction xs with
  | nil => simp [val]
  | cons x xs ih =>
    have ih := ih (fun y hy => h y (by simp [hy]))
    have hx := h x (by simp)
    rw [val_cons, List.length_cons, Int.pow_succ]
    have h1 : (x + 1) * 256 ^ xs.length ≤ 256 * 256 ^ xs.length := Int.mul_le_mul_of_nonneg_right (by omega) (Int.le_of_lt (Int.pow_pos (by decide)))
    have h2 : 0 ≤ x * 256 ^ xs.length := Int.mul_nonneg hx.1 (Int.le_of_lt (Int.pow_pos (by decide)))
    rw [Int.add_mul, Int.one_mul] at h1
    generalize 256 ^ xs.length = z at *
    omega
theorem pow_two_eight (k : Nat) : (2 : Int) ^ (8 * k) = 256 ^ k := by rw [Int.pow_mul]; rfl
theorem emod_step (a z : Int) (hp : 0 < z) : a / z % 256 * z + a % z = a % (z * 256) := by
  have e1 : a % z + z * (a / z) = a := Int.emod_add_mul_ediv a z
  have hr0 : 0 ≤ a % z := Int.emod_nonneg a (Int.ne_of_gt hp)
  have hr1 : a % z < z := Int.emod_lt_of_pos a hp
  have hq : a / z = a / z % 256 + 256 * (a / z / 256) := (Int.emod_add_mul_ediv (a / z) 256).symm
  have hd0 : 0 ≤ a / z % 256 := by omega
  have hd1 : a / z % 256 < 256 := by omega
  revert e1 hr0 hr1 hq hd0 hd1
  generalize a / z % 256 = d
  generalize a / z / 256 = u
  generalize a % z = r
  generalize a / z = q
  intro e1 hr0 hr1 hq hd0 hd1
  subst hq
  subst e1
  rw [Int.mul_add, ← Int.mul_assoc z 256 u, Int.mul_comm z d, ← Int.add_assoc, Int.add_mul_emod_self_left]
  have h4 : 0 ≤ d * z := Int.mul_nonneg hd0 (Int.le_of_lt hp)
  have h6 : (d + 1) * z ≤ 256 * z := Int.mul_le_mul_of_nonneg_right hd1 (Int.le_of_lt hp)
  rw [Int.add_mul, Int.one_mul, Int.mul_comm 256 z] at h6
  rw [Int.emod_eq_of_lt (by omega) (by omega)]
  omega
theorem val_put (a : Int) : ∀ k, val (putBytes a k) = a % 256 ^ k
  | 0 => by simp [putBytes, val]
  | k + 1 => by
    rw [putBytes, val_cons, val_put a k, putBytes_length, pow_two_eight, Int.pow_succ]
    exact emod_step a _ (Int.pow_pos (by decide))
theorem put_val : ∀ {xs : List Int}, (∀ x ∈ xs, 0 ≤ x ∧ x < 256) → putBytes (val xs) xs.length = xs := by
  intro xs
  induction xs with
  | nil => intro _; rfl
  | cons x xs ih =>
    intro h
    have hx := h x (by simp)
    have hr := val_range (xs := xs) (fun y hy => h y (List.mem_cons_of_mem _ hy))
    have hp : (0 : Int) < 256 ^ xs.length := Int.pow_pos (by decide)
    rw [List.length_cons, putBytes, pow_two_eight, val_cons]
    have e1 : (x * 256 ^ xs.length + val xs) / 256 ^ xs.length % 256 = x := by
      rw [Int.add_comm, Int.add_mul_ediv_right _ _ (Int.ne_of_gt hp), Int.ediv_eq_zero_of_lt hr.1 hr.2]; omega
    rw [e1]
    congr 1
    have e2 : ∀ k, k ≤ xs.length → putBytes (x * 256 ^ xs.length + val xs) k = putBytes (val xs) k := by
      intro k
      induction k with
      | zero => intro _; rfl
      | succ k ihk =>
        intro hk
        rw [putBytes, putBytes, ihk (by omega), pow_two_eight]
        congr 1
        obtain ⟨m, hm⟩ : ∃ m, xs.length = k + 1 + m := ⟨xs.length - (k + 1), by omega⟩
        have e3 : x * 256 ^ xs.length = (x * 256 ^ m * 256) * 256 ^ k := by rw [hm, Int.pow_add, Int.pow_succ]; simp only [Int.mul_assoc, Int.mul_comm, Int.mul_left_comm]
        rw [e3, Int.add_comm, Int.add_mul_ediv_right _ _ (Int.ne_of_gt (Int.pow_pos (by decide)))]
        omega
    rw [e2 _ (Nat.le_refl _)]
    exact ih (fun y hy => h y (by simp [hy]))
theorem put_inj {a b : Int} {k : Nat} (h : putBytes a k = putBytes b k) : a % 256 ^ k = b % 256 ^ k := by rw [← val_put, ← val_put, h]
theorem put_congr {a b : Int} : ∀ {k : Nat}, a % 256 ^ k = b % 256 ^ k → putBytes a k = putBytes b k := by
  intro k h
  have ha := putBytes_small a k
  have hb := putBytes_small b k
  have e1 := put_val ha
  have e2 := put_val hb
  rw [putBytes_length, val_put] at e1 e2
  rw [← e1, ← e2, h]

theorem mx_of_lt {a b : Int} (h : a < b) : mx a b = b := by unfold mx; rw [if_pos h]
theorem mx_of_ge {a b : Int} (h : b ≤ a) : mx a b = a := by unfold mx; rw [if_neg (by omega)]
theorem mn_of_gt {a b : Int} (h : b < a) : mn a b = b := by unfold mn; rw [if_pos h]
theorem mn_of_le {a b : Int} (h : a ≤ b) : mn a b = a := by unfold mn; rw [if_neg (by omega)]
def szOf (size : Int) : Nat := (mn (mx size 1) 8).toNat
theorem numOf_eq (size a : Int) : numOf size a = strOfNums (putBytes a (szOf size)) := rfl

theorem digit64 (n : Int) (i : Nat) (hi : i < 8) : n % 18446744073709551616 / 256 ^ i % 256 = n / 2 ^ (8 * i) % 256 := by
  rw [pow_two_eight]
  have hc : i = 0 ∨ i = 1 ∨ i = 2 ∨ i = 3 ∨ i = 4 ∨ i = 5 ∨ i = 6 ∨ i = 7 := by omega
  rcases hc with rfl | rfl | rfl | rfl | rfl | rfl | rfl | rfl <;> omega

theorem number_loop (n : Int) (sz : Nat) (hsz : sz ≤ 8) : ∀ d i : Nat, sz - i = d → i ≤ sz →
    Ev (fun k => kissgateref01_Number.l0 k (sz : Int) (strOfNums (putBytes n i)) (n % 18446744073709551616 / 256 ^ i) (i : Int)) (strOfNums (putBytes n sz)) := by
  intro d
  induction d with
  | zero =>
    intro i hd hi
    have : i = sz := by omega
    subst this
    refine Ev.step (f := fun _ => some (strOfNums (putBytes n i))) (fun k => ?_) (Ev.now _)
    simp only [kissgateref01_Number.l0]; rw [if_neg (by omega)]
  | succ d ih =>
    intro i hd hi
    have hlt : i < sz := by omega
    have hnx := ih (i + 1) (by omega) (by omega)
    have hp : (0 : Int) < 256 ^ i := Int.pow_pos (by decide)
    have hu0 : 0 ≤ n % 18446744073709551616 / 256 ^ i := Int.ediv_nonneg (by omega) (Int.le_of_lt hp)
    have hu1 : n % 18446744073709551616 / 256 ^ i < 18446744073709551616 := Int.lt_of_le_of_lt (Int.ediv_le_self _ (by omega)) (by omega)
    have hd := digit64 n i (by omega)
    have e1 : Int.tmod (n % 18446744073709551616 / 256 ^ i) 256 % 256 = n / 2 ^ (8 * i) % 256 := by rw [Int.tmod_eq_emod_of_nonneg hu0, hd]; omega
    have e2 : IntKind.u64.wrap (Int.tdiv (n % 18446744073709551616 / 256 ^ i) 256) = n % 18446744073709551616 / 256 ^ (i + 1) := by
      rw [Int.tdiv_eq_ediv_of_nonneg hu0, IntKind.wrap_u64, Int.pow_succ, ← Int.ediv_ediv_of_nonneg (Int.le_of_lt hp)]
      exact Int.emod_eq_of_lt (Int.ediv_nonneg hu0 (by decide)) (Int.lt_of_le_of_lt (Int.ediv_le_self _ hu0) hu1)
    have ew := wrap_one i (by omega)
    refine Ev.step (fun k => ?_) hnx
    simp only [kissgateref01_Number.l0]
    rw [if_pos (show (i : Int) < (sz : Int) by exact Int.ofNat_lt.2 hlt)]
    simp only [Option.bind_some]
    have hs : (strOfNums [Int.tmod (n % 18446744073709551616 / 256 ^ i) 256 % 256]).size + (strOfNums (putBytes n i)).size ≤ 9223372036854775807 := by
      rw [str_size, str_size, putBytes_length, List.length_cons, List.length_nil]; exact Nat.le_trans (Nat.add_le_add_left (Nat.le_trans hi hsz) _) (by decide)
    rw [if_pos hs, e1, e2, ew, str_append]
    rfl

theorem szOf_lo {size : Int} (h : size < 1) : szOf size = 1 := by unfold szOf; rw [mx_of_lt h]; rfl
theorem szOf_hi {size : Int} (h : 8 < size) : szOf size = 8 := by unfold szOf; rw [mx_of_ge (by omega), mn_of_gt h]; rfl
theorem szOf_mid {size : Int} (h : 1 ≤ size) (h8 : size ≤ 8) : ((szOf size : Nat) : Int) = size := by unfold szOf; rw [mx_of_ge h, mn_of_le h8]; omega
theorem szOf_le (size : Int) : szOf size ≤ 8 := by
  by_cases h1 : size < 1
  · rw [szOf_lo h1]; decide
  · by_cases h2 : 8 < size
    · rw [szOf_hi h2]; decide
    · have := szOf_mid (show 1 ≤ size by omega) (by omega); omega
theorem number_ev (size n : Int) : Ev (fun k => kissgateref01_Number.f k size n) (numOf size n) := by
  have h8 : szOf size ≤ 8 := szOf_le size
  have L := number_loop n (szOf size) h8 _ 0 rfl (by omega)
  have e0 : n % 18446744073709551616 / 256 ^ 0 = IntKind.u64.wrap n := by rw [IntKind.wrap_u64]; simp
  rw [e0] at L
  have J1 : Ev (fun k => kissgateref01_Number.j1 k ((szOf size : Nat) : Int) n) (numOf size n) := by
    refine Ev.step (fun k => ?_) L
    simp only [kissgateref01_Number.j1]
    rfl
  unfold kissgateref01_Number.f
  by_cases h1 : size < 1
  · have e : ((szOf size : Nat) : Int) = 1 := by rw [szOf_lo h1]; rfl
    rw [e] at J1
    refine Ev.congr (fun k => by rw [if_pos h1]) (Ev.step (fun k => ?_) J1)
    simp only [kissgateref01_Number.j0]; rw [if_neg (by decide)]
  · refine Ev.congr (fun k => by rw [if_neg h1]) ?_
    by_cases h2 : size > 8
    · have e : ((szOf size : Nat) : Int) = 8 := by rw [szOf_hi h2]; rfl
      rw [e] at J1
      refine Ev.step (fun k => ?_) J1
      simp only [kissgateref01_Number.j0]; rw [if_pos h2]
    · have e : ((szOf size : Nat) : Int) = size := szOf_mid (by omega) (by omega)
      rw [e] at J1
      refine Ev.step (fun k => ?_) J1
      simp only [kissgateref01_Number.j0]; rw [if_neg h2]
open Wr
theorem WS.later {B : Nat} {w0 w W W' : World} {g : Nat} {c : ByteArray} {n : Nat} (h : Aside0 (WS B w0 w W g c n)) (hb : Below W.heap.size W W') : WS B w0 w W' g c n := by
  obtain ⟨⟨v, h1, h2, h3⟩, hbw, hk, hs⟩ := h.out
  have hgr : W.grownBy W' none := grown_of_below hb none
  have hB : B ≤ W.heap.size := Nat.le_of_lt (Nat.lt_of_le_of_lt h3 (blk_lt h1))
  exact ⟨⟨v, blk_grown h1 hgr (by simp), pw_own_below h2 hb, h3⟩, hbw.grown hgr hB (fun _ h => by cases h), hk.trans (row1 := none) ⟨hgr.size, fun i hi _ _ _ => hgr.block i hi (by simp)⟩ (.inl rfl), hs⟩
open Wr
def kissgatelaw01_OctetPuts.Pure : Prop := True
set_option maxHeartbeats 8000000 in
set_option maxRecDepth 100000 in
theorem kissgatelaw01_OctetPuts.walk (P : kissgatelaw01_OctetPuts.Pure) (A0 : Option Addr) (c0 : Nat) (l0 : List Int) (A1 : Option Addr) (c1 : Nat) (l1 : List Int) (a2 : ByteArray) (w : World) (hr0 : Kd.C (Kd.int .i64) w A0 l0.length l0) (hc0 : l0.length ≤ c0) (hw0 : ∀ z ∈ l0, (Lit.int .i64 z).wf = true) (hr1 : Kd.C (Kd.int .i64) w A1 l1.length l1) (hc1 : l1.length ≤ c1) (hw1 : ∀ z ∈ l1, (Lit.int .i64 z).wf = true) (w2 : a2.size ≤ 140737488351232) :
    Calls Try.prog 3 #[.slice A0 l0.length c0, .slice A1 l1.length c1, .string a2] w fun e w' => e = .returned (.bool true) ∧ Below w.heap.size w w' := by
  have HR0 := Aside0.mk hr0
  have HR1 := Aside0.mk hr1
  have HC0 := Aside0.mk hc0
  have HC1 := Aside0.mk hc1
  have hu := Try.underlying27
  clear P hw0 hw1 hr0 hr1 hc0 hc1
  clear w2
  go_enter Try.func3, Try.ntmps3
  go_wp2_with fail
  go_at_call 8
  refine (kissgatelaw01_alive.good w _ (Below.refl _ _)).mono ?_
  rintro e w1 ⟨rfl, hb⟩
  have HB := Aside0.mk hb
  clear hb
  by_cases c1 : (100 : Int) < (l0.length : Int)
  · have c1b : decide ((100 : Int) < (l0.length : Int)) = true := decide_eq_true c1
    clear c1
    go_wp2_with fail
    go_ret
    exact ⟨rfl, HB.out⟩
  have c1b : decide ((100 : Int) < (l0.length : Int)) = false := decide_eq_false c1
  have HL0 := Aside0.mk (show l0.length ≤ 100 by omega)
  clear c1
  by_cases c1 : (l1.length : Int) < (l0.length : Int)
  · have c1b : decide ((l1.length : Int) < (l0.length : Int)) = true := decide_eq_true c1
    have c1n : decide (l1.length < l0.length) = true := decide_eq_true (by omega)
    clear c1
    go_wp2_with fail
    go_ret
    exact ⟨rfl, HB.out⟩
  have c2b : decide ((l1.length : Int) < (l0.length : Int)) = false := decide_eq_false c1
  have c2bn : decide (l1.length < l0.length) = false := decide_eq_false (by omega)
  have HL1 := Aside0.mk (show l0.length ≤ l1.length by omega)
  clear c1
  by_cases c1 : (4096 : Int) < (a2.size : Int)
  · have c1b : decide ((4096 : Int) < (a2.size : Int)) = true := decide_eq_true c1
    clear c1
    go_wp2_with fail
    go_ret
    exact ⟨rfl, HB.out⟩
  have c3b : decide ((4096 : Int) < (a2.size : Int)) = false := decide_eq_false c1
  have HS := Aside0.mk (show a2.size ≤ 4096 by omega)
  clear c1
  go_upto_region 6 with (fail)
  have HW := Aside0.mk (WS.new HB.out HB.out.size)
  generalize w1.alloc (.cells #[.slice none 0 0] 27) = W at HW ⊢
  generalize w1.heap.size = g at HW ⊢
  go_wp2_with fail
  go_loopw [8, 32] (fun v8 v32 wr => ∃ (k : Nat) (c : ByteArray), k ≤ l0.length ∧ v32 = .int .i64 (k : Nat) ∧ v8 = .string c ∧ Aside0 (WS w.heap.size w W wr g c (8 * k))) (fun _ v32 _ => l0.length - (intOf v32).toNat)
  case atStart => exact ⟨0, _, Nat.zero_le _, rfl, rfl, HW⟩
  case round =>
    clear HW c1b c2b c3b
    obtain ⟨k, c, hk, rfl, rfl, HW⟩ := hrel
    by_cases hlt : (k : Int) < (l0.length : Int)
    · have hltn : decide (k < l0.length) = true := decide_eq_true (by omega)
      have HK := Aside0.mk (show k < l0.length by omega)
      have E3 := Aside0.mk (show wrap64 ((k : Int) + 1) = ((k + 1 : Nat) : Int) by have := HK.out; have := HL0.out; unfold wrap64; omega)
      have hlt1 : (k : Int) < (l1.length : Int) := by have := HL1.out; omega
      have hltn1 : decide (k < l1.length) = true := decide_eq_true (by omega)
      obtain ⟨ad0, e0, HX0⟩ := Kd.at_int HR0.out (k : Int) (by omega) hlt
      obtain ⟨ad1, e1, HX1⟩ := Kd.at_int HR1.out (k : Int) (by omega) hlt1
      cases e0
      cases e1
      have p0 := eq_true (show 0 ≤ (k : Int) by omega)
      have q0 := eq_true hlt
      have q1 := eq_true hlt1
      obtain ⟨x, hx⟩ : ∃ x, x = rd l0 (k : Int) := ⟨_, rfl⟩
      obtain ⟨y, hy⟩ : ∃ y, y = rd l1 (k : Int) := ⟨_, rfl⟩
      rw [← hx] at HX0
      rw [← hy] at HX1
      replace HX0 := Aside0.mk (show w.cell? (ad0.add k) = some (.int .i64 x) from HX0)
      replace HX1 := Aside0.mk (show w.cell? (ad1.add k) = some (.int .i64 y) from HX1)
      have HXY := Aside0.mk (And.intro hx hy)
      clear hlt hk hlt1 hx hy
      have HN := Aside0.mk (put_ws x y HW (by have := HK.out; have := HL0.out; omega))
      have hx0 := (HW.out.below.cell (World.block_lt_of_cell? w _ HX0.out)).trans HX0.out
      have hx1 := (HW.out.below.cell (World.block_lt_of_cell? w _ HX1.out)).trans HX1.out
      go_wp2_with fail
      go_at_call 9
      refine (HN.out).mono ?_
      rintro e w5 ⟨rfl, HW⟩
      clear hx0 hx1 HN
      have hx0 := (HW.out.below.cell (World.block_lt_of_cell? w _ HX0.out)).trans HX0.out
      have hx1 := (HW.out.below.cell (World.block_lt_of_cell? w _ HX1.out)).trans HX1.out
      have hcs : c.size ≤ 8 * k + 8 := by have h := HW.out.size; rw [ByteArray.size_append] at h; omega
      have hns : (numOf x y).size ≤ 8 := by rw [numOf_size]; exact mnmx x
      have hz : c.size + (numOf x y).size ≤ 9223372036854775807 := by have := HK.out; have := HL0.out; omega
      obtain ⟨K, hK⟩ := number_ev x y
      have HN := Aside0.mk (kissgateref01_Number.calls K x y (numOf x y) w5 (hK K (Nat.le_refl _)))
      clear hK
      go_wp2_with fail
      go_at_call 10
      refine (HN.out).mono ?_
      rintro e w6 ⟨rfl, hb⟩
      have HWN := Aside0.mk (WS.later HW hb)
      clear hb hx0 hx1 HN
      go_wp2_with fail
      rw [E3.out]
      first
        | (go_roundw; case rel => exact ⟨k + 1, _, HK.out, by first | rfl | rw [E3.out], rfl, ⟨by have h := HWN.out; rw [show 8 * (k + 1) = 8 * k + 8 by omega]; exact h⟩⟩)
        | (refine ⟨?_, ?measure⟩; exact ⟨k + 1, _, HK.out, by first | rfl | rw [E3.out], rfl, ⟨by have h := HWN.out; rw [show 8 * (k + 1) = 8 * k + 8 by omega]; exact h⟩⟩)
      case measure => have := HK.out; simp [intOf]; omega
    · have hltn : decide (k < l0.length) = false := decide_eq_false (by omega)
      have HKE := Aside0.mk hk
      clear hlt hk
      have HN := Aside0.mk (raw_ws a2 4096 HW HS.out (by have := HL0.out; have := HKE.out; omega))
      have hz : c.size + a2.size ≤ 9223372036854775807 := by have := HW.out.size; have := HS.out; have := HL0.out; have := HKE.out; omega
      go_wp2_with fail
      go_at_call 11
      refine (HN.out).mono ?_
      rintro e w5 ⟨rfl, HW⟩
      go_wp2_with fail
      go_at_call 12
      refine (text_ws HW).mono ?_
      rintro e w6 ⟨rfl, rfl⟩
      have HB := Aside0.mk HW.out.below
      go_wp2_with fail
      go_ret
      exact ⟨by first | rfl | simp, HB.out⟩


end Go.Proofs.Ytkjkcmcfbnamaaa.POctetPuts
