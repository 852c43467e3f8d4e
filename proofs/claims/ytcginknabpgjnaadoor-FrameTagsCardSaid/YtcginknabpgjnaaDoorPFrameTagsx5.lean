-- Written by a program of this session (see NOTES.md), which reads the translation's print; Lean checks it.
import Derived.Test.YtcginknabpgjnaaDoorPFrameTagsx0
import Derived.Test.YtcginknabpgjnaaDoorPFrameTagsx4
namespace Go.Proofs.YtcginknabpgjnaaDoor.PFrameTags
open Go.RowKit Go.Proofs.YtcginknabpgjnaaDoorW.PrintWords Go.Proofs.YtcginknabpgjnaaDoorW.PrintLast Go.Proofs.YtcginknabpgjnaaDoorW.PrintMore
attribute [local go_sem] max2_int min2_int max_two min_two max_three min_three max_four min_four   -- for this text's walks alone
set_option linter.unusedVariables false
set_option linter.unusedSimpArgs false

/-- A state of type 23 at block g of W; what its slices lead to came in by w0. -/
def IsS23 (w0 W : World) (g : Nat) (f0 : Int) (f1 : Int) (f2 : Bool) (f3 : Int) (f4 : Int) (f5 : Int) (f6 : ByteArray) : Prop := W.heap[g]? = some (.cells #[.int .i64 f0, .int .i64 f1, .bool f2, .int .i64 f3, .int .i64 f4, .int .i64 f5, .string f6] 23 (0, 0)) ∧ w0.heap.size ≤ g
theorem IsS23.grown {w0 W : World} {g : Nat} {f0 : Int} {f1 : Int} {f2 : Bool} {f3 : Int} {f4 : Int} {f5 : Int} {f6 : ByteArray} {W1 : World} {row : Option Nat} (h : IsS23 w0 W g f0 f1 f2 f3 f4 f5 f6) (hw : W.grownBy W1 row) (hne : some g ≠ row) : IsS23 w0 W1 g f0 f1 f2 f3 f4 f5 f6 := by
  obtain ⟨hb, hg⟩ := h
  exact ⟨blk_grown hb hw hne, hg⟩
theorem IsS23.own_neN {w0 W : World} {g : Nat} {f0 : Int} {f1 : Int} {f2 : Bool} {f3 : Int} {f4 : Int} {f5 : Int} {f6 : ByteArray} {α : Type} {d : Kd α} {e : Nat} {base : Nat} {ok : Nat → Prop} {v : Value} {xs : List α} (h : IsS23 w0 W g f0 f1 f2 f3 f4 f5 f6) (ho : Kd.N d e W base ok v xs) (ht : e ≠ 23) : some g ≠ v.ownBlock := by
  obtain ⟨hb, hg⟩ := h
  exact Kd.N_ne ho hb ht
theorem IsS23.fresh {w0 W : World} {g : Nat} {f0 : Int} {f1 : Int} {f2 : Bool} {f3 : Int} {f4 : Int} {f5 : Int} {f6 : ByteArray} (h : IsS23 w0 W g f0 f1 f2 f3 f4 f5 f6) : ∀ k, W.heap.size ≤ k → k ≠ g := by
  obtain ⟨hb, hg⟩ := h
  exact Kd.freshB hb
theorem IsS23.kept {w0 W : World} {g : Nat} {f0 : Int} {f1 : Int} {f2 : Bool} {f3 : Int} {f4 : Int} {f5 : Int} {f6 : ByteArray} {W1 : World} {S : Nat → Prop} (h : IsS23 w0 W g f0 f1 f2 f3 f4 f5 f6) (hk : Kept W W1 S) (hne : ¬ S g) : IsS23 w0 W1 g f0 f1 f2 f3 f4 f5 f6 := by
  obtain ⟨hb, hg⟩ := h
  exact ⟨blk_kept hb hk hne, hg⟩
theorem IsS23.below {w0 W : World} {g : Nat} {f0 : Int} {f1 : Int} {f2 : Bool} {f3 : Int} {f4 : Int} {f5 : Int} {f6 : ByteArray} {W1 : World} (h : IsS23 w0 W g f0 f1 f2 f3 f4 f5 f6) (hw : Below W.heap.size W W1) : IsS23 w0 W1 g f0 f1 f2 f3 f4 f5 f6 := h.grown (grown_of_below hw none) (by simp)
theorem IsS23.alloc {w0 W : World} {g : Nat} {f0 : Int} {f1 : Int} {f2 : Bool} {f3 : Int} {f4 : Int} {f5 : Int} {f6 : ByteArray} (h : IsS23 w0 W g f0 f1 f2 f3 f4 f5 f6) (o : Obj) : IsS23 w0 (W.alloc o) g f0 f1 f2 f3 f4 f5 f6 := h.below (below_alloc (Below.refl _ _) o)
theorem IsS23.drewN {w0 W : World} {g : Nat} {f0 : Int} {f1 : Int} {f2 : Bool} {f3 : Int} {f4 : Int} {f5 : Int} {f6 : ByteArray} (h : IsS23 w0 W g f0 f1 f2 f3 f4 f5 f6) (m : Nat) : IsS23 w0 (W.drewN m) g f0 f1 f2 f3 f4 f5 f6 := h
theorem IsS23.drew {w0 W : World} {g : Nat} {f0 : Int} {f1 : Int} {f2 : Bool} {f3 : Int} {f4 : Int} {f5 : Int} {f6 : ByteArray} (h : IsS23 w0 W g f0 f1 f2 f3 f4 f5 f6) : IsS23 w0 W.drew g f0 f1 f2 f3 f4 f5 f6 := h
theorem IsS23.at_ {w0 W : World} {g : Nat} {f0 : Int} {f1 : Int} {f2 : Bool} {f3 : Int} {f4 : Int} {f5 : Int} {f6 : ByteArray} {w' : World} {m : Nat} (hq : W.drewN m = w') (h : IsS23 w0 W g f0 f1 f2 f3 f4 f5 f6) : IsS23 w0 w' g f0 f1 f2 f3 f4 f5 f6 := by subst hq; exact IsS23.drewN h m
theorem IsS23.apart {w0 W : World} {g : Nat} {f0 : Int} {f1 : Int} {f2 : Bool} {f3 : Int} {f4 : Int} {f5 : Int} {f6 : ByteArray} {α : Type} {d : Kd α} {e : Nat} {base : Nat} {ok : Nat → Prop} {v : Value} {xs : List α} (h : IsS23 w0 W g f0 f1 f2 f3 f4 f5 f6) (ho : d.R e W base ok v xs) (ht : ∀ q, q ∈ e :: d.E → q ≠ 23) : d.R e W base (fun k => ok k ∧ k ≠ g) v xs := by
  obtain ⟨hb, hg⟩ := h
  exact Kd.R_types ho hb ht
theorem IsS23.own_ne {w0 W : World} {g : Nat} {f0 : Int} {f1 : Int} {f2 : Bool} {f3 : Int} {f4 : Int} {f5 : Int} {f6 : ByteArray} {α : Type} {d : Kd α} {e : Nat} {base : Nat} {ok : Nat → Prop} {v : Value} {xs : List α} (h : IsS23 w0 W g f0 f1 f2 f3 f4 f5 f6) (ho : d.R e W base ok v xs) (ht : e ≠ 23) : some g ≠ v.ownBlock := by
  obtain ⟨hb, hg⟩ := h
  exact Kd.R_ne ho hb ht
theorem IsS23.apartQ {w0 W : World} {g : Nat} {f0 : Int} {f1 : Int} {f2 : Bool} {f3 : Int} {f4 : Int} {f5 : Int} {f6 : ByteArray} {α : Type} {d : Kd α} {e : Nat} {base : Nat} {ok : Nat → Prop} {v : Value} {xs : List α} (h : IsS23 w0 W g f0 f1 f2 f3 f4 f5 f6) (ho : d.Q e W base ok v xs) (ht : ∀ q, q ∈ e :: d.E → q ≠ 23) : d.Q e W base (fun k => ok k ∧ k ≠ g) v xs := by
  obtain ⟨hb, hg⟩ := h
  exact Kd.Q_types ho hb ht
theorem IsS23.own_neQ {w0 W : World} {g : Nat} {f0 : Int} {f1 : Int} {f2 : Bool} {f3 : Int} {f4 : Int} {f5 : Int} {f6 : ByteArray} {α : Type} {d : Kd α} {e : Nat} {base : Nat} {ok : Nat → Prop} {v : Value} {xs : List α} (h : IsS23 w0 W g f0 f1 f2 f3 f4 f5 f6) (ho : d.Q e W base ok v xs) (ht : e ≠ 23) : some g ≠ v.ownBlock := by
  obtain ⟨hb, hg⟩ := h
  exact Kd.Q_ne ho hb ht
theorem IsS23.apartS {w0 W : World} {g : Nat} {f0 : Int} {f1 : Int} {f2 : Bool} {f3 : Int} {f4 : Int} {f5 : Int} {f6 : ByteArray} {α : Type} {d : Kd α} {e : Nat} {base : Nat} {ok : Nat → Prop} {v : Value} {xs : List α} (h : IsS23 w0 W g f0 f1 f2 f3 f4 f5 f6) (ho : d.S e W base ok v xs) (ht : ∀ q, q ∈ e :: d.E → q ≠ 23) : d.S e W base (fun k => ok k ∧ k ≠ g) v xs := by
  obtain ⟨hb, hg⟩ := h
  exact Kd.S_types ho hb ht
theorem IsS23.own_neS {w0 W : World} {g : Nat} {f0 : Int} {f1 : Int} {f2 : Bool} {f3 : Int} {f4 : Int} {f5 : Int} {f6 : ByteArray} {α : Type} {d : Kd α} {e : Nat} {base : Nat} {ok : Nat → Prop} {v : Value} {xs : List α} (h : IsS23 w0 W g f0 f1 f2 f3 f4 f5 f6) (ho : d.S e W base ok v xs) (ht : e ≠ 23) : some g ≠ v.ownBlock := by
  obtain ⟨hb, hg⟩ := h
  exact Kd.S_ne ho hb ht
theorem IsS23.lt {w0 W : World} {g : Nat} {f0 : Int} {f1 : Int} {f2 : Bool} {f3 : Int} {f4 : Int} {f5 : Int} {f6 : ByteArray} (h : IsS23 w0 W g f0 f1 f2 f3 f4 f5 f6) : g < W.heap.size := by
  obtain ⟨hb, hg⟩ := h
  exact blk_lt hb
theorem IsS23.ge {w0 W : World} {g : Nat} {f0 : Int} {f1 : Int} {f2 : Bool} {f3 : Int} {f4 : Int} {f5 : Int} {f6 : ByteArray} (h : IsS23 w0 W g f0 f1 f2 f3 f4 f5 f6) : w0.heap.size ≤ g := by
  obtain ⟨hb, hg⟩ := h
  exact hg
theorem IsS23.ne_blk {w0 W : World} {g : Nat} {f0 : Int} {f1 : Int} {f2 : Bool} {f3 : Int} {f4 : Int} {f5 : Int} {f6 : ByteArray} {a : Nat} {cs : Array Value} {t : TypeId} {fr : Nat × Nat} (h : IsS23 w0 W g f0 f1 f2 f3 f4 f5 f6) (hb2 : W.heap[a]? = some (.cells cs t fr)) (ht : t ≠ 23) : g ≠ a := by
  obtain ⟨hb, hg⟩ := h
  rintro rfl
  rw [hb] at hb2
  injection hb2 with hb2
  injection hb2 with _ ht2
  exact ht ht2.symm
theorem IsS23.far {w0 W : World} {g : Nat} {f0 : Int} {f1 : Int} {f2 : Bool} {f3 : Int} {f4 : Int} {f5 : Int} {f6 : ByteArray} {p : Addr} (h : IsS23 w0 W g f0 f1 f2 f3 f4 f5 f6) (hne : g ≠ p.block) (u : Value) : IsS23 w0 (W.setCell p u) g f0 f1 f2 f3 f4 f5 f6 := by
  obtain ⟨hb, hg⟩ := h
  exact ⟨blk_far hb hne u, hg⟩
theorem cellS23_0 {W : World} {g : Nat} {f0 : Int} {f1 : Int} {f2 : Bool} {f3 : Int} {f4 : Int} {f5 : Int} {f6 : ByteArray} (h : W.heap[g]? = some (.cells #[.int .i64 f0, .int .i64 f1, .bool f2, .int .i64 f3, .int .i64 f4, .int .i64 f5, .string f6] 23 (0, 0))) : W.cell? ⟨g, 0, none⟩ = some (.int .i64 f0) := (blk_cell h 0).trans rfl
theorem IsS23.set_0 {w0 W : World} {g : Nat} {f0 : Int} {f1 : Int} {f2 : Bool} {f3 : Int} {f4 : Int} {f5 : Int} {f6 : ByteArray} (h : IsS23 w0 W g f0 f1 f2 f3 f4 f5 f6) (x : Int) : IsS23 w0 (W.setCell ⟨g, 0, none⟩ (.int .i64 x)) g x f1 f2 f3 f4 f5 f6 := by
  obtain ⟨hb, hg⟩ := h
  exact ⟨by simpa using blk_set hb 0 (.int .i64 x), hg⟩
theorem cellS23_1 {W : World} {g : Nat} {f0 : Int} {f1 : Int} {f2 : Bool} {f3 : Int} {f4 : Int} {f5 : Int} {f6 : ByteArray} (h : W.heap[g]? = some (.cells #[.int .i64 f0, .int .i64 f1, .bool f2, .int .i64 f3, .int .i64 f4, .int .i64 f5, .string f6] 23 (0, 0))) : W.cell? ⟨g, 1, none⟩ = some (.int .i64 f1) := (blk_cell h 1).trans rfl
theorem IsS23.set_1 {w0 W : World} {g : Nat} {f0 : Int} {f1 : Int} {f2 : Bool} {f3 : Int} {f4 : Int} {f5 : Int} {f6 : ByteArray} (h : IsS23 w0 W g f0 f1 f2 f3 f4 f5 f6) (x : Int) : IsS23 w0 (W.setCell ⟨g, 1, none⟩ (.int .i64 x)) g f0 x f2 f3 f4 f5 f6 := by
  obtain ⟨hb, hg⟩ := h
  exact ⟨by simpa using blk_set hb 1 (.int .i64 x), hg⟩
theorem cellS23_2 {W : World} {g : Nat} {f0 : Int} {f1 : Int} {f2 : Bool} {f3 : Int} {f4 : Int} {f5 : Int} {f6 : ByteArray} (h : W.heap[g]? = some (.cells #[.int .i64 f0, .int .i64 f1, .bool f2, .int .i64 f3, .int .i64 f4, .int .i64 f5, .string f6] 23 (0, 0))) : W.cell? ⟨g, 2, none⟩ = some (.bool f2) := (blk_cell h 2).trans rfl
theorem IsS23.set_2 {w0 W : World} {g : Nat} {f0 : Int} {f1 : Int} {f2 : Bool} {f3 : Int} {f4 : Int} {f5 : Int} {f6 : ByteArray} (h : IsS23 w0 W g f0 f1 f2 f3 f4 f5 f6) (x : Bool) : IsS23 w0 (W.setCell ⟨g, 2, none⟩ (.bool x)) g f0 f1 x f3 f4 f5 f6 := by
  obtain ⟨hb, hg⟩ := h
  exact ⟨by simpa using blk_set hb 2 (.bool x), hg⟩
theorem cellS23_3 {W : World} {g : Nat} {f0 : Int} {f1 : Int} {f2 : Bool} {f3 : Int} {f4 : Int} {f5 : Int} {f6 : ByteArray} (h : W.heap[g]? = some (.cells #[.int .i64 f0, .int .i64 f1, .bool f2, .int .i64 f3, .int .i64 f4, .int .i64 f5, .string f6] 23 (0, 0))) : W.cell? ⟨g, 3, none⟩ = some (.int .i64 f3) := (blk_cell h 3).trans rfl
theorem IsS23.set_3 {w0 W : World} {g : Nat} {f0 : Int} {f1 : Int} {f2 : Bool} {f3 : Int} {f4 : Int} {f5 : Int} {f6 : ByteArray} (h : IsS23 w0 W g f0 f1 f2 f3 f4 f5 f6) (x : Int) : IsS23 w0 (W.setCell ⟨g, 3, none⟩ (.int .i64 x)) g f0 f1 f2 x f4 f5 f6 := by
  obtain ⟨hb, hg⟩ := h
  exact ⟨by simpa using blk_set hb 3 (.int .i64 x), hg⟩
theorem cellS23_4 {W : World} {g : Nat} {f0 : Int} {f1 : Int} {f2 : Bool} {f3 : Int} {f4 : Int} {f5 : Int} {f6 : ByteArray} (h : W.heap[g]? = some (.cells #[.int .i64 f0, .int .i64 f1, .bool f2, .int .i64 f3, .int .i64 f4, .int .i64 f5, .string f6] 23 (0, 0))) : W.cell? ⟨g, 4, none⟩ = some (.int .i64 f4) := (blk_cell h 4).trans rfl
theorem IsS23.set_4 {w0 W : World} {g : Nat} {f0 : Int} {f1 : Int} {f2 : Bool} {f3 : Int} {f4 : Int} {f5 : Int} {f6 : ByteArray} (h : IsS23 w0 W g f0 f1 f2 f3 f4 f5 f6) (x : Int) : IsS23 w0 (W.setCell ⟨g, 4, none⟩ (.int .i64 x)) g f0 f1 f2 f3 x f5 f6 := by
  obtain ⟨hb, hg⟩ := h
  exact ⟨by simpa using blk_set hb 4 (.int .i64 x), hg⟩
theorem cellS23_5 {W : World} {g : Nat} {f0 : Int} {f1 : Int} {f2 : Bool} {f3 : Int} {f4 : Int} {f5 : Int} {f6 : ByteArray} (h : W.heap[g]? = some (.cells #[.int .i64 f0, .int .i64 f1, .bool f2, .int .i64 f3, .int .i64 f4, .int .i64 f5, .string f6] 23 (0, 0))) : W.cell? ⟨g, 5, none⟩ = some (.int .i64 f5) := (blk_cell h 5).trans rfl
theorem IsS23.set_5 {w0 W : World} {g : Nat} {f0 : Int} {f1 : Int} {f2 : Bool} {f3 : Int} {f4 : Int} {f5 : Int} {f6 : ByteArray} (h : IsS23 w0 W g f0 f1 f2 f3 f4 f5 f6) (x : Int) : IsS23 w0 (W.setCell ⟨g, 5, none⟩ (.int .i64 x)) g f0 f1 f2 f3 f4 x f6 := by
  obtain ⟨hb, hg⟩ := h
  exact ⟨by simpa using blk_set hb 5 (.int .i64 x), hg⟩
theorem cellS23_6 {W : World} {g : Nat} {f0 : Int} {f1 : Int} {f2 : Bool} {f3 : Int} {f4 : Int} {f5 : Int} {f6 : ByteArray} (h : W.heap[g]? = some (.cells #[.int .i64 f0, .int .i64 f1, .bool f2, .int .i64 f3, .int .i64 f4, .int .i64 f5, .string f6] 23 (0, 0))) : W.cell? ⟨g, 6, none⟩ = some (.string f6) := (blk_cell h 6).trans rfl
theorem IsS23.set_6 {w0 W : World} {g : Nat} {f0 : Int} {f1 : Int} {f2 : Bool} {f3 : Int} {f4 : Int} {f5 : Int} {f6 : ByteArray} (h : IsS23 w0 W g f0 f1 f2 f3 f4 f5 f6) (x : ByteArray) : IsS23 w0 (W.setCell ⟨g, 6, none⟩ (.string x)) g f0 f1 f2 f3 f4 f5 x := by
  obtain ⟨hb, hg⟩ := h
  exact ⟨by simpa using blk_set hb 6 (.string x), hg⟩
theorem IsS23.new (w0 W : World) (f0 : Int) (f1 : Int) (f2 : Bool) (f3 : Int) (f4 : Int) (f5 : Int) (f6 : ByteArray) (hB : Below w0.heap.size w0 W) : IsS23 w0 (W.alloc (.cells #[.int .i64 f0, .int .i64 f1, .bool f2, .int .i64 f3, .int .i64 f4, .int .i64 f5, .string f6] 23)) W.heap.size f0 f1 f2 f3 f4 f5 f6 := ⟨by simpa using heap_alloc_new W _, hB.size⟩

/-! ### frame_tag: function 28 -/
abbrev RS := ByteArray × Int × Int
/-- A frame's tag: the number behind it; the reader; whether there is one, its priority and its network. -/
def frame_tag.g (k : Nat) (s : RS) : Option (Int × RS × Option Int) :=
  (octet_Reader_Get.f k s.1 s.2.1 s.2.2 2).bind fun t => if (t.1 != 33024) = true then some (t.1, t.2, none) else
  (octet_Reader_Get.f k t.2.1 t.2.2.1 t.2.2.2 2).bind fun n => if (Go.bits .and .i64 (n.1 / 4096) 1 == 1) = true then
    (octet_Reader_Fail.f n.2.1 n.2.2.1 n.2.2.2).bind fun q => (octet_Reader_Get.f k q.1 q.2.1 q.2.2 2).bind fun u => some (u.1, u.2, some n.1)
  else (octet_Reader_Get.f k n.2.1 n.2.2.1 n.2.2.2 2).bind fun u => some (u.1, u.2, some n.1)
def tgOf (tg : Bool) (o : Option Int) : Bool := match o with | none => tg | some _ => true
def vidOf (vid : Int) (o : Option Int) : Int := match o with | none => vid | some n => Go.bits .and .i64 n 4095
def prioOf (prio : Int) (o : Option Int) : Int := match o with | none => prio | some n => n / 8192
def FB (w : World) (g : Nat) (dst src : Int) (tg : Bool) (vid prio type : Int) (data : ByteArray) : Prop := w.heap[g]? = some (.cells #[.int .i64 dst, .int .i64 src, .bool tg, .int .i64 vid, .int .i64 prio, .int .i64 type, .string data] 23 (0, 0))
theorem FB.keep {w w' : World} {g gf : Nat} {dst src : Int} {tg : Bool} {vid prio type : Int} {data : ByteArray} (h : FB w gf dst src tg vid prio type data) (hk : KeepBut w w' g none) (hne : gf ≠ g) : FB w' gf dst src tg vid prio type data := KeepBut.blk hk h hne (by simp)
theorem FB.below {w w' : World} {gf : Nat} {dst src : Int} {tg : Bool} {vid prio type : Int} {data : ByteArray} (h : FB w gf dst src tg vid prio type data) (hk : Below w.heap.size w w') : FB w' gf dst src tg vid prio type data := blk_below h hk
theorem FB.set2 {w : World} {g : Nat} {dst src : Int} {tg : Bool} {vid prio type : Int} {data : ByteArray} (h : FB w g dst src tg vid prio type data) (x : Bool) : FB (w.setCell ⟨g, 2, none⟩ (.bool x)) g dst src x vid prio type data := (blk_set h 2 _).trans rfl
theorem FB.set0 {w : World} {g : Nat} {dst src : Int} {tg : Bool} {vid prio type : Int} {data : ByteArray} (h : FB w g dst src tg vid prio type data) (x : Int) : FB (w.setCell ⟨g, 0, none⟩ (.int .i64 x)) g x src tg vid prio type data := (blk_set h 0 _).trans rfl
theorem FB.set1 {w : World} {g : Nat} {dst src : Int} {tg : Bool} {vid prio type : Int} {data : ByteArray} (h : FB w g dst src tg vid prio type data) (x : Int) : FB (w.setCell ⟨g, 1, none⟩ (.int .i64 x)) g dst x tg vid prio type data := (blk_set h 1 _).trans rfl
theorem FB.set3 {w : World} {g : Nat} {dst src : Int} {tg : Bool} {vid prio type : Int} {data : ByteArray} (h : FB w g dst src tg vid prio type data) (x : Int) : FB (w.setCell ⟨g, 3, none⟩ (.int .i64 x)) g dst src tg x prio type data := (blk_set h 3 _).trans rfl
theorem FB.set4 {w : World} {g : Nat} {dst src : Int} {tg : Bool} {vid prio type : Int} {data : ByteArray} (h : FB w g dst src tg vid prio type data) (x : Int) : FB (w.setCell ⟨g, 4, none⟩ (.int .i64 x)) g dst src tg vid x type data := (blk_set h 4 _).trans rfl
theorem FB.set5 {w : World} {g : Nat} {dst src : Int} {tg : Bool} {vid prio type : Int} {data : ByteArray} (h : FB w g dst src tg vid prio type data) (x : Int) : FB (w.setCell ⟨g, 5, none⟩ (.int .i64 x)) g dst src tg vid prio x data := (blk_set h 5 _).trans rfl
theorem FB.set6 {w : World} {g : Nat} {dst src : Int} {tg : Bool} {vid prio type : Int} {data : ByteArray} (h : FB w g dst src tg vid prio type data) (x : ByteArray) : FB (w.setCell ⟨g, 6, none⟩ (.string x)) g dst src tg vid prio type x := (blk_set h 6 _).trans rfl
theorem FB.far {w : World} {g : Nat} {dst src : Int} {tg : Bool} {vid prio type : Int} {data : ByteArray} (h : FB w g dst src tg vid prio type data) {p : Addr} (hne : g ≠ p.block) (u : Value) : FB (w.setCell p u) g dst src tg vid prio type data := by
  unfold FB at h ⊢
  rw [← h]
  simp [World.setCell, Array.getElem?_modify, Ne.symm hne]
theorem FB.cells {w : World} {g : Nat} {dst src : Int} {tg : Bool} {vid prio type : Int} {data : ByteArray} (h : FB w g dst src tg vid prio type data) :
    w.cell? ⟨g, 0, none⟩ = some (.int .i64 dst) ∧ w.cell? ⟨g, 1, none⟩ = some (.int .i64 src) ∧ w.cell? ⟨g, 2, none⟩ = some (.bool tg) ∧ w.cell? ⟨g, 3, none⟩ = some (.int .i64 vid) ∧ w.cell? ⟨g, 4, none⟩ = some (.int .i64 prio) ∧ w.cell? ⟨g, 5, none⟩ = some (.int .i64 type) ∧ w.cell? ⟨g, 6, none⟩ = some (.string data) :=
  ⟨(blk_cell h 0).trans rfl, (blk_cell h 1).trans rfl, (blk_cell h 2).trans rfl, (blk_cell h 3).trans rfl, (blk_cell h 4).trans rfl, (blk_cell h 5).trans rfl, (blk_cell h 6).trans rfl⟩
/-- All blocks but two are as they were. -/
def Keep2 (w w' : World) (g gf : Nat) : Prop := w.heap.size ≤ w'.heap.size ∧ ∀ i, i < w.heap.size → i ≠ g → i ≠ gf → w'.heap[i]? = w.heap[i]?
theorem Keep2.of (g gf : Nat) {w w' : World} (h : KeepBut w w' g none) : Keep2 w w' g gf := ⟨h.1, fun i hi h1 _ => h.2 i hi h1 (by simp)⟩
theorem Keep2.trans {g gf : Nat} {w w1 w2 : World} (h : Keep2 w w1 g gf) (k : Keep2 w1 w2 g gf) : Keep2 w w2 g gf := ⟨Nat.le_trans h.1 k.1, fun i hi h1 h2 => (k.2 i (Nat.lt_of_lt_of_le hi h.1) h1 h2).trans (h.2 i hi h1 h2)⟩
theorem Keep2.set {g gf : Nat} {w w1 : World} (h : Keep2 w w1 g gf) (j : Nat) (u : Value) : Keep2 w (w1.setCell ⟨gf, j, none⟩ u) g gf := by
  refine ⟨by simpa [World.setCell] using h.1, fun i hi h1 h2 => ?_⟩
  rw [← h.2 i hi h1 h2]
  simp [World.setCell, Array.getElem?_modify, Ne.symm h2]
set_option maxHeartbeats 4000000 in
set_option maxRecDepth 100000 in
theorem frame_tag.walk2 (k : Nat) (g gf : Nat) (s : RS) (dst src vid prio type : Int) (tg : Bool) (data : ByteArray) (t : Int) (s' : RS) (o : Option Int) (w0 w : World) (hI : IsS62 w0 w g s.1 s.2.1 s.2.2) (hB : Below w0.heap.size w0 w)
    (hF : FB w gf dst src tg vid prio type data) (hge : w0.heap.size ≤ gf) (hne : gf ≠ g) (h : frame_tag.g k s = some (t, s', o)) :
    Calls Tryd.prog 28 #[.pointer (some ⟨g, 0, none⟩), .pointer (some ⟨gf, 0, none⟩)] w fun e w' => e = .returned (.int .i64 t) ∧ Aside0 (IsS62 w0 w' g s'.1 s'.2.1 s'.2.2) ∧ Aside0 (Below w0.heap.size w0 w') ∧
      Aside0 (FB w' gf dst src (tgOf tg o) (vidOf vid o) (prioOf prio o) type data) ∧ Aside0 (Keep2 w w' g gf) := by
  unfold frame_tag.g at h
  obtain ⟨⟨t1, s1⟩, h1, h⟩ := Option.bind_eq_some_iff.mp h
  simp only at h
  have HI := Aside0.mk hI
  have HB := Aside0.mk hB
  have HF := Aside0.mk hF
  have HNE := Aside0.mk hne
  have HGE := Aside0.mk hge
  have H1 := Aside0.mk h1
  clear hI hB hF h1 hne hge
  by_cases c1 : (t1 != 33024) = true
  · rw [if_pos c1] at h
    obtain ⟨rfl, rfl, rfl⟩ : t1 = t ∧ s1 = s' ∧ none = o := by simpa using h
    clear h
    go_enter Tryd.func28, Tryd.ntmps28
    go_wp2_with fail
    refine (octet_Reader_Get.calls k g _ _ _ _ _ _ _ _ w0 _ HI.out HB.out H1.out).mono ?_
    rintro e w1 ⟨rfl, hi, hb, hk⟩
    have HI1 := Aside0.mk hi
    have HB1 := Aside0.mk hb
    have HF1 := Aside0.mk (FB.keep HF.out hk HNE.out)
    have HK1 := Aside0.mk (Keep2.of g gf hk)
    clear hi hb hk
    go_wp2
    go_ret
    exact ⟨rfl, HI1, HB1, HF1, HK1⟩
  · rw [if_neg c1] at h
    have c1 : (t1 != 33024) = false := Bool.eq_false_iff.mpr c1
    obtain ⟨⟨n, s2⟩, h2, h⟩ := Option.bind_eq_some_iff.mp h
    simp only at h
    have H2 := Aside0.mk h2
    clear h2
    have key : ∀ (w1 w2 : World), FB w1 gf dst src tg vid prio type data → KeepBut w1 w2 g none → FB w2 gf dst src tg vid prio type data := fun w1 w2 a b => FB.keep a b HNE.out
    have KEY := Aside0.mk key
    clear key
    by_cases c2 : (Go.bits .and .i64 (n / 4096) 1 == 1) = true
    · rw [if_pos c2] at h
      obtain ⟨q, h3, h⟩ := Option.bind_eq_some_iff.mp h
      obtain ⟨⟨t2, s3⟩, h4, h⟩ := Option.bind_eq_some_iff.mp h
      obtain ⟨rfl, rfl, rfl⟩ : t2 = t ∧ s3 = s' ∧ some n = o := by simpa using h
      have H3 := Aside0.mk h3
      have H4 := Aside0.mk h4
      clear h h3 h4
      go_enter Tryd.func28, Tryd.ntmps28
      go_wp2_with fail
      refine (octet_Reader_Get.calls k g _ _ _ _ _ _ _ _ w0 _ HI.out HB.out H1.out).mono ?_
      rintro e w1 ⟨rfl, hi, hb, hk⟩
      have HI1 := Aside0.mk hi
      have HB1 := Aside0.mk hb
      have HF1 := Aside0.mk (FB.keep HF.out hk HNE.out)
      have HK1 := Aside0.mk (Keep2.of g gf hk)
      clear hi hb hk
      go_wp2_with fail
      refine (octet_Reader_Get.calls k g _ _ _ _ _ _ _ _ w0 _ HI1.out HB1.out H2.out).mono ?_
      rintro e w2 ⟨rfl, hi, hb, hk⟩
      have HI2 := Aside0.mk hi
      have HB2 := Aside0.mk hb
      have HF2 := Aside0.mk (FB.keep HF1.out hk HNE.out)
      have HK2 := Aside0.mk (HK1.out.trans (Keep2.of g gf hk))
      obtain ⟨_, _, q2, q3, q4, _, _⟩ := HF2.out.cells
      have f2 := blk_frozen HF2.out 2
      have f3 := blk_frozen HF2.out 3
      have f4 := blk_frozen HF2.out 4
      have e3 := HF2.out.set2 true
      have e4 := e3.set4 (n / 8192)
      have HF3 := Aside0.mk (e4.set3 (Go.bits .and .i64 n 4095))
      have HI3 := Aside0.mk (((HI2.out.far (p := ⟨gf, 2, none⟩) (Ne.symm HNE.out) (.bool true)).far (p := ⟨gf, 4, none⟩) (Ne.symm HNE.out) (.int .i64 (n / 8192))).far (p := ⟨gf, 3, none⟩) (Ne.symm HNE.out) (.int .i64 (Go.bits .and .i64 n 4095)))
      have HB3 := Aside0.mk (((HB2.out.setCell HGE.out (p := ⟨gf, 2, none⟩) (.bool true)).setCell HGE.out (p := ⟨gf, 4, none⟩) (.int .i64 (n / 8192))).setCell HGE.out (p := ⟨gf, 3, none⟩) (.int .i64 (Go.bits .and .i64 n 4095)))
      have HK3 := Aside0.mk (((HK2.out.set 2 (.bool true)).set 4 (.int .i64 (n / 8192))).set 3 (.int .i64 (Go.bits .and .i64 n 4095)))
      clear hi hb hk e3 e4
      go_wp2_with fail
      clear q2 q3 q4 f2 f3 f4
      refine (octet_Reader_Fail.calls g _ _ _ _ _ _ w0 _ HI3.out HB3.out H3.out).mono ?_
      rintro e w4 ⟨rfl, hi, hb, hk⟩
      have HI4 := Aside0.mk hi
      have HB4 := Aside0.mk hb
      have HF4 := Aside0.mk (FB.keep HF3.out hk HNE.out)
      have HK4 := Aside0.mk (HK3.out.trans (Keep2.of g gf hk))
      clear hi hb hk
      go_wp2_with fail
      refine (octet_Reader_Get.calls k g _ _ _ _ _ _ _ _ w0 _ HI4.out HB4.out H4.out).mono ?_
      rintro e w5 ⟨rfl, hi, hb, hk⟩
      have HI5 := Aside0.mk hi
      have HB5 := Aside0.mk hb
      have HF5 := Aside0.mk (FB.keep HF4.out hk HNE.out)
      have HK5 := Aside0.mk (HK4.out.trans (Keep2.of g gf hk))
      clear hi hb hk
      go_wp2
      go_ret
      exact ⟨rfl, HI5, HB5, HF5, HK5⟩
    · rw [if_neg c2] at h
      have c2 : (Go.bits .and .i64 (n / 4096) 1 == 1) = false := Bool.eq_false_iff.mpr c2
      obtain ⟨⟨t2, s3⟩, h4, h⟩ := Option.bind_eq_some_iff.mp h
      obtain ⟨rfl, rfl, rfl⟩ : t2 = t ∧ s3 = s' ∧ some n = o := by simpa using h
      have H4 := Aside0.mk h4
      clear h h4
      go_enter Tryd.func28, Tryd.ntmps28
      go_wp2_with fail
      refine (octet_Reader_Get.calls k g _ _ _ _ _ _ _ _ w0 _ HI.out HB.out H1.out).mono ?_
      rintro e w1 ⟨rfl, hi, hb, hk⟩
      have HI1 := Aside0.mk hi
      have HB1 := Aside0.mk hb
      have HF1 := Aside0.mk (FB.keep HF.out hk HNE.out)
      have HK1 := Aside0.mk (Keep2.of g gf hk)
      clear hi hb hk
      go_wp2_with fail
      refine (octet_Reader_Get.calls k g _ _ _ _ _ _ _ _ w0 _ HI1.out HB1.out H2.out).mono ?_
      rintro e w2 ⟨rfl, hi, hb, hk⟩
      have HI2 := Aside0.mk hi
      have HB2 := Aside0.mk hb
      have HF2 := Aside0.mk (FB.keep HF1.out hk HNE.out)
      have HK2 := Aside0.mk (HK1.out.trans (Keep2.of g gf hk))
      obtain ⟨_, _, q2, q3, q4, _, _⟩ := HF2.out.cells
      have f2 := blk_frozen HF2.out 2
      have f3 := blk_frozen HF2.out 3
      have f4 := blk_frozen HF2.out 4
      have e3 := HF2.out.set2 true
      have e4 := e3.set4 (n / 8192)
      have HF3 := Aside0.mk (e4.set3 (Go.bits .and .i64 n 4095))
      have HI3 := Aside0.mk (((HI2.out.far (p := ⟨gf, 2, none⟩) (Ne.symm HNE.out) (.bool true)).far (p := ⟨gf, 4, none⟩) (Ne.symm HNE.out) (.int .i64 (n / 8192))).far (p := ⟨gf, 3, none⟩) (Ne.symm HNE.out) (.int .i64 (Go.bits .and .i64 n 4095)))
      have HB3 := Aside0.mk (((HB2.out.setCell HGE.out (p := ⟨gf, 2, none⟩) (.bool true)).setCell HGE.out (p := ⟨gf, 4, none⟩) (.int .i64 (n / 8192))).setCell HGE.out (p := ⟨gf, 3, none⟩) (.int .i64 (Go.bits .and .i64 n 4095)))
      have HK3 := Aside0.mk (((HK2.out.set 2 (.bool true)).set 4 (.int .i64 (n / 8192))).set 3 (.int .i64 (Go.bits .and .i64 n 4095)))
      clear hi hb hk e3 e4
      go_wp2_with fail
      clear q2 q3 q4 f2 f3 f4
      refine (octet_Reader_Get.calls k g _ _ _ _ _ _ _ _ w0 _ HI3.out HB3.out H4.out).mono ?_
      rintro e w4 ⟨rfl, hi, hb, hk⟩
      have HI4 := Aside0.mk hi
      have HB4 := Aside0.mk hb
      have HF4 := Aside0.mk (FB.keep HF3.out hk HNE.out)
      have HK4 := Aside0.mk (HK3.out.trans (Keep2.of g gf hk))
      clear hi hb hk
      go_wp2
      go_ret
      exact ⟨rfl, HI4, HB4, HF4, HK4⟩


/-! ### addr_Length: function 29 -/
def addr_Length.f (a0 : Int) : Option (Bool) := if a0 ≥ 0 then (some (decide (a0 ≤ 1500))) else (some false)
set_option maxHeartbeats 8000000 in
set_option maxRecDepth 100000 in
theorem addr_Length.calls (a0 : Int) (r : Bool) (w : World) (h : addr_Length.f a0 = some r) :
    Calls Tryd.prog 29 #[.int .i64 a0] w fun e w' => e = .returned (.bool r) ∧ Drawn0 w w' := by
  have H : (if a0 ≥ 0 then (some (decide (a0 ≤ 1500))) else (some false)) = some r := h
  clear h
  by_cases c2 : a0 ≥ 0
  · rw [if_pos c2] at H
    have c2b0 : decide (0 ≤ a0) = true := decide_eq_true c2
    clear c2
    obtain rfl := Option.some.inj H
    go_enter Tryd.func29, Tryd.ntmps29
    go_wp2
    go_ret
    exact ⟨by first | rfl | (simp; done) | (simp [show ∀ l_ : List UInt8, (l_ != []) = !l_.isEmpty from fun l_ => by cases l_ <;> rfl]; done) | (simp [*]; done), by repeat (first | exact Drawn0.refl _ | apply Drawn0.step)⟩
  · rw [if_neg c2] at H
    have c2b0 : decide (0 ≤ a0) = false := decide_eq_false c2
    clear c2
    obtain rfl := Option.some.inj H
    go_enter Tryd.func29, Tryd.ntmps29
    go_wp2
    go_ret
    exact ⟨by first | rfl | (simp; done) | (simp [show ∀ l_ : List UInt8, (l_ != []) = !l_.isEmpty from fun l_ => by cases l_ <;> rfl]; done) | (simp [*]; done), by repeat (first | exact Drawn0.refl _ | apply Drawn0.step)⟩

/-! ### octet_Reader_Left: function 30 -/
def octet_Reader_Left.f (s0_0 : ByteArray) (s0_1 : Int) (s0_2 : Int) : Option (Int × ByteArray × Int × Int) := if s0_2 ≥ 0 then (some (0, s0_0, s0_1, s0_2)) else (some (wrap64 ((s0_0.size : Int) - s0_1), s0_0, s0_1, s0_2))
set_option maxHeartbeats 8000000 in
set_option maxRecDepth 100000 in
theorem octet_Reader_Left.calls (g : Nat) (s0_0 : ByteArray) (s0_1 : Int) (s0_2 : Int) (r1 : Int) (r2 : ByteArray) (r3 : Int) (r4 : Int) (w0 w : World) (hI : IsS62 w0 w g s0_0 s0_1 s0_2) (hB : Below w0.heap.size w0 w) (h : octet_Reader_Left.f s0_0 s0_1 s0_2 = some (r1, r2, r3, r4)) :
    Calls Tryd.prog 30 #[.pointer (some ⟨g, 0, none⟩)] w fun e w' => e = .returned (.int .i64 r1) ∧ IsS62 w0 w' g r2 r3 r4 ∧ Below w0.heap.size w0 w' ∧ KeepBut w w' g none := by
  have HI0 := Aside0.mk hI
  have HK := Aside0.mk (KeepBut.refl w g none)
  have HL := Aside0.mk hB.size
  clear hI
  have HW0 := Aside0.mk hB.size
  have HB := Aside0.mk hB
  clear hB
  have H : (if s0_2 ≥ 0 then (some (0, s0_0, s0_1, s0_2)) else (some (wrap64 ((s0_0.size : Int) - s0_1), s0_0, s0_1, s0_2))) = some (r1, r2, r3, r4) := h
  clear h
  by_cases c2 : s0_2 ≥ 0
  · rw [if_pos c2] at H
    have c2b0 : decide (0 ≤ s0_2) = true := decide_eq_true c2
    clear c2
    simp only [Option.some.injEq, Prod.mk.injEq] at H
    obtain ⟨rfl, rfl, rfl, rfl⟩ := H
    obtain ⟨HGz3, hgz3⟩ := HI0.out
    have hcz3_0 := cellS62_0 HGz3
    have hcz3_1 := cellS62_1 HGz3
    have hcz3_2 := cellS62_2 HGz3
    have hfz3_0 := blk_frozen HGz3 0
    have hfz3_1 := blk_frozen HGz3 1
    have hfz3_2 := blk_frozen HGz3 2
    clear HGz3 hgz3
    go_enter Tryd.func30, Tryd.ntmps30
    go_wp2
    repeat (go_quiet (fail); try go_wp2)
    go_ret
    exact ⟨by first | rfl | (simp [show ∀ l_ : List UInt8, (l_ == []) = l_.isEmpty from fun l_ => by cases l_ <;> rfl]; done) | (simp [errW_none, errW_some] <;> rfl) | ((repeat rw [Int.tdiv_eq_ediv_of_nonneg (by omega)]); (repeat rw [Int.tmod_eq_emod_of_nonneg (by omega)]); first | rfl | (simp [errW_none, errW_some] <;> rfl)) | (simp [*, errW_none, errW_some] <;> rfl), by repeat (first | (with_reducible first | exact HI0.out | apply IsS62.alloc | apply IsS62.drewN | apply IsS62.drew | apply IsS62.set_0 | apply IsS62.set_1 | apply IsS62.set_2) | exact HI0.out), by repeat (first | (with_reducible first | exact HB.out | apply below_alloc | apply pw_below_drewN | apply below_drew1 | refine below_set ?_ (IsS62.ge HI0.out)) | exact HB.out), by repeat (first | (with_reducible first | exact HK.out | apply KeepBut.set_ | apply keep_drewN | apply keep_drew | apply keep_alloc) | exact HK.out)⟩
  · rw [if_neg c2] at H
    have c2b0 : decide (0 ≤ s0_2) = false := decide_eq_false c2
    clear c2
    simp only [Option.some.injEq, Prod.mk.injEq] at H
    obtain ⟨rfl, rfl, rfl, rfl⟩ := H
    obtain ⟨HGz4, hgz4⟩ := HI0.out
    have hcz4_0 := cellS62_0 HGz4
    have hcz4_1 := cellS62_1 HGz4
    have hcz4_2 := cellS62_2 HGz4
    have hfz4_0 := blk_frozen HGz4 0
    have hfz4_1 := blk_frozen HGz4 1
    have hfz4_2 := blk_frozen HGz4 2
    clear HGz4 hgz4
    go_enter Tryd.func30, Tryd.ntmps30
    go_wp2
    repeat (go_quiet (fail); try go_wp2)
    go_ret
    exact ⟨by first | rfl | (simp [show ∀ l_ : List UInt8, (l_ == []) = l_.isEmpty from fun l_ => by cases l_ <;> rfl]; done) | (simp [errW_none, errW_some] <;> rfl) | ((repeat rw [Int.tdiv_eq_ediv_of_nonneg (by omega)]); (repeat rw [Int.tmod_eq_emod_of_nonneg (by omega)]); first | rfl | (simp [errW_none, errW_some] <;> rfl)) | (simp [*, errW_none, errW_some] <;> rfl), by repeat (first | (with_reducible first | exact HI0.out | apply IsS62.alloc | apply IsS62.drewN | apply IsS62.drew | apply IsS62.set_0 | apply IsS62.set_1 | apply IsS62.set_2) | exact HI0.out), by repeat (first | (with_reducible first | exact HB.out | apply below_alloc | apply pw_below_drewN | apply below_drew1 | refine below_set ?_ (IsS62.ge HI0.out)) | exact HB.out), by repeat (first | (with_reducible first | exact HK.out | apply KeepBut.set_ | apply keep_drewN | apply keep_drew | apply keep_alloc) | exact HK.out)⟩

/-! ### octet_Reader_Raw: function 31 -/
def octet_Reader_Raw.f (s0_0 : ByteArray) (s0_1 : Int) (s0_2 : Int) (a1 : Int) : Option (ByteArray × ByteArray × Int × Int) := (octet_Reader_take.f s0_0 s0_1 s0_2 a1).bind fun bt119 => (some (bt119.1, bt119.2.2.1, bt119.2.2.2.1, bt119.2.2.2.2))
set_option maxHeartbeats 8000000 in
set_option maxRecDepth 100000 in
theorem octet_Reader_Raw.calls (g : Nat) (s0_0 : ByteArray) (s0_1 : Int) (s0_2 : Int) (a1 : Int) (r1 : ByteArray) (r2 : ByteArray) (r3 : Int) (r4 : Int) (w0 w : World) (hI : IsS62 w0 w g s0_0 s0_1 s0_2) (hB : Below w0.heap.size w0 w) (h : octet_Reader_Raw.f s0_0 s0_1 s0_2 a1 = some (r1, r2, r3, r4)) :
    Calls Tryd.prog 31 #[.pointer (some ⟨g, 0, none⟩), .int .i64 a1] w fun e w' => e = .returned (.string r1) ∧ IsS62 w0 w' g r2 r3 r4 ∧ Below w0.heap.size w0 w' ∧ KeepBut w w' g none := by
  have HI0 := Aside0.mk hI
  have HK := Aside0.mk (KeepBut.refl w g none)
  have HL := Aside0.mk hB.size
  clear hI
  have HW0 := Aside0.mk hB.size
  have HB := Aside0.mk hB
  clear hB
  have H : ((octet_Reader_take.f s0_0 s0_1 s0_2 a1).bind fun bt119 => (some (bt119.1, bt119.2.2.1, bt119.2.2.2.1, bt119.2.2.2.2))) = some (r1, r2, r3, r4) := h
  clear h
  replace H := Option.bind_eq_some_iff.mp H
  obtain ⟨⟨t119, t120, t121, t122, t123⟩, A30, H⟩ := H
  replace H : (some (t119, t121, t122, t123)) = some (r1, r2, r3, r4) := H
  have A3 := Aside0.mk A30
  clear A30
  simp only [Option.some.injEq, Prod.mk.injEq] at H
  obtain ⟨rfl, rfl, rfl, rfl⟩ := H
  go_enter Tryd.func31, Tryd.ntmps31
  go_wp2_with (first | ((with_reducible refine gate_callee (f := 37) rfl ?_); refine goesL_ (some 10) rfl rfl Tryd.func37 (by kernel_rfl) rfl #[.pointer (some ⟨g, 0, none⟩), .int .i64 a1] rfl (by (try simp only [List.map_toArray, List.map_cons, List.map_nil]); first | done | rfl | (simp only [List.length_drop, List.length_take]; rfl)) ?_; (with_reducible refine (octet_Reader_take.calls g s0_0 s0_1 s0_2 a1 t119 t120 t121 t122 t123 w0 _ ?side1 ?side2 A3.out).mono ?_); (case side1 => repeat (first | (with_reducible first | exact HI0.out | apply IsS62.alloc | apply IsS62.drewN | apply IsS62.drew | apply IsS62.set_0 | apply IsS62.set_1 | apply IsS62.set_2) | exact HI0.out)); (case side2 => repeat (first | (with_reducible first | exact HB.out | apply below_alloc | apply pw_below_drewN | apply below_drew1 | refine below_set ?_ (IsS62.ge HI0.out)) | exact HB.out)); rintro e w4 ⟨rfl, hi, hb, hk⟩; refine ⟨_, rfl, ?_⟩; have n0_ := Aside0.mk (KeepBut.trans (by repeat (first | (with_reducible first | exact HK.out | apply KeepBut.set_ | apply keep_drewN | apply keep_drew | apply keep_alloc) | exact HK.out)) hk (.inl rfl)); have n1_ := Aside0.mk (hb); have n2_ := Aside0.mk (hi); clear HK; clear HB; clear HI0; have HK := n0_; have HB := n1_; have HI0 := n2_; clear n0_ n1_ n2_; (try clear hb); (try clear hb2); (try clear hk); (try clear hi)))
  go_ret
  exact ⟨by first | rfl | (simp [show ∀ l_ : List UInt8, (l_ == []) = l_.isEmpty from fun l_ => by cases l_ <;> rfl]; done) | (simp [errW_none, errW_some] <;> rfl) | ((repeat rw [Int.tdiv_eq_ediv_of_nonneg (by omega)]); (repeat rw [Int.tmod_eq_emod_of_nonneg (by omega)]); first | rfl | (simp [errW_none, errW_some] <;> rfl)) | (simp [*, errW_none, errW_some] <;> rfl), by repeat (first | (with_reducible first | exact HI0.out | apply IsS62.alloc | apply IsS62.drewN | apply IsS62.drew | apply IsS62.set_0 | apply IsS62.set_1 | apply IsS62.set_2) | exact HI0.out), by repeat (first | (with_reducible first | exact HB.out | apply below_alloc | apply pw_below_drewN | apply below_drew1 | refine below_set ?_ (IsS62.ge HI0.out)) | exact HB.out), by repeat (first | (with_reducible first | exact HK.out | apply KeepBut.set_ | apply keep_drewN | apply keep_drew | apply keep_alloc) | exact HK.out)⟩

/-! ### octet_Reader_End: function 33 -/
def octet_Reader_End.f (s0_0 : ByteArray) (s0_1 : Int) (s0_2 : Int) : Option (Int × ByteArray × Int × Int) := if s0_2 ≥ 0 then (some (4, s0_0, s0_1, s0_2)) else (if s0_1 < (s0_0.size : Int) then (some (4, s0_0, s0_1, s0_2)) else (some (0, s0_0, s0_1, s0_2)))
set_option maxHeartbeats 8000000 in
set_option maxRecDepth 100000 in
theorem octet_Reader_End.calls (g : Nat) (s0_0 : ByteArray) (s0_1 : Int) (s0_2 : Int) (r1 : Int) (r2 : ByteArray) (r3 : Int) (r4 : Int) (w0 w : World) (hI : IsS62 w0 w g s0_0 s0_1 s0_2) (hB : Below w0.heap.size w0 w) (h : octet_Reader_End.f s0_0 s0_1 s0_2 = some (r1, r2, r3, r4)) :
    Calls Tryd.prog 33 #[.pointer (some ⟨g, 0, none⟩)] w fun e w' => e = .returned (.int .i64 r1) ∧ IsS62 w0 w' g r2 r3 r4 ∧ Below w0.heap.size w0 w' ∧ KeepBut w w' g none := by
  have HI0 := Aside0.mk hI
  have HK := Aside0.mk (KeepBut.refl w g none)
  have HL := Aside0.mk hB.size
  clear hI
  have HW0 := Aside0.mk hB.size
  have HB := Aside0.mk hB
  clear hB
  have H : (if s0_2 ≥ 0 then (some (4, s0_0, s0_1, s0_2)) else (if s0_1 < (s0_0.size : Int) then (some (4, s0_0, s0_1, s0_2)) else (some (0, s0_0, s0_1, s0_2)))) = some (r1, r2, r3, r4) := h
  clear h
  by_cases c2 : s0_2 ≥ 0
  · rw [if_pos c2] at H
    have c2b0 : decide (0 ≤ s0_2) = true := decide_eq_true c2
    clear c2
    simp only [Option.some.injEq, Prod.mk.injEq] at H
    obtain ⟨rfl, rfl, rfl, rfl⟩ := H
    obtain ⟨HGz3, hgz3⟩ := HI0.out
    have hcz3_0 := cellS62_0 HGz3
    have hcz3_1 := cellS62_1 HGz3
    have hcz3_2 := cellS62_2 HGz3
    have hfz3_0 := blk_frozen HGz3 0
    have hfz3_1 := blk_frozen HGz3 1
    have hfz3_2 := blk_frozen HGz3 2
    clear HGz3 hgz3
    go_enter Tryd.func33, Tryd.ntmps33
    go_wp2
    repeat (go_quiet (fail); try go_wp2)
    go_ret
    exact ⟨by first | rfl | (simp [show ∀ l_ : List UInt8, (l_ == []) = l_.isEmpty from fun l_ => by cases l_ <;> rfl]; done) | (simp [errW_none, errW_some] <;> rfl) | ((repeat rw [Int.tdiv_eq_ediv_of_nonneg (by omega)]); (repeat rw [Int.tmod_eq_emod_of_nonneg (by omega)]); first | rfl | (simp [errW_none, errW_some] <;> rfl)) | (simp [*, errW_none, errW_some] <;> rfl), by repeat (first | (with_reducible first | exact HI0.out | apply IsS62.alloc | apply IsS62.drewN | apply IsS62.drew | apply IsS62.set_0 | apply IsS62.set_1 | apply IsS62.set_2) | exact HI0.out), by repeat (first | (with_reducible first | exact HB.out | apply below_alloc | apply pw_below_drewN | apply below_drew1 | refine below_set ?_ (IsS62.ge HI0.out)) | exact HB.out), by repeat (first | (with_reducible first | exact HK.out | apply KeepBut.set_ | apply keep_drewN | apply keep_drew | apply keep_alloc) | exact HK.out)⟩
  · rw [if_neg c2] at H
    have c2b0 : decide (0 ≤ s0_2) = false := decide_eq_false c2
    clear c2
    by_cases c4 : s0_1 < (s0_0.size : Int)
    · rw [if_pos c4] at H
      have c4b0 : decide (s0_1 < (s0_0.size : Int)) = true := decide_eq_true c4
      clear c4
      simp only [Option.some.injEq, Prod.mk.injEq] at H
      obtain ⟨rfl, rfl, rfl, rfl⟩ := H
      obtain ⟨HGz5, hgz5⟩ := HI0.out
      have hcz5_0 := cellS62_0 HGz5
      have hcz5_1 := cellS62_1 HGz5
      have hcz5_2 := cellS62_2 HGz5
      have hfz5_0 := blk_frozen HGz5 0
      have hfz5_1 := blk_frozen HGz5 1
      have hfz5_2 := blk_frozen HGz5 2
      clear HGz5 hgz5
      go_enter Tryd.func33, Tryd.ntmps33
      go_wp2
      repeat (go_quiet (fail); try go_wp2)
      go_ret
      exact ⟨by first | rfl | (simp [show ∀ l_ : List UInt8, (l_ == []) = l_.isEmpty from fun l_ => by cases l_ <;> rfl]; done) | (simp [errW_none, errW_some] <;> rfl) | ((repeat rw [Int.tdiv_eq_ediv_of_nonneg (by omega)]); (repeat rw [Int.tmod_eq_emod_of_nonneg (by omega)]); first | rfl | (simp [errW_none, errW_some] <;> rfl)) | (simp [*, errW_none, errW_some] <;> rfl), by repeat (first | (with_reducible first | exact HI0.out | apply IsS62.alloc | apply IsS62.drewN | apply IsS62.drew | apply IsS62.set_0 | apply IsS62.set_1 | apply IsS62.set_2) | exact HI0.out), by repeat (first | (with_reducible first | exact HB.out | apply below_alloc | apply pw_below_drewN | apply below_drew1 | refine below_set ?_ (IsS62.ge HI0.out)) | exact HB.out), by repeat (first | (with_reducible first | exact HK.out | apply KeepBut.set_ | apply keep_drewN | apply keep_drew | apply keep_alloc) | exact HK.out)⟩
    · rw [if_neg c4] at H
      have c4b0 : decide (s0_1 < (s0_0.size : Int)) = false := decide_eq_false c4
      clear c4
      simp only [Option.some.injEq, Prod.mk.injEq] at H
      obtain ⟨rfl, rfl, rfl, rfl⟩ := H
      obtain ⟨HGz6, hgz6⟩ := HI0.out
      have hcz6_0 := cellS62_0 HGz6
      have hcz6_1 := cellS62_1 HGz6
      have hcz6_2 := cellS62_2 HGz6
      have hfz6_0 := blk_frozen HGz6 0
      have hfz6_1 := blk_frozen HGz6 1
      have hfz6_2 := blk_frozen HGz6 2
      clear HGz6 hgz6
      go_enter Tryd.func33, Tryd.ntmps33
      go_wp2
      repeat (go_quiet (fail); try go_wp2)
      go_ret
      exact ⟨by first | rfl | (simp [show ∀ l_ : List UInt8, (l_ == []) = l_.isEmpty from fun l_ => by cases l_ <;> rfl]; done) | (simp [errW_none, errW_some] <;> rfl) | ((repeat rw [Int.tdiv_eq_ediv_of_nonneg (by omega)]); (repeat rw [Int.tmod_eq_emod_of_nonneg (by omega)]); first | rfl | (simp [errW_none, errW_some] <;> rfl)) | (simp [*, errW_none, errW_some] <;> rfl), by repeat (first | (with_reducible first | exact HI0.out | apply IsS62.alloc | apply IsS62.drewN | apply IsS62.drew | apply IsS62.set_0 | apply IsS62.set_1 | apply IsS62.set_2) | exact HI0.out), by repeat (first | (with_reducible first | exact HB.out | apply below_alloc | apply pw_below_drewN | apply below_drew1 | refine below_set ?_ (IsS62.ge HI0.out)) | exact HB.out), by repeat (first | (with_reducible first | exact HK.out | apply KeepBut.set_ | apply keep_drewN | apply keep_drew | apply keep_alloc) | exact HK.out)⟩

end Go.Proofs.YtcginknabpgjnaaDoor.PFrameTags
