import Derived.Test.YtcginknabpgjnaaDoorProg
import Derived.Below
import Derived.Deep.Draws
import Derived.Deep.AppendLies
import Derived.Maps.AppendAt
import Derived.OwnWalk
import Derived.Laws.BytesArg
import Derived.Laws.MakeOwn
import Derived.Laws.OwnMore
import Derived.Deep.OwnRows
import Derived.Tactics
import Derived.Lib.ConvBytes
import Derived.Laws.Slices
import Derived.WalkKit
import Derived.KernelRfl
import Derived.RowKit3
import Derived.Deep.LoopGhost
import Derived.Deep.QuietTactic
import Derived.BigQuiet
import Derived.WideLaws
import Derived.Deep.DeepCutAuto
import Derived.Deep.CutBlock
import Derived.Deep.RegionHeld3
import Derived.Laws.Rows
import Derived.Lib.AppendStr
import Derived.ArgAppend
import Derived.Laws.IdiomCopy
import Derived.OrdersHeld
import Derived.Laws.BitsLemmas
import Derived.RowKit
import Derived.WalkMore
import Derived.Laws.BitsAllLaws
import Derived.Test.YtcginknabpgjnaaDoorWWords
import Derived.Test.YtcginknabpgjnaaDoorWLast
import Derived.Test.YtcginknabpgjnaaDoorWTab
import Derived.Test.YtcginknabpgjnaaDoorWFour
import Derived.Test.YtcginknabpgjnaaDoorWQPut
import Derived.Test.YtcginknabpgjnaaDoorWApart
import Derived.Test.YtcginknabpgjnaaDoorWArr
import Derived.Test.YtcginknabpgjnaaDoorWZeros
import Derived.Test.YtcginknabpgjnaaDoorWFoot
import Derived.Test.YtcginknabpgjnaaDoorWKept
import Derived.Test.YtcginknabpgjnaaDoorWShare
import Derived.Test.YtcginknabpgjnaaDoorWN
import Derived.Test.YtcginknabpgjnaaDoorWFootNe
import Derived.Test.YtcginknabpgjnaaDoorWAt
import Derived.Test.YtcginknabpgjnaaDoorWEqStruct
import Derived.Test.YtcginknabpgjnaaDoorWRepsOne
import Derived.Test.YtcginknabpgjnaaDoorWInv
import Derived.Test.YtcginknabpgjnaaDoorWInvWords
import Derived.Test.YtcginknabpgjnaaDoorWGuard
import Derived.Test.YtcginknabpgjnaaDoorWNEv
import Derived.Test.YtcginknabpgjnaaDoorWMore
namespace Go.Proofs.YtcginknabpgjnaaDoor.Bb
open Go.RowKit Go.Proofs.YtcginknabpgjnaaDoorW.PrintWords Go.Proofs.YtcginknabpgjnaaDoorW.PrintLast Go.Proofs.YtcginknabpgjnaaDoorW.PrintMore

/-- A row of bytes that a conversion of a text made: what it holds. -/
def BB (w : World) (g : Nat) (l : List Nat) : Prop := ∃ (C : Array Value), w.heap[g]? = some (.cells C 5 (C.size, C.size + 1)) ∧ l.length ≤ C.size ∧ ∀ j, j < l.length → C[j]? = some (.int .u8 ((l.getD j 0 : Nat) : Int))
def natsOf (s : ByteArray) : List Nat := s.data.toList.map (·.toNat)
def strOf (l : List Nat) : ByteArray := ⟨(l.map UInt8.ofNat).toArray⟩
theorem natsOf_length (s : ByteArray) : (natsOf s).length = s.size := by unfold natsOf; rw [List.length_map, Array.length_toList]; rfl
theorem strOf_size (l : List Nat) : (strOf l).size = l.length := by show ((l.map UInt8.ofNat).toArray).size = _; rw [List.size_toArray, List.length_map]
theorem strOf_natsOf (s : ByteArray) : strOf (natsOf s) = s := by
  apply ByteArray.ext
  unfold strOf natsOf
  rw [List.map_map, show (UInt8.ofNat ∘ fun x : UInt8 => x.toNat) = id from by funext x; simp, List.map_id]
theorem natsOf_lt (s : ByteArray) (j : Nat) : (natsOf s).getD j 0 < 256 := by
  unfold natsOf
  rw [List.getD_eq_getElem?_getD, List.getElem?_map]
  cases s.data.toList[j]? with
  | none => decide
  | some x => exact UInt8.toNat_lt x
theorem BB.lt {w : World} {g : Nat} {l : List Nat} (h : BB w g l) : g < w.heap.size := by obtain ⟨C, h1, _⟩ := h; exact blk_lt h1
theorem BB.new (W : World) (s : ByteArray) : BB (Lib.bytesWorld W 5 s) W.heap.size (natsOf s) := by
  refine ⟨_, Lib.bytesWorld_at_new W 5 s, ?_, fun j hj => ?_⟩
  · rw [natsOf_length]; show s.size ≤ (Lib.bytesCells W 5 s).size; unfold Lib.bytesCells; rw [Array.size_append, Array.size_map]; exact Nat.le_add_right _ _
  · rw [natsOf_length] at hj
    have e := Lib.bytesWorld_cell W 5 s j hj
    rw [World.cell?, Lib.bytesWorld_at_new] at e
    simp only [Option.isSome_none, Bool.false_eq_true, if_false] at e
    rw [e]
    unfold natsOf
    have h' : j < s.data.toList.length := by rw [Array.length_toList]; exact hj
    simp [List.getD_eq_getElem?_getD, List.getElem?_map, List.getElem?_eq_getElem h']
theorem BB.cell {w : World} {g : Nat} {l : List Nat} (h : BB w g l) (j : Nat) (hj : j < l.length) : w.cell? ⟨g, j, none⟩ = some (.int .u8 ((l.getD j 0 : Nat) : Int)) := by
  obtain ⟨C, h1, h2, h3⟩ := h
  simp [World.cell?, h1, h3 j hj]
theorem BB.frozen {w : World} {g : Nat} {l : List Nat} (h : BB w g l) (j : Nat) (hj : j < l.length) : w.frozen? ⟨g, j, none⟩ = false := by
  obtain ⟨C, h1, h2, h3⟩ := h
  simp [World.frozen?, h1]
  omega
theorem BB.set {w : World} {g : Nat} {l : List Nat} (h : BB w g l) (j v : Nat) : BB (w.setCell ⟨g, j, none⟩ (.int .u8 ((v : Nat) : Int))) g (l.set j v) := by
  obtain ⟨C, h1, h2, h3⟩ := h
  refine ⟨C.setIfInBounds j (.int .u8 ((v : Nat) : Int)), ?_, by simpa using h2, fun i hi => ?_⟩
  · have hg := blk_lt h1
    simp [World.setCell, Array.getElem?_modify, h1]
  · rw [List.length_set] at hi
    have e := h3 i hi
    have hi2 : i < C.size := by omega
    rw [Array.getElem?_setIfInBounds]
    by_cases hij : j = i
    · subst hij
      simp [hi2, List.getD_eq_getElem?_getD, hi]
    · simp [hij, e, List.getD_eq_getElem?_getD, List.getElem?_set_ne hij]
theorem BB.keep {w w' : World} {g : Nat} {l : List Nat} (h : BB w g l) (hk : w'.heap[g]? = w.heap[g]?) : BB w' g l := by
  obtain ⟨C, h1, h2, h3⟩ := h
  exact ⟨C, hk.trans h1, h2, h3⟩
theorem BB.below {w w' : World} {g : Nat} {l : List Nat} (h : BB w g l) (hb : Below w.heap.size w w') : BB w' g l := h.keep (hb.block g h.lt)
theorem BB.text {w : World} {g : Nat} {l : List Nat} (h : BB w g l) (c : Nat) :
    (convert 34 9 (.slice (some ⟨g, 0, none⟩) l.length c)).run Tryd.prog w = .ok (.string (strOf l)) w := by
  have e := run_convert_bytes_arg (P := Tryd.prog) w 34 5 Tryd.underlying34 Tryd.underlying5 g 0 l.length c (l.map fun n : Nat => (n : Int)) (by simp) (fun i hi => by
    rw [Nat.zero_add, h.cell i hi]
    congr 2
    rw [List.getD_eq_getElem?_getD, List.getD_eq_getElem?_getD, List.getElem?_map, List.getElem?_eq_getElem hi]
    rfl) 9 Tryd.underlying9
  rw [e]
  congr 2
  apply ByteArray.ext
  unfold strOfNums strOf
  rw [List.map_map]
  congr 1
/-- 'int(uint(a) % uint(n))' where n is above 0: a place below n. -/
theorem rem_place (a : Int) (n : Nat) (h0 : 0 < n) (hn : n ≤ 140737488351232) : ∃ k : Nat, k < n ∧ IntKind.i64.wrap ((IntKind.u64.wrap a).tmod (n : Int)) = (k : Int) ∧ (IntKind.u64.wrap a).tmod (n : Int) = (k : Int) ∧ (IntKind.u64.wrap a) % (n : Int) = (k : Int) := by
  have hu : 0 ≤ IntKind.u64.wrap a := by rw [IntKind.wrap_u64]; omega
  have e : (IntKind.u64.wrap a).tmod (n : Int) = IntKind.u64.wrap a % (n : Int) := Int.tmod_eq_emod_of_nonneg hu
  have h1 : 0 ≤ IntKind.u64.wrap a % (n : Int) := Int.emod_nonneg _ (by omega)
  have h2 : IntKind.u64.wrap a % (n : Int) < n := Int.emod_lt_of_pos _ (by omega)
  refine ⟨(IntKind.u64.wrap a % (n : Int)).toNat, by omega, ?_, by rw [e]; omega, by omega⟩
  rw [e, IntKind.wrap_i64]
  omega
end Go.Proofs.YtcginknabpgjnaaDoor.Bb
