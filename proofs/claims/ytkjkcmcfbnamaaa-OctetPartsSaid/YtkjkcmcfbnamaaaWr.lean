import Derived.Test.YtkjkcmcfbnamaaaProg
import Derived.Below
import Derived.Deep.Draws
import Derived.Deep.AppendLies
import Derived.Maps.AppendAt
import Derived.OwnWalk
import Derived.Laws.BytesArg
import Derived.Laws.MakeOwn
import Derived.Laws.OwnMore
import Derived.Deep.OwnRows
import Derived.Tactics
import Derived.Lib.ConvBytes
import Derived.Laws.Slices
import Derived.WalkKit
import Derived.KernelRfl
import Derived.RowKit3
import Derived.Deep.LoopGhost
import Derived.Deep.QuietTactic
import Derived.BigQuiet
import Derived.WideLaws
import Derived.Deep.DeepCutAuto
import Derived.Deep.CutBlock
import Derived.Deep.RegionHeld3
import Derived.Laws.Rows
import Derived.Lib.AppendStr
import Derived.ArgAppend
import Derived.Laws.IdiomCopy
import Derived.OrdersHeld
import Derived.Laws.BitsLemmas
import Derived.RowKit
import Derived.Test.YtkjkcmcfbnamaaaWWords
import Derived.Test.YtkjkcmcfbnamaaaWLast
import Derived.Test.YtkjkcmcfbnamaaaWTab
import Derived.Test.YtkjkcmcfbnamaaaWFour
import Derived.Test.YtkjkcmcfbnamaaaWQPut
import Derived.Test.YtkjkcmcfbnamaaaWApart
import Derived.Test.YtkjkcmcfbnamaaaWArr
import Derived.Test.YtkjkcmcfbnamaaaWZeros
import Derived.Test.YtkjkcmcfbnamaaaWFoot
import Derived.Test.YtkjkcmcfbnamaaaWKept
import Derived.Test.YtkjkcmcfbnamaaaWShare
import Derived.Test.YtkjkcmcfbnamaaaWN
import Derived.Test.YtkjkcmcfbnamaaaWFootNe
import Derived.Test.YtkjkcmcfbnamaaaWAt
import Derived.Test.YtkjkcmcfbnamaaaWEqStruct
import Derived.Test.YtkjkcmcfbnamaaaWRepsOne
import Derived.Test.YtkjkcmcfbnamaaaWInv
import Derived.Test.YtkjkcmcfbnamaaaWInvWords
import Derived.Test.YtkjkcmcfbnamaaaWGuard
import Derived.Test.YtkjkcmcfbnamaaaWNEv
import Derived.Test.YtkjkcmcfbnamaaaWMore
import Derived.Deep.RegionLaw
namespace Go.Proofs.Ytkjkcmcfbnamaaa.Wr
open Go.RowKit Go.Proofs.YtkjkcmcfbnamaaaW.PrintWords Go.Proofs.YtkjkcmcfbnamaaaW.PrintLast Go.Proofs.YtkjkcmcfbnamaaaW.PrintMore
attribute [local go_sem] max2_int min2_int max_two min_two max_three min_three max_four min_four

theorem info5 : (Try.prog.info? 5).map (fun i => (i.zero, i.size, i.bytes)) = some (some (.int .u8 0), 1, 1) := by kernel_rfl

/-- All blocks but g, the row and byte rows made from B on are as they were. -/
def KeepW (B : Nat) (w w' : World) (g : Nat) (row : Option Nat) : Prop :=
  w.heap.size ≤ w'.heap.size ∧ ∀ i, i < w.heap.size → i ≠ g → some i ≠ row → (B ≤ i → ∀ cs fr, w.heap[i]? ≠ some (.cells cs 5 fr)) → w'.heap[i]? = w.heap[i]?
theorem KeepW.refl (B : Nat) (w : World) (g : Nat) (row : Option Nat) : KeepW B w w g row := ⟨Nat.le_refl _, fun _ _ _ _ _ => rfl⟩
theorem KeepW.trans {B : Nat} {w w1 w2 : World} {g : Nat} {row row1 : Option Nat} (h : KeepW B w w1 g row) (k : KeepW B w1 w2 g row1) (hr : row1 = row ∨ ∃ b, row1 = some b ∧ w.heap.size ≤ b) : KeepW B w w2 g row := by
  refine ⟨Nat.le_trans h.1 k.1, fun i hi hg hrow hu => ?_⟩
  have e := h.2 i hi hg hrow hu
  refine (k.2 i (Nat.lt_of_lt_of_le hi h.1) hg ?_ ?_).trans e
  · rcases hr with rfl | ⟨b, rfl, hb⟩
    · exact hrow
    · intro e; cases e; exact absurd hi (Nat.not_lt.2 hb)
  · intro hB; rw [e]; exact hu hB

def IsW (B : Nat) (W : World) (g : Nat) (f0 : ByteArray) : Prop :=
  ∃ v, W.heap[g]? = some (.cells #[v] 27 (0, 0)) ∧ W.ownsRow B 5 1 v f0.size (nums .u8 (bytesOf f0)) ∧ B ≤ g

def putBytes (n : Int) : Nat → List Int
  | 0 => []
  | i + 1 => (n / 2 ^ (8 * i)) % 256 :: putBytes n i

theorem grown_drew {w W : World} {row : Option Nat} (h : w.grownBy W row) : w.grownBy W.drew row := ⟨h.os, h.tape, h.output, h.size, h.block⟩

/-- What an append to a writer's row leaves. -/
theorem wr_after {B : Nat} {w0 w wr W w1 : World} {g : Nat} {v : Value} {n : Nat} {xs : List Value} (HG : wr.heap[g]? = some (.cells #[v] 27 (0, 0))) (HO : wr.ownsRow B 5 1 v n xs)
    (HB : Below B w0 wr) (hBs : B ≤ wr.heap.size) (HK : KeepW B w wr g none) (hW : wr.grownBy W none) (hg : W.grownBy w1 v.ownBlock) :
    w1.heap[g]? = some (.cells #[v] 27 (0, 0)) ∧ Below B w0 w1 ∧ KeepW B w w1 g none := by
  have hne : some g ≠ v.ownBlock := own_ne HO HG (by decide)
  have hgrow : wr.grownBy w1 v.ownBlock := World.grownBy.trans (⟨hW.os, hW.tape, hW.output, hW.size, fun i hi _ => hW.block i hi (by simp)⟩ : wr.grownBy W v.ownBlock) hg
  refine ⟨blk_grown HG hgrow hne, (HB.grown hgrow hBs (own_base HO)), ?_⟩
  refine HK.trans (row1 := none) ⟨hgrow.size, fun i hi hi2 _ hu => ?_⟩ (.inl rfl)
  refine hgrow.block i hi ?_
  intro e
  rcases HO.2 with ⟨rfl, _⟩ | ⟨gr, cap, cur, rfl, hb, hh, _⟩
  · simp [Value.ownBlock] at e
  · simp [Value.ownBlock] at e
    subst e
    exact hu hb _ _ hh

theorem KeepW.set_ {B : Nat} {w w1 : World} {g : Nat} {row : Option Nat} (h : KeepW B w w1 g row) (j : Nat) (u : Value) : KeepW B w (w1.setCell ⟨g, j, none⟩ u) g row := by
  have hk := KeepBut.set_ (KeepBut.refl w1 g none) j u
  refine ⟨Nat.le_trans h.1 hk.1, fun i hi hg hr hu => ?_⟩
  exact (hk.2 i (Nat.lt_of_lt_of_le hi h.1) hg (by simp)).trans (h.2 i hi hg hr hu)

theorem bytesOf_str (xs : List Int) (h : ∀ x ∈ xs, 0 ≤ x ∧ x < 256) : bytesOf (strOfNums xs) = xs := by
  unfold bytesOf strOfNums
  simp only [List.map_map]
  conv => rhs; rw [← List.map_id xs]
  apply List.map_congr_left
  intro x hx
  have := h x hx
  simp [UInt8.toNat_ofNat']
  omega

theorem bytesOf_append (a b : ByteArray) : bytesOf (a ++ b) = bytesOf a ++ bytesOf b := by
  unfold bytesOf; simp

theorem str_append (xs ys : List Int) : strOfNums xs ++ strOfNums ys = strOfNums (xs ++ ys) := by
  apply ByteArray.ext
  simp [strOfNums]
theorem put_step (c : ByteArray) (a2 b : Int) (i : Nat) (hb : b = a2 / 2 ^ (8 * i) % 256) : (c ++ strOfNums [b]) ++ strOfNums (putBytes a2 i) = c ++ strOfNums (putBytes a2 (i + 1)) := by
  rw [ByteArray.append_assoc, str_append, hb]; rfl
theorem str_bytesOf (s : ByteArray) : strOfNums (bytesOf s) = s := by
  apply ByteArray.ext
  unfold strOfNums bytesOf
  have e : ((fun n : Int => UInt8.ofNat n.toNat) ∘ fun b : UInt8 => (b.toNat : Int)) = id := by funext b; simp
  rw [List.map_map, e, List.map_id]
theorem str_one_size (b : Int) : (strOfNums [b]).size = 1 := by simp [strOfNums, ByteArray.size]

/-- What the store of the longer row leaves. -/
theorem wr_store {B : Nat} {w0 w w1 : World} {g : Nat} {v v1 : Value} {c : ByteArray} {b : Int} (hb : 0 ≤ b ∧ b < 256) (k0 : w1.heap[g]? = some (.cells #[v] 27 (0, 0))) (k1 : Below B w0 w1) (k2 : KeepW B w w1 g none) (hge : B ≤ g)
    (ho : w1.ownsRow B 5 1 v1 (c.size + 1) (nums .u8 (bytesOf c) ++ [.int .u8 b])) :
    IsW B (w1.setCell ⟨g, 0, none⟩ v1) g (c ++ strOfNums [b]) ∧ Below B w0 (w1.setCell ⟨g, 0, none⟩ v1) ∧ KeepW B w (w1.setCell ⟨g, 0, none⟩ v1) g none := by
  refine ⟨⟨v1, by simpa using blk_set k0 0 v1, ?_, hge⟩, k1.setCell hge _, k2.set_ 0 v1⟩
  have e1 : (c ++ strOfNums [b]).size = c.size + 1 := by rw [ByteArray.size_append, str_one_size]
  have e2 : nums .u8 (bytesOf (c ++ strOfNums [b])) = nums .u8 (bytesOf c) ++ [.int .u8 b] := by
    rw [bytesOf_append, bytesOf_str _ (by intro x hx; simp at hx; subst hx; exact hb), nums_append]; rfl
  rw [e1, e2]
  exact own_setCell ho (own_ne ho k0 (by decide)) v1

set_option maxHeartbeats 1000000 in
set_option maxRecDepth 100000 in
theorem put_walk (B g : Nat) (s0 : ByteArray) (a1 a2 : Int) (w0 w : World) (hI : IsW B w g s0) (hB : Below B w0 w) (hs : s0.size + 8 ≤ 140737488355328) :
    Calls Try.prog 9 #[.pointer (some ⟨g, 0, none⟩), .int .i64 a1, .int .i64 a2] w fun e w' => e = .returned (.tuple #[]) ∧ IsW B w' g (s0 ++ strOfNums (putBytes a2 (mn (mx a1 1) 8).toNat)) ∧ Below B w0 w' ∧ KeepW B w w' g none := by
  obtain ⟨i0, hi, hz0, hz1, hz2⟩ := info_parts info5
  obtain ⟨sz, hsz, hsz8⟩ : ∃ sz : Nat, (mn (mx a1 1) 8).toNat = sz ∧ sz ≤ 8 := ⟨_, rfl, by unfold mn mx; split <;> split <;> omega⟩
  have key : ∀ (v6 : Value), v6 = .int .i64 ((sz : Int) - 1) → True := fun _ _ => trivial
  rw [hsz]
  have HI := Aside0.mk hI
  have HB := Aside0.mk hB
  have HSZ := Aside0.mk hsz
  clear hI hB hsz key
  go_enter Try.func9, Try.ntmps9
  go_wp2
  all_goals
    have hsz := HSZ.out
    unfold mn mx at hsz
    go_loopw [6] (fun v6 wr => ∃ (m : Nat) (c : ByteArray), m ≤ sz ∧ v6 = .int .i64 ((m : Int) - 1) ∧ Aside0 (c ++ strOfNums (putBytes a2 m) = s0 ++ strOfNums (putBytes a2 sz)) ∧ Aside0 (c.size + m = s0.size + sz) ∧ Aside0 (IsW B wr g c) ∧ Aside0 (Below B w0 wr) ∧ Aside0 (KeepW B w wr g none)) (fun v6 _ => (intOf v6 + 1).toNat)
    case atStart => exact ⟨sz, s0, Nat.le_refl _, by congr 1; split at hsz <;> (try split at hsz) <;> omega, ⟨rfl⟩, ⟨rfl⟩, HI, HB, ⟨KeepW.refl _ _ _ _⟩⟩
    case round =>
      clear hsz
      obtain ⟨m, c, hm, rfl, HC, HL, HI, HB, HK⟩ := hrel
      cases m with
      | zero =>
        go_wp2
        go_end0
        have e := HC.out
        refine ⟨rfl, ?_, HB.out, HK.out⟩
        rw [← e]
        have e0 : c ++ strOfNums (putBytes a2 0) = c := by apply ByteArray.ext; simp [putBytes, strOfNums]
        rw [e0]
        exact HI.out
      | succ i =>
        rw [show ((i + 1 : Nat) : Int) - 1 = (i : Int) from by omega]
        obtain ⟨v, hgb, hown, hge⟩ := HI.out
        have hc0 := (blk_cell hgb 0).trans (show (#[v] : Array Value)[0]? = some v from rfl)
        have hf0 := blk_frozen hgb 0
        have HG := Aside0.mk hgb
        have HO := Aside0.mk hown
        clear hgb hown
        have hi0 : 0 ≤ (i : Int) := by omega
        have hi7 : (i : Int) ≤ 7 := by omega
        have hw8 : IntKind.i64.wrap (8 * (i : Int)) = 8 * (i : Int) := by rw [IntKind.wrap_i64]; omega
        have hcA : ∀ o, (wr.alloc o).cell? ⟨g, 0, none⟩ = some v := fun o => (World.cell?_alloc_lt _ _ _ (blk_lt HG.out)).trans hc0
        go_wp2
        have hbB : B ≤ wr.heap.size := Nat.le_of_lt (Nat.lt_of_le_of_lt hge (blk_lt HG.out))
        go_region_law (refine step_append_lies _ rfl (.tmp 19) (.tmp 25) 25 rfl B 5 i0 (.int .u8 0) 1 1 Try.underlying25 hi hz0 hz1 hz2 rfl (by decide) v c.size (nums .u8 (bytesOf c)) (by simp [Act.eval]) (by repeat (first | exact HO.out | apply World.ownsRow.alloc | apply World.ownsRow.drew)) ⟨wr.heap.size, 0, none⟩ 1 1 [.int .u8 (IntKind.u8.wrap (a2 / 2 ^ (8 * (i : Int)).toNat))] (by simp [Act.eval]) rfl (World.news_of_block (cs := #[.int .u8 (IntKind.u8.wrap (a2 / 2 ^ (8 * (i : Int)).toNat))]) (t := 5) (fr := (0, 0)) (by first | exact heap_alloc_new wr _ | simp)) (by intro u hu; simp at hu; subst hu; rfl) (by decide) (by have := HL.out; unfold maxLen; omega) (by have := HL.out; omega) (by simp; omega) _ rfl ?_; intro g' cap' w1 hown' hgrow hat hlt; obtain ⟨k0, k1, k2⟩ := wr_after HG.out HO.out HB.out hbB HK.out (by first | exact World.grownBy_alloc wr _ none | exact grown_drew (World.grownBy_alloc wr _ none) | exact grown_drew (grown_drew (World.grownBy_alloc wr _ none))) hgrow; have kc := blk_cell k0 0; have kf := blk_frozen k0 0)
        all_goals
          have hb0 : IntKind.u8.wrap (a2 / 2 ^ (8 * (i : Int)).toNat) = a2 / 2 ^ (8 * i) % 256 := by rw [IntKind.wrap_u8, show (8 * (i : Int)).toNat = 8 * i by omega]
          have hbr : 0 ≤ IntKind.u8.wrap (a2 / 2 ^ (8 * (i : Int)).toNat) ∧ IntKind.u8.wrap (a2 / 2 ^ (8 * (i : Int)).toNat) < 256 := by rw [hb0]; omega
          obtain ⟨j0, j1, j2⟩ := wr_store hbr k0 k1 k2 hge hown'
          have J0 := Aside0.mk j0
          have J1 := Aside0.mk j1
          have J2 := Aside0.mk j2
          have J3 := Aside0.mk hb0
          clear j0 j1 j2 hb0 hbr
          go_wp2
          go_roundw
          case rel =>
            refine ⟨i, c ++ strOfNums [IntKind.u8.wrap (a2 / 2 ^ (8 * (i : Int)).toNat)], by omega, by go_num, ⟨(put_step c a2 _ i J3.out).trans HC.out⟩, ⟨by have := HL.out; rw [ByteArray.size_append, str_one_size]; omega⟩, J0, J1, J2⟩
          case measure => simp [intOf]

/-- What an append of a text leaves. -/
theorem wr_store_text {B : Nat} {w0 w w1 : World} {g : Nat} {v v1 : Value} {c s : ByteArray} (k0 : w1.heap[g]? = some (.cells #[v] 27 (0, 0))) (k1 : Below B w0 w1) (k2 : KeepW B w w1 g none) (hge : B ≤ g)
    (ho : w1.ownsRow B 5 1 v1 ((bytesOf c).length + (bytesOf s).length) (nums .u8 (bytesOf c ++ bytesOf s))) :
    IsW B (w1.setCell ⟨g, 0, none⟩ v1) g (c ++ s) ∧ Below B w0 (w1.setCell ⟨g, 0, none⟩ v1) ∧ KeepW B w (w1.setCell ⟨g, 0, none⟩ v1) g none := by
  refine ⟨⟨v1, by simpa using blk_set k0 0 v1, ?_, hge⟩, k1.setCell hge _, k2.set_ 0 v1⟩
  have e1 : (c ++ s).size = (bytesOf c).length + (bytesOf s).length := by rw [ByteArray.size_append, bytesOf_length, bytesOf_length]
  rw [e1, bytesOf_append]
  exact own_setCell ho (own_ne ho k0 (by decide)) v1

set_option maxHeartbeats 1000000 in
set_option maxRecDepth 100000 in
theorem raw_walk (B g : Nat) (s0 s : ByteArray) (w0 w : World) (hI : IsW B w g s0) (hB : Below B w0 w) (hs : s0.size + s.size ≤ 140737488355328) :
    Calls Try.prog 11 #[.pointer (some ⟨g, 0, none⟩), .string s] w fun e w' => e = .returned (.tuple #[]) ∧ IsW B w' g (s0 ++ s) ∧ Below B w0 w' ∧ KeepW B w w' g none := by
  obtain ⟨v, hgb, hown, hge⟩ := hI
  have hc0 := (blk_cell hgb 0).trans (show (#[v] : Array Value)[0]? = some v from rfl)
  have hf0 := blk_frozen hgb 0
  have hbB : B ≤ w.heap.size := Nat.le_of_lt (Nat.lt_of_le_of_lt hge (blk_lt hgb))
  have hown' : w.ownsRow B 5 1 v (bytesOf s0).length (nums .u8 (bytesOf s0)) := by rw [bytesOf_length]; exact hown
  have HG := Aside0.mk hgb
  have HO := Aside0.mk hown'
  have HB := Aside0.mk hB
  clear hgb hown hown' hB
  go_enter Try.func11, Try.ntmps11
  go_wp2_with (at_builtin; refine print_append_str (w0 := w0) B rfl (.tmp 8) _ 25 9 5 rfl Try.underlying25 Try.underlying9 info5 v (bytesOf s0) s rfl rfl HO.out HB.out hbB (by rw [bytesOf_length]; exact hs) ?_; intro v1 w1 hown1 hb1 hgrow; rw [List.length_append] at hown1; obtain ⟨A1, c1, rfl⟩ := own_slice hown1; obtain ⟨k0, k1, k2⟩ := wr_after HG.out HO.out HB.out hbB (KeepW.refl B w g none) (World.grownBy.refl w none) hgrow; have kc := blk_cell k0 0; have kf := blk_frozen k0 0; have K0 := Aside0.mk k0; have K1 := Aside0.mk k1; have K2 := Aside0.mk k2; have KO := Aside0.mk hown1; clear k0 k1 k2 hown1 hgrow hb1)
  go_end0
  exact ⟨rfl, wr_store_text K0.out K1.out K2.out hge KO.out⟩

set_option maxHeartbeats 1000000 in
set_option maxRecDepth 100000 in
theorem text_walk (B g : Nat) (s0 : ByteArray) (w : World) (hI : IsW B w g s0) :
    Calls Try.prog 12 #[.pointer (some ⟨g, 0, none⟩)] w fun e w' => e = .returned (.string s0) ∧ w' = w := by
  obtain ⟨v, hgb, hown, hge⟩ := hI
  have hc0 := (blk_cell hgb 0).trans (show (#[v] : Array Value)[0]? = some v from rfl)
  have hcv : (convert 25 9 v).run Try.prog w = .ok (.string s0) w := by
    rw [own_string Try.underlying25 Try.underlying5 Try.underlying9 hown]
    rw [str_bytesOf]
  clear hgb hown
  go_enter Try.func12, Try.ntmps12
  go_wp2
  go_ret
  exact ⟨rfl, rfl⟩

theorem putBytes_length (a : Int) : ∀ k, (putBytes a k).length = k
  | 0 => rfl
  | k + 1 => by simp [putBytes, putBytes_length a k]
theorem mnmx (a : Int) : (mn (mx a 1) 8).toNat ≤ 8 := by unfold mn mx; split <;> split <;> omega

/-- A writer that was made behind w: what it holds, how much at most; all else is as it was. -/
structure WS (B : Nat) (w0 w W : World) (g : Nat) (c : ByteArray) (n : Nat) : Prop where
  isW : IsW B W g c
  below : Below B w0 W
  keep : KeepW B w W g none
  size : c.size ≤ n

/-- The bytes of a number: so many, the highest first. -/
def numOf (size a : Int) : ByteArray := strOfNums (putBytes a (mn (mx size 1) 8).toNat)
theorem numOf_size (size a : Int) : (numOf size a).size = (mn (mx size 1) 8).toNat := by
  unfold numOf; rw [show ∀ xs : List Int, (strOfNums xs).size = xs.length from fun xs => by simp [strOfNums, ByteArray.size], putBytes_length]

theorem put_ws {B : Nat} {w0 w W : World} {g : Nat} {c : ByteArray} {n : Nat} (a1 a2 : Int) (h : Aside0 (WS B w0 w W g c n)) (hn : n ≤ 100000000) :
    Calls Try.prog 9 #[.pointer (some ⟨g, 0, none⟩), .int .i64 a1, .int .i64 a2] W fun e w' => e = .returned (.tuple #[]) ∧ Aside0 (WS B w0 w w' g (c ++ numOf a1 a2) (n + 8)) := by
  obtain ⟨h1, h2, h3, h4⟩ := h.out
  refine (put_walk B g c a1 a2 w0 W h1 h2 (by omega)).mono ?_
  rintro e w' ⟨rfl, k1, k2, k3⟩
  exact ⟨rfl, ⟨k1, k2, h3.trans k3 (.inl rfl), by rw [ByteArray.size_append, numOf_size]; have := mnmx a1; omega⟩⟩

theorem raw_ws {B : Nat} {w0 w W : World} {g : Nat} {c : ByteArray} {n : Nat} (s : ByteArray) (m : Nat) (h : Aside0 (WS B w0 w W g c n)) (hs : s.size ≤ m) (hn : n + m ≤ 100000000) :
    Calls Try.prog 11 #[.pointer (some ⟨g, 0, none⟩), .string s] W fun e w' => e = .returned (.tuple #[]) ∧ Aside0 (WS B w0 w w' g (c ++ s) (n + m)) := by
  obtain ⟨h1, h2, h3, h4⟩ := h.out
  refine (raw_walk B g c s w0 W h1 h2 (by omega)).mono ?_
  rintro e w' ⟨rfl, k1, k2, k3⟩
  exact ⟨rfl, ⟨k1, k2, h3.trans k3 (.inl rfl), by rw [ByteArray.size_append]; omega⟩⟩

theorem text_ws {B : Nat} {w0 w W : World} {g : Nat} {c : ByteArray} {n : Nat} (h : Aside0 (WS B w0 w W g c n)) :
    Calls Try.prog 12 #[.pointer (some ⟨g, 0, none⟩)] W fun e w' => e = .returned (.string c) ∧ w' = W := text_walk B g c W h.out.isW

/-- A writer as it is made. -/
theorem WS.new {B : Nat} {w0 w : World} (hB : Below B w0 w) (hs : B ≤ w.heap.size) : WS B w0 (w.alloc (.cells #[.slice none 0 0] 27)) (w.alloc (.cells #[.slice none 0 0] 27)) w.heap.size ⟨#[]⟩ 0 :=
  ⟨⟨_, by simpa using heap_alloc_new w _, own_nil _ B 5 1, hs⟩, hB.alloc hs _, KeepW.refl _ _ _ _, Nat.le_refl _⟩

theorem KeepW.blk {B : Nat} {w w1 : World} {g g' : Nat} {row : Option Nat} {cs : Array Value} {t : TypeId} {fr : Nat × Nat} (h : KeepW B w w1 g row) (hb : w.heap[g']? = some (.cells cs t fr)) (hg : g' ≠ g) (hr : some g' ≠ row) (ht : t ≠ 5) : w1.heap[g']? = some (.cells cs t fr) := by
  refine (h.2 g' (blk_lt hb) hg hr ?_).trans hb
  intro _ cs' fr' e
  rw [hb] at e
  injection e with e
  injection e with _ e2 _
  exact ht e2
/-- A variable beside the writer. -/
theorem WS.blk {B : Nat} {w0 w W : World} {g : Nat} {c : ByteArray} {n : Nat} {g' : Nat} {cs : Array Value} {t : TypeId} (h : Aside0 (WS B w0 w W g c n)) (hb : w.heap[g']? = some (.cells cs t (0, 0))) (hg : g' ≠ g) (ht : t ≠ 5) : W.heap[g']? = some (.cells cs t (0, 0)) :=
  h.out.keep.blk hb hg (by simp) ht
end Go.Proofs.Ytkjkcmcfbnamaaa.Wr
