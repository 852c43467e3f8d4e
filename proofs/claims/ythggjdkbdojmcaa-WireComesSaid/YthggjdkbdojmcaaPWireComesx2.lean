-- Written by a program of this session (see NOTES.md), which reads the translation's print; Lean checks it.
import Derived.Test.YthggjdkbdojmcaaPWireComesx0
import Derived.Test.YthggjdkbdojmcaaPWireComesx1
namespace Go.Proofs.Ythggjdkbdojmcaa.PWireComes
open Go.RowKit Go.Proofs.YthggjdkbdojmcaaW.PrintWords Go.Proofs.YthggjdkbdojmcaaW.PrintLast Go.Proofs.YthggjdkbdojmcaaW.PrintMore
attribute [local go_sem] max2_int min2_int max_two min_two max_three min_three max_four min_four   -- for this text's walks alone
set_option linter.unusedVariables false
set_option linter.unusedSimpArgs false

/-! ### kissgatelaw22_WireComes: function 3 -/
def kissgatelaw22_WireComes.Pure : Prop := True
/-! ### The wire: one block, and the row that it owns -/
def pc (x : S34) : List Value := [.int .i64 x.f0, .int .i64 x.f1, .bool x.f2, .string x.f3, .bool x.f4, .bool x.f5]
def pcs (ps : List S34) : List Value := ps.flatMap pc
theorem pc_len (x : S34) : (pc x).length = 6 := rfl
theorem pcs_len : ∀ ps : List S34, (pcs ps).length = ps.length * 6
  | [] => rfl
  | x :: ps => by
    have := pcs_len ps
    unfold pcs at this ⊢
    rw [List.flatMap_cons, List.length_append, this, pc_len, List.length_cons]; omega
theorem pcs_snoc (ps : List S34) (x : S34) : pcs (ps ++ [x]) = pcs ps ++ pc x := by
  unfold pcs; rw [List.flatMap_append]; simp
theorem pcs_get : ∀ (ps : List S34) (k j : Nat) (hk : k < ps.length), j < 6 → (pcs ps)[6 * k + j]? = (pc (ps[k]'hk))[j]?
  | [], k, j, hk, _ => absurd hk (by simp)
  | x :: ps, 0, j, _, hj => by
    unfold pcs; rw [List.flatMap_cons, List.getElem?_append_left (by rw [pc_len]; omega)]; simp
  | x :: ps, k + 1, j, hk, hj => by
    have ih := pcs_get ps k j (by simpa using hk) hj
    unfold pcs at ih ⊢
    rw [List.flatMap_cons, List.getElem?_append_right (by rw [pc_len]; omega), pc_len, show 6 * (k + 1) + j - 6 = 6 * k + j by omega, ih]; simp
/-- The state: up, the way's pieces, lost; all of it at or above block B. -/
structure WireAt (B g : Nat) (w : World) (up : Bool) (v : Value) (ps : List S34) (lost : Int) : Prop where
  obj : w.heap[g]? = some (.cells #[.bool up, v, .int .i64 lost] 38 (0, 0))
  ge : B ≤ g
  own : w.ownsRow B 34 6 v ps.length (pcs ps)
  ne : v.ownBlock ≠ some g
  nil : ps = [] → v = .slice none 0 0
def cntP (ps : List S34) (q : Int) (c : Bool) : Nat := (ps.filter fun p => p.f0 == q && p.f2 == c).length
theorem cntP_le (ps : List S34) (q : Int) (c : Bool) : cntP ps q c ≤ ps.length := List.length_filter_le _ _
theorem cntP_take (ps : List S34) (q : Int) (c : Bool) (k : Nat) (hk : k < ps.length) : cntP (ps.take (k + 1)) q c = cntP (ps.take k) q c + (if (ps[k].f0 == q && ps[k].f2 == c) = true then 1 else 0) := by
  unfold cntP
  rw [List.take_succ_eq_append_getElem hk, List.filter_append, List.length_append]
  congr 1
  simp only [List.filter_cons, List.filter_nil]
  split <;> rfl
theorem add0 (g j : Nat) : (⟨g, 0, none⟩ : Addr).add j = ⟨g, j, none⟩ := by unfold Addr.add; split <;> simp_all
theorem own_at {w : World} {B : Nat} {v : Value} {ps : List S34} (h : w.ownsRow B 34 6 v ps.length (pcs ps)) (k : Nat) (hk : k < ps.length) :
    ∃ g cap, v = .slice (some ⟨g, 0, none⟩) ps.length cap ∧ B ≤ g ∧ g < w.heap.size ∧ ∀ j u, (pc (ps[k]'hk))[j]? = some u → w.cell? ⟨g, 6 * k + j, none⟩ = some u := by
  obtain ⟨g, cap, e, hb, hlt⟩ := h.form (by omega)
  refine ⟨g, cap, e, hb, hlt, fun j u hu => ?_⟩
  have hj : j < 6 := by have := (List.getElem?_eq_some_iff.1 hu).1; rw [pc_len] at this; exact this
  have := h.cells (g := g) (by rw [e]; rfl) (6 * k + j) u (by rw [pcs_get ps k j hk hj]; exact hu)
  rw [add0] at this; exact this
theorem own_form {w : World} {B : Nat} {e : TypeId} {s : Nat} {v : Value} {n : Nat} {xs : List Value} (h : w.ownsRow B e s v n xs) : ∃ a cap, v = .slice a n cap := by
  rcases h.2 with ⟨rfl, rfl⟩ | ⟨g, cap, cur, rfl, _⟩
  · exact ⟨none, 0, rfl⟩
  · exact ⟨_, cap, rfl⟩
set_option maxHeartbeats 8000000 in
set_option maxRecDepth 100000 in
theorem count_calls (B g : Nat) (w : World) (up : Bool) (v : Value) (ps : List S34) (lost q : Int) (c : Bool) (h : WireAt B g w up v ps lost) (hn : ps.length ≤ 1000000) :
    Calls Try.prog 11 #[.pointer (some ⟨g, 0, none⟩), .int .i64 q, .bool c] w fun e w' => e = .returned (.int .i64 (cntP ps q c : Nat)) ∧ Below w.heap.size w w' := by
  obtain ⟨A, cap, rfl⟩ := own_form h.own
  have hcz := blk_cell h.obj 1
  have HC := Aside0.mk (hcz.trans rfl : w.cell? ⟨g, 1, none⟩ = some (.slice A ps.length cap))
  have hc1 : w.cell? ⟨g, 1, none⟩ = some (.slice A ps.length cap) := HC.out
  have HO := Aside0.mk h.own
  have HN := Aside0.mk hn
  clear hcz h hn
  go_enter Try.func11, Try.ntmps11
  go_wp2_with fail
  go_loopw [7, 15] (fun v7 v15 wr => ∃ k : Nat, k ≤ ps.length ∧ v7 = .int .i64 (cntP (ps.take k) q c : Nat) ∧ v15 = .int .i64 k ∧ Aside0 (Below w.heap.size w wr)) (fun _ v15 _ => (match v15 with | .int _ n => (ps.length - n).toNat | _ => 0))
  case atStart => exact ⟨0, Nat.zero_le _, rfl, rfl, ⟨Below.refl _ _⟩⟩
  case round =>
    clear hc1
    obtain ⟨k, hk, rfl, rfl, HB⟩ := hrel
    by_cases hkn : k = ps.length
    · subst hkn
      have d1 : decide ((ps.length : Int) < (ps.length : Int)) = false := decide_eq_false (by omega)
      rw [List.take_length]
      go_wp2_with fail
      go_ret
      exact ⟨rfl, HB.out⟩
    · have hlt : k < ps.length := by omega
      obtain ⟨g2, cap2, e, hb2, hg2, hx⟩ := own_at HO.out k hlt
      injection e with e1 e2 e3
      subst e1 e3
      have ht := cntP_take ps q c k hlt
      have hle := cntP_le (ps.take k) q c
      rw [List.length_take] at hle
      have HT := Aside0.mk ht
      have hx0 : wr.cell? ⟨g2, k * 6, none⟩ = some (.int .i64 (ps[k]'hlt).f0) := (HB.out.cell (by exact hg2)).trans ((by rw [Nat.mul_comm]; exact hx 0 _ rfl))
      have hx1 : wr.cell? ⟨g2, k * 6 + 1, none⟩ = some (.int .i64 (ps[k]'hlt).f1) := (HB.out.cell (by exact hg2)).trans ((by rw [Nat.mul_comm]; exact hx 1 _ rfl))
      have hx2 : wr.cell? ⟨g2, k * 6 + 2, none⟩ = some (.bool (ps[k]'hlt).f2) := (HB.out.cell (by exact hg2)).trans ((by rw [Nat.mul_comm]; exact hx 2 _ rfl))
      have hx3 : wr.cell? ⟨g2, k * 6 + 3, none⟩ = some (.string (ps[k]'hlt).f3) := (HB.out.cell (by exact hg2)).trans ((by rw [Nat.mul_comm]; exact hx 3 _ rfl))
      have hx4 : wr.cell? ⟨g2, k * 6 + 4, none⟩ = some (.bool (ps[k]'hlt).f4) := (HB.out.cell (by exact hg2)).trans ((by rw [Nat.mul_comm]; exact hx 4 _ rfl))
      have hx5 : wr.cell? ⟨g2, k * 6 + 5, none⟩ = some (.bool (ps[k]'hlt).f5) := (HB.out.cell (by exact hg2)).trans ((by rw [Nat.mul_comm]; exact hx 5 _ rfl))
      have d1 : decide ((k : Int) < (ps.length : Int)) = true := decide_eq_true (by omega)
      have z0 : (0 : Int) ≤ (k : Int) := by omega
      have z1 : (k : Int) < (ps.length : Int) := by omega
      clear hx ht
      have hw : wrap64 ((k : Int) + 1) = ((k + 1 : Nat) : Int) := by have := HN.out; unfold wrap64; omega
      have hw2 : wrap64 (((cntP (ps.take k) q c : Nat) : Int) + 1) = ((cntP (ps.take k) q c + 1 : Nat) : Int) := by have := HN.out; unfold wrap64; omega
      have hM : ((ps.length : Int) - ((k + 1 : Nat) : Int)).toNat < ((ps.length : Int) - (k : Int)).toNat := by omega
      by_cases e0 : (ps[k]'hlt).f0 = q
      · by_cases e1 : ((ps[k]'hlt).f2 == c) = true
        · have hC : cntP (ps.take (k + 1)) q c = cntP (ps.take k) q c + 1 := by rw [HT.out, if_pos (by rw [e1]; simp [e0])]
          have b0 : ((ps[k]'hlt).f0 == q) = true := beq_iff_eq.mpr e0
          go_wp2_with fail
          rw [hw, hw2]
          exact ⟨⟨k + 1, hlt, by rw [hC], rfl, ⟨below_alloc HB.out _⟩⟩, hM⟩
        · have e1' : ((ps[k]'hlt).f2 == c) = false := by simpa using e1
          have hC : cntP (ps.take (k + 1)) q c = cntP (ps.take k) q c := by rw [HT.out, if_neg (by rw [e1']; simp)]; rfl
          have b0 : ((ps[k]'hlt).f0 == q) = true := beq_iff_eq.mpr e0
          clear e1
          go_wp2_with fail
          rw [hw]
          exact ⟨⟨k + 1, hlt, by rw [hC], rfl, ⟨below_alloc HB.out _⟩⟩, hM⟩
      · have hC : cntP (ps.take (k + 1)) q c = cntP (ps.take k) q c := by rw [HT.out, if_neg (by simp [e0])]; rfl
        have b0 : ((ps[k]'hlt).f0 == q) = false := beq_eq_false_iff_ne.mpr e0
        go_wp2_with fail
        rw [hw]
        exact ⟨⟨k + 1, hlt, by rw [hC], rfl, ⟨below_alloc HB.out _⟩⟩, hM⟩
/-- What Put answers: 1 a bad place or time, 6 full, else 0. -/
def errP (ps : List S34) (q due : Int) (c : Bool) : Int := if (q ≠ 0 ∧ q ≠ 1) ∨ due < 0 then 1 else if 64 ≤ cntP ps q c then 6 else 0
/-- All that lay below w's end but the wire's own two blocks is as it was. -/
structure KeptW (g : Nat) (v : Value) (w w' : World) : Prop where
  os : w'.os = w.os
  tape : w'.tape = w.tape
  output : w'.output = w.output
  size : w.heap.size ≤ w'.heap.size
  block : ∀ k, k < w.heap.size → k ≠ g → some k ≠ v.ownBlock → w'.heap[k]? = w.heap[k]?
-- Put_calls: WireAt B g w true v ps lost -> err = errP ..; WireAt B g w' true v' (if err = 0 then ps ++ [⟨q, due, c, s, false, false⟩] else ps) lost'; KeptW g v w w'; v'.ownBlock = v.ownBlock or some k, w.heap.size <= k
theorem pc_one (x : S34) : ∀ u ∈ pc x, u.oneCell' = true := by
  intro u hu
  simp only [pc, List.mem_cons, List.not_mem_nil, or_false] at hu
  rcases hu with rfl | rfl | rfl | rfl | rfl | rfl <;> rfl
def PutQ (B g : Nat) (w w0 : World) (v : Value) (ps : List S34) (q due : Int) (c : Bool) (s : ByteArray) (e : Ending) (w' : World) : Prop :=
  ∃ v' lost', e = .returned (.int .i64 (errP ps q due c)) ∧ WireAt B g w' true v' (if errP ps q due c = 0 then ps ++ [⟨q, due, c, s, false, false⟩] else ps) lost' ∧ KeptW g v w w' ∧ (v'.ownBlock = v.ownBlock ∨ ∃ b, v'.ownBlock = some b ∧ w.heap.size ≤ b) ∧ Below B w0 w'
set_option maxHeartbeats 8000000 in
set_option maxRecDepth 100000 in
theorem Put_bad (B g : Nat) (w w0 : World) (v : Value) (ps : List S34) (lost q due : Int) (c : Bool) (s : ByteArray) (h : WireAt B g w true v ps lost) (hB : Below B w0 w) (hb : (q ≠ 0 ∧ q ≠ 1) ∨ due < 0) :
    Calls Try.prog 7 #[.pointer (some ⟨g, 0, none⟩), .int .i64 q, .int .i64 due, .bool c, .string s] w (PutQ B g w w0 v ps q due c s) := by
  have hE : errP ps q due c = 1 := by unfold errP; rw [if_pos hb]
  have HF := Aside0.mk (show PutQ B g w w0 v ps q due c s (.returned (.int .i64 1)) w from ⟨v, lost, by rw [hE], by rw [hE, if_neg (by decide)]; exact h, ⟨rfl, rfl, rfl, Nat.le_refl _, fun _ _ _ _ => rfl⟩, .inl rfl, hB⟩)
  clear hE h hB
  by_cases h0 : q = 0
  · subst h0
    have hd : due < 0 := by omega
    have d1 : decide (due < 0) = true := decide_eq_true hd
    clear hb
    go_enter Try.func7, Try.ntmps7
    go_wp2_with fail
    go_ret
    exact HF.out
  · by_cases h1 : q = 1
    · subst h1
      have hd : due < 0 := by omega
      have d1 : decide (due < 0) = true := decide_eq_true hd
      clear hb
      go_enter Try.func7, Try.ntmps7
      go_wp2_with fail
      go_ret
      exact HF.out
    · have b0 : (q == 0) = false := beq_eq_false_iff_ne.mpr h0
      have b1 : (q == 1) = false := beq_eq_false_iff_ne.mpr h1
      clear hb
      go_enter Try.func7, Try.ntmps7
      go_wp2_with fail
      go_ret
      exact HF.out
theorem beq_q {q : Int} {n : Int} (h : q ≠ n) : (q == n) = false := beq_eq_false_iff_ne.mpr h
theorem wire_append {B g : Nat} {w w1 w2 : World} {v v1 : Value} {ps : List S34} {lost : Int} (x : S34) (h : WireAt B g w true v ps lost) (hb : Below w.heap.size w w1) (hown : w2.ownsRow B 34 6 v1 (ps.length + 1) (pcs ps ++ pc x)) (hg : w1.grownBy w2 v.ownBlock) (hat : v1.ownBlock = v.ownBlock ∨ ∃ b, v1.ownBlock = some b ∧ w1.heap.size ≤ b) :
    WireAt B g (w2.setCell ⟨g, 1, none⟩ v1) true v1 (ps ++ [x]) lost := by
  have hlt := blk_lt h.obj
  have hob : w1.heap[g]? = some (.cells #[.bool true, v, .int .i64 lost] 38 (0, 0)) := (hb.block g hlt).trans h.obj
  have hob2 : w2.heap[g]? = some (.cells #[.bool true, v, .int .i64 lost] 38 (0, 0)) := blk_grown hob hg (fun e => h.ne e.symm)
  have hne : v1.ownBlock ≠ some g := by
    rcases hat with e | ⟨b, e, hb'⟩
    · rw [e]; exact h.ne
    · rw [e]; intro he; injection he with he; have := hb.size; omega
  refine ⟨blk_set hob2 1 v1, h.ge, ?_, hne, fun e => absurd e (by simp)⟩
  rw [pcs_snoc, List.length_append, List.length_singleton]
  exact own_setCell hown (fun e => hne e.symm) _
theorem kept_append {B g : Nat} {w w1 w2 : World} {v v1 : Value} (hb : Below w.heap.size w w1) (hg : w1.grownBy w2 v.ownBlock) : KeptW g v w (w2.setCell ⟨g, 1, none⟩ v1) :=
  ⟨hg.os.trans hb.os, hg.tape.trans hb.tape, hg.output.trans hb.output, Nat.le_trans hb.size (by simpa [World.setCell] using hg.size), fun k hk hkg hkv => by
    rw [Below.heap_setCell w2 ⟨g, 1, none⟩ v1 k hkg, hg.block k (by have := hb.size; omega) hkv, hb.block k hk]⟩
theorem grown_below {w w1 : World} (hb : Below w.heap.size w w1) : w.grownBy w1 none := ⟨hb.os, hb.tape, hb.output, hb.size, fun k hk _ => hb.block k hk⟩
theorem own_bel {w w1 : World} {B : Nat} {e : TypeId} {size n : Nat} {v : Value} {xs : List Value} (h : w.ownsRow B e size v n xs) (hb : Below w.heap.size w w1) : w1.ownsRow B e size v n xs :=
  h.kept (grown_below hb) (by cases hv : v.ownBlock with
    | none => exact .inl rfl
    | some k => exact .inr (by simp))
theorem wire_below {B g : Nat} {w w1 : World} {up : Bool} {v : Value} {ps : List S34} {lost : Int} (h : WireAt B g w up v ps lost) (hb : Below w.heap.size w w1) : WireAt B g w1 up v ps lost :=
  ⟨(hb.block g (blk_lt h.obj)).trans h.obj, h.ge, own_bel h.own hb, h.ne, h.nil⟩
theorem Put_fin {B g : Nat} {w w0 w1 w2 : World} {v v1 : Value} {ps : List S34} {lost q due : Int} {c : Bool} {s : ByteArray} (h : WireAt B g w true v ps lost) (hE : errP ps q due c = 0) (hb : Below w.heap.size w w1) (hown : w2.ownsRow B 34 6 v1 (ps.length + 1) (pcs ps ++ pc ⟨q, due, c, s, false, false⟩)) (hB : Below B w0 w2) (hg : w1.grownBy w2 v.ownBlock) (hat : v1.ownBlock = v.ownBlock ∨ ∃ b, v1.ownBlock = some b ∧ w1.heap.size ≤ b) :
    PutQ B g w w0 v ps q due c s (.returned (.int .i64 0)) (w2.setCell ⟨g, 1, none⟩ v1) := by
  refine ⟨v1, lost, by rw [hE], by rw [if_pos hE]; exact wire_append (B := B) _ h hb hown hg hat, kept_append (B := B) hb hg, ?_, hB.setCell h.ge _⟩
  rcases hat with e | ⟨b, e, hb'⟩
  · exact .inl e
  · exact .inr ⟨b, e, Nat.le_trans hb.size hb'⟩
theorem Put_fail {B g : Nat} {w w0 w1 : World} {v : Value} {ps : List S34} {lost q due : Int} {c : Bool} {s : ByteArray} (h : WireAt B g w true v ps lost) (hE : errP ps q due c = 6) (hb : Below w.heap.size w w1) (hB : Below B w0 w) (x : Int) :
    PutQ B g w w0 v ps q due c s (.returned (.int .i64 6)) (w1.setCell ⟨g, 2, none⟩ (.int .i64 x)) := by
  have hk := wire_below h hb
  refine ⟨v, x, by rw [hE], ?_, ⟨hb.os, hb.tape, hb.output, by simpa [World.setCell] using hb.size, fun k hk1 hk2 _ => ?_⟩, .inl rfl, (hB.trans (hb.mono ?_)).setCell h.ge _⟩
  · rw [hE, if_neg (by decide)]
    exact ⟨blk_set hk.obj 2 _, h.ge, own_setCell hk.own (fun e => h.ne e.symm) _, h.ne, h.nil⟩
  · rw [Below.heap_setCell w1 ⟨g, 2, none⟩ _ k hk2, hb.block k hk1]
  · have := blk_lt h.obj; have := h.ge; omega
set_option maxHeartbeats 8000000 in
set_option maxRecDepth 100000 in
theorem Put_ok0 (B g : Nat) (w w0 : World) (v : Value) (ps : List S34) (lost due : Int) (c : Bool) (s : ByteArray) (h : WireAt B g w true v ps lost) (hB : Below B w0 w) (hn : ps.length ≤ 1000) (hd : 0 ≤ due) (hc : cntP ps 0 c < 64) :
    Calls Try.prog 7 #[.pointer (some ⟨g, 0, none⟩), .int .i64 0, .int .i64 due, .bool c, .string s] w (PutQ B g w w0 v ps 0 due c s) := by
  have hE : errP ps 0 due c = 0 := by unfold errP; rw [if_neg (by omega), if_neg (by omega)]
  obtain ⟨A, cap, rfl⟩ := own_form h.own
  have HCt := Aside0.mk (count_calls B g w true _ ps lost 0 c h (by omega))
  have cz0 : w.cell? ⟨g, 0, none⟩ = some (.bool true) := (blk_cell h.obj 0).trans rfl
  have cz1 : w.cell? ⟨g, 1, none⟩ = some (.slice A ps.length cap) := (blk_cell h.obj 1).trans rfl
  have cz2 : w.cell? ⟨g, 2, none⟩ = some (.int .i64 lost) := (blk_cell h.obj 2).trans rfl
  have d1 : decide (due < 0) = false := decide_eq_false (by omega)
  have d2 : decide ((64 : Int) ≤ (cntP ps 0 c : Nat)) = false := decide_eq_false (by omega)
  have d3 : decide (64 ≤ cntP ps 0 c) = false := decide_eq_false (by omega)
  have HH := Aside0.mk h
  have HB := Aside0.mk hB
  have HE := Aside0.mk hE
  have HN := Aside0.mk hn
  have HG := Aside0.mk h.ge
  clear h hB hE hd hc hn
  go_enter Try.func7, Try.ntmps7
  go_wp2_with fail
  go_at_call 11
  refine (HCt.out).mono ?_
  rintro e w1 ⟨rfl, hb⟩
  have hg := World.block_lt_of_cell? w _ cz1
  replace cz0 := (hb.cell (World.block_lt_of_cell? w _ cz0)).trans cz0
  replace cz1 := (hb.cell hg).trans cz1
  replace cz2 := (hb.cell (p := ⟨g, 2, none⟩) hg).trans cz2
  have fz1 : w1.frozen? ⟨g, 1, none⟩ = false := (hb.frozen hg).trans (blk_frozen HH.out.obj 1)
  have fz2 : w1.frozen? ⟨g, 2, none⟩ = false := (hb.frozen (p := ⟨g, 2, none⟩) hg).trans (blk_frozen HH.out.obj 2)
  have HBl := Aside0.mk hb
  clear hb
  go_wp2_with (at_builtin; refine print_append_cells (w0 := w0) B rfl _ _ 31 34 (.agg #[.int .i64 0, .int .i64 0, .bool false, .string ⟨#[]⟩, .bool false, .bool false]) 6 48 rfl Try.underlying31 (by rfl) rfl (by decide) (by decide) (.slice A ps.length cap) ps.length (pcs ps) (pc ⟨0, due, c, s, false, false⟩) rfl rfl rfl (pc_one _) ?_ ?_ ?_ ?_ ?_)
  · exact own_bel HH.out.own HBl.out
  · exact HB.out.trans (HBl.out.mono (by have := HG.out; omega))
  · have := HG.out; have := HBl.out.size; omega
  · have := HN.out; omega
  · intro v1 w2 hown hB2 hgr hat
    have hgv : v1 = v1 := rfl
    have cy1 : w2.cell? ⟨g, 1, none⟩ = some (.slice A ps.length cap) := (hgr.cell_far ⟨g, 1, none⟩ (by have := HBl.out.size; exact Nat.lt_of_lt_of_le hg this) (fun e => HH.out.ne e.symm)).trans cz1
    have fy1 : w2.frozen? ⟨g, 1, none⟩ = false := (hgr.frozen_far ⟨g, 1, none⟩ (by have := HBl.out.size; exact Nat.lt_of_lt_of_le hg this) (fun e => HH.out.ne e.symm)).trans fz1
    have HF := Aside0.mk (Put_fin HH.out HE.out HBl.out hown hB2 hgr hat)
    obtain ⟨A1, cap1, rfl⟩ := own_form hown
    clear hown hB2 hgr hat hgv cz1 fz1
    go_wp2_with fail
    go_ret
    exact HF.out
set_option maxHeartbeats 8000000 in
set_option maxRecDepth 100000 in
theorem Put_full0 (B g : Nat) (w w0 : World) (v : Value) (ps : List S34) (lost due : Int) (c : Bool) (s : ByteArray) (h : WireAt B g w true v ps lost) (hB : Below B w0 w) (hn : ps.length ≤ 1000) (hd : 0 ≤ due) (hc : 64 ≤ cntP ps 0 c) :
    Calls Try.prog 7 #[.pointer (some ⟨g, 0, none⟩), .int .i64 0, .int .i64 due, .bool c, .string s] w (PutQ B g w w0 v ps 0 due c s) := by
  have hE : errP ps 0 due c = 6 := by unfold errP; rw [if_neg (by omega), if_pos (by omega)]
  obtain ⟨A, cap, rfl⟩ := own_form h.own
  have HCt := Aside0.mk (count_calls B g w true _ ps lost 0 c h (by omega))
  have cz0 : w.cell? ⟨g, 0, none⟩ = some (.bool true) := (blk_cell h.obj 0).trans rfl
  have cz1 : w.cell? ⟨g, 1, none⟩ = some (.slice A ps.length cap) := (blk_cell h.obj 1).trans rfl
  have cz2 : w.cell? ⟨g, 2, none⟩ = some (.int .i64 lost) := (blk_cell h.obj 2).trans rfl
  have d1 : decide (due < 0) = false := decide_eq_false (by omega)
  have d2 : decide ((64 : Int) ≤ (cntP ps 0 c : Nat)) = true := decide_eq_true (by omega)
  have d3 : decide (64 ≤ cntP ps 0 c) = true := decide_eq_true (by omega)
  have HH := Aside0.mk h
  have HB := Aside0.mk hB
  have HE := Aside0.mk hE
  have HN := Aside0.mk hn
  have HG := Aside0.mk h.ge
  clear h hB hE hd hc hn
  go_enter Try.func7, Try.ntmps7
  go_wp2_with fail
  go_at_call 11
  refine (HCt.out).mono ?_
  rintro e w1 ⟨rfl, hb⟩
  have hg := World.block_lt_of_cell? w _ cz1
  replace cz0 := (hb.cell (World.block_lt_of_cell? w _ cz0)).trans cz0
  replace cz1 := (hb.cell hg).trans cz1
  replace cz2 := (hb.cell (p := ⟨g, 2, none⟩) hg).trans cz2
  have fz1 : w1.frozen? ⟨g, 1, none⟩ = false := (hb.frozen hg).trans (blk_frozen HH.out.obj 1)
  have fz2 : w1.frozen? ⟨g, 2, none⟩ = false := (hb.frozen (p := ⟨g, 2, none⟩) hg).trans (blk_frozen HH.out.obj 2)
  have HBl := Aside0.mk hb
  clear hb
  go_wp2_with fail
  go_ret
  exact Put_fail HH.out HE.out HBl.out HB.out _
set_option maxHeartbeats 8000000 in
set_option maxRecDepth 100000 in
theorem Put_ok1 (B g : Nat) (w w0 : World) (v : Value) (ps : List S34) (lost due : Int) (c : Bool) (s : ByteArray) (h : WireAt B g w true v ps lost) (hB : Below B w0 w) (hn : ps.length ≤ 1000) (hd : 0 ≤ due) (hc : cntP ps 1 c < 64) :
    Calls Try.prog 7 #[.pointer (some ⟨g, 0, none⟩), .int .i64 1, .int .i64 due, .bool c, .string s] w (PutQ B g w w0 v ps 1 due c s) := by
  have hE : errP ps 1 due c = 0 := by unfold errP; rw [if_neg (by omega), if_neg (by omega)]
  obtain ⟨A, cap, rfl⟩ := own_form h.own
  have HCt := Aside0.mk (count_calls B g w true _ ps lost 1 c h (by omega))
  have cz0 : w.cell? ⟨g, 0, none⟩ = some (.bool true) := (blk_cell h.obj 0).trans rfl
  have cz1 : w.cell? ⟨g, 1, none⟩ = some (.slice A ps.length cap) := (blk_cell h.obj 1).trans rfl
  have cz2 : w.cell? ⟨g, 2, none⟩ = some (.int .i64 lost) := (blk_cell h.obj 2).trans rfl
  have d1 : decide (due < 0) = false := decide_eq_false (by omega)
  have d2 : decide ((64 : Int) ≤ (cntP ps 1 c : Nat)) = false := decide_eq_false (by omega)
  have d3 : decide (64 ≤ cntP ps 1 c) = false := decide_eq_false (by omega)
  have HH := Aside0.mk h
  have HB := Aside0.mk hB
  have HE := Aside0.mk hE
  have HN := Aside0.mk hn
  have HG := Aside0.mk h.ge
  clear h hB hE hd hc hn
  go_enter Try.func7, Try.ntmps7
  go_wp2_with fail
  go_at_call 11
  refine (HCt.out).mono ?_
  rintro e w1 ⟨rfl, hb⟩
  have hg := World.block_lt_of_cell? w _ cz1
  replace cz0 := (hb.cell (World.block_lt_of_cell? w _ cz0)).trans cz0
  replace cz1 := (hb.cell hg).trans cz1
  replace cz2 := (hb.cell (p := ⟨g, 2, none⟩) hg).trans cz2
  have fz1 : w1.frozen? ⟨g, 1, none⟩ = false := (hb.frozen hg).trans (blk_frozen HH.out.obj 1)
  have fz2 : w1.frozen? ⟨g, 2, none⟩ = false := (hb.frozen (p := ⟨g, 2, none⟩) hg).trans (blk_frozen HH.out.obj 2)
  have HBl := Aside0.mk hb
  clear hb
  go_wp2_with (at_builtin; refine print_append_cells (w0 := w0) B rfl _ _ 31 34 (.agg #[.int .i64 0, .int .i64 0, .bool false, .string ⟨#[]⟩, .bool false, .bool false]) 6 48 rfl Try.underlying31 (by rfl) rfl (by decide) (by decide) (.slice A ps.length cap) ps.length (pcs ps) (pc ⟨1, due, c, s, false, false⟩) rfl rfl rfl (pc_one _) ?_ ?_ ?_ ?_ ?_)
  · exact own_bel HH.out.own HBl.out
  · exact HB.out.trans (HBl.out.mono (by have := HG.out; omega))
  · have := HG.out; have := HBl.out.size; omega
  · have := HN.out; omega
  · intro v1 w2 hown hB2 hgr hat
    have hgv : v1 = v1 := rfl
    have cy1 : w2.cell? ⟨g, 1, none⟩ = some (.slice A ps.length cap) := (hgr.cell_far ⟨g, 1, none⟩ (by have := HBl.out.size; exact Nat.lt_of_lt_of_le hg this) (fun e => HH.out.ne e.symm)).trans cz1
    have fy1 : w2.frozen? ⟨g, 1, none⟩ = false := (hgr.frozen_far ⟨g, 1, none⟩ (by have := HBl.out.size; exact Nat.lt_of_lt_of_le hg this) (fun e => HH.out.ne e.symm)).trans fz1
    have HF := Aside0.mk (Put_fin HH.out HE.out HBl.out hown hB2 hgr hat)
    obtain ⟨A1, cap1, rfl⟩ := own_form hown
    clear hown hB2 hgr hat hgv cz1 fz1
    go_wp2_with fail
    go_ret
    exact HF.out
set_option maxHeartbeats 8000000 in
set_option maxRecDepth 100000 in
theorem Put_full1 (B g : Nat) (w w0 : World) (v : Value) (ps : List S34) (lost due : Int) (c : Bool) (s : ByteArray) (h : WireAt B g w true v ps lost) (hB : Below B w0 w) (hn : ps.length ≤ 1000) (hd : 0 ≤ due) (hc : 64 ≤ cntP ps 1 c) :
    Calls Try.prog 7 #[.pointer (some ⟨g, 0, none⟩), .int .i64 1, .int .i64 due, .bool c, .string s] w (PutQ B g w w0 v ps 1 due c s) := by
  have hE : errP ps 1 due c = 6 := by unfold errP; rw [if_neg (by omega), if_pos (by omega)]
  obtain ⟨A, cap, rfl⟩ := own_form h.own
  have HCt := Aside0.mk (count_calls B g w true _ ps lost 1 c h (by omega))
  have cz0 : w.cell? ⟨g, 0, none⟩ = some (.bool true) := (blk_cell h.obj 0).trans rfl
  have cz1 : w.cell? ⟨g, 1, none⟩ = some (.slice A ps.length cap) := (blk_cell h.obj 1).trans rfl
  have cz2 : w.cell? ⟨g, 2, none⟩ = some (.int .i64 lost) := (blk_cell h.obj 2).trans rfl
  have d1 : decide (due < 0) = false := decide_eq_false (by omega)
  have d2 : decide ((64 : Int) ≤ (cntP ps 1 c : Nat)) = true := decide_eq_true (by omega)
  have d3 : decide (64 ≤ cntP ps 1 c) = true := decide_eq_true (by omega)
  have HH := Aside0.mk h
  have HB := Aside0.mk hB
  have HE := Aside0.mk hE
  have HN := Aside0.mk hn
  have HG := Aside0.mk h.ge
  clear h hB hE hd hc hn
  go_enter Try.func7, Try.ntmps7
  go_wp2_with fail
  go_at_call 11
  refine (HCt.out).mono ?_
  rintro e w1 ⟨rfl, hb⟩
  have hg := World.block_lt_of_cell? w _ cz1
  replace cz0 := (hb.cell (World.block_lt_of_cell? w _ cz0)).trans cz0
  replace cz1 := (hb.cell hg).trans cz1
  replace cz2 := (hb.cell (p := ⟨g, 2, none⟩) hg).trans cz2
  have fz1 : w1.frozen? ⟨g, 1, none⟩ = false := (hb.frozen hg).trans (blk_frozen HH.out.obj 1)
  have fz2 : w1.frozen? ⟨g, 2, none⟩ = false := (hb.frozen (p := ⟨g, 2, none⟩) hg).trans (blk_frozen HH.out.obj 2)
  have HBl := Aside0.mk hb
  clear hb
  go_wp2_with fail
  go_ret
  exact Put_fail HH.out HE.out HBl.out HB.out _
def outs (ps : List S34) (now : Int) : List S34 := ps.filter fun p => decide (p.f1 ≤ now)
def rests (ps : List S34) (now : Int) : List S34 := ps.filter fun p => !decide (p.f1 ≤ now)
theorem outs_take (ps : List S34) (now : Int) (k : Nat) (hk : k < ps.length) : outs (ps.take (k + 1)) now = if (ps[k]'hk).f1 ≤ now then outs (ps.take k) now ++ [ps[k]'hk] else outs (ps.take k) now := by
  unfold outs
  rw [List.take_succ_eq_append_getElem hk, List.filter_append, List.filter_cons, List.filter_nil]
  by_cases h : (ps[k]'hk).f1 ≤ now
  · rw [if_pos h, if_pos (decide_eq_true h)]
  · rw [if_neg h, if_neg (by simpa using h), List.append_nil]
theorem rests_take (ps : List S34) (now : Int) (k : Nat) (hk : k < ps.length) : rests (ps.take (k + 1)) now = if (ps[k]'hk).f1 ≤ now then rests (ps.take k) now else rests (ps.take k) now ++ [ps[k]'hk] := by
  unfold rests
  rw [List.take_succ_eq_append_getElem hk, List.filter_append, List.filter_cons, List.filter_nil]
  by_cases h : (ps[k]'hk).f1 ≤ now
  · rw [if_pos h, if_neg (by simpa using h), List.append_nil]
  · rw [if_neg h, if_pos (by simpa using h)]
theorem outs_len (ps : List S34) (now : Int) : (outs ps now).length ≤ ps.length := List.length_filter_le _ _
theorem rests_len (ps : List S34) (now : Int) : (rests ps now).length ≤ ps.length := List.length_filter_le _ _
/-- Two rows of one's own, apart. -/
structure Two (B : Nat) (w : World) (v1 v2 : Value) (xs ys : List S34) : Prop where
  o1 : w.ownsRow B 34 6 v1 xs.length (pcs xs)
  o2 : w.ownsRow B 34 6 v2 ys.length (pcs ys)
  ne : v1.ownBlock = none ∨ v1.ownBlock ≠ v2.ownBlock
  z1 : xs = [] → v1 = .slice none 0 0
  z2 : ys = [] → v2 = .slice none 0 0
theorem Two.swap {B : Nat} {w : World} {v1 v2 : Value} {xs ys : List S34} (h : Two B w v1 v2 xs ys) : Two B w v2 v1 ys xs := by
  refine ⟨h.o2, h.o1, ?_, h.z2, h.z1⟩
  cases h2 : v2.ownBlock with
  | none => exact .inl rfl
  | some k =>
    refine .inr fun e => ?_
    rcases h.ne with h1 | h1
    · rw [h1] at e; cases e
    · exact h1 (by rw [← e, h2])
theorem Two.ne2 {B : Nat} {w : World} {v1 v2 : Value} {xs ys : List S34} (h : Two B w v1 v2 xs ys) : v2.ownBlock = none ∨ v2.ownBlock ≠ v1.ownBlock := h.swap.ne
theorem Two.app {B : Nat} {w W w1 : World} {v1 v2 v : Value} {xs ys : List S34} {x : S34} (h : Two B w v1 v2 xs ys) (hW : Below w.heap.size w W) (hown : w1.ownsRow B 34 6 v (xs.length + 1) (pcs xs ++ pc x)) (hg : W.grownBy w1 v1.ownBlock) (hat : v.ownBlock = v1.ownBlock ∨ ∃ b, v.ownBlock = some b ∧ W.heap.size ≤ b) :
    Two B w1 v v2 (xs ++ [x]) ys := by
  refine ⟨by rw [pcs_snoc, List.length_append]; exact hown, (own_bel h.o2 hW).kept hg h.ne2, ?_, fun e => absurd e (by simp), h.z2⟩
  rcases hat with e | ⟨b, e, hb⟩
  · rw [e]; exact h.ne
  · refine .inr fun e2 => ?_
    rw [e] at e2
    have := (h.o2.lt b e2.symm).2
    have := hW.size
    omega
/-- What Pull leaves. -/
def PullQ (B g : Nat) (w w0 : World) (up : Bool) (ps : List S34) (lost now : Int) (e : Ending) (w' : World) : Prop :=
  ∃ vo vr, e = .returned vo ∧ Two w.heap.size w' vo vr (outs ps now) (rests ps now) ∧ WireAt B g w' up vr (rests ps now) lost ∧ KeptW g (.slice none 0 0) w w' ∧ Below B w0 w'
theorem Pull_fin {B g : Nat} {w w0 w1 : World} {v vo vr : Value} {up : Bool} {ps : List S34} {lost now : Int} (h : WireAt B g w up v ps lost) (hB : Below B w0 w) (hb : Below w.heap.size w w1) (h2 : Two w.heap.size w1 vo vr (outs ps now) (rests ps now)) :
    PullQ B g w w0 up ps lost now (.returned vo) (w1.setCell ⟨g, 1, none⟩ vr) := by
  have hlt := blk_lt h.obj
  have hob : w1.heap[g]? = some (.cells #[.bool up, v, .int .i64 lost] 38 (0, 0)) := (hb.block g hlt).trans h.obj
  have n1 : some g ≠ vo.ownBlock := fun e => by have := (h2.o1.lt g e.symm).1; omega
  have n2 : some g ≠ vr.ownBlock := fun e => by have := (h2.o2.lt g e.symm).1; omega
  have hge := h.ge
  refine ⟨vo, vr, rfl, ⟨own_setCell h2.o1 n1 _, own_setCell h2.o2 n2 _, h2.ne, h2.z1, h2.z2⟩, ⟨blk_set hob 1 vr, hge, own_setCell (own_weaken h2.o2 (by omega)) n2 _, fun e => n2 e.symm, h2.z2⟩, ⟨hb.os, hb.tape, hb.output, by simpa [World.setCell] using hb.size, fun k hk hkg _ => by
    rw [Below.heap_setCell w1 ⟨g, 1, none⟩ vr k hkg, hb.block k hk]⟩, (hB.trans (hb.mono (by omega))).setCell hge _⟩
set_option maxHeartbeats 8000000 in
set_option maxRecDepth 100000 in
theorem Pull_calls (B g : Nat) (w w0 : World) (up : Bool) (v : Value) (ps : List S34) (lost now : Int) (h : WireAt B g w up v ps lost) (hB : Below B w0 w) (hn : ps.length ≤ 1000000) :
    Calls Try.prog 8 #[.pointer (some ⟨g, 0, none⟩), .int .i64 now] w (PullQ B g w w0 up ps lost now) := by
  obtain ⟨A, cap, rfl⟩ := own_form h.own
  have cz1 : w.cell? ⟨g, 1, none⟩ = some (.slice A ps.length cap) := (blk_cell h.obj 1).trans rfl
  have HC := Aside0.mk cz1
  have HF := Aside0.mk (blk_frozen h.obj 1)
  have hgl := blk_lt h.obj
  have HH := Aside0.mk h
  have HB := Aside0.mk hB
  have HN := Aside0.mk hn
  clear h hB hn
  go_enter Try.func8, Try.ntmps8
  go_wp2_with fail
  go_loopw [5, 6, 16] (fun v5 v6 v16 wr => ∃ k : Nat, k ≤ ps.length ∧ Aside0 (Two w.heap.size wr v5 v6 (outs (ps.take k) now) (rests (ps.take k) now)) ∧ v16 = .int .i64 k ∧ Aside0 (Below w.heap.size w wr)) (fun _ _ v16 _ => (match v16 with | .int _ n => (ps.length - n).toNat | _ => 0))
  case atStart => exact ⟨0, Nat.zero_le _, ⟨⟨World.ownsRow_nil _ _ _ _, World.ownsRow_nil _ _ _ _, .inl rfl, fun _ => rfl, fun _ => rfl⟩⟩, rfl, ⟨Below.refl _ _⟩⟩
  case round =>
    clear cz1
    obtain ⟨k, hk, HT, rfl, HL⟩ := hrel
    by_cases hkn : k = ps.length
    · subst hkn
      have d1 : decide ((ps.length : Int) < (ps.length : Int)) = false := decide_eq_false (by omega)
      rw [List.take_length] at HT
      obtain ⟨A1, c1, rfl⟩ := own_form HT.out.o1
      obtain ⟨A2, c2, rfl⟩ := own_form HT.out.o2
      have HFI := Aside0.mk (Pull_fin HH.out HB.out HL.out HT.out)
      have fz1 := (HL.out.frozen (p := ⟨g, 1, none⟩) hgl).trans HF.out
      have cz1 := (HL.out.cell (p := ⟨g, 1, none⟩) hgl).trans HC.out
      go_wp2_with fail
      go_ret
      exact HFI.out
    · have hlt : k < ps.length := by omega
      obtain ⟨A1, c1, rfl⟩ := own_form HT.out.o1
      obtain ⟨A2, c2, rfl⟩ := own_form HT.out.o2
      obtain ⟨g2, cap2, e, hb2, hg2, hx⟩ := own_at HH.out.own k hlt
      injection e with e1 e2 e3
      subst e1 e3
      have HO := Aside0.mk (outs_take ps now k hlt)
      have HR := Aside0.mk (rests_take ps now k hlt)
      have hle := outs_len (ps.take k) now
      have hre := rests_len (ps.take k) now
      rw [List.length_take] at hle hre
      have hx0 : wr.cell? ⟨g2, k * 6, none⟩ = some (.int .i64 (ps[k]'hlt).f0) := (HL.out.cell (by exact hg2)).trans ((by rw [Nat.mul_comm]; exact hx 0 _ rfl))
      have hx1 : wr.cell? ⟨g2, k * 6 + 1, none⟩ = some (.int .i64 (ps[k]'hlt).f1) := (HL.out.cell (by exact hg2)).trans ((by rw [Nat.mul_comm]; exact hx 1 _ rfl))
      have hx2 : wr.cell? ⟨g2, k * 6 + 2, none⟩ = some (.bool (ps[k]'hlt).f2) := (HL.out.cell (by exact hg2)).trans ((by rw [Nat.mul_comm]; exact hx 2 _ rfl))
      have hx3 : wr.cell? ⟨g2, k * 6 + 3, none⟩ = some (.string (ps[k]'hlt).f3) := (HL.out.cell (by exact hg2)).trans ((by rw [Nat.mul_comm]; exact hx 3 _ rfl))
      have hx4 : wr.cell? ⟨g2, k * 6 + 4, none⟩ = some (.bool (ps[k]'hlt).f4) := (HL.out.cell (by exact hg2)).trans ((by rw [Nat.mul_comm]; exact hx 4 _ rfl))
      have hx5 : wr.cell? ⟨g2, k * 6 + 5, none⟩ = some (.bool (ps[k]'hlt).f5) := (HL.out.cell (by exact hg2)).trans ((by rw [Nat.mul_comm]; exact hx 5 _ rfl))
      have d1 : decide ((k : Int) < (ps.length : Int)) = true := decide_eq_true (by omega)
      have z0 : (0 : Int) ≤ (k : Int) := by omega
      have z1 : (k : Int) < (ps.length : Int) := by omega
      have hw : wrap64 ((k : Int) + 1) = ((k + 1 : Nat) : Int) := by have := HN.out; unfold wrap64; omega
      have hM : ((ps.length : Int) - ((k + 1 : Nat) : Int)).toNat < ((ps.length : Int) - (k : Int)).toNat := by omega
      clear hx
      by_cases hd : (ps[k]'hlt).f1 ≤ now
      · have d2 : decide ((ps[k]'hlt).f1 ≤ now) = true := decide_eq_true hd
        rw [if_pos hd] at HO HR
        go_wp2_with (at_builtin; go_loud (refine print_append_cells (w0 := w) w.heap.size rfl _ _ 31 34 (.agg #[.int .i64 0, .int .i64 0, .bool false, .string ⟨#[]⟩, .bool false, .bool false]) 6 48 rfl Try.underlying31 (by rfl) rfl (by decide) (by decide) (.slice A1 (outs (ps.take k) now).length c1) (outs (ps.take k) now).length (pcs (outs (ps.take k) now)) (pc (ps[k]'hlt)) rfl (by simp [Act.eval]) rfl (pc_one _) ?_ ?_ ?_ ?_ ?_))
        · exact HT.out.o1.alloc _
        · exact below_alloc HL.out _
        · have := HL.out.size; simp; omega
        · have := HN.out; omega
        · intro v1 w2 hown hB2 hgr hat
          have HT2 := Aside0.mk (HT.out.app (below_alloc (Below.refl _ _) _) hown hgr (by simpa using hat))
          have HL2 := Aside0.mk hB2
          clear hown hB2 hgr hat
          go_wp2_with fail
          rw [hw]
          exact ⟨⟨k + 1, hlt, ⟨by rw [HO.out, HR.out]; exact HT2.out⟩, rfl, HL2⟩, hM⟩
      · have d2 : decide ((ps[k]'hlt).f1 ≤ now) = false := decide_eq_false hd
        rw [if_neg hd] at HO HR
        go_wp2_with (at_builtin; go_loud (refine print_append_cells (w0 := w) w.heap.size rfl _ _ 31 34 (.agg #[.int .i64 0, .int .i64 0, .bool false, .string ⟨#[]⟩, .bool false, .bool false]) 6 48 rfl Try.underlying31 (by rfl) rfl (by decide) (by decide) (.slice A2 (rests (ps.take k) now).length c2) (rests (ps.take k) now).length (pcs (rests (ps.take k) now)) (pc (ps[k]'hlt)) rfl (by simp [Act.eval]) rfl (pc_one _) ?_ ?_ ?_ ?_ ?_))
        · exact HT.out.o2.alloc _
        · exact below_alloc HL.out _
        · have := HL.out.size; simp; omega
        · have := HN.out; omega
        · intro v1 w2 hown hB2 hgr hat
          have HT2 := Aside0.mk (HT.out.swap.app (below_alloc (Below.refl _ _) _) hown hgr (by simpa using hat)).swap
          have HL2 := Aside0.mk hB2
          clear hown hB2 hgr hat
          go_wp2_with fail
          rw [hw]
          exact ⟨⟨k + 1, hlt, ⟨by rw [HO.out, HR.out]; exact HT2.out⟩, rfl, HL2⟩, hM⟩
def LenQ (w : World) (n : Nat) (e : Ending) (w' : World) : Prop := ∃ A c, e = .returned (.slice A n c) ∧ Below w.heap.size w w'
set_option maxHeartbeats 8000000 in
set_option maxRecDepth 100000 in
theorem Clone_calls (B : Nat) (w : World) (v : Value) (ps : List S34) (h : w.ownsRow B 34 6 v ps.length (pcs ps)) (hz : ps = [] → v = .slice none 0 0) (hn : ps.length ≤ 1000000) :
    Calls Try.prog 12 #[v] w (LenQ w ps.length) := by
  by_cases hp : ps = []
  · obtain rfl := hz hp
    subst hp
    have he : ∀ w : World, (binOp .eql 31 (.slice none 0 0) (.slice none 0 0)).run Try.prog w = .ok (.bool true) w := fun _ => rfl
    go_enter Try.func12, Try.ntmps12
    go_wp2_with fail
    go_ret
    exact ⟨none, 0, rfl, Below.refl _ _⟩
  · have h0 : 0 < ps.length := List.length_pos_iff.mpr hp
    obtain ⟨g, cap, rfl, hb, hg⟩ := h.form h0
    have HO := Aside0.mk h
    clear h hz hp
    have he : ∀ w : World, (binOp .eql 31 (.slice (some ⟨g, 0, none⟩) ps.length cap) (.slice none 0 0)).run Try.prog w = .ok (.bool false) w := fun _ => rfl
    go_enter Try.func12, Try.ntmps12
    go_wp2_with (at_builtin; go_loud (refine wpList_append_lies _ rfl _ _ 31 rfl w.heap.size 34 _ (.agg #[.int .i64 0, .int .i64 0, .bool false, .string ⟨#[]⟩, .bool false, .bool false]) 6 48 Try.underlying31 rfl rfl rfl rfl rfl (by decide) (.slice (some ⟨w.heap.size, 0, none⟩) 0 0) 0 [] rfl ?_ ⟨g, 0, none⟩ ps.length cap (pcs ps) rfl (pcs_len ps) ?_ ?_ h0 ?_ ?_ ?_ _ rfl ?_))
    · exact World.ownsRow_made w #[] 0 (Nat.le_refl _) (by decide) rfl
    · exact (HO.out.alloc _).cells rfl
    · intro u hu
      unfold pcs at hu
      obtain ⟨x, _, hx⟩ := List.mem_flatMap.1 hu
      exact pc_one x u hx
    · unfold maxLen; omega
    · omega
    · simp
    · intro g2 c2 w2 hown hgr _ _
      have HF := Aside0.mk ((below_alloc (Below.refl w.heap.size w) (.cells #[] 34)).grown hgr (by simp) (fun k hk => by
        have : k = w.heap.size := by simpa [Value.ownBlock] using hk.symm
        omega))
      clear hown hgr
      go_wp2_with fail
      go_ret
      exact ⟨some ⟨g2, 0, none⟩, c2, by simp, HF.out⟩
set_option maxHeartbeats 8000000 in
set_option maxRecDepth 100000 in
theorem Way_calls (B g : Nat) (w : World) (up : Bool) (v : Value) (ps : List S34) (lost : Int) (h : WireAt B g w up v ps lost) (hn : ps.length ≤ 1000000) :
    Calls Try.prog 9 #[.pointer (some ⟨g, 0, none⟩)] w (LenQ w ps.length) := by
  obtain ⟨A, cap, rfl⟩ := own_form h.own
  have cz1 : w.cell? ⟨g, 1, none⟩ = some (.slice A ps.length cap) := (blk_cell h.obj 1).trans rfl
  have HC := Aside0.mk (Clone_calls B w _ ps h.own h.nil hn)
  clear h hn
  go_enter Try.func9, Try.ntmps9
  go_wp2_with fail
  go_at_call 12
  refine HC.out.mono ?_
  rintro e w1 ⟨A1, c1, rfl, hb⟩
  have HB := Aside0.mk hb
  clear hb
  go_wp2_with fail
  go_ret
  exact ⟨A1, c1, rfl, HB.out⟩
set_option maxHeartbeats 8000000 in
set_option maxRecDepth 100000 in
theorem New_calls (B : Nat) (w w0 : World) (hB : B ≤ w.heap.size) (hw : Below B w0 w) :
    Calls Try.prog 6 #[] w fun e w' => e = .returned (.pointer (some ⟨w.heap.size, 0, none⟩)) ∧ WireAt B w.heap.size w' true (.slice none 0 0) [] 0 ∧ Below w.heap.size w w' ∧ Below B w0 w' := by
  have HB := Aside0.mk hB
  have HW := Aside0.mk hw
  clear hB hw
  go_enter Try.func6, Try.ntmps6
  go_wp2_with fail
  go_ret
  refine ⟨rfl, ⟨by simpa using heap_alloc_new w _, HB.out, World.ownsRow_nil _ _ _ _, by simp [Value.ownBlock], fun _ => rfl⟩, below_alloc (Below.refl _ _) _, HW.out.alloc HB.out _⟩
theorem Up_calls (B g : Nat) (w : World) (up : Bool) (v : Value) (ps : List S34) (lost : Int) (h : WireAt B g w up v ps lost) :
    Calls Try.prog 10 #[.pointer (some ⟨g, 0, none⟩)] w fun e w' => e = .returned (.bool up) ∧ w = w' := by
  have cz0 : w.cell? ⟨g, 0, none⟩ = some (.bool up) := (blk_cell h.obj 0).trans rfl
  clear h
  go_enter Try.func10, Try.ntmps10
  go_wp2_with fail
  go_ret
  exact ⟨rfl, rfl⟩
theorem Put_any (B g : Nat) (w w0 : World) (v : Value) (ps : List S34) (lost q due : Int) (c : Bool) (s : ByteArray) (h : WireAt B g w true v ps lost) (hB : Below B w0 w) (hn : ps.length ≤ 1000) :
    Calls Try.prog 7 #[.pointer (some ⟨g, 0, none⟩), .int .i64 q, .int .i64 due, .bool c, .string s] w (PutQ B g w w0 v ps q due c s) := by
  by_cases hb : (q ≠ 0 ∧ q ≠ 1) ∨ due < 0
  · exact Put_bad B g w w0 v ps lost q due c s h hB hb
  · have hd : 0 ≤ due := by omega
    have hq : q = 0 ∨ q = 1 := by omega
    by_cases hc : cntP ps q c < 64
    · rcases hq with rfl | rfl
      · exact Put_ok0 B g w w0 v ps lost due c s h hB hn hd hc
      · exact Put_ok1 B g w w0 v ps lost due c s h hB hn hd hc
    · rcases hq with rfl | rfl
      · exact Put_full0 B g w w0 v ps lost due c s h hB hn hd (by omega)
      · exact Put_full1 B g w w0 v ps lost due c s h hB hn hd (by omega)
def alivePs : List S34 := [⟨1, 5, false, ⟨#[97]⟩, false, false⟩]
set_option maxHeartbeats 8000000 in
set_option maxRecDepth 100000 in
theorem alive_good (w : World) : Calls Try.prog 4 #[] w fun e w' => e = .returned (.bool true) ∧ Below w.heap.size w w' := by
  go_enter Try.func4, Try.ntmps4
  go_wp2_with fail
  go_at_call 6
  refine (New_calls w.heap.size w w (Nat.le_refl _) (Below.refl _ _)).mono ?_
  rintro e w1 ⟨rfl, h1, hb1, _⟩
  have H1 := Aside0.mk h1
  have HB1 := Aside0.mk hb1
  clear h1 hb1
  go_wp2_with fail
  go_at_call 7
  refine (Put_any w.heap.size w.heap.size w1 w _ [] 0 1 5 false ⟨#[97]⟩ H1.out HB1.out (by simp)).mono ?_
  rintro e w2 ⟨v2, lost2, rfl, h2, hk2, _, hb2⟩
  have e0 : errP [] 1 5 false = 0 := by decide
  rw [if_pos e0] at h2
  rw [e0]
  have H2 := Aside0.mk h2
  have HB2 := Aside0.mk hb2
  clear h2 hb2 hk2 e0
  go_wp2_with fail
  go_at_call 8
  refine (Pull_calls w.heap.size w.heap.size w2 w true v2 _ lost2 4 H2.out HB2.out (by simp)).mono ?_
  rintro e w3 ⟨vo, vr, rfl, ht, h3, hk3, hb3⟩
  obtain ⟨A, c, rfl⟩ := own_form ht.o1
  have e0 : (outs ([] ++ [⟨1, 5, false, ⟨#[97]⟩, false, false⟩]) 4).length = 0 := rfl
  rw [e0]
  have e1 : rests ([] ++ [⟨1, 5, false, ⟨#[97]⟩, false, false⟩]) 4 = alivePs := rfl
  rw [e1] at h3
  have H3 := Aside0.mk h3
  have HB3 := Aside0.mk hb3
  clear h3 hb3 ht e0 e1 hk3
  go_wp2_with fail
  go_at_call 8
  refine (Pull_calls w.heap.size w.heap.size w3 w true vr _ lost2 5 H3.out HB3.out (by decide)).mono ?_
  rintro e w4 ⟨vo4, vr4, rfl, ht, h4, hk4, hb4⟩
  obtain ⟨A4, c4, rfl⟩ := own_form ht.o1
  have e0 : (outs alivePs 5).length = 1 := rfl
  rw [e0]
  have H4 := Aside0.mk h4
  have HB4 := Aside0.mk hb4
  clear h4 hb4 ht e0 hk4
  go_wp2_with fail
  go_at_call 10
  refine (Up_calls w.heap.size w.heap.size w4 true vr4 _ lost2 H4.out).mono ?_
  rintro e w5 ⟨rfl, rfl⟩
  go_wp2_with fail
  go_ret
  exact ⟨rfl, HB4.out⟩
theorem great_some : ∀ (n : Nat) (l0 l : List S28) (x i : Int), 0 ≤ i → (l.length : Int) - i ≤ n → l.length ≤ 9223372036854775807 → ∃ b, kissgatelaw22_great.l0 (n + 1) l0 x l (l.length : Int) i = some b
  | n, l0, l, x, i, hi, hn, hl => by
    rw [kissgatelaw22_great.l0]
    by_cases c1 : i < (l.length : Int)
    · rw [if_pos c1, if_pos hi, if_pos c1]
      have hw : wrap64 (i + 1) = i + 1 := by unfold wrap64; omega
      cases n with
      | zero => omega
      | succ n =>
        obtain ⟨b, hb⟩ := great_some n l0 l (wrap64 (x + (((rd_T28 l i).f4).size : Int))) (i + 1) (by omega) (by omega) hl
        split
        · exact ⟨_, rfl⟩
        · split
          · split
            · exact ⟨_, rfl⟩
            · rw [hw]; exact ⟨b, hb⟩
          · rw [hw]; exact ⟨b, hb⟩
    · rw [if_neg c1]; exact ⟨_, rfl⟩
theorem great_any (A0 : Option Addr) (c0 : Nat) (l0 : List S28) (w : World) (hr0 : Kd.C k28 w A0 l0.length l0) (hc0 : l0.length ≤ c0) :
    ∃ r : Bool, Calls Try.prog 5 #[.slice A0 l0.length c0] w fun e w' => e = .returned (.bool r) ∧ Below w.heap.size w w' := by
  obtain ⟨b, hb⟩ := great_some l0.length l0 l0 0 0 (by omega) (by omega) hr0.2.1
  exact ⟨b, kissgatelaw22_great.calls (l0.length + 1) A0 c0 l0 b w hr0 hc0 hb⟩
/-! ### Plain: what was put, what comes -/
def pieceOf (c : S28) : S34 := ⟨c.f1, c.f2, c.f3, c.f4, false, false⟩
def due_ (cs : List S28) (t : Int) : List S28 := cs.filter fun c => c.f2 == t
def rem_ (cs : List S28) (t : Int) : List S28 := cs.filter fun c => decide (t ≤ c.f2)
theorem rem_0 (cs : List S28) (h : ∀ c ∈ cs, 0 ≤ c.f2) : rem_ cs 0 = cs := List.filter_eq_self.2 fun c hc => decide_eq_true (h c hc)
theorem outs_rem (cs : List S28) (t : Int) : outs ((rem_ cs t).map pieceOf) t = (due_ cs t).map pieceOf := by
  unfold outs rem_ due_
  rw [List.filter_map, List.filter_filter]
  congr 1
  refine List.filter_congr fun c _ => ?_
  show (decide (c.f2 ≤ t) && decide (t ≤ c.f2)) = (c.f2 == t)
  rw [Bool.eq_iff_iff, Bool.and_eq_true, decide_eq_true_iff, decide_eq_true_iff, beq_iff_eq]; omega
theorem rests_rem (cs : List S28) (t : Int) : rests ((rem_ cs t).map pieceOf) t = (rem_ cs (t + 1)).map pieceOf := by
  unfold rests rem_
  rw [List.filter_map, List.filter_filter]
  congr 1
  refine List.filter_congr fun c _ => ?_
  show (!decide (c.f2 ≤ t) && decide (t ≤ c.f2)) = decide (t + 1 ≤ c.f2)
  rw [Bool.eq_iff_iff, Bool.and_eq_true, Bool.not_eq_true', decide_eq_false_iff_not, decide_eq_true_iff, decide_eq_true_iff]; omega
theorem due_rem (cs : List S28) (t : Int) : (due_ cs t).length + (rem_ cs (t + 1)).length = (rem_ cs t).length := by
  induction cs with
  | nil => rfl
  | cons c cs ih =>
    unfold due_ rem_ at *
    simp only [List.filter_cons]
    by_cases h1 : c.f2 = t
    · rw [if_pos (by simpa using h1), if_neg (by simp; omega), if_pos (by simp; omega)]
      simp only [List.length_cons]; omega
    · rw [if_neg (by simpa using h1)]
      by_cases h2 : t ≤ c.f2
      · rw [if_pos (by simp; omega), if_pos (by simp; omega)]
        simp only [List.length_cons]; omega
      · rw [if_neg (by simp; omega), if_neg (by simp; omega)]
        exact ih
theorem rem_le (cs : List S28) (t : Int) : (rem_ cs t).length ≤ cs.length := List.length_filter_le _ _
theorem due_take (cs : List S28) (t : Int) (k : Nat) (hk : k < cs.length) : due_ (cs.take (k + 1)) t = if (cs[k]'hk).f2 = t then due_ (cs.take k) t ++ [cs[k]'hk] else due_ (cs.take k) t := by
  unfold due_
  rw [List.take_succ_eq_append_getElem hk, List.filter_append, List.filter_cons, List.filter_nil]
  by_cases h : (cs[k]'hk).f2 = t
  · rw [if_pos h, if_pos (by simpa using h)]
  · rw [if_neg h, if_neg (by simpa using h), List.append_nil]
theorem due_f2 (cs : List S28) (t : Int) (i : Nat) (h : i < (due_ cs t).length) : ((due_ cs t)[i]'h).f2 = t := by
  have := List.getElem_mem h
  have := (List.mem_filter.1 this).2
  simpa using this
/-! ### The calls' cells -/
def cc (x : S28) : List Value := [.int .i64 x.f0, .int .i64 x.f1, .int .i64 x.f2, .bool x.f3, .string x.f4, .int .u8 x.f5]
def ccs (ps : List S28) : List Value := ps.flatMap cc
theorem cc_len (x : S28) : (cc x).length = 6 := rfl
theorem cc_one (x : S28) : ∀ u ∈ cc x, u.oneCell' = true := by
  intro u hu
  simp only [cc, List.mem_cons, List.not_mem_nil, or_false] at hu
  rcases hu with rfl | rfl | rfl | rfl | rfl | rfl <;> rfl
theorem ccs_snoc (ps : List S28) (x : S28) : ccs (ps ++ [x]) = ccs ps ++ cc x := by
  unfold ccs; rw [List.flatMap_append]; simp
theorem ccs_get : ∀ (ps : List S28) (k j : Nat) (hk : k < ps.length), j < 6 → (ccs ps)[6 * k + j]? = (cc (ps[k]'hk))[j]?
  | [], k, j, hk, _ => absurd hk (by simp)
  | x :: ps, 0, j, _, hj => by
    unfold ccs; rw [List.flatMap_cons, List.getElem?_append_left (by rw [cc_len]; omega)]; simp
  | x :: ps, k + 1, j, hk, hj => by
    have ih := ccs_get ps k j (by simpa using hk) hj
    unfold ccs at ih ⊢
    rw [List.flatMap_cons, List.getElem?_append_right (by rw [cc_len]; omega), cc_len, show 6 * (k + 1) + j - 6 = 6 * k + j by omega, ih]; simp
theorem cown_at {w : World} {B : Nat} {v : Value} {ps : List S28} (h : w.ownsRow B 28 6 v ps.length (ccs ps)) (k : Nat) (hk : k < ps.length) :
    ∃ g cap, v = .slice (some ⟨g, 0, none⟩) ps.length cap ∧ B ≤ g ∧ g < w.heap.size ∧ ∀ j u, (cc (ps[k]'hk))[j]? = some u → w.cell? ⟨g, 6 * k + j, none⟩ = some u := by
  obtain ⟨g, cap, e, hb, hlt⟩ := h.form (by omega)
  refine ⟨g, cap, e, hb, hlt, fun j u hu => ?_⟩
  have hj : j < 6 := by have := (List.getElem?_eq_some_iff.1 hu).1; rw [cc_len] at this; exact this
  have := h.cells (g := g) (by rw [e]; rfl) (6 * k + j) u (by rw [ccs_get ps k j hk hj]; exact hu)
  rw [add0] at this; exact this
/-- The law's state: the wire, and the list of what was put. -/
structure LawAt (B g : Nat) (w : World) (v v6 : Value) (ps : List S34) (cs : List S28) (lost : Int) : Prop where
  wire : WireAt B g w true v ps lost
  put : w.ownsRow B 28 6 v6 cs.length (ccs cs)
theorem LawAt.ng {B g : Nat} {w : World} {v v6 : Value} {ps : List S34} {cs : List S28} {lost : Int} (h : LawAt B g w v v6 ps cs lost) : some g ≠ v6.ownBlock := own_ne h.put h.wire.obj (by decide)
theorem own_apart {w : World} {B B' e e' s s' : Nat} {v v' : Value} {n n' : Nat} {xs xs' : List Value} (h : w.ownsRow B e s v n xs) (h' : w.ownsRow B' e' s' v' n' xs') (hne : e ≠ e') : v.ownBlock = none ∨ v.ownBlock ≠ v'.ownBlock := by
  rcases h.2 with ⟨rfl, _⟩ | ⟨g, cap, cur, rfl, _, hh, _⟩
  · exact .inl rfl
  · exact .inr (own_ne h' hh (fun e => hne e.symm))
theorem LawAt.nv {B g : Nat} {w : World} {v v6 : Value} {ps : List S34} {cs : List S28} {lost : Int} (h : LawAt B g w v v6 ps cs lost) : v6.ownBlock = none ∨ v6.ownBlock ≠ v.ownBlock := own_apart h.put h.wire.own (by decide)
theorem own_keptW {w w' : World} {g B e s : Nat} {v v' : Value} {n : Nat} {xs : List Value} (h : w.ownsRow B e s v n xs) (hk : KeptW g v' w w') (hg : some g ≠ v.ownBlock) (hv : v.ownBlock = none ∨ v.ownBlock ≠ v'.ownBlock) : w'.ownsRow B e s v n xs := by
  have hk2 : KeepBut w w' g v'.ownBlock := ⟨hk.size, hk.block⟩
  exact hk2.own h (fun e => hg e.symm) hv
/-- Behind a Put. -/
theorem LawAt.putq {B g : Nat} {w w' : World} {v v6 : Value} {ps : List S34} {cs : List S28} {lost : Int} {v' : Value} {ps' : List S34} {lost' : Int} (h : LawAt B g w v v6 ps cs lost) (hw : WireAt B g w' true v' ps' lost') (hk : KeptW g v w w') : LawAt B g w' v' v6 ps' cs lost' :=
  ⟨hw, own_keptW h.put hk h.ng h.nv⟩
theorem wire_grown {B g : Nat} {w w1 : World} {up : Bool} {v : Value} {ps : List S34} {lost : Int} {row : Option Nat} (h : WireAt B g w up v ps lost) (hg : w.grownBy w1 row) (h1 : some g ≠ row) (h2 : v.ownBlock = none ∨ v.ownBlock ≠ row) : WireAt B g w1 up v ps lost :=
  ⟨blk_grown h.obj hg h1, h.ge, h.own.kept hg h2, h.ne, h.nil⟩
/-- Behind an append to the list of what was put. -/
theorem LawAt.app {B g : Nat} {w W w1 : World} {v v6 u : Value} {ps : List S34} {cs : List S28} {lost : Int} {x : S28} (h : LawAt B g w v v6 ps cs lost) (hW : Below w.heap.size w W) (hown : w1.ownsRow B 28 6 u (cs.length + 1) (ccs cs ++ cc x)) (hg : W.grownBy w1 v6.ownBlock) : LawAt B g w1 v u ps (cs ++ [x]) lost :=
  ⟨wire_grown (wire_below h.wire hW) hg h.ng (own_apart (own_bel h.wire.own hW) (own_bel h.put hW) (by decide)), by rw [ccs_snoc, List.length_append]; exact hown⟩
theorem LawAt.below {B g : Nat} {w W : World} {v v6 : Value} {ps : List S34} {cs : List S28} {lost : Int} (h : LawAt B g w v v6 ps cs lost) (hW : Below w.heap.size w W) : LawAt B g W v v6 ps cs lost := ⟨wire_below h.wire hW, own_bel h.put hW⟩
/-- The state at tick t: what is due from t on is on its way. -/
structure Ticks (B g : Nat) (w : World) (v v6 : Value) (cs : List S28) (t : Int) (lost : Int) : Prop where
  law : LawAt B g w v v6 ((rem_ cs t).map pieceOf) cs lost
theorem cut_below {w w' : World} {B e s : Nat} {v : Value} {n : Nat} {xs : List Value} (h : w.ownsRow w.heap.size e s v n xs) : v.ownBlock = none := by
  rcases h.2 with ⟨rfl, _⟩ | ⟨g, cap, cur, rfl, hb, hh, _⟩
  · rfl
  · have := blk_lt hh; omega
theorem step_lt (n k : Nat) (h : k < n) : ((n : Int) - ((k + 1 : Nat) : Int)).toNat < ((n : Int) - (k : Int)).toNat := by omega
theorem wrap_k (k : Nat) (h : k < 1000000) : wrap64 ((k : Int) + 1) = ((k + 1 : Nat) : Int) := by unfold wrap64; omega
theorem wrap_n (k : Nat) (h : k < 1000000) : wrap64 (k : Int) = (k : Int) := by unfold wrap64; omega
theorem tick_lt (a : Int) (k : Nat) (h : (k : Int) ≤ a) : (a + 1 - ((k + 1 : Nat) : Int)).toNat < (a + 1 - (k : Int)).toNat := by omega
theorem comes_n (cs : List S28) (t : Nat) (h : cs.length ≤ 100) : wrap64 (((cs.length - (rem_ cs t).length : Nat) : Int) + ((due_ cs t).length : Int)) = ((cs.length - (rem_ cs ((t + 1 : Nat) : Int)).length : Nat) : Int) := by
  have h1 := due_rem cs t
  have h2 := rem_le cs t
  rw [show (((t + 1 : Nat) : Int)) = (t : Int) + 1 by omega]
  unfold wrap64
  omega
theorem eqA34 (d : Nat) (w : World) (x0 y0 : Int) (x1 y1 : Int) (x2 y2 : Bool) (x3 y3 : ByteArray) (x4 y4 : Bool) (x5 y5 : Bool) :
    (Op.equalIn (d + 2) 34 (.agg #[.int .i64 x0, .int .i64 x1, .bool x2, .string x3, .bool x4, .bool x5]) (.agg #[.int .i64 y0, .int .i64 y1, .bool y2, .string y3, .bool y4, .bool y5])).run Try.prog w = .ok (x0 == y0 && (x1 == y1 && (x2 == y2 && (x3.toList == y3.toList && (x4 == y4 && (x5 == y5)))))) w := by
  refine eqA_of Try.underlying34 (by kernel_rfl) ?_
  refine eqf_cons (by rfl) (by go_simp; rfl) (by go_simp; rfl) (by go_simp) ?_
  refine eqf_cons (by rfl) (by go_simp; rfl) (by go_simp; rfl) (by go_simp) ?_
  refine eqf_cons (by rfl) (by go_simp; rfl) (by go_simp; rfl) (by go_simp) ?_
  refine eqf_cons (by rfl) (by go_simp; rfl) (by go_simp; rfl) (by go_simp) ?_
  refine eqf_cons (by rfl) (by go_simp; rfl) (by go_simp; rfl) (by go_simp) ?_
  exact eqf_last (by rfl) (by go_simp; rfl) (by go_simp; rfl) (by go_simp)
def lenV (v : Value) : Nat := match v with | .slice _ n _ => n | _ => 0
set_option maxHeartbeats 8000000 in
set_option maxRecDepth 100000 in
theorem kissgatelaw22_WireComes.walk (P : kissgatelaw22_WireComes.Pure) (A0 : Option Addr) (c0 : Nat) (l0 : List S28) (a1 : Int) (w : World) (hr0 : Kd.C k28 w A0 l0.length l0) (hc0 : l0.length ≤ c0) (hw0 : ∀ z ∈ l0, (Lit.int .i64 z.f0).wf = true ∧ (Lit.int .i64 z.f1).wf = true ∧ (Lit.int .i64 z.f2).wf = true ∧ (Lit.int .u8 z.f5).wf = true) (w1 : (Lit.int .i64 a1).wf = true) :
    Calls Try.prog 3 #[.slice A0 l0.length c0, .int .i64 a1] w fun e w' => e = .returned (.bool true) ∧ Below w.heap.size w w' := by
  clear P hw0 w1
  have HR := Aside0.mk hr0
  have HC := Aside0.mk hc0
  clear hr0 hc0
  go_enter Try.func3, Try.ntmps3
  go_wp2_with fail
  go_at_call 4
  refine (alive_good w).mono ?_
  rintro e w1 ⟨rfl, hb⟩
  have HB := Aside0.mk hb
  clear hb
  obtain ⟨rg, hgr⟩ := great_any A0 c0 l0 w1 (Kd.C_below HR.out HB.out) HC.out
  have HGr := Aside0.mk hgr
  clear hgr
  by_cases hG : rg = true ∨ (100 : Int) < (l0.length : Int) ∨ a1 < 0 ∨ 200 < a1
  · have HT : Aside0 (∀ w', Below w.heap.size w w' → (fun (e : Ending) (w' : World) => e = .returned (.bool true) ∧ Below w.heap.size w w') (.returned (.bool true)) w') := ⟨fun w' h => ⟨rfl, h⟩⟩
    by_cases g1 : rg = true
    · subst g1
      clear hG
      go_wp2_with fail
      go_at_call 5
      refine HGr.out.mono ?_
      rintro e w2 ⟨rfl, hb⟩
      have HB2 := Aside0.mk (HB.out.trans (hb.mono HB.out.size))
      clear hb
      go_wp2_with fail
      go_ret
      exact ⟨rfl, HB2.out⟩
    · have g1' : rg = false := by simpa using g1
      subst g1'
      clear g1
      by_cases g2 : (100 : Int) < (l0.length : Int)
      · have g2b : decide ((100 : Int) < (l0.length : Int)) = true := decide_eq_true g2
        have g2c : decide (100 < l0.length) = true := decide_eq_true (by omega)
        clear g2 hG
        go_wp2_with fail
        go_at_call 5
        refine HGr.out.mono ?_
        rintro e w2 ⟨rfl, hb⟩
        have HB2 := Aside0.mk (HB.out.trans (hb.mono HB.out.size))
        clear hb
        go_wp2_with fail
        go_ret
        exact ⟨rfl, HB2.out⟩
      · have g2b : decide ((100 : Int) < (l0.length : Int)) = false := decide_eq_false g2
        have g2c : decide (100 < l0.length) = false := decide_eq_false (by omega)
        by_cases g3 : a1 < 0
        · have g3b : decide (a1 < 0) = true := decide_eq_true g3
          clear g2 hG
          go_wp2_with fail
          go_at_call 5
          refine HGr.out.mono ?_
          rintro e w2 ⟨rfl, hb⟩
          have HB2 := Aside0.mk (HB.out.trans (hb.mono HB.out.size))
          clear hb
          go_wp2_with fail
          go_ret
          exact ⟨rfl, HB2.out⟩
        · have g3b : decide (a1 < 0) = false := decide_eq_false g3
          have g4 : 200 < a1 := by
            rcases hG with h | h | h | h
            · cases h
            · exact absurd h g2
            · exact absurd h g3
            · exact h
          have g4b : decide (200 < a1) = true := decide_eq_true g4
          clear g2 hG g3 g4
          go_wp2_with fail
          go_at_call 5
          refine HGr.out.mono ?_
          rintro e w2 ⟨rfl, hb⟩
          have HB2 := Aside0.mk (HB.out.trans (hb.mono HB.out.size))
          clear hb
          go_wp2_with fail
          go_ret
          exact ⟨rfl, HB2.out⟩
  have g1' : rg = false := by by_cases h : rg = true; exact absurd (.inl h) hG; simpa using h
  subst g1'
  replace hG : ¬ ((100 : Int) < (l0.length : Int) ∨ a1 < 0 ∨ 200 < a1) := fun h => hG (.inr h)
  have hG1 : ¬ (100 : Int) < (l0.length : Int) := fun h => hG (.inl h)
  have hG2 : ¬ a1 < 0 := fun h => hG (.inr (.inl h))
  have hG3 : ¬ 200 < a1 := fun h => hG (.inr (.inr h))
  clear hG
  have HN := Aside0.mk (show l0.length ≤ 100 by omega)
  have HA := Aside0.mk (show 0 ≤ a1 ∧ a1 ≤ 200 by omega)
  have g2b : decide ((100 : Int) < (l0.length : Int)) = false := decide_eq_false (by omega)
  have g2c : decide (100 < l0.length) = false := decide_eq_false (by omega)
  have g3b : decide (a1 < 0) = false := decide_eq_false (by omega)
  have g4b : decide (200 < a1) = false := decide_eq_false (by omega)
  clear hG1 hG2 hG3
  go_wp2_with fail
  go_at_call 5
  refine HGr.out.mono ?_
  rintro e w2 ⟨rfl, hb⟩
  have HB2 := Aside0.mk (HB.out.trans (hb.mono HB.out.size))
  clear hb HB
  go_wp2_with fail
  go_at_call 6
  refine (New_calls w.heap.size w2 w HB2.out.size HB2.out).mono ?_
  rintro e w3 ⟨rfl, h3, _, hb3⟩
  obtain ⟨g, HGe⟩ : ∃ g, Aside0 (g = w2.heap.size) := ⟨_, ⟨rfl⟩⟩
  rw [← HGe.out] at h3 ⊢
  have HL3 := Aside0.mk (show LawAt w.heap.size g w3 (.slice none 0 0) (.slice none 0 0) [] [] 0 from ⟨h3, World.ownsRow_nil _ _ _ _⟩)
  have HB3 := Aside0.mk hb3
  clear h3 hb3 HB2
  go_wp2_with fail
  go_loopw [6, 36] (fun v6 v36 wr => ∃ (k : Nat) (cs : List S28) (v : Value) (lost : Int), k ≤ l0.length ∧ cs.length ≤ k ∧ v36 = .int .i64 k ∧ Aside0 (LawAt w.heap.size g wr v v6 (cs.map pieceOf) cs lost) ∧ Aside0 (∀ c ∈ cs, 0 ≤ c.f2) ∧ Aside0 (Below w.heap.size w wr)) (fun _ v36 _ => (match v36 with | .int _ n => (l0.length - n).toNat | _ => 0))
  case atStart => exact ⟨0, [], .slice none 0 0, 0, Nat.zero_le _, Nat.zero_le _, rfl, HL3, ⟨by simp⟩, HB3⟩
  case round =>
    clear HL3 HB3
    obtain ⟨k, cs, v, lost, hk, hcs, rfl, HL, HD, HB⟩ := hrel
    obtain ⟨A6, c6, rfl⟩ := own_form HL.out.put
    by_cases hkn : k = l0.length
    · subst hkn
      have d1 : decide ((l0.length : Int) < (l0.length : Int)) = false := decide_eq_false (by omega)
      have HT0 : Aside0 (LawAt w.heap.size g wr v (.slice A6 cs.length c6) ((rem_ cs (0 : Nat)).map pieceOf) cs lost) := ⟨by rw [show ((0 : Nat) : Int) = 0 from rfl, rem_0 cs HD.out]; exact HL.out⟩
      have HNc := Aside0.mk (show cs.length ≤ 100 by have := HN.out; omega)
      have HR0 := Aside0.mk (show (rem_ cs (0 : Nat)).length = cs.length by rw [show ((0 : Nat) : Int) = 0 from rfl, rem_0 cs HD.out])
      clear HL HD hcs hk d1 g2b g2c g3b g4b
      go_wp2_with fail
      go_loopw [9, 10] (fun v9 v10 wr => ∃ (t : Nat) (v : Value) (lost : Int), (t : Int) ≤ a1 + 1 ∧ v10 = .int .i64 t ∧ v9 = .int .i64 ((cs.length - (rem_ cs t).length : Nat) : Int) ∧ Aside0 (LawAt w.heap.size g wr v (.slice A6 cs.length c6) ((rem_ cs t).map pieceOf) cs lost) ∧ Aside0 (Below w.heap.size w wr)) (fun _ v10 _ => (match v10 with | .int _ n => (a1 + 1 - n).toNat | _ => 0))
      case atStart => exact ⟨0, v, lost, by have := HA.out; omega, rfl, by rw [HR0.out, Nat.sub_self]; rfl, HT0, HB⟩
      case round =>
        clear HT0 HR0 HB
        rename World => wo
        obtain ⟨t, v, lost, ht, rfl, rfl, HL, HB⟩ := hrel
        by_cases hta : (t : Int) ≤ a1
        · have d1 : decide ((t : Int) ≤ a1) = true := decide_eq_true hta
          go_wp2_with fail
          go_loopw [11, 63] (fun v11 v63 wq => ∃ k : Nat, k ≤ cs.length ∧ v63 = .int .i64 k ∧ Aside0 (wq.ownsRow wo.heap.size 28 6 v11 (due_ (cs.take k) t).length (ccs (due_ (cs.take k) t))) ∧ Aside0 (Below wo.heap.size wo wq)) (fun _ v63 _ => (match v63 with | .int _ n => (cs.length - n).toNat | _ => 0))
          case atStart => exact ⟨0, Nat.zero_le _, rfl, ⟨World.ownsRow_nil _ _ _ _⟩, ⟨Below.refl _ _⟩⟩
          case round =>
            rename World => wq
            obtain ⟨k, hk, rfl, HO, HQ⟩ := hrel
            obtain ⟨A11, c11, rfl⟩ := own_form HO.out
            by_cases hkn : k = cs.length
            · subst hkn
              have d2 : decide ((cs.length : Int) < (cs.length : Int)) = false := decide_eq_false (by omega)
              rw [List.take_length] at HO ⊢
              go_wp2_with fail
              go_at_call 8
              have HLq := Aside0.mk (HL.out.below HQ.out)
              have HBq := Aside0.mk (HB.out.trans (HQ.out.mono HB.out.size))
              have HRl := Aside0.mk (show ((rem_ cs t).map pieceOf).length ≤ 1000000 by rw [List.length_map]; have := rem_le cs t; have := HNc.out; omega)
              refine (Pull_calls w.heap.size g _ w true v _ lost (t : Int) HLq.out.wire HBq.out HRl.out).mono ?_
              rintro e wp ⟨vo, vr, rfl, htw, hwp, hkp, hbp⟩
              rw [outs_rem, rests_rem] at htw
              rw [rests_rem] at hwp
              have ho1 := htw.o1
              rw [List.length_map] at ho1
              obtain ⟨Ao, co, rfl⟩ := own_form ho1
              have HO1 := Aside0.mk ho1
              have n1 : some g ≠ (Value.slice A11 (due_ cs t).length c11).ownBlock := own_ne HO.out HLq.out.wire.obj (by decide)
              have HOp := Aside0.mk (own_keptW HO.out hkp n1 (by cases h : (Value.slice A11 (due_ cs t).length c11).ownBlock with | none => exact .inl rfl | some b => exact .inr (by simp [Value.ownBlock])))
              have HLp := Aside0.mk (show LawAt w.heap.size g wp vr (.slice A6 cs.length c6) ((rem_ cs ((t : Int) + 1)).map pieceOf) cs lost from ⟨hwp, own_keptW HLq.out.put hkp HLq.out.ng (by cases h : (Value.slice A6 cs.length c6).ownBlock with | none => exact .inl rfl | some b => exact .inr (by simp [Value.ownBlock]))⟩)
              have HBp := Aside0.mk hbp
              have HDl := Aside0.mk (show (due_ cs t).length ≤ 100 by have := due_rem cs t; have := rem_le cs t; have := HNc.out; omega)
              clear htw hwp hkp hbp ho1 n1 HLq HBq HRl
              go_wp2_with fail
              go_loopw [86] (fun v86 wz => ∃ k : Nat, k ≤ (due_ cs t).length ∧ v86 = .int .i64 k ∧ Aside0 (Below wp.heap.size wp wz)) (fun v86 _ => (match v86 with | .int _ n => ((due_ cs t).length - n).toNat | _ => 0))
              case atStart => exact ⟨0, Nat.zero_le _, rfl, ⟨Below.refl _ _⟩⟩
              case round =>
                rename World => wz
                obtain ⟨k, hk, rfl, HZ⟩ := hrel
                by_cases hkn : k = (due_ cs t).length
                · subst hkn
                  have d3 : decide (((due_ cs t).length : Int) < ((due_ cs t).length : Int)) = false := decide_eq_false (by omega)
                  have hcm := Aside0.mk (comes_n cs t HNc.out)
                  have hwt := wrap_k t (by have := HA.out; omega)
                  have HBz := Aside0.mk (HBp.out.trans (HZ.out.mono HBp.out.size))
                  have HLz := Aside0.mk (HLp.out.below HZ.out)
                  have hMt := tick_lt a1 t hta
                  go_wp2_with fail
                  rw [hcm.out, hwt]
                  exact ⟨⟨t + 1, vr, lost, by omega, rfl, rfl, ⟨by rw [show (((t + 1 : Nat) : Int)) = (t : Int) + 1 by omega]; exact HLz.out⟩, HBz⟩, hMt⟩
                · have hlt : k < (due_ cs t).length := by omega
                  obtain ⟨g3, cap3, e, _, hg3, hx⟩ := cown_at HOp.out k hlt
                  injection e with e1 e2 e3
                  subst e1 e3
                  have hlo : k < ((due_ cs t).map pieceOf).length := by rw [List.length_map]; exact hlt
                  obtain ⟨g4, cap4, e, _, hg4, hy⟩ := own_at (by rw [List.length_map]; exact HO1.out) k hlo
                  rw [List.length_map] at e
                  injection e with e1 e2 e3
                  subst e1 e3
                  rw [List.getElem_map] at hy
                  have hf2 := due_f2 cs t k hlt
                  generalize (due_ cs t)[k] = c at hx hy hf2
                  have hx1 : wz.cell? ⟨g3, k * 6 + 1, none⟩ = some (.int .i64 c.f1) := (HZ.out.cell (by exact hg3)).trans ((by rw [Nat.mul_comm]; exact hx 1 _ rfl))
                  have hx3 : wz.cell? ⟨g3, k * 6 + 3, none⟩ = some (.bool c.f3) := (HZ.out.cell (by exact hg3)).trans ((by rw [Nat.mul_comm]; exact hx 3 _ rfl))
                  have hx4 : wz.cell? ⟨g3, k * 6 + 4, none⟩ = some (.string c.f4) := (HZ.out.cell (by exact hg3)).trans ((by rw [Nat.mul_comm]; exact hx 4 _ rfl))
                  have hy0 : wz.cell? ⟨g4, k * 6, none⟩ = some (.int .i64 c.f1) := (HZ.out.cell (by exact hg4)).trans ((by rw [Nat.mul_comm]; exact hy 0 _ rfl))
                  have hy1 : wz.cell? ⟨g4, k * 6 + 1, none⟩ = some (.int .i64 t) := (HZ.out.cell (by exact hg4)).trans ((by rw [Nat.mul_comm, ← hf2]; exact hy 1 _ rfl))
                  have hy2 : wz.cell? ⟨g4, k * 6 + 2, none⟩ = some (.bool c.f3) := (HZ.out.cell (by exact hg4)).trans ((by rw [Nat.mul_comm]; exact hy 2 _ rfl))
                  have hy3 : wz.cell? ⟨g4, k * 6 + 3, none⟩ = some (.string c.f4) := (HZ.out.cell (by exact hg4)).trans ((by rw [Nat.mul_comm]; exact hy 3 _ rfl))
                  have hy4 : wz.cell? ⟨g4, k * 6 + 4, none⟩ = some (.bool false) := (HZ.out.cell (by exact hg4)).trans ((by rw [Nat.mul_comm]; exact hy 4 _ rfl))
                  have hy5 : wz.cell? ⟨g4, k * 6 + 5, none⟩ = some (.bool false) := (HZ.out.cell (by exact hg4)).trans ((by rw [Nat.mul_comm]; exact hy 5 _ rfl))
                  have d3 : decide ((k : Int) < ((due_ cs t).length : Int)) = true := decide_eq_true (by omega)
                  have z0 : (0 : Int) ≤ (k : Int) := by omega
                  have z1 : (k : Int) < ((due_ cs t).length : Int) := by omega
                  have hw := wrap_k k (by have := HDl.out; omega)
                  have hM := step_lt ((due_ cs t).length) k hlt
                  clear hx hy hf2
                  have he : ∀ u : World, (binOp .neq 34 (.agg #[.int .i64 c.f1, .int .i64 t, .bool c.f3, .string c.f4, .bool false, .bool false]) (.agg #[.int .i64 c.f1, .int .i64 t, .bool c.f3, .string c.f4, .bool false, .bool false])).run Try.prog u = .ok (.bool false) u := fun u => by
                    obtain ⟨d, hd⟩ : ∃ d, Op.maxDepth = d + 2 := ⟨Op.maxDepth - 2, rfl⟩
                    have h := eqA34 d u c.f1 c.f1 t t c.f3 c.f3 c.f4 c.f4 false false false false
                    simp at h
                    simp [binOp, Op.equal, hd, h]
                  have HE := Aside0.mk he
                  clear he
                  go_wp2_with fail
                  have he := HE.out
                  go_quiet (fail)
                  go_wp2_with fail
                  rw [hw]
                  exact ⟨⟨k + 1, hlt, rfl, ⟨pw_below_drewN HZ.out _⟩⟩, hM⟩
            · have hlt : k < cs.length := by omega
              obtain ⟨g2, cap2, e, hb2, hg2, hx⟩ := cown_at HL.out.put k hlt
              injection e with e1 e2 e3
              subst e1 e3
              have HT := Aside0.mk (due_take cs t k hlt)
              have hle : (due_ (cs.take k) t).length ≤ (cs.take k).length := List.length_filter_le _ _
              rw [List.length_take] at hle
              have hx0 : wq.cell? ⟨g2, k * 6, none⟩ = some (.int .i64 (cs[k]'hlt).f0) := (HQ.out.cell (by exact hg2)).trans ((by rw [Nat.mul_comm]; exact hx 0 _ rfl))
              have hx1 : wq.cell? ⟨g2, k * 6 + 1, none⟩ = some (.int .i64 (cs[k]'hlt).f1) := (HQ.out.cell (by exact hg2)).trans ((by rw [Nat.mul_comm]; exact hx 1 _ rfl))
              have hx2 : wq.cell? ⟨g2, k * 6 + 2, none⟩ = some (.int .i64 (cs[k]'hlt).f2) := (HQ.out.cell (by exact hg2)).trans ((by rw [Nat.mul_comm]; exact hx 2 _ rfl))
              have hx3 : wq.cell? ⟨g2, k * 6 + 3, none⟩ = some (.bool (cs[k]'hlt).f3) := (HQ.out.cell (by exact hg2)).trans ((by rw [Nat.mul_comm]; exact hx 3 _ rfl))
              have hx4 : wq.cell? ⟨g2, k * 6 + 4, none⟩ = some (.string (cs[k]'hlt).f4) := (HQ.out.cell (by exact hg2)).trans ((by rw [Nat.mul_comm]; exact hx 4 _ rfl))
              have hx5 : wq.cell? ⟨g2, k * 6 + 5, none⟩ = some (.int .u8 (cs[k]'hlt).f5) := (HQ.out.cell (by exact hg2)).trans ((by rw [Nat.mul_comm]; exact hx 5 _ rfl))
              have d2 : decide ((k : Int) < (cs.length : Int)) = true := decide_eq_true (by omega)
              have z0 : (0 : Int) ≤ (k : Int) := by omega
              have z1 : (k : Int) < (cs.length : Int) := by omega
              have hw := wrap_k k (by have := HNc.out; omega)
              have hM := step_lt cs.length k hlt
              clear hx
              by_cases hE : (cs[k]'hlt).f2 = (t : Int)
              · have hEb : ((cs[k]'hlt).f2 == (t : Int)) = true := beq_iff_eq.mpr hE
                rw [if_pos hE] at HT
                clear hE
                go_wp2_with (at_builtin; go_loud (refine print_append_cells (w0 := wo) wo.heap.size rfl _ _ 22 28 (.agg #[.int .i64 0, .int .i64 0, .int .i64 0, .bool false, .string ⟨#[]⟩, .int .u8 0]) 6 56 rfl Try.underlying22 (by rfl) rfl (by decide) (by decide) (.slice A11 (due_ (cs.take k) t).length c11) (due_ (cs.take k) t).length (ccs (due_ (cs.take k) t)) (cc (cs[k]'hlt)) rfl (by simp [Act.eval]) rfl (cc_one _) ?_ ?_ ?_ ?_ ?_))
                · exact HO.out.alloc _
                · exact below_alloc HQ.out _
                · have := HQ.out.size; simp; omega
                · have := HNc.out; omega
                · intro v1 w5 hown hB2 hgr hat
                  have HO5 := Aside0.mk hown
                  have HB5 := Aside0.mk hB2
                  clear hown hB2 hgr hat
                  go_wp2_with fail
                  rw [hw]
                  exact ⟨⟨k + 1, hlt, rfl, ⟨by rw [HT.out, List.length_append, ccs_snoc]; exact HO5.out⟩, HB5⟩, hM⟩
              · have hEb : ((cs[k]'hlt).f2 == (t : Int)) = false := beq_eq_false_iff_ne.mpr hE
                rw [if_neg hE] at HT
                clear hE
                go_wp2_with fail
                rw [hw]
                exact ⟨⟨k + 1, hlt, rfl, ⟨by rw [HT.out]; exact HO.out.alloc _⟩, ⟨below_alloc HQ.out _⟩⟩, hM⟩
        · have d1 : decide ((t : Int) ≤ a1) = false := decide_eq_false hta
          have hre : ((cs.length : Int) - ((cs.length - (rem_ cs t).length : Nat) : Int)) = ((rem_ cs t).length : Int) := by have := rem_le cs t; omega
          have hrw : wrap64 ((cs.length : Int) - ((cs.length - (rem_ cs t).length : Nat) : Int)) = ((rem_ cs t).length : Int) := by rw [hre]; have := rem_le cs t; have := HNc.out; unfold wrap64; omega
          have HRW := Aside0.mk hrw
          have HRe := Aside0.mk hre
          have HWn := Aside0.mk (wrap_n (rem_ cs t).length (by have := rem_le cs t; have := HNc.out; omega))
          have HWy := Aside0.mk (Way_calls w.heap.size g wo true v _ lost HL.out.wire (by rw [List.length_map]; have := rem_le cs t; have := HNc.out; omega))
          clear hre hrw
          go_wp2_with fail
          go_at_call 9
          refine HWy.out.mono ?_
          rintro e w6 ⟨A9, c9, rfl, hb⟩
          rw [List.length_map]
          have HB6 := Aside0.mk (HB.out.trans (hb.mono HB.out.size))
          clear hb
          generalize cs.length - (rem_ cs t).length = x at HRW HRe ⊢
          have hrw := HRW.out
          have hre := HRe.out
          go_wp2_with fail
          go_ret
          exact ⟨by simp [HWn.out], HB6.out⟩
    · have hlt : k < l0.length := by omega
      obtain ⟨c, hce⟩ : ∃ c, c = rd_T28 l0 (k : Int) := ⟨_, rfl⟩
      obtain ⟨ad, e, hx0, hx1, hx2, hx3, hx4, hx5⟩ := at_T28 HR.out (k : Int) (by omega) (by omega)
      rw [← hce] at hx0 hx1 hx2 hx3 hx4 hx5
      rw [Int.toNat_natCast] at hx0 hx1 hx2 hx3 hx4 hx5
      clear hce
      cases e
      replace hx0 := (HB.out.cell (World.block_lt_of_cell? w _ hx0)).trans hx0
      replace hx1 := (HB.out.cell (World.block_lt_of_cell? w _ hx1)).trans hx1
      replace hx2 := (HB.out.cell (World.block_lt_of_cell? w _ hx2)).trans hx2
      replace hx3 := (HB.out.cell (World.block_lt_of_cell? w _ hx3)).trans hx3
      replace hx4 := (HB.out.cell (World.block_lt_of_cell? w _ hx4)).trans hx4
      replace hx5 := (HB.out.cell (World.block_lt_of_cell? w _ hx5)).trans hx5
      have d1 : decide ((k : Int) < (l0.length : Int)) = true := decide_eq_true (by omega)
      have z0 : (0 : Int) ≤ (k : Int) := by omega
      have z1 : (k : Int) < (l0.length : Int) := by omega
      have hw := wrap_k k (by have := HN.out; omega)
      have hM := step_lt l0.length k hlt
      go_wp2_with fail
      go_at_call 7
      have hbox : (wr.alloc (.cells #[.int .i64 c.f0, .int .i64 c.f1, .int .i64 c.f2, .bool c.f3, .string c.f4, .int .u8 c.f5] 28)).heap[wr.heap.size]? = some (.cells #[.int .i64 c.f0, .int .i64 c.f1, .int .i64 c.f2, .bool c.f3, .string c.f4, .int .u8 c.f5] 28 (0, 0)) := by simpa using heap_alloc_new wr (.cells #[.int .i64 c.f0, .int .i64 c.f1, .int .i64 c.f2, .bool c.f3, .string c.f4, .int .u8 c.f5] 28)
      have hbw : Below wr.heap.size wr (wr.alloc (.cells #[.int .i64 c.f0, .int .i64 c.f1, .int .i64 c.f2, .bool c.f3, .string c.f4, .int .u8 c.f5] 28)) := below_alloc (Below.refl _ _) _
      generalize wr.alloc (.cells #[.int .i64 c.f0, .int .i64 c.f1, .int .i64 c.f2, .bool c.f3, .string c.f4, .int .u8 c.f5] 28) = W1 at hbox hbw ⊢
      have HL1 := Aside0.mk (HL.out.below hbw)
      have HW1 := Aside0.mk (HB.out.trans (hbw.mono HB.out.size))
      have hng : wr.heap.size ≠ g := by have := blk_lt HL.out.wire.obj; omega
      have hnv : some wr.heap.size ≠ v.ownBlock := fun e => by have := (HL.out.wire.own.lt _ e.symm).2; omega
      have hlen : (cs.map pieceOf).length ≤ 1000 := by rw [List.length_map]; have := HN.out; omega
      refine (Put_any w.heap.size g W1 w v (cs.map pieceOf) lost c.f1 c.f2 c.f3 c.f4 HL1.out.wire HW1.out hlen).mono ?_
      rintro e w4 ⟨v4, lost4, rfl, h4, hk4, _, hb4⟩
      have hb4x : w4.heap[wr.heap.size]? = _ := (hk4.block _ (blk_lt hbox) hng hnv).trans hbox
      have HL4 := Aside0.mk (HL1.out.putq h4 hk4)
      have HB4 := Aside0.mk hb4
      clear hbox hbw HL HB HL1 HW1 h4 hk4 hb4 hx0 hx1 hx2 hx3 hx4 hx5 hng hnv hlen
      by_cases hE : errP (cs.map pieceOf) c.f1 c.f2 c.f3 = 0
      · rw [if_pos hE] at HL4
        have hd0 : 0 ≤ c.f2 := by
          unfold errP at hE
          split at hE
          · cases hE
          · omega
        have HD4 := Aside0.mk (show ∀ c' ∈ cs ++ [c], 0 ≤ c'.f2 from fun c' hc' => by
          rcases List.mem_append.1 hc' with h | h
          · exact HD.out c' h
          · rw [List.mem_singleton.1 h]; exact hd0)
        rw [hE]
        have y0 : w4.cell? ⟨wr.heap.size, 0, none⟩ = some (.int .i64 c.f0) := (blk_cell hb4x 0).trans rfl
        have y1 : w4.cell? ⟨wr.heap.size, 1, none⟩ = some (.int .i64 c.f1) := (blk_cell hb4x 1).trans rfl
        have y2 : w4.cell? ⟨wr.heap.size, 2, none⟩ = some (.int .i64 c.f2) := (blk_cell hb4x 2).trans rfl
        have y3 : w4.cell? ⟨wr.heap.size, 3, none⟩ = some (.bool c.f3) := (blk_cell hb4x 3).trans rfl
        have y4 : w4.cell? ⟨wr.heap.size, 4, none⟩ = some (.string c.f4) := (blk_cell hb4x 4).trans rfl
        have y5 : w4.cell? ⟨wr.heap.size, 5, none⟩ = some (.int .u8 c.f5) := (blk_cell hb4x 5).trans rfl
        clear hb4x hE hd0
        go_wp2_with (at_builtin; go_loud (refine print_append_cells (w0 := w) w.heap.size rfl _ _ 22 28 (.agg #[.int .i64 0, .int .i64 0, .int .i64 0, .bool false, .string ⟨#[]⟩, .int .u8 0]) 6 56 rfl Try.underlying22 (by rfl) rfl (by decide) (by decide) (.slice A6 cs.length c6) cs.length (ccs cs) (cc c) rfl (by simp [Act.eval]) rfl (cc_one _) ?_ ?_ ?_ ?_ ?_))
        · exact HL4.out.put
        · exact HB4.out
        · exact HB4.out.size
        · have := HN.out; omega
        · intro v1 w5 hown hB2 hgr hat
          have HL5 := Aside0.mk (HL4.out.app (Below.refl _ _) hown hgr)
          have HB5 := Aside0.mk hB2
          clear hown hB2 hgr hat
          go_wp2_with fail
          rw [hw]
          exact ⟨⟨k + 1, cs ++ [c], v4, lost4, hlt, by simp; omega, rfl, ⟨by rw [List.map_append]; exact HL5.out⟩, HD4, HB5⟩, hM⟩
      · rw [if_neg hE] at HL4
        have hEb : (errP (cs.map pieceOf) c.f1 c.f2 c.f3 == 0) = false := beq_eq_false_iff_ne.mpr hE
        clear hb4x hE
        go_wp2_with fail
        rw [hw]
        exact ⟨⟨k + 1, cs, v4, lost4, hlt, by omega, rfl, HL4, HD, HB4⟩, hM⟩


end Go.Proofs.Ythggjdkbdojmcaa.PWireComes
