-- Written by a program of this session (see NOTES.md), which reads the translation's print; Lean checks it.
import Derived.Test.YtlfcpobnkojcbaaRows
import Derived.Test.YtlfcpobnkojcbaaPw5
import Derived.WalkKit
import Derived.Deep.Slices
import Derived.ProofKit
import Derived.OpenShut
import Derived.ShutString
import Derived.ChangeOld
import Derived.Below
import Derived.SizedLaws
import Derived.Carry
import Derived.Deep.Fields
namespace Go.Proofs.Ytlfcpobnkojcbaa.mrpduWrong
open Go.ChangeShapes Go.WideShapes Go.ChangeAt Go.RowKit
open Go.ChangeMaps (open_string shut_string)
set_option linter.unusedVariables false
theorem own : ownKnob Try.prog.godebug = none := by kernel_rfl
theorem laidOut : laidOutB Try.prog = true := by kernel_rfl
theorem field_of {H : Type} {enc : TypeId × Value → H} {P : Program} {w : World} {base : Nat} {spare : Nat → Bool} {held : Bool} {t : TypeId} {fs : Array Field} {fuel : Nat} {cs : List Value} {x : DataW H × List MemPlace} (hs : P.underlying t = some (.struct fs))
    (h : DataW.trod enc P w base spare held fuel t cs = some x) (j : Nat) (f : Field) (hj : fs[j]? = some f) {m : Nat} (hm : P.cellsOf f.type = m) :
    ∃ (n : Nat) (y : DataW H × List MemPlace), DataW.trod enc P w base spare held n f.type ((cs.drop f.offset).take m) = some y ∧ ∀ z, z ∈ y.1.weights P f.type → z ∈ x.1.weights P t := by
  obtain ⟨ys, n, -, hy, -, hyl, hf⟩ := DataW.trod_struct hs h
  have hjf : j < fs.size := (Array.getElem?_eq_some_iff.1 hj).1
  have hys : ys[j]? = some (ys[j]'(by omega)) := List.getElem?_eq_getElem (by omega)
  have h1 := hf j f hj
  rw [hm, hys] at h1
  refine ⟨n, _, h1, fun z hz => ?_⟩
  subst hy
  simp only [DataW.weights, hs]
  exact DataW.weights_mem_each (by rw [List.getElem?_map, Array.getElem?_toList, hj]; rfl) (by rw [List.getElem?_map, hys]; rfl) z hz
theorem array_2 {cs : Array Value} (h : cs.size = 2) : ∃ c0 c1, cs = #[c0, c1] := by
  obtain ⟨l⟩ := cs
  match l, h with
  | [c0, c1], _ => exact ⟨c0, c1, rfl⟩
theorem slice_C {H : Type} {enc : TypeId × Value → H} {P : Program} {w : World} {base : Nat} {spare : Nat → Bool} {held : Bool} {t e : TypeId} {fuel : Nat} {A : Option Addr} {len cap : Nat} {x : DataW H × List MemPlace} {α : Type} [Inhabited α] (d : Go.Proofs.YtlfcpobnkojcbaaW.PrintWords.Kd α) (Q : α → Prop)
    (ht : P.underlying t = some (.slice e)) (hc : P.cellsOf e = d.sz) (hE : ∀ n cs y, DataW.trod enc P w base spare held n e cs = some y → cs.length = d.sz → ∃ z : α, d.K w z cs ∧ Q z)
    (h : DataW.trod enc P w base spare held fuel t [.slice A len cap] = some x) : ∃ l : List α, len = l.length ∧ len ≤ cap ∧ Go.Proofs.YtlfcpobnkojcbaaW.PrintWords.Kd.C d w A len l ∧ ∀ z ∈ l, Q z := by
  rcases Go.Deep.open_slice ht h with ⟨h0, _⟩ | ⟨a, len', cap', m, n, D, Pl, h0, hb, hl, hm, hmm, _, hx⟩
  · obtain ⟨rfl, rfl, rfl⟩ : A = none ∧ len = 0 ∧ cap = 0 := by simpa using h0
    exact ⟨[], rfl, Nat.le_refl _, ⟨rfl, by omega, fun h => absurd h (by omega)⟩, by simp⟩
  · obtain ⟨rfl, rfl, rfl⟩ : A = some a ∧ len = len' ∧ cap = cap' := by simpa using h0
    have hlm : len ≤ m := by rw [hmm]; split <;> omega
    obtain ⟨F, hF⟩ := Go.Deep.choose_lt (α := α × List Value) (n := len) (p := fun i z => w.cells? base (a.add (i * P.cellsOf e)) (P.cellsOf e) = some z.2 ∧ d.K w z.1 z.2 ∧ Q z.1) (fun i hi => by
      obtain ⟨cs', h1, h2⟩ := hx i (by omega)
      obtain ⟨_, hlen, _⟩ := World.cells?_some h1
      obtain ⟨z, hz, hq⟩ := hE n cs' _ h2 (by rw [hlen, hc])
      exact ⟨(z, cs'), h1, hz, hq⟩)
    refine ⟨(List.range len).map fun i => (F i).1, by simp, hl, ⟨by simp, Nat.le_trans (Nat.le_trans hl hm) (by decide), fun _ => ⟨a, rfl, fun j p hp => ?_⟩⟩, fun z hz => ?_⟩
    · have hj : j < len := by
        have := (List.getElem?_eq_some_iff.1 hp).1
        simpa using this
      have hp' : (F j).1 = p := by simpa [hj] using hp
      subst hp'
      obtain ⟨h1, h2, _⟩ := hF j hj
      obtain ⟨_, hlen, hcell⟩ := World.cells?_some h1
      refine ⟨(F j).2, by rw [hlen, hc], h2, fun i u hu => ?_⟩
      have hi : i < P.cellsOf e := by rw [← hlen]; exact (List.getElem?_eq_some_iff.1 hu).1
      have := hcell i hi
      rw [hu, hc] at this
      rw [← this]
      by_cases h3 : j * d.sz = 0 <;> by_cases h4 : i = 0 <;> simp [Addr.add, h3, h4, Nat.add_assoc]
    · obtain ⟨i, hi, rfl⟩ := List.mem_map.1 hz
      exact (hF i (by simpa using hi)).2.2
theorem slice_F {H : Type} {enc : TypeId × Value → H} {P : Program} {w : World} {base : Nat} {spare : Nat → Bool} {held : Bool} {t e : TypeId} {fuel : Nat} {c : Value} {x : DataW H × List MemPlace} {α : Type} [Inhabited α] (d : Go.Proofs.YtlfcpobnkojcbaaW.PrintWords.Kd α)
    (ht : P.underlying t = some (.slice e)) (hc : P.cellsOf e = d.sz) (hE : ∀ n cs y, DataW.trod enc P w base spare held n e cs = some y → cs.length = d.sz → ∃ z : α, d.K w z cs ∧ True)
    (h : DataW.trod enc P w base spare held fuel t [c] = some x) : ∃ (A : Option Addr) (cap : Nat) (l : List α), c = .slice A l.length cap ∧ l.length ≤ cap ∧ Go.Proofs.YtlfcpobnkojcbaaW.PrintWords.Kd.C d w A l.length l := by
  have key : ∃ A len cap, c = .slice A len cap := by
    rcases Go.Deep.open_slice ht h with ⟨h0, _⟩ | ⟨a, len, cap, m, n, D, Pl, h0, _⟩
    · exact ⟨_, _, _, (List.cons.inj h0).1⟩
    · exact ⟨_, _, _, (List.cons.inj h0).1⟩
  obtain ⟨A, len, cap, rfl⟩ := key
  obtain ⟨l, rfl, hl, hC, _⟩ := slice_C d (fun _ => True) ht hc hE h
  exact ⟨A, cap, l, rfl, hl, hC⟩
theorem elem_3 {H : Type} {enc : TypeId × Value → H} {w : World} {base : Nat} {spare : Nat → Bool} {held : Bool} (n : Nat) (cs : List Value) (y : DataW H × List MemPlace) (h : DataW.trod enc Try.prog w base spare held n 3 cs = some y) (hl : cs.length = (Go.Proofs.YtlfcpobnkojcbaaW.PrintWords.Kd.int .i64).sz) : ∃ z : Int, (Go.Proofs.YtlfcpobnkojcbaaW.PrintWords.Kd.int .i64).K w z cs ∧ True := by
  have hl' : cs.length = 1 := hl
  match cs, hl' with
  | [c0], _ =>
    obtain ⟨a0, e0, _, w0⟩ := DataW.trod_int Try.underlying3 h
    obtain rfl : c0 = _ := (List.cons.inj e0).1
    exact ⟨a0, rfl, trivial⟩
theorem elem_43 {H : Type} {enc : TypeId × Value → H} {w : World} {base : Nat} {spare : Nat → Bool} {held : Bool} (n : Nat) (cs : List Value) (y : DataW H × List MemPlace) (h : DataW.trod enc Try.prog w base spare held n 43 cs = some y) (hl : cs.length = PMrpduBytes.k43.sz) : ∃ z : PMrpduBytes.S43, PMrpduBytes.k43.K w z cs ∧ True := by
  have hl' : cs.length = 4 := hl
  match cs, hl' with
  | [c0, c1, c2, c3], _ =>
    obtain ⟨m0, y0, h0, _⟩ := field_of Try.underlying43 h 0 _ rfl (m := 2) (by kernel_rfl)
    obtain ⟨m4, y4, h4, _⟩ := field_of Try.underlying37 h0 0 _ rfl (m := 1) (by kernel_rfl)
    obtain ⟨a0, e0, _, _⟩ := DataW.trod_int Try.underlying3 h4
    obtain rfl : c0 = _ := (List.cons.inj e0).1
    obtain ⟨m5, y5, h5, _⟩ := field_of Try.underlying37 h0 1 _ rfl (m := 1) (by kernel_rfl)
    obtain ⟨a1, e1, _, _⟩ := DataW.trod_int Try.underlying3 h5
    obtain rfl : c1 = _ := (List.cons.inj e1).1
    obtain ⟨m1, y1, h1, _⟩ := field_of Try.underlying43 h 1 _ rfl (m := 1) (by kernel_rfl)
    obtain ⟨a2, e2, _, _⟩ := DataW.trod_int Try.underlying3 h1
    obtain rfl : c2 = _ := (List.cons.inj e2).1
    obtain ⟨m2, y2, h2, _⟩ := field_of Try.underlying43 h 2 _ rfl (m := 1) (by kernel_rfl)
    obtain ⟨a3, e3, _, _⟩ := DataW.trod_int Try.underlying3 h2
    obtain rfl : c3 = _ := (List.cons.inj e3).1
    exact ⟨⟨⟨a0, a1⟩, a2, a3⟩, PMrpduBytes.k43_mk w _, trivial⟩
set_option maxRecDepth 100000 in
theorem lifted (os : Os) (started : os.Started) (H : Type) (enc : TypeId × Value → H) :
    ReturnsInHanded {} Try.checked os 6 .any (Rows.mrpduWrongSpec.pre6 enc Try.prog Try.f6 Rows.mrpduWrongRow.domain false) (Rows.mrpduWrongSpec.post enc Try.prog Try.f6 false true false false) := by
  refine returnsInHanded_of_change_sized (C := Try.checked) own started (by kernel_rfl) Try.func6
    (ChangeSpec.witness6 (enc := enc) (C := Try.checked) false ⟨#[], #[.agg #[.slice none 0 0, .slice none 0 0], .int .i64 0], []⟩ 8 (by kernel_rfl) (by kernel_rfl) (by kernel_rfl) (by kernel_rfl)) ?_
  haveI : Inhabited PMrpduBytes.S43 := ⟨PMrpduBytes.z43⟩
  intro W base args ds gs before hval0 hW hcnd hsz0 _
  have hsz : (DataW.weightsEach Try.prog (Try.f6.params.toList ++ Rows.mrpduWrongSpec.plain.varTypes Try.prog) (ds ++ gs)).all (· ≤ reachBytes) = true := hsz0
  have hval : ∀ (j : Nat) t v, Try.f6.params[j]? = some t → args[j]? = some v → Value.okWide Try.prog W .any base t v := hval0
  have hW' := hW
  obtain ⟨p, q, hA0, hV, rfl, hfz, hnd⟩ := hW
  have hA : DataW.TrodAll enc Try.prog W 0 (fun _ => true) true Try.f6.params.toList args.toList ds p := hA0
  rw [Try.params6] at hA hval hsz
  obtain ⟨v0, vs0, d0, ds0, p0, q0, hargs, rfl, rfl, h0, r0⟩ := trodAll_cons hA
  obtain ⟨v1, vs1, d1, ds1, p1, q1, rfl, rfl, rfl, h1, r1⟩ := trodAll_cons r0
  obtain ⟨rfl, rfl, rfl⟩ := trodAll_nil r1
  obtain rfl : args = #[v0, v1] := by cases args; simp_all
  obtain ⟨rfl, rfl⟩ := trodVars_none hV
  have k0 := h0
  have lt0 : ∀ x ∈ p0, x.block < W.heap.size := by obtain ⟨m, hm⟩ := k0; exact DataW.trod_lt m _ _ _ hm
  obtain ⟨cs0, rfl, hcs0⟩ := okWide_struct Try.underlying25 (hval 0 25 v0 rfl rfl)
  obtain ⟨c0_0, c0_1, rfl⟩ := array_2 (hcs0.trans (by kernel_rfl))
  obtain ⟨fu0, ht0⟩ := h0
  have hm0 : ∀ z, z ∈ d0.weights Try.prog 25 → z ≤ 140737488351232 := fun z hz => of_decide_eq_true (List.all_eq_true.1 hsz _ (DataW.weights_mem_each (j := 0) rfl rfl z hz))
  obtain ⟨n0f_0, y0f_0, hf0f_0, hn0f_0⟩ := field_of Try.underlying25 ht0 0 _ rfl (m := 1) (by kernel_rfl)
  obtain ⟨A0_0, k0_0, l0_0, rfl, hk0_0, hr0_0⟩ := slice_F (Go.Proofs.YtlfcpobnkojcbaaW.PrintWords.Kd.int .i64) Try.underlying22 (by kernel_rfl) elem_3 (show DataW.trod enc Try.prog W 0 (fun _ => true) true n0f_0 22 [c0_0] = some y0f_0 from hf0f_0)
  obtain ⟨n0f_1, y0f_1, hf0f_1, hn0f_1⟩ := field_of Try.underlying25 ht0 1 _ rfl (m := 1) (by kernel_rfl)
  obtain ⟨A0_1, k0_1, l0_1, rfl, hk0_1, hr0_1⟩ := slice_F PMrpduBytes.k43 Try.underlying23 (by kernel_rfl) elem_43 (show DataW.trod enc Try.prog W 0 (fun _ => true) true n0f_1 23 [c0_1] = some y0f_1 from hf0f_1)
  obtain ⟨a1, rfl, rfl, rfl, w1⟩ := open_int Try.underlying3 (hval 1 3 v1 rfl rfl) h1
  clear hA0 hval0 hsz0 hsz
  refine (Pm.wrong_holds A0_0 k0_0 l0_0 A0_1 k0_1 l0_1 a1 W hr0_0 hk0_0 hr0_1 hk0_1 w1).mono fun e W' ⟨he, bel⟩ => ?_
  subst he
  exact ⟨_, rfl, _, _, _, [], _, [], hW', trodAll_mk1 (shut_bool Try.underlying4 _), (trodAll_cons_mk (Below.trod laidOut (by kernel_rfl) (of_decide_eq_true (by kernel_rfl)) k0 bel lt0) (trodAll_cons_mk (shut_int Try.underlying3 w1) trodAll_mk0)), rfl, bel.frame _, fun h => by cases h⟩
theorem over : Rows.mrpduWrongRow.holds Try.pinned (OpenSpec.ofChange Rows.mrpduWrongSpec) :=
  OpenClaim.holds_of_wide 6 Try.f6 rfl rfl rfl rfl rfl rfl rfl ⟨rfl, rfl, rfl, rfl, rfl⟩ rfl rfl rfl rfl rfl (by kernel_rfl) Try.func6 (by kernel_rfl)
    (of_decide_eq_true (by kernel_rfl)) (by unfold Func.isWrapper; first | (rw [if_pos (by decide +kernel)]; kernel_rfl) | (rw [if_neg (by decide +kernel)]; exact ⟨rfl, rfl⟩))
    (fun os started H enc _ => lifted os started H enc)
theorem proved : Rows.MrpduWrongSaid := over
#print axioms proved
end Go.Proofs.Ytlfcpobnkojcbaa.mrpduWrong
namespace Go.Proofs.Ytlfcpobnkojcbaa
/-- The row, under a short name, for the claim. -/
theorem mrpduWrong_holds : Rows.MrpduWrongSaid := mrpduWrong.proved
end Go.Proofs.Ytlfcpobnkojcbaa
