-- Written by a program of this session (see NOTES.md), which reads the translation's print; Lean checks it.
import Derived.Test.YtnphindpbdjmpaaDoorRows
import Derived.Test.YtnphindpbdjmpaaDoorLaid
import Derived.Test.YtnphindpbdjmpaaDoorPAppliDoesx4
import Derived.Test.YtnphindpbdjmpaaDoorPureAppliDoes
import Derived.WalkKit
import Derived.ProofKit
import Derived.OpenShut
import Derived.ShutString
import Derived.ChangeOld
import Derived.Below
import Derived.SizedLaws
import Derived.Test.YtnphindpbdjmpaaDoorWSized
import Derived.Deep.Slices
namespace Go.Proofs.YtnphindpbdjmpaaDoor.appliDoes
open Go.ChangeShapes Go.WideShapes Go.ChangeAt Go.RowKit
open Go.ChangeMaps (open_string shut_string)
set_option linter.unusedVariables false
theorem own : ownKnob Tryd.prog.godebug = none := by kernel_rfl
theorem laidOut : laidOutB Tryd.prog = true := by kernel_rfl
def IsRow (k : IntKind) (w : World) (a : Option Addr) (len cap : Nat) (zs : List Int) : Prop :=
  (a = none ∧ len = 0 ∧ cap = 0 ∧ zs = []) ∨
  ∃ x, a = some x ∧ len ≤ cap ∧ cap ≤ maxLen ∧ zs.length = cap ∧ (∀ i, i < zs.length → w.cell? (x.add i) = some (.int k (zs.getD i 0))) ∧ ∀ n ∈ zs, (Lit.int k n).wf = true
theorem field_of {H : Type} {enc : TypeId × Value → H} {P : Program} {w : World} {base : Nat} {spare : Nat → Bool} {held : Bool} {t : TypeId} {fs : Array Field} {fuel : Nat} {cs : List Value} {x : DataW H × List MemPlace} (hs : P.underlying t = some (.struct fs))
    (h : DataW.trod enc P w base spare held fuel t cs = some x) (j : Nat) (f : Field) (hj : fs[j]? = some f) {m : Nat} (hm : P.cellsOf f.type = m) :
    ∃ (n : Nat) (y : DataW H × List MemPlace), DataW.trod enc P w base spare held n f.type ((cs.drop f.offset).take m) = some y ∧ ∀ z, z ∈ y.1.weights P f.type → z ∈ x.1.weights P t := by
  obtain ⟨ys, n, -, hy, -, hyl, hf⟩ := DataW.trod_struct hs h
  have hjf : j < fs.size := (Array.getElem?_eq_some_iff.1 hj).1
  have hys : ys[j]? = some (ys[j]'(by omega)) := List.getElem?_eq_getElem (by omega)
  have h1 := hf j f hj
  rw [hm, hys] at h1
  refine ⟨n, _, h1, fun z hz => ?_⟩
  subst hy
  simp only [DataW.weights, hs]
  exact DataW.weights_mem_each (by rw [List.getElem?_map, Array.getElem?_toList, hj]; rfl) (by rw [List.getElem?_map, hys]; rfl) z hz
theorem slice_C {H : Type} {enc : TypeId × Value → H} {P : Program} {w : World} {base : Nat} {spare : Nat → Bool} {held : Bool} {t e : TypeId} {fuel : Nat} {A : Option Addr} {len cap : Nat} {x : DataW H × List MemPlace} {α : Type} [Inhabited α] (d : Go.Proofs.YtnphindpbdjmpaaDoorW.PrintWords.Kd α) (Q : α → Prop)
    (ht : P.underlying t = some (.slice e)) (hc : P.cellsOf e = d.sz) (hE : ∀ n cs y, DataW.trod enc P w base spare held n e cs = some y → cs.length = d.sz → ∃ z : α, d.K w z cs ∧ Q z)
    (h : DataW.trod enc P w base spare held fuel t [.slice A len cap] = some x) : ∃ l : List α, len = l.length ∧ len ≤ cap ∧ Go.Proofs.YtnphindpbdjmpaaDoorW.PrintWords.Kd.C d w A len l ∧ ∀ z ∈ l, Q z := by
  rcases Go.Deep.open_slice ht h with ⟨h0, _⟩ | ⟨a, len', cap', m, n, D, Pl, h0, hb, hl, hm, hmm, _, hx⟩
  · obtain ⟨rfl, rfl, rfl⟩ : A = none ∧ len = 0 ∧ cap = 0 := by simpa using h0
    exact ⟨[], rfl, Nat.le_refl _, ⟨rfl, by omega, fun h => absurd h (by omega)⟩, by simp⟩
  · obtain ⟨rfl, rfl, rfl⟩ : A = some a ∧ len = len' ∧ cap = cap' := by simpa using h0
    have hlm : len ≤ m := by rw [hmm]; split <;> omega
    obtain ⟨F, hF⟩ := Go.Deep.choose_lt (α := α × List Value) (n := len) (p := fun i z => w.cells? base (a.add (i * P.cellsOf e)) (P.cellsOf e) = some z.2 ∧ d.K w z.1 z.2 ∧ Q z.1) (fun i hi => by
      obtain ⟨cs', h1, h2⟩ := hx i (by omega)
      obtain ⟨_, hlen, _⟩ := World.cells?_some h1
      obtain ⟨z, hz, hq⟩ := hE n cs' _ h2 (by rw [hlen, hc])
      exact ⟨(z, cs'), h1, hz, hq⟩)
    refine ⟨(List.range len).map fun i => (F i).1, by simp, hl, ⟨by simp, Nat.le_trans (Nat.le_trans hl hm) (by decide), fun _ => ⟨a, rfl, fun j p hp => ?_⟩⟩, fun z hz => ?_⟩
    · have hj : j < len := by
        have := (List.getElem?_eq_some_iff.1 hp).1
        simpa using this
      have hp' : (F j).1 = p := by simpa [hj] using hp
      subst hp'
      obtain ⟨h1, h2, _⟩ := hF j hj
      obtain ⟨_, hlen, hcell⟩ := World.cells?_some h1
      refine ⟨(F j).2, by rw [hlen, hc], h2, fun i u hu => ?_⟩
      have hi : i < P.cellsOf e := by rw [← hlen]; exact (List.getElem?_eq_some_iff.1 hu).1
      have := hcell i hi
      rw [hu, hc] at this
      rw [← this]
      by_cases h3 : j * d.sz = 0 <;> by_cases h4 : i = 0 <;> simp [Addr.add, h3, h4, Nat.add_assoc]
    · obtain ⟨i, hi, rfl⟩ := List.mem_map.1 hz
      exact (hF i (by simpa using hi)).2.2
theorem elem_33 {H : Type} {enc : TypeId × Value → H} {w : World} {base : Nat} {spare : Nat → Bool} {held : Bool} (n : Nat) (cs : List Value) (y : DataW H × List MemPlace) (h : DataW.trod enc Tryd.prog w base spare held n 33 cs = some y) (hl : cs.length = PAppliDoes.k33.sz) : ∃ z : PAppliDoes.S33, PAppliDoes.k33.K w z cs ∧ ((Lit.int .i64 z.f0).wf = true ∧ (Lit.int .i64 z.f1).wf = true) := by
  have hl' : cs.length = 3 := hl
  match cs, hl' with
  | [c0, c1, c2], _ =>
    obtain ⟨m0, y0, h0, _⟩ := field_of Tryd.underlying33 h 0 _ rfl (m := 1) (by kernel_rfl)
    obtain ⟨a0, e0, _, w0⟩ := DataW.trod_int Tryd.underlying3 h0
    obtain rfl : c0 = _ := (List.cons.inj e0).1
    obtain ⟨m1, y1, h1, _⟩ := field_of Tryd.underlying33 h 1 _ rfl (m := 1) (by kernel_rfl)
    obtain ⟨a1, e1, _, w1⟩ := DataW.trod_int Tryd.underlying3 h1
    obtain rfl : c1 = _ := (List.cons.inj e1).1
    obtain ⟨m2, y2, h2, _⟩ := field_of Tryd.underlying33 h 2 _ rfl (m := 1) (by kernel_rfl)
    obtain ⟨a2, e2, _⟩ := DataW.trod_bool Tryd.underlying4 h2
    obtain rfl : c2 = _ := (List.cons.inj e2).1
    exact ⟨⟨a0, a1, a2⟩, PAppliDoes.k33_mk w _, w0, w1⟩
set_option maxRecDepth 100000 in
theorem lifted (os : Os) (started : os.Started) (H : Type) (enc : TypeId × Value → H) :
    ReturnsInHanded {} Tryd.checked os 6 .any (fun w args => (Rows.appliDoesSpec.pre enc Tryd.prog Tryd.f6 [] false w args ∧ laidMetH Tryd.prog Laid.laidL w) ∧ sizedMet enc Tryd.prog Tryd.f6 (OpenSpec.ofChange Rows.appliDoesSpec) false w args) (Rows.appliDoesSpec.post enc Tryd.prog Tryd.f6 false true false false) := by
  refine returnsInHanded_of_change_and (C := Tryd.checked) (X := fun w _ => laidMetH Tryd.prog Laid.laidL w) (fun _ _ _ hh h => h.of_heap hh) own started (by kernel_rfl) Tryd.func6
    (ChangeSpec.witness_shaped (enc := enc) (C := Tryd.checked) (os := os) (X := fun w _ => laidMetH Tryd.prog Laid.laidL w) false (World.doorLaid Tryd.prog 400 os) #[.slice none 0 0] 8 rfl (World.shaped_of_RefB (by kernel_rfl) (by kernel_rfl)) (by kernel_rfl) (by kernel_rfl) (by kernel_rfl) (Laid.door_met os _)) ?_
  intro W base args ds gs before hval0 hW hcnd hsz0 hL _
  have hG := Laid.of_laid hL
  have hsz : (DataW.weightsEach Tryd.prog (Tryd.f6.params.toList ++ Rows.appliDoesSpec.plain.varTypes Tryd.prog) (ds ++ gs)).all (· ≤ reachBytes) = true := hsz0
  have hval : ∀ (j : Nat) t v, Tryd.f6.params[j]? = some t → args[j]? = some v → Value.okWide Tryd.prog W .any base t v := hval0
  have hW' := hW
  obtain ⟨p, q, hA0, hV, rfl, hfz, hnd⟩ := hW
  have hA : DataW.TrodAll enc Tryd.prog W 0 (fun _ => true) true Tryd.f6.params.toList args.toList ds p := hA0
  rw [Tryd.params6] at hA hval hsz
  obtain ⟨v0, vs0, d0, ds0, p0, q0, hargs, rfl, rfl, h0, r0⟩ := trodAll_cons hA
  obtain ⟨rfl, rfl, rfl⟩ := trodAll_nil r0
  obtain rfl : args = #[v0] := by cases args; simp_all
  obtain ⟨rfl, rfl⟩ := trodVars_none hV
  obtain ⟨A0, len0, c0, rfl⟩ := okWide_slice Tryd.underlying31 (hval 0 31 v0 rfl rfl)
  have k0 := h0
  have lt0 : ∀ x ∈ p0, x.block < W.heap.size := by obtain ⟨m, hm⟩ := k0; exact DataW.trod_lt m _ _ _ hm
  haveI : Inhabited PAppliDoes.S33 := ⟨PAppliDoes.z33⟩
  obtain ⟨l0, hl0, hc0, hr0, hw0⟩ : ∃ l : List PAppliDoes.S33, len0 = l.length ∧ len0 ≤ c0 ∧ Go.Proofs.YtnphindpbdjmpaaDoorW.PrintWords.Kd.C PAppliDoes.k33 W A0 len0 l ∧ ∀ z ∈ l, (Lit.int .i64 z.f0).wf = true ∧ (Lit.int .i64 z.f1).wf = true := by
    obtain ⟨fuel, hf⟩ := h0
    exact slice_C PAppliDoes.k33 (fun z => (Lit.int .i64 z.f0).wf = true ∧ (Lit.int .i64 z.f1).wf = true) Tryd.underlying31 (by kernel_rfl) elem_33 hf
  subst hl0
  clear hA0 hval0 hsz0 hsz
  refine (PAppliDoes.kissgatelaw15_AppliDoes.walk Pure.AppliDoes A0 c0 l0 W hr0 hc0 hw0 hG).mono fun e W' ⟨he, bel⟩ => ?_
  subst he
  exact ⟨_, rfl, _, _, _, [], _, [], hW', trodAll_mk1 (shut_bool Tryd.underlying4 _), (trodAll_cons_mk (Below.trod laidOut (by kernel_rfl) (of_decide_eq_true (by kernel_rfl)) k0 bel lt0) trodAll_mk0), rfl, bel.frame _, fun h => by cases h⟩
theorem over : Rows.appliDoesRow.holds Tryd.pinned (OpenSpec.ofChange Rows.appliDoesSpec) :=
  OpenClaim.holds_of_wide 6 Tryd.f6 rfl rfl rfl rfl rfl rfl rfl ⟨rfl, rfl, rfl, rfl, rfl⟩ rfl rfl rfl rfl rfl (by kernel_rfl) Tryd.func6 (by kernel_rfl)
    (of_decide_eq_true (by kernel_rfl)) (by unfold Func.isWrapper; first | (rw [if_pos (by decide +kernel)]; kernel_rfl) | (rw [if_neg (by decide +kernel)]; exact ⟨rfl, rfl⟩))
    (fun os started H enc _ => lifted os started H enc)
theorem proved : Rows.AppliDoesCardSaid :=
  Claim7.holds_tied_plain_at .later [] [.data] true (true, "0a03289b18d98c344b1055165ee693f3a785c6935ffb827813bf959347a5eab3") false
    over (fun _ h => by cases h) (by kernel_rfl) (fun _ h => by cases h) appliDoes_row_tie rfl ⟨rfl, rfl⟩ (by kernel_rfl) rfl
    (fun f fn hf hfn => by
      obtain rfl : f = 6 := Option.some.inj ((show Tryd.prog.funcNamed "kissgate/kissgatelaw15.AppliDoes" = some 6 by kernel_rfl).symm.trans hf) |>.symm
      obtain rfl : fn = Tryd.f6 := (Option.some.inj (Tryd.func6.symm.trans hfn)).symm
      exact ⟨by kernel_rfl, fun j t ht => by
        rw [Tryd.params6] at ht
        have hm : t ∈ [31] := by simpa using Array.mem_of_getElem? ht
        have hall : ([31].all fun u => !Tryd.prog.wantsStandIn u) = true := by kernel_rfl
        exact (show Tryd.prog.wantsStandIn t = false by simpa using List.all_eq_true.1 hall t hm)⟩)
    (by kernel_rfl)
#print axioms proved
end Go.Proofs.YtnphindpbdjmpaaDoor.appliDoes
namespace Go.Proofs.YtnphindpbdjmpaaDoor
/-- The row, under a short name, for the claim. -/
theorem appliDoes_holds : Rows.AppliDoesCardSaid := appliDoes.proved
end Go.Proofs.YtnphindpbdjmpaaDoor
