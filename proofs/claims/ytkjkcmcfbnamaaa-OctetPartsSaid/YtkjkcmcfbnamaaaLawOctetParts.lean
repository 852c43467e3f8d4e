-- Written by a program of this session (see NOTES.md), which reads the translation's print; Lean checks it.
import Derived.Test.YtkjkcmcfbnamaaaRows
import Derived.Test.YtkjkcmcfbnamaaaPOctetPartsx2
import Derived.Test.YtkjkcmcfbnamaaaPureOctetParts
import Derived.WalkKit
import Derived.ProofKit
import Derived.OpenShut
import Derived.ShutString
import Derived.ChangeOld
import Derived.Below
import Derived.SizedLaws
import Derived.Test.YtkjkcmcfbnamaaaWSized
import Derived.Deep.Slices
namespace Go.Proofs.Ytkjkcmcfbnamaaa.octetParts
open Go.ChangeShapes Go.WideShapes Go.ChangeAt Go.RowKit
open Go.ChangeMaps (open_string shut_string)
set_option linter.unusedVariables false
theorem own : ownKnob Try.prog.godebug = none := by kernel_rfl
theorem laidOut : laidOutB Try.prog = true := by kernel_rfl
def IsRow (k : IntKind) (w : World) (a : Option Addr) (len cap : Nat) (zs : List Int) : Prop :=
  (a = none ∧ len = 0 ∧ cap = 0 ∧ zs = []) ∨
  ∃ x, a = some x ∧ len ≤ cap ∧ cap ≤ maxLen ∧ zs.length = cap ∧ (∀ i, i < zs.length → w.cell? (x.add i) = some (.int k (zs.getD i 0))) ∧ ∀ n ∈ zs, (Lit.int k n).wf = true
theorem slice_C {H : Type} {enc : TypeId × Value → H} {P : Program} {w : World} {base : Nat} {spare : Nat → Bool} {held : Bool} {t e : TypeId} {fuel : Nat} {A : Option Addr} {len cap : Nat} {x : DataW H × List MemPlace} {α : Type} [Inhabited α] (d : Go.Proofs.YtkjkcmcfbnamaaaW.PrintWords.Kd α) (Q : α → Prop)
    (ht : P.underlying t = some (.slice e)) (hc : P.cellsOf e = d.sz) (hE : ∀ n cs y, DataW.trod enc P w base spare held n e cs = some y → cs.length = d.sz → ∃ z : α, d.K w z cs ∧ Q z)
    (h : DataW.trod enc P w base spare held fuel t [.slice A len cap] = some x) : ∃ l : List α, len = l.length ∧ len ≤ cap ∧ Go.Proofs.YtkjkcmcfbnamaaaW.PrintWords.Kd.C d w A len l ∧ ∀ z ∈ l, Q z := by
  rcases Go.Deep.open_slice ht h with ⟨h0, _⟩ | ⟨a, len', cap', m, n, D, Pl, h0, hb, hl, hm, hmm, _, hx⟩
  · obtain ⟨rfl, rfl, rfl⟩ : A = none ∧ len = 0 ∧ cap = 0 := by simpa using h0
    exact ⟨[], rfl, Nat.le_refl _, ⟨rfl, by omega, fun h => absurd h (by omega)⟩, by simp⟩
  · obtain ⟨rfl, rfl, rfl⟩ : A = some a ∧ len = len' ∧ cap = cap' := by simpa using h0
    have hlm : len ≤ m := by rw [hmm]; split <;> omega
    obtain ⟨F, hF⟩ := Go.Deep.choose_lt (α := α × List Value) (n := len) (p := fun i z => w.cells? base (a.add (i * P.cellsOf e)) (P.cellsOf e) = some z.2 ∧ d.K w z.1 z.2 ∧ Q z.1) (fun i hi => by
      obtain ⟨cs', h1, h2⟩ := hx i (by omega)
      obtain ⟨_, hlen, _⟩ := World.cells?_some h1
      obtain ⟨z, hz, hq⟩ := hE n cs' _ h2 (by rw [hlen, hc])
      exact ⟨(z, cs'), h1, hz, hq⟩)
    refine ⟨(List.range len).map fun i => (F i).1, by simp, hl, ⟨by simp, Nat.le_trans (Nat.le_trans hl hm) (by decide), fun _ => ⟨a, rfl, fun j p hp => ?_⟩⟩, fun z hz => ?_⟩
    · have hj : j < len := by
        have := (List.getElem?_eq_some_iff.1 hp).1
        simpa using this
      have hp' : (F j).1 = p := by simpa [hj] using hp
      subst hp'
      obtain ⟨h1, h2, _⟩ := hF j hj
      obtain ⟨_, hlen, hcell⟩ := World.cells?_some h1
      refine ⟨(F j).2, by rw [hlen, hc], h2, fun i u hu => ?_⟩
      have hi : i < P.cellsOf e := by rw [← hlen]; exact (List.getElem?_eq_some_iff.1 hu).1
      have := hcell i hi
      rw [hu, hc] at this
      rw [← this]
      by_cases h3 : j * d.sz = 0 <;> by_cases h4 : i = 0 <;> simp [Addr.add, h3, h4, Nat.add_assoc]
    · obtain ⟨i, hi, rfl⟩ := List.mem_map.1 hz
      exact (hF i (by simpa using hi)).2.2
theorem elem_3 {H : Type} {enc : TypeId × Value → H} {w : World} {base : Nat} {spare : Nat → Bool} {held : Bool} (n : Nat) (cs : List Value) (y : DataW H × List MemPlace) (h : DataW.trod enc Try.prog w base spare held n 3 cs = some y) (hl : cs.length = (Go.Proofs.YtkjkcmcfbnamaaaW.PrintWords.Kd.int .i64).sz) : ∃ z : Int, (Go.Proofs.YtkjkcmcfbnamaaaW.PrintWords.Kd.int .i64).K w z cs ∧ (Lit.int .i64 z).wf = true := by
  obtain ⟨b, rfl, _, hw⟩ := DataW.trod_int Try.underlying3 h
  exact ⟨b, rfl, hw⟩
set_option maxRecDepth 100000 in
theorem lifted (os : Os) (started : os.Started) (H : Type) (enc : TypeId × Value → H) :
    ReturnsInHanded {} Try.checked os 4 .any (Rows.octetPartsSpec.pre6 enc Try.prog Try.f4 Rows.octetPartsRow.domain false) (Rows.octetPartsSpec.post enc Try.prog Try.f4 false true false false) := by
  refine returnsInHanded_of_change_sized (C := Try.checked) own started (by kernel_rfl) Try.func4
    (ChangeSpec.witness6 (enc := enc) (C := Try.checked) false ⟨#[], #[.slice none 0 0, .int .i64 0], []⟩ 8 (by kernel_rfl) (by kernel_rfl) (by kernel_rfl) (by kernel_rfl)) ?_
  intro W base args ds gs before hval0 hW hcnd hsz0 _
  have hsz : (DataW.weightsEach Try.prog (Try.f4.params.toList ++ Rows.octetPartsSpec.plain.varTypes Try.prog) (ds ++ gs)).all (· ≤ reachBytes) = true := hsz0
  have hval : ∀ (j : Nat) t v, Try.f4.params[j]? = some t → args[j]? = some v → Value.okWide Try.prog W .any base t v := hval0
  have hW' := hW
  obtain ⟨p, q, hA0, hV, rfl, hfz, hnd⟩ := hW
  have hA : DataW.TrodAll enc Try.prog W 0 (fun _ => true) true Try.f4.params.toList args.toList ds p := hA0
  rw [Try.params4] at hA hval hsz
  obtain ⟨v0, vs0, d0, ds0, p0, q0, hargs, rfl, rfl, h0, r0⟩ := trodAll_cons hA
  obtain ⟨v1, vs1, d1, ds1, p1, q1, rfl, rfl, rfl, h1, r1⟩ := trodAll_cons r0
  obtain ⟨rfl, rfl, rfl⟩ := trodAll_nil r1
  obtain rfl : args = #[v0, v1] := by cases args; simp_all
  obtain ⟨rfl, rfl⟩ := trodVars_none hV
  obtain ⟨A0, len0, c0, rfl⟩ := okWide_slice Try.underlying22 (hval 0 22 v0 rfl rfl)
  have k0 := h0
  have lt0 : ∀ x ∈ p0, x.block < W.heap.size := by obtain ⟨m, hm⟩ := k0; exact DataW.trod_lt m _ _ _ hm
  obtain ⟨l0, hl0, hc0, hr0, hw0⟩ : ∃ l : List Int, len0 = l.length ∧ len0 ≤ c0 ∧ Go.Proofs.YtkjkcmcfbnamaaaW.PrintWords.Kd.C (Go.Proofs.YtkjkcmcfbnamaaaW.PrintWords.Kd.int .i64) W A0 len0 l ∧ ∀ z ∈ l, (Lit.int .i64 z).wf = true := by
    obtain ⟨fuel, hf⟩ := h0
    exact slice_C (Go.Proofs.YtkjkcmcfbnamaaaW.PrintWords.Kd.int .i64) (fun z => (Lit.int .i64 z).wf = true) Try.underlying22 (by kernel_rfl) elem_3 hf
  subst hl0
  obtain ⟨a1, rfl, rfl, rfl, w1⟩ := open_int Try.underlying3 (hval 1 3 v1 rfl rfl) h1
  clear hA0 hval0 hsz0 hsz
  refine (POctetParts.kissgatelaw01_OctetParts.walk Pure.OctetParts A0 c0 l0 a1 W hr0 hc0 hw0 w1).mono fun e W' ⟨he, bel⟩ => ?_
  subst he
  exact ⟨_, rfl, _, _, _, [], _, [], hW', trodAll_mk1 (shut_bool Try.underlying4 _), (trodAll_cons_mk (Below.trod laidOut (by kernel_rfl) (of_decide_eq_true (by kernel_rfl)) k0 bel lt0) (trodAll_cons_mk (shut_int Try.underlying3 w1) trodAll_mk0)), rfl, bel.frame _, fun h => by cases h⟩
theorem over : Rows.octetPartsRow.holds Try.pinned (OpenSpec.ofChange Rows.octetPartsSpec) :=
  OpenClaim.holds_of_wide 4 Try.f4 rfl rfl rfl rfl rfl rfl rfl ⟨rfl, rfl, rfl, rfl, rfl⟩ rfl rfl rfl rfl rfl (by kernel_rfl) Try.func4 (by kernel_rfl)
    (of_decide_eq_true (by kernel_rfl)) (by unfold Func.isWrapper; first | (rw [if_pos (by decide +kernel)]; kernel_rfl) | (rw [if_neg (by decide +kernel)]; exact ⟨rfl, rfl⟩))
    (fun os started H enc _ => lifted os started H enc)
theorem proved : Rows.OctetPartsSaid := over
#print axioms proved
end Go.Proofs.Ytkjkcmcfbnamaaa.octetParts
namespace Go.Proofs.Ytkjkcmcfbnamaaa
/-- The row, under a short name, for the claim. -/
theorem octetParts_holds : Rows.OctetPartsSaid := octetParts.proved
end Go.Proofs.Ytkjkcmcfbnamaaa
