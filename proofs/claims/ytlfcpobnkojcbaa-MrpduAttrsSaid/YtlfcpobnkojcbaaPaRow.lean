-- Written by a program of this session (see NOTES.md), which reads the translation's print; Lean checks it.
import Derived.Test.YtlfcpobnkojcbaaRows
import Derived.Test.YtlfcpobnkojcbaaPa4
import Derived.WalkKit
import Derived.Deep.Slices
import Derived.ProofKit
import Derived.OpenShut
import Derived.ShutString
import Derived.ChangeOld
import Derived.Below
import Derived.SizedLaws
import Derived.Carry
import Derived.Deep.Fields
namespace Go.Proofs.Ytlfcpobnkojcbaa.mrpduAttrs
open Go.ChangeShapes Go.WideShapes Go.ChangeAt Go.RowKit
open Go.ChangeMaps (open_string shut_string)
set_option linter.unusedVariables false
theorem own : ownKnob Try.prog.godebug = none := by kernel_rfl
theorem laidOut : laidOutB Try.prog = true := by kernel_rfl
theorem field_of {H : Type} {enc : TypeId × Value → H} {P : Program} {w : World} {base : Nat} {spare : Nat → Bool} {held : Bool} {t : TypeId} {fs : Array Field} {fuel : Nat} {cs : List Value} {x : DataW H × List MemPlace} (hs : P.underlying t = some (.struct fs))
    (h : DataW.trod enc P w base spare held fuel t cs = some x) (j : Nat) (f : Field) (hj : fs[j]? = some f) {m : Nat} (hm : P.cellsOf f.type = m) :
    ∃ (n : Nat) (y : DataW H × List MemPlace), DataW.trod enc P w base spare held n f.type ((cs.drop f.offset).take m) = some y ∧ ∀ z, z ∈ y.1.weights P f.type → z ∈ x.1.weights P t := by
  obtain ⟨ys, n, -, hy, -, hyl, hf⟩ := DataW.trod_struct hs h
  have hjf : j < fs.size := (Array.getElem?_eq_some_iff.1 hj).1
  have hys : ys[j]? = some (ys[j]'(by omega)) := List.getElem?_eq_getElem (by omega)
  have h1 := hf j f hj
  rw [hm, hys] at h1
  refine ⟨n, _, h1, fun z hz => ?_⟩
  subst hy
  simp only [DataW.weights, hs]
  exact DataW.weights_mem_each (by rw [List.getElem?_map, Array.getElem?_toList, hj]; rfl) (by rw [List.getElem?_map, hys]; rfl) z hz
theorem array_2 {cs : Array Value} (h : cs.size = 2) : ∃ c0 c1, cs = #[c0, c1] := by
  obtain ⟨l⟩ := cs
  match l, h with
  | [c0, c1], _ => exact ⟨c0, c1, rfl⟩
set_option maxRecDepth 100000 in
theorem lifted (os : Os) (started : os.Started) (H : Type) (enc : TypeId × Value → H) :
    ReturnsInHanded {} Try.checked os 4 .any (Rows.mrpduAttrsSpec.pre6 enc Try.prog Try.f4 Rows.mrpduAttrsRow.domain false) (Rows.mrpduAttrsSpec.post enc Try.prog Try.f4 false true false false) := by
  refine returnsInHanded_of_change_sized (C := Try.checked) own started (by kernel_rfl) Try.func4
    (ChangeSpec.witness6 (enc := enc) (C := Try.checked) false ⟨#[], #[.agg #[.int .i64 0, .int .i64 0], .agg #[.int .i64 0, .int .i64 0]], []⟩ 8 (by kernel_rfl) (by kernel_rfl) (by kernel_rfl) (by kernel_rfl)) ?_
  intro W base args ds gs before hval0 hW hcnd hsz0 _
  have hsz : (DataW.weightsEach Try.prog (Try.f4.params.toList ++ Rows.mrpduAttrsSpec.plain.varTypes Try.prog) (ds ++ gs)).all (· ≤ reachBytes) = true := hsz0
  have hval : ∀ (j : Nat) t v, Try.f4.params[j]? = some t → args[j]? = some v → Value.okWide Try.prog W .any base t v := hval0
  have hW' := hW
  obtain ⟨p, q, hA0, hV, rfl, hfz, hnd⟩ := hW
  have hA : DataW.TrodAll enc Try.prog W 0 (fun _ => true) true Try.f4.params.toList args.toList ds p := hA0
  rw [Try.params4] at hA hval hsz
  obtain ⟨v0, vs0, d0, ds0, p0, q0, hargs, rfl, rfl, h0, r0⟩ := trodAll_cons hA
  obtain ⟨v1, vs1, d1, ds1, p1, q1, rfl, rfl, rfl, h1, r1⟩ := trodAll_cons r0
  obtain ⟨rfl, rfl, rfl⟩ := trodAll_nil r1
  obtain rfl : args = #[v0, v1] := by cases args; simp_all
  obtain ⟨rfl, rfl⟩ := trodVars_none hV
  have k0 := h0
  have lt0 : ∀ x ∈ p0, x.block < W.heap.size := by obtain ⟨m, hm⟩ := k0; exact DataW.trod_lt m _ _ _ hm
  obtain ⟨cs0, rfl, hcs0⟩ := okWide_struct Try.underlying37 (hval 0 37 v0 rfl rfl)
  obtain ⟨c0_0, c0_1, rfl⟩ := array_2 (hcs0.trans (by kernel_rfl))
  obtain ⟨fu0, ht0⟩ := h0
  have hm0 : ∀ z, z ∈ d0.weights Try.prog 37 → z ≤ 140737488351232 := fun z hz => of_decide_eq_true (List.all_eq_true.1 hsz _ (DataW.weights_mem_each (j := 0) rfl rfl z hz))
  obtain ⟨n0f_0, y0f_0, hf0f_0, hn0f_0⟩ := field_of Try.underlying37 ht0 0 _ rfl (m := 1) (by kernel_rfl)
  obtain ⟨a0_0, he0f_0, hz0f_0, w0_0⟩ := DataW.trod_int Try.underlying3 (show DataW.trod enc Try.prog W 0 (fun _ => true) true n0f_0 3 [c0_0] = some y0f_0 from hf0f_0)
  obtain rfl : c0_0 = _ := (List.cons.inj he0f_0).1
  obtain ⟨n0f_1, y0f_1, hf0f_1, hn0f_1⟩ := field_of Try.underlying37 ht0 1 _ rfl (m := 1) (by kernel_rfl)
  obtain ⟨a0_1, he0f_1, hz0f_1, w0_1⟩ := DataW.trod_int Try.underlying3 (show DataW.trod enc Try.prog W 0 (fun _ => true) true n0f_1 3 [c0_1] = some y0f_1 from hf0f_1)
  obtain rfl : c0_1 = _ := (List.cons.inj he0f_1).1
  have k1 := h1
  have lt1 : ∀ x ∈ p1, x.block < W.heap.size := by obtain ⟨m, hm⟩ := k1; exact DataW.trod_lt m _ _ _ hm
  obtain ⟨cs1, rfl, hcs1⟩ := okWide_struct Try.underlying37 (hval 1 37 v1 rfl rfl)
  obtain ⟨c1_0, c1_1, rfl⟩ := array_2 (hcs1.trans (by kernel_rfl))
  obtain ⟨fu1, ht1⟩ := h1
  have hm1 : ∀ z, z ∈ d1.weights Try.prog 37 → z ≤ 140737488351232 := fun z hz => of_decide_eq_true (List.all_eq_true.1 hsz _ (DataW.weights_mem_each (j := 1) rfl rfl z hz))
  obtain ⟨n1f_0, y1f_0, hf1f_0, hn1f_0⟩ := field_of Try.underlying37 ht1 0 _ rfl (m := 1) (by kernel_rfl)
  obtain ⟨a1_0, he1f_0, hz1f_0, w1_0⟩ := DataW.trod_int Try.underlying3 (show DataW.trod enc Try.prog W 0 (fun _ => true) true n1f_0 3 [c1_0] = some y1f_0 from hf1f_0)
  obtain rfl : c1_0 = _ := (List.cons.inj he1f_0).1
  obtain ⟨n1f_1, y1f_1, hf1f_1, hn1f_1⟩ := field_of Try.underlying37 ht1 1 _ rfl (m := 1) (by kernel_rfl)
  obtain ⟨a1_1, he1f_1, hz1f_1, w1_1⟩ := DataW.trod_int Try.underlying3 (show DataW.trod enc Try.prog W 0 (fun _ => true) true n1f_1 3 [c1_1] = some y1f_1 from hf1f_1)
  obtain rfl : c1_1 = _ := (List.cons.inj he1f_1).1
  clear hA0 hval0 hsz0 hsz
  refine (Pm.attrs_holds a0_0 a0_1 a1_0 a1_1 W).mono fun e W' ⟨he, bel⟩ => ?_
  subst he
  exact ⟨_, rfl, _, _, _, [], _, [], hW', trodAll_mk1 (shut_bool Try.underlying4 _), (trodAll_cons_mk (Below.trod laidOut (by kernel_rfl) (of_decide_eq_true (by kernel_rfl)) k0 bel lt0) (trodAll_cons_mk (Below.trod laidOut (by kernel_rfl) (of_decide_eq_true (by kernel_rfl)) k1 bel lt1) trodAll_mk0)), rfl, bel.frame _, fun h => by cases h⟩
theorem over : Rows.mrpduAttrsRow.holds Try.pinned (OpenSpec.ofChange Rows.mrpduAttrsSpec) :=
  OpenClaim.holds_of_wide 4 Try.f4 rfl rfl rfl rfl rfl rfl rfl ⟨rfl, rfl, rfl, rfl, rfl⟩ rfl rfl rfl rfl rfl (by kernel_rfl) Try.func4 (by kernel_rfl)
    (of_decide_eq_true (by kernel_rfl)) (by unfold Func.isWrapper; first | (rw [if_pos (by decide +kernel)]; kernel_rfl) | (rw [if_neg (by decide +kernel)]; exact ⟨rfl, rfl⟩))
    (fun os started H enc _ => lifted os started H enc)
theorem proved : Rows.MrpduAttrsSaid := over
#print axioms proved
end Go.Proofs.Ytlfcpobnkojcbaa.mrpduAttrs
namespace Go.Proofs.Ytlfcpobnkojcbaa
/-- The row, under a short name, for the claim. -/
theorem mrpduAttrs_holds : Rows.MrpduAttrsSaid := mrpduAttrs.proved
end Go.Proofs.Ytlfcpobnkojcbaa
