-- Written by a program of this session (see NOTES.md), which reads the translation's print; Lean checks it.
import Derived.Test.YtcginknabpgjnaaDoorRows
import Derived.Test.YtcginknabpgjnaaDoorLaid
import Derived.Test.YtcginknabpgjnaaDoorPFrameTagsx8
import Derived.Test.YtcginknabpgjnaaDoorPureFrameTags
import Derived.WalkKit
import Derived.ProofKit
import Derived.OpenShut
import Derived.ShutString
import Derived.ChangeOld
import Derived.Below
import Derived.SizedLaws
import Derived.Carry
import Derived.Deep.Fields
namespace Go.Proofs.YtcginknabpgjnaaDoor.frameTags
open Go.ChangeShapes Go.WideShapes Go.ChangeAt Go.RowKit
open Go.ChangeMaps (open_string shut_string)
set_option linter.unusedVariables false
theorem own : ownKnob Tryd.prog.godebug = none := by kernel_rfl
theorem laidOut : laidOutB Tryd.prog = true := by kernel_rfl
theorem field_of {H : Type} {enc : TypeId × Value → H} {P : Program} {w : World} {base : Nat} {spare : Nat → Bool} {held : Bool} {t : TypeId} {fs : Array Field} {fuel : Nat} {cs : List Value} {x : DataW H × List MemPlace} (hs : P.underlying t = some (.struct fs))
    (h : DataW.trod enc P w base spare held fuel t cs = some x) (j : Nat) (f : Field) (hj : fs[j]? = some f) {m : Nat} (hm : P.cellsOf f.type = m) :
    ∃ (n : Nat) (y : DataW H × List MemPlace), DataW.trod enc P w base spare held n f.type ((cs.drop f.offset).take m) = some y ∧ ∀ z, z ∈ y.1.weights P f.type → z ∈ x.1.weights P t := by
  obtain ⟨ys, n, -, hy, -, hyl, hf⟩ := DataW.trod_struct hs h
  have hjf : j < fs.size := (Array.getElem?_eq_some_iff.1 hj).1
  have hys : ys[j]? = some (ys[j]'(by omega)) := List.getElem?_eq_getElem (by omega)
  have h1 := hf j f hj
  rw [hm, hys] at h1
  refine ⟨n, _, h1, fun z hz => ?_⟩
  subst hy
  simp only [DataW.weights, hs]
  exact DataW.weights_mem_each (by rw [List.getElem?_map, Array.getElem?_toList, hj]; rfl) (by rw [List.getElem?_map, hys]; rfl) z hz
theorem array_7 {cs : Array Value} (h : cs.size = 7) : ∃ c0 c1 c2 c3 c4 c5 c6, cs = #[c0, c1, c2, c3, c4, c5, c6] := by
  obtain ⟨l⟩ := cs
  match l, h with
  | [c0, c1, c2, c3, c4, c5, c6], _ => exact ⟨c0, c1, c2, c3, c4, c5, c6, rfl⟩
set_option maxRecDepth 100000 in
theorem lifted (os : Os) (started : os.Started) (H : Type) (enc : TypeId × Value → H) :
    ReturnsInHanded {} Tryd.checked os 7 .any (fun w args => (Rows.frameTagsSpec.pre enc Tryd.prog Tryd.f7 [] false w args ∧ laidMetH Tryd.prog Laid.laidL w) ∧ sizedMet enc Tryd.prog Tryd.f7 (OpenSpec.ofChange Rows.frameTagsSpec) false w args) (Rows.frameTagsSpec.post enc Tryd.prog Tryd.f7 false true false false) := by
  refine returnsInHanded_of_change_and (C := Tryd.checked) (X := fun w _ => laidMetH Tryd.prog Laid.laidL w) (fun _ _ _ hh h => h.of_heap hh) own started (by kernel_rfl) Tryd.func7
    (ChangeSpec.witness_shaped (enc := enc) (C := Tryd.checked) (os := os) (X := fun w _ => laidMetH Tryd.prog Laid.laidL w) false (World.doorLaid Tryd.prog 400 os) #[.agg #[.int .i64 0, .int .i64 0, .bool false, .int .i64 0, .int .i64 0, .int .i64 0, .string ByteArray.empty], .int .i64 0, .int .i64 0] 8 rfl (World.shaped_of_RefB (by kernel_rfl) (by kernel_rfl)) (by kernel_rfl) (by kernel_rfl) (by kernel_rfl) (Laid.door_met os _)) ?_
  intro W base args ds gs before hval0 hW hcnd hsz0 hL _
  have hG := Laid.of_laid hL
  have hsz : (DataW.weightsEach Tryd.prog (Tryd.f7.params.toList ++ Rows.frameTagsSpec.plain.varTypes Tryd.prog) (ds ++ gs)).all (· ≤ reachBytes) = true := hsz0
  have hval : ∀ (j : Nat) t v, Tryd.f7.params[j]? = some t → args[j]? = some v → Value.okWide Tryd.prog W .any base t v := hval0
  have hW' := hW
  obtain ⟨p, q, hA0, hV, rfl, hfz, hnd⟩ := hW
  have hA : DataW.TrodAll enc Tryd.prog W 0 (fun _ => true) true Tryd.f7.params.toList args.toList ds p := hA0
  rw [Tryd.params7] at hA hval hsz
  obtain ⟨v0, vs0, d0, ds0, p0, q0, hargs, rfl, rfl, h0, r0⟩ := trodAll_cons hA
  obtain ⟨v1, vs1, d1, ds1, p1, q1, rfl, rfl, rfl, h1, r1⟩ := trodAll_cons r0
  obtain ⟨v2, vs2, d2, ds2, p2, q2, rfl, rfl, rfl, h2, r2⟩ := trodAll_cons r1
  obtain ⟨rfl, rfl, rfl⟩ := trodAll_nil r2
  obtain rfl : args = #[v0, v1, v2] := by cases args; simp_all
  obtain ⟨rfl, rfl⟩ := trodVars_none hV
  have k0 := h0
  have lt0 : ∀ x ∈ p0, x.block < W.heap.size := by obtain ⟨m, hm⟩ := k0; exact DataW.trod_lt m _ _ _ hm
  obtain ⟨cs0, rfl, hcs0⟩ := okWide_struct Tryd.underlying23 (hval 0 23 v0 rfl rfl)
  obtain ⟨c0_0, c0_1, c0_2, c0_3, c0_4, c0_5, c0_6, rfl⟩ := array_7 (hcs0.trans (by kernel_rfl))
  obtain ⟨fu0, ht0⟩ := h0
  have hm0 : ∀ z, z ∈ d0.weights Tryd.prog 23 → z ≤ 140737488351232 := fun z hz => of_decide_eq_true (List.all_eq_true.1 hsz _ (DataW.weights_mem_each (j := 0) rfl rfl z hz))
  obtain ⟨n0f_0, y0f_0, hf0f_0, hn0f_0⟩ := field_of Tryd.underlying23 ht0 0 _ rfl (m := 1) (by kernel_rfl)
  obtain ⟨a0_0, he0f_0, hz0f_0, w0_0⟩ := DataW.trod_int Tryd.underlying3 (show DataW.trod enc Tryd.prog W 0 (fun _ => true) true n0f_0 3 [c0_0] = some y0f_0 from hf0f_0)
  obtain rfl : c0_0 = _ := (List.cons.inj he0f_0).1
  obtain ⟨n0f_1, y0f_1, hf0f_1, hn0f_1⟩ := field_of Tryd.underlying23 ht0 1 _ rfl (m := 1) (by kernel_rfl)
  obtain ⟨a0_1, he0f_1, hz0f_1, w0_1⟩ := DataW.trod_int Tryd.underlying3 (show DataW.trod enc Tryd.prog W 0 (fun _ => true) true n0f_1 3 [c0_1] = some y0f_1 from hf0f_1)
  obtain rfl : c0_1 = _ := (List.cons.inj he0f_1).1
  obtain ⟨n0f_2, y0f_2, hf0f_2, hn0f_2⟩ := field_of Tryd.underlying23 ht0 2 _ rfl (m := 1) (by kernel_rfl)
  obtain ⟨a0_2, he0f_2, hz0f_2⟩ := DataW.trod_bool Tryd.underlying4 (show DataW.trod enc Tryd.prog W 0 (fun _ => true) true n0f_2 4 [c0_2] = some y0f_2 from hf0f_2)
  obtain rfl : c0_2 = _ := (List.cons.inj he0f_2).1
  obtain ⟨n0f_3, y0f_3, hf0f_3, hn0f_3⟩ := field_of Tryd.underlying23 ht0 3 _ rfl (m := 1) (by kernel_rfl)
  obtain ⟨a0_3, he0f_3, hz0f_3, w0_3⟩ := DataW.trod_int Tryd.underlying3 (show DataW.trod enc Tryd.prog W 0 (fun _ => true) true n0f_3 3 [c0_3] = some y0f_3 from hf0f_3)
  obtain rfl : c0_3 = _ := (List.cons.inj he0f_3).1
  obtain ⟨n0f_4, y0f_4, hf0f_4, hn0f_4⟩ := field_of Tryd.underlying23 ht0 4 _ rfl (m := 1) (by kernel_rfl)
  obtain ⟨a0_4, he0f_4, hz0f_4, w0_4⟩ := DataW.trod_int Tryd.underlying3 (show DataW.trod enc Tryd.prog W 0 (fun _ => true) true n0f_4 3 [c0_4] = some y0f_4 from hf0f_4)
  obtain rfl : c0_4 = _ := (List.cons.inj he0f_4).1
  obtain ⟨n0f_5, y0f_5, hf0f_5, hn0f_5⟩ := field_of Tryd.underlying23 ht0 5 _ rfl (m := 1) (by kernel_rfl)
  obtain ⟨a0_5, he0f_5, hz0f_5, w0_5⟩ := DataW.trod_int Tryd.underlying3 (show DataW.trod enc Tryd.prog W 0 (fun _ => true) true n0f_5 3 [c0_5] = some y0f_5 from hf0f_5)
  obtain rfl : c0_5 = _ := (List.cons.inj he0f_5).1
  obtain ⟨n0f_6, y0f_6, hf0f_6, hn0f_6⟩ := field_of Tryd.underlying23 ht0 6 _ rfl (m := 1) (by kernel_rfl)
  obtain ⟨a0_6, he0f_6, hz0f_6, hw0f_6⟩ := DataW.trod_string Tryd.underlying9 (show DataW.trod enc Tryd.prog W 0 (fun _ => true) true n0f_6 9 [c0_6] = some y0f_6 from hf0f_6)
  have w0_6 : a0_6.size ≤ 140737488351232 := by
    have z := hm0 a0_6.data.toList.length (hn0f_6 _ (by rw [hz0f_6]; simp [DataW.weights]))
    rw [Array.length_toList] at z
    exact z
  obtain rfl : c0_6 = _ := (List.cons.inj he0f_6).1
  obtain ⟨a1, rfl, rfl, rfl, w1⟩ := open_int Tryd.underlying3 (hval 1 3 v1 rfl rfl) h1
  obtain ⟨a2, rfl, rfl, rfl, w2⟩ := open_int Tryd.underlying3 (hval 2 3 v2 rfl rfl) h2
  clear hA0 hval0 hsz0 hsz
  refine (PFrameTags.kissgatelaw05_FrameTags.walk Pure.FrameTags a0_0 a0_1 a0_2 a0_3 a0_4 a0_5 a0_6 a1 a2 W w0_0 w0_1 w0_3 w0_4 w0_5 w0_6 w1 w2 hG).mono fun e W' ⟨he, bel⟩ => ?_
  subst he
  exact ⟨_, rfl, _, _, _, [], _, [], hW', trodAll_mk1 (shut_bool Tryd.underlying4 _), (trodAll_cons_mk (Below.trod laidOut (by kernel_rfl) (of_decide_eq_true (by kernel_rfl)) k0 bel lt0) (trodAll_cons_mk (shut_int Tryd.underlying3 w1) (trodAll_cons_mk (shut_int Tryd.underlying3 w2) trodAll_mk0))), rfl, bel.frame _, fun h => by cases h⟩
theorem over : Rows.frameTagsRow.holds Tryd.pinned (OpenSpec.ofChange Rows.frameTagsSpec) :=
  OpenClaim.holds_of_wide 7 Tryd.f7 rfl rfl rfl rfl rfl rfl rfl ⟨rfl, rfl, rfl, rfl, rfl⟩ rfl rfl rfl rfl rfl (by kernel_rfl) Tryd.func7 (by kernel_rfl)
    (of_decide_eq_true (by kernel_rfl)) (by unfold Func.isWrapper; first | (rw [if_pos (by decide +kernel)]; kernel_rfl) | (rw [if_neg (by decide +kernel)]; exact ⟨rfl, rfl⟩))
    (fun os started H enc _ => lifted os started H enc)
theorem proved : Rows.FrameTagsCardSaid :=
  Claim7.holds_tied_plain_at .later [] [.data] true (true, "c16a9398399c487479e7a12ee323d9ae9d8d89483d90930419c7a271dc758783") false
    over (fun _ h => by cases h) (by kernel_rfl) (fun _ h => by cases h) frameTags_row_tie rfl ⟨rfl, rfl⟩ (by kernel_rfl) rfl
    (fun f fn hf hfn => by
      obtain rfl : f = 7 := Option.some.inj ((show Tryd.prog.funcNamed "kissgate/kissgatelaw05.FrameTags" = some 7 by kernel_rfl).symm.trans hf) |>.symm
      obtain rfl : fn = Tryd.f7 := (Option.some.inj (Tryd.func7.symm.trans hfn)).symm
      exact ⟨by kernel_rfl, fun j t ht => by
        rw [Tryd.params7] at ht
        have hm : t ∈ [23,3,3] := by simpa using Array.mem_of_getElem? ht
        have hall : ([23,3,3].all fun u => !Tryd.prog.wantsStandIn u) = true := by kernel_rfl
        exact (show Tryd.prog.wantsStandIn t = false by simpa using List.all_eq_true.1 hall t hm)⟩)
    (by kernel_rfl)
#print axioms proved
end Go.Proofs.YtcginknabpgjnaaDoor.frameTags
namespace Go.Proofs.YtcginknabpgjnaaDoor
/-- The row, under a short name, for the claim. -/
theorem frameTags_holds : Rows.FrameTagsCardSaid := frameTags.proved
end Go.Proofs.YtcginknabpgjnaaDoor
