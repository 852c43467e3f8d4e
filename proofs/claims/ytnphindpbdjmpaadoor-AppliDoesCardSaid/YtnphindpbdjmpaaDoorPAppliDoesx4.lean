-- Written by a program of this session (see NOTES.md), which reads the translation's print; Lean checks it.
import Derived.Test.YtnphindpbdjmpaaDoorPAppliDoesx0
import Derived.Test.YtnphindpbdjmpaaDoorPAppliDoesx1
import Derived.Test.YtnphindpbdjmpaaDoorPAppliDoesx2
import Derived.Test.YtnphindpbdjmpaaDoorPAppliDoesx3
namespace Go.Proofs.YtnphindpbdjmpaaDoor.PAppliDoes
open Go.RowKit Go.Proofs.YtnphindpbdjmpaaDoorW.PrintWords Go.Proofs.YtnphindpbdjmpaaDoorW.PrintLast Go.Proofs.YtnphindpbdjmpaaDoorW.PrintMore
attribute [local go_sem] max2_int min2_int max_two min_two max_three min_three max_four min_four   -- for this text's walks alone
set_option linter.unusedVariables false
set_option linter.unusedSimpArgs false

/-! ### kissgatelaw15_AppliDoes: function 6 -/
theorem all_eq (s b : Int) (hs : 0 ≤ s ∧ s ≤ 4) : appli_App_All.f s b = some (nxA s 2, b) := by
  unfold appli_App_All.f; rw [stepA_eq _ _ _ hs (by decide)]; rfl
theorem again_eq (s b : Int) (hs : 0 ≤ s ∧ s ≤ 4) : appli_App_Again.f s b = some (nxA s 3, b) := by
  unfold appli_App_Again.f; rw [stepA_eq _ _ _ hs (by decide)]; rfl
theorem All_nice {g : Nat} {s b : Int} {w0 w : World} (hI : IsS26 w0 w g s b) (hB : Below w0.heap.size w0 w) (hs : 0 ≤ s ∧ s ≤ 4) :
    Calls Tryd.prog 10 #[.pointer (some ⟨g, 0, none⟩)] w fun e w' => e = .returned (.tuple #[]) ∧ IsS26 w0 w' g (nxA s 2) b ∧ Below w0.heap.size w0 w' ∧ KeepBut w w' g none :=
  appli_App_All.calls g s b _ _ w0 w hI hB (all_eq s b hs)
theorem Again_nice {g : Nat} {s b : Int} {w0 w : World} (hI : IsS26 w0 w g s b) (hB : Below w0.heap.size w0 w) (hs : 0 ≤ s ∧ s ≤ 4) :
    Calls Tryd.prog 11 #[.pointer (some ⟨g, 0, none⟩)] w fun e w' => e = .returned (.tuple #[]) ∧ IsS26 w0 w' g (nxA s 3) b ∧ Below w0.heap.size w0 w' ∧ KeepBut w w' g none :=
  appli_App_Again.calls g s b _ _ w0 w hI hB (again_eq s b hs)
theorem wantS_zero {s bn : Int} {nw : Bool} {wd : Bool} (hv : s ≠ 0 → wd = true) (hw : wd = false) (hb : ¬ 0 ≤ bn) : wantS s bn nw = 0 := by
  have h0 : s = 0 := Classical.byContradiction fun h => by rw [hv h] at hw; cases hw
  unfold wantS
  rw [if_pos (by omega), h0]; rfl
def kissgatelaw15_AppliDoes.Pure : Prop := True
theorem keep_g {w0 W W' : World} {g h : Nat} {f0 f1 : Int} (hI : IsS26 w0 W h f0 f1) (hk : KeepBut W W' g none) (hne : h ≠ g) : IsS26 w0 W' h f0 f1 :=
  ⟨(hk.2 h (IsS26.lt hI) hne (by simp)).trans hI.1, hI.2⟩
theorem keep_h {w0 W W' : World} {g h : Nat} {f0 f1 : Int} (hI : IsS38 w0 W h f0 f1) (hk : KeepBut W W' g none) (hne : h ≠ g) : IsS38 w0 W' h f0 f1 :=
  ⟨(hk.2 h (IsS38.lt hI) hne (by simp)).trans hI.1, hI.2⟩
theorem rwant_eq (s b bn : Int) (nw : Bool) (hs : 0 ≤ s ∧ s ≤ 4) : kissgateref15_App_Want.f s b bn nw = some (wantS s bn nw, wantB b bn) := by
  have h1 : s = 0 ∨ s = 1 ∨ s = 2 ∨ s = 3 ∨ s = 4 := by omega
  unfold kissgateref15_App_Want.f wantS wantB
  by_cases h0 : bn < 0
  · rw [if_pos h0, if_pos h0, if_pos h0, rstepA_eq _ _ _ hs (by decide)]; rfl
  · rw [if_neg h0, if_neg h0, if_neg h0]
    clear hs
    cases nw <;> rcases h1 with rfl | rfl | rfl | rfl | rfl <;> rfl
theorem rdo_eq (s b ev : Int) (hs : 0 ≤ s ∧ s ≤ 4) (he : 0 ≤ ev ∧ ev ≤ 5) : kissgateref15_App_Do.f s b ev = some (nxA s ev, b) := by
  unfold kissgateref15_App_Do.f; rw [rstepA_eq _ _ _ hs he]; rfl
theorem RWant_nice {g : Nat} {s b : Int} {w0 w : World} (hI : IsS38 w0 w g s b) (hB : Below w0.heap.size w0 w) (hs : 0 ≤ s ∧ s ≤ 4) (bn : Int) (nw : Bool) :
    Calls Tryd.prog 15 #[.pointer (some ⟨g, 0, none⟩), .int .i64 bn, .bool nw] w fun e w' => e = .returned (.tuple #[]) ∧ IsS38 w0 w' g (wantS s bn nw) (wantB b bn) ∧ Below w0.heap.size w0 w' ∧ KeepBut w w' g none :=
  kissgateref15_App_Want.calls g s b bn nw _ _ w0 w hI hB (rwant_eq s b bn nw hs)
theorem RDo_nice {g : Nat} {s b : Int} {w0 w : World} (hI : IsS38 w0 w g s b) (hB : Below w0.heap.size w0 w) (hs : 0 ≤ s ∧ s ≤ 4) (ev : Int) (he : 0 ≤ ev ∧ ev ≤ 5) :
    Calls Tryd.prog 16 #[.pointer (some ⟨g, 0, none⟩), .int .i64 ev] w fun e w' => e = .returned (.tuple #[]) ∧ IsS38 w0 w' g (nxA s ev) b ∧ Below w0.heap.size w0 w' ∧ KeepBut w w' g none :=
  kissgateref15_App_Do.calls g s b ev _ _ w0 w hI hB (rdo_eq s b ev hs he)
def spkB (s : Int) : Bool := s == 1 || s == 2 || s == 3
def pendB (s : Int) : Bool := s == 1 || s == 2 || s == 4
theorem says_eq (s : Int) : appli_says.f s = some (spkB s) := by
  unfold appli_says.f spkB
  by_cases h1 : s = 1
  · rw [if_pos h1, h1]; rfl
  · rw [if_neg h1, beq_eq_false_iff_ne.mpr h1]
    by_cases h2 : s = 2
    · rw [if_pos h2, h2]; rfl
    · rw [if_neg h2, beq_eq_false_iff_ne.mpr h2]; rfl
set_option maxHeartbeats 4000000 in
set_option maxRecDepth 100000 in
theorem qState {g : Nat} {s b : Int} {w : World} (h : w.heap[g]? = some (.cells #[.int .i64 s, .int .i64 b] 26 (0, 0))) (hs : 0 ≤ s ∧ s ≤ 4) :
    Calls Tryd.prog 18 #[.pointer (some ⟨g, 0, none⟩)] w fun e w' => e = .returned (.int .i64 s) ∧ ∃ n, w' = w.drewN n := by
  have q0 := (blk_cell h 0).trans (rfl : _ = some (Value.int .i64 s))
  have h2 : s = 0 ∨ s = 1 ∨ s = 2 ∨ s = 3 ∨ s = 4 := by omega
  clear hs h
  rcases h2 with rfl | rfl | rfl | rfl | rfl <;>
    (go_enter Tryd.func18, Tryd.ntmps18
     go_wp2_with fail
     go_ret
     first | exact ⟨rfl, 0, rfl⟩ | exact ⟨rfl, nq, rfl⟩ | exact ⟨rfl, _, rfl⟩)
set_option maxHeartbeats 4000000 in
set_option maxRecDepth 100000 in
theorem qPend {g : Nat} {s b : Int} {w : World} (h : w.heap[g]? = some (.cells #[.int .i64 s, .int .i64 b] 26 (0, 0))) (hs : 0 ≤ s ∧ s ≤ 4) :
    Calls Tryd.prog 13 #[.pointer (some ⟨g, 0, none⟩)] w fun e w' => e = .returned (.bool (pendB s)) ∧ ∃ n, w' = w.drewN n := by
  have q0 := (blk_cell h 0).trans (rfl : _ = some (Value.int .i64 s))
  have h2 : s = 0 ∨ s = 1 ∨ s = 2 ∨ s = 3 ∨ s = 4 := by omega
  clear hs h
  rcases h2 with rfl | rfl | rfl | rfl | rfl <;>
    (go_enter Tryd.func13, Tryd.ntmps13
     go_wp2_with fail
     go_ret
     first | exact ⟨rfl, 0, rfl⟩ | exact ⟨rfl, nq, rfl⟩ | exact ⟨rfl, _, rfl⟩)
set_option maxHeartbeats 4000000 in
set_option maxRecDepth 100000 in
theorem qIdle {g : Nat} {s b : Int} {w : World} (h : w.heap[g]? = some (.cells #[.int .i64 s, .int .i64 b] 26 (0, 0))) (hs : 0 ≤ s ∧ s ≤ 4) :
    Calls Tryd.prog 14 #[.pointer (some ⟨g, 0, none⟩)] w fun e w' => e = .returned (.bool (s == 0)) ∧ ∃ n, w' = w.drewN n := by
  have q0 := (blk_cell h 0).trans (rfl : _ = some (Value.int .i64 s))
  have h2 : s = 0 ∨ s = 1 ∨ s = 2 ∨ s = 3 ∨ s = 4 := by omega
  clear hs h
  rcases h2 with rfl | rfl | rfl | rfl | rfl <;>
    (go_enter Tryd.func14, Tryd.ntmps14
     go_wp2_with fail
     go_ret
     first | exact ⟨rfl, 0, rfl⟩ | exact ⟨rfl, nq, rfl⟩ | exact ⟨rfl, _, rfl⟩)
set_option maxHeartbeats 4000000 in
set_option maxRecDepth 100000 in
theorem qRSpk {g : Nat} {s b : Int} {w : World} (h : w.heap[g]? = some (.cells #[.int .i64 s, .int .i64 b] 38 (0, 0))) (hs : 0 ≤ s ∧ s ≤ 4) :
    Calls Tryd.prog 19 #[.pointer (some ⟨g, 0, none⟩)] w fun e w' => e = .returned (.bool (spkB s)) ∧ ∃ n, w' = w.drewN n := by
  have q0 := (blk_cell h 0).trans (rfl : _ = some (Value.int .i64 s))
  have h2 : s = 0 ∨ s = 1 ∨ s = 2 ∨ s = 3 ∨ s = 4 := by omega
  clear hs h
  rcases h2 with rfl | rfl | rfl | rfl | rfl <;>
    (go_enter Tryd.func19, Tryd.ntmps19
     go_wp2_with fail
     go_ret
     first | exact ⟨rfl, 0, rfl⟩ | exact ⟨rfl, nq, rfl⟩ | exact ⟨rfl, _, rfl⟩)
set_option maxHeartbeats 4000000 in
set_option maxRecDepth 100000 in
theorem qSpk {g : Nat} {s b : Int} {w : World} (h : w.heap[g]? = some (.cells #[.int .i64 s, .int .i64 b] 26 (0, 0))) (hs : 0 ≤ s ∧ s ≤ 4) :
    Calls Tryd.prog 12 #[.pointer (some ⟨g, 0, none⟩)] w fun e w' => e = .returned (.bool (spkB s)) ∧ ∃ n, w' = w.drewN n := by
  have q0 := (blk_cell h 0).trans (rfl : _ = some (Value.int .i64 s))
  have h2 : s = 0 ∨ s = 1 ∨ s = 2 ∨ s = 3 ∨ s = 4 := by omega
  clear hs h
  rcases h2 with rfl | rfl | rfl | rfl | rfl <;>
    (go_enter Tryd.func12, Tryd.ntmps12
     go_wp2_with fail
     go_at_call 21
     refine (appli_says.calls _ _ w (says_eq _)).mono ?_
     rintro e w1 ⟨rfl, ⟨⟨n1, rfl⟩⟩⟩
     go_wp2_with fail
     go_ret
     first | exact ⟨rfl, 0, rfl⟩ | exact ⟨rfl, nq, rfl⟩ | exact ⟨rfl, _, rfl⟩)
theorem nil_Want (w : World) : Calls Tryd.prog 8 #[.pointer none, .int .i64 1, .bool true] w fun e w' => e = .returned (.tuple #[]) ∧ Drawn0 w w' := by
  go_enter Tryd.func8, Tryd.ntmps8
  go_wp2_with fail
  go_end0
  exact ⟨rfl, Drawn0.refl _⟩
theorem nil_All (w : World) : Calls Tryd.prog 10 #[.pointer none] w fun e w' => e = .returned (.tuple #[]) ∧ Drawn0 w w' := by
  go_enter Tryd.func10, Tryd.ntmps10
  go_wp2_with fail
  go_end0
  exact ⟨rfl, Drawn0.refl _⟩
theorem nil_Again (w : World) : Calls Tryd.prog 11 #[.pointer none] w fun e w' => e = .returned (.tuple #[]) ∧ Drawn0 w w' := by
  go_enter Tryd.func11, Tryd.ntmps11
  go_wp2_with fail
  go_end0
  exact ⟨rfl, Drawn0.refl _⟩
theorem nil_Say (w : World) : Calls Tryd.prog 9 #[.pointer none] w fun e w' => e = .returned (.tuple #[.int .i64 0, .int .i64 0, .bool false]) ∧ Drawn0 w w' := by
  go_enter Tryd.func9, Tryd.ntmps9
  go_wp2_with fail
  go_ret3
  exact ⟨rfl, Drawn0.refl _⟩
theorem nil_Speaks (w : World) : Calls Tryd.prog 12 #[.pointer none] w fun e w' => e = .returned (.bool false) ∧ Drawn0 w w' := by
  go_enter Tryd.func12, Tryd.ntmps12
  go_wp2_with fail
  go_ret
  exact ⟨rfl, Drawn0.refl _⟩
theorem nil_Pending (w : World) : Calls Tryd.prog 13 #[.pointer none] w fun e w' => e = .returned (.bool false) ∧ Drawn0 w w' := by
  go_enter Tryd.func13, Tryd.ntmps13
  go_wp2_with fail
  go_ret
  exact ⟨rfl, Drawn0.refl _⟩
theorem nil_State (w : World) : Calls Tryd.prog 18 #[.pointer none] w fun e w' => e = .returned (.int .i64 0) ∧ Drawn0 w w' := by
  go_enter Tryd.func18, Tryd.ntmps18
  go_wp2_with fail
  go_ret
  exact ⟨rfl, Drawn0.refl _⟩
theorem nil_Idle (w : World) : Calls Tryd.prog 14 #[.pointer none] w fun e w' => e = .returned (.bool true) ∧ Drawn0 w w' := by
  go_enter Tryd.func14, Tryd.ntmps14
  go_wp2_with fail
  go_ret
  exact ⟨rfl, Drawn0.refl _⟩
set_option maxHeartbeats 8000000 in
set_option maxRecDepth 100000 in
theorem kissgatelaw15_AppliDoes.walk (P : kissgatelaw15_AppliDoes.Pure) (A0 : Option Addr) (c0 : Nat) (l0 : List S33) (w : World) (hr0 : Kd.C k33 w A0 l0.length l0) (hc0 : l0.length ≤ c0) (hw0 : ∀ z ∈ l0, (Lit.int .i64 z.f0).wf = true ∧ (Lit.int .i64 z.f1).wf = true) (hG : LaidG w) :
    Calls Tryd.prog 6 #[.slice A0 l0.length c0] w fun e w' => e = .returned (.bool true) ∧ Below w.heap.size w w' := by
  clear P hw0
  have HR := Aside0.mk hr0
  have HC := Aside0.mk hc0
  have HL := Aside0.mk hG
  have hu := Tryd.underlying26
  have hu38 := Tryd.underlying38
  have hu33 := Tryd.underlying33
  clear hr0 hc0 hG
  go_enter Tryd.func6, Tryd.ntmps6
  go_wp2_with fail
  go_at_call 7
  refine (kissgatelaw15_alive.good w _ HL.out (Below.refl _ _)).mono ?_
  rintro e w1 ⟨rfl, hb⟩
  have HB := Aside0.mk hb
  clear hb
  by_cases c1 : (100 : Int) < (l0.length : Int)
  · have c1b : decide ((100 : Int) < (l0.length : Int)) = true := decide_eq_true c1
    go_wp2_with fail
    go_ret
    exact ⟨rfl, HB.out⟩
  have c1b : decide ((100 : Int) < (l0.length : Int)) = false := decide_eq_false c1
  have HL0 := Aside0.mk (show l0.length ≤ 100 by omega)
  clear c1
  go_upto_block 0 with (fail)
  have HI := Aside0.mk (IsS26.new w w1 0 0 HB.out)
  have HB := Aside0.mk (below_alloc HB.out (.cells #[.int .i64 0, .int .i64 0] 26))
  have HNE := Aside0.mk (show w1.heap.size + 1 ≠ w1.heap.size by omega)
  have hh := IsS38.new w (w1.alloc (.cells #[.int .i64 0, .int .i64 0] 26)) 0 0 HB.out
  rw [show (w1.alloc (.cells #[.int .i64 0, .int .i64 0] 26)).heap.size = w1.heap.size + 1 from Array.size_push _] at hh
  have HH := Aside0.mk hh
  clear hh
  have HI := Aside0.mk (IsS26.alloc HI.out (.cells #[.int .i64 0, .int .i64 0] 38))
  have HB := Aside0.mk (below_alloc HB.out (.cells #[.int .i64 0, .int .i64 0] 38))
  generalize (w1.alloc (.cells #[.int .i64 0, .int .i64 0] 26)).alloc (.cells #[.int .i64 0, .int .i64 0] 38) = W3 at HI HH HB ⊢
  generalize w1.heap.size + 1 = h at HNE HH ⊢
  generalize w1.heap.size = g at HNE HI ⊢
  go_wp2_with fail
  go_loopw [28] (fun v28 wr => ∃ (k : Nat) (s b : Int), k ≤ l0.length ∧ v28 = .int .i64 (k : Nat) ∧ Aside0 (0 ≤ s ∧ s ≤ 4) ∧ Aside0 (IsS26 w wr g s b) ∧ Aside0 (IsS38 w wr h s b) ∧ Aside0 (Below w.heap.size w wr)) (fun v28 _ => l0.length - (intOf v28).toNat)
  case atStart => exact ⟨0, 0, 0, Nat.zero_le _, rfl, ⟨by decide⟩, HI, HH, HB⟩
  case round =>
    clear HI HH HB c1b
    obtain ⟨k, s, b, hk, rfl, HS, HI, HH, HB⟩ := hrel
    by_cases hlt : (k : Int) < (l0.length : Int)
    · have hltn : decide (k < l0.length) = true := decide_eq_true (by omega)
      have HK := Aside0.mk (show k < l0.length by omega)
      have E3 := Aside0.mk (show wrap64 ((k : Int) + 1) = ((k + 1 : Nat) : Int) by have := HK.out; have := HL0.out; unfold wrap64; omega)
      obtain ⟨ad, e0, hx0, hx1, hx2⟩ := at_T33 HR.out (k : Int) (by omega) hlt
      cases e0
      replace hx0 := (HB.out.cell (World.block_lt_of_cell? w _ hx0)).trans hx0
      replace hx1 := (HB.out.cell (World.block_lt_of_cell? w _ hx1)).trans hx1
      replace hx2 := (HB.out.cell (World.block_lt_of_cell? w _ hx2)).trans hx2
      have p0 := eq_true (show 0 ≤ (k : Int) by omega)
      have q0 := eq_true hlt
      generalize rd_T33 l0 (k : Int) = z at hx0 hx1 hx2
      obtain ⟨kd, bn, nw⟩ := z
      replace hx0 : wr.cell? (ad.add (k * 3)) = some (.int .i64 kd) := hx0
      replace hx1 : wr.cell? ⟨(ad.add (k * 3)).block, (ad.add (k * 3)).off + 1, none⟩ = some (.int .i64 bn) := hx1
      replace hx2 : wr.cell? ⟨(ad.add (k * 3)).block, (ad.add (k * 3)).off + 2, none⟩ = some (.bool nw) := hx2
      clear hlt hk
      have HZ := Aside0.mk (heap_alloc_new wr (.cells #[.int .i64 kd, .int .i64 bn, .bool nw] 33))
      have cz0 := (blk_cell HZ.out 0).trans rfl
      have cz1 := (blk_cell HZ.out 1).trans rfl
      have cz2 := (blk_cell HZ.out 2).trans rfl
      go_upto_block 2 with (fail)
      clear cz0 cz1 cz2 hx0 hx1 hx2 p0 q0
      have HBG := Aside0.mk (show wr.heap.size ≠ g from Nat.ne_of_gt (IsS26.lt HI.out))
      have HBH := Aside0.mk (show wr.heap.size ≠ h from Nat.ne_of_gt (IsS38.lt HH.out))
      replace HH := Aside0.mk (IsS38.alloc HH.out (.cells #[.int .i64 kd, .int .i64 bn, .bool nw] 33))
      replace HI := Aside0.mk (IsS26.alloc HI.out (.cells #[.int .i64 kd, .int .i64 bn, .bool nw] 33))
      replace HB := Aside0.mk (below_alloc HB.out (.cells #[.int .i64 kd, .int .i64 bn, .bool nw] 33))
      generalize wr.alloc (.cells #[.int .i64 kd, .int .i64 bn, .bool nw] 33) = W at HZ HI HB HH ⊢
      generalize wr.heap.size = gb at HZ HBG HBH ⊢
      have z1 := (blk_cell HZ.out 1).trans rfl
      have z2 := (blk_cell HZ.out 2).trans rfl
      go_cut [] (fun wc => ∃ (s b : Int), Aside0 (0 ≤ s ∧ s ≤ 4) ∧ Aside0 (IsS26 w wc g s b) ∧ Aside0 (IsS38 w wc h s b) ∧ Aside0 (Below w.heap.size w wc))
      case first => as_aux_lemma =>
        by_cases k0 : kd = 0
        · have k0b : (kd == 0) = true := beq_iff_eq.mpr k0
          clear k0
          have HW := Aside0.mk (wantS_in s bn nw HS.out)
          go_wp2_with fail
          go_at_call 8
          refine (Want_nice HI.out HB.out HS.out bn nw).mono ?_
          rintro e w5 ⟨rfl, hi, hb, hk⟩
          have HZ := Aside0.mk ((hk.2 gb (Array.getElem?_eq_some_iff.1 HZ.out).1 HBG.out (by simp)).trans HZ.out)
          have z1 := (blk_cell HZ.out 1).trans rfl
          have z2 := (blk_cell HZ.out 2).trans rfl
          have HH := Aside0.mk (keep_h HH.out hk HNE.out)
          have HI := Aside0.mk hi
          have HB := Aside0.mk hb
          clear hi hb hk
          go_wp2_with fail
          go_at_call 15
          refine (RWant_nice HH.out HB.out HS.out bn nw).mono ?_
          rintro e w5 ⟨rfl, hi, hb, hk⟩
          have HI := Aside0.mk (keep_g HI.out hk (Ne.symm HNE.out))
          have HH := Aside0.mk hi
          have HB := Aside0.mk hb
          clear hi hb hk
          go_wp2_with fail
          go_meet
          case rel => exact ⟨_, _, HW, HI, HH, HB⟩
        have k0b : (kd == 0) = false := beq_eq_false_iff_ne.mpr k0
        clear k0
        by_cases k1 : kd = 1
        · have k1b : (kd == 1) = true := beq_iff_eq.mpr k1
          clear k1
          go_wp2_with fail
          go_at_call 10
          refine (All_nice HI.out HB.out HS.out).mono ?_
          rintro e w5 ⟨rfl, hi, hb, hk⟩
          have HH := Aside0.mk (keep_h HH.out hk HNE.out)
          have HI := Aside0.mk hi
          have HB := Aside0.mk hb
          clear hi hb hk
          go_wp2_with fail
          go_at_call 16
          refine (RDo_nice HH.out HB.out HS.out 2 (by decide)).mono ?_
          rintro e w5 ⟨rfl, hi, hb, hk⟩
          have HI := Aside0.mk (keep_g HI.out hk (Ne.symm HNE.out))
          have HH := Aside0.mk hi
          have HB := Aside0.mk hb
          clear hi hb hk
          go_wp2_with fail
          go_meet
          case rel => exact ⟨_, _, ⟨nxA_in s 2 HS.out⟩, HI, HH, HB⟩
        have k1b : (kd == 1) = false := beq_eq_false_iff_ne.mpr k1
        clear k1
        by_cases k2 : kd = 2
        · have k2b : (kd == 2) = true := beq_iff_eq.mpr k2
          clear k2
          go_wp2_with fail
          go_at_call 11
          refine (Again_nice HI.out HB.out HS.out).mono ?_
          rintro e w5 ⟨rfl, hi, hb, hk⟩
          have HH := Aside0.mk (keep_h HH.out hk HNE.out)
          have HI := Aside0.mk hi
          have HB := Aside0.mk hb
          clear hi hb hk
          go_wp2_with fail
          go_at_call 16
          refine (RDo_nice HH.out HB.out HS.out 3 (by decide)).mono ?_
          rintro e w5 ⟨rfl, hi, hb, hk⟩
          have HI := Aside0.mk (keep_g HI.out hk (Ne.symm HNE.out))
          have HH := Aside0.mk hi
          have HB := Aside0.mk hb
          clear hi hb hk
          go_wp2_with fail
          go_meet
          case rel => exact ⟨_, _, ⟨nxA_in s 3 HS.out⟩, HI, HH, HB⟩
        have k2b : (kd == 2) = false := beq_eq_false_iff_ne.mpr k2
        clear k2
        by_cases k3 : kd = 3
        · have k3b : (kd == 3) = true := beq_iff_eq.mpr k3
          clear k3
          obtain ⟨se, hse⟩ : ∃ se, sayE s = se := ⟨_, rfl⟩
          obtain ⟨sb, hsb⟩ : ∃ sb, sayB s b = sb := ⟨_, rfl⟩
          obtain ⟨si, hsi⟩ : ∃ si, sayIs s = si := ⟨_, rfl⟩
          have HM := Aside0.mk (And.intro hse (And.intro hsb hsi))
          clear hse hsb hsi
          go_wp2_with fail
          go_at_call 9
          refine (Say_nice HL.out HI.out HB.out HS.out).mono ?_
          rw [HM.out.1, HM.out.2.1, HM.out.2.2]
          rintro e w5 ⟨rfl, hi, hb, hk⟩
          have HH := Aside0.mk (keep_h HH.out hk HNE.out)
          have HI := Aside0.mk hi
          have HB := Aside0.mk hb
          clear hi hb hk
          go_wp2_with fail
          go_at_call 17
          refine (RSay_nice HH.out HB.out HS.out).mono ?_
          rw [HM.out.1, HM.out.2.1, HM.out.2.2]
          rintro e w5 ⟨rfl, hi, hb, hk⟩
          have HI := Aside0.mk (keep_g HI.out hk (Ne.symm HNE.out))
          have HH := Aside0.mk hi
          have HB := Aside0.mk hb
          clear hi hb hk
          go_wp2_with fail
          go_meet
          case rel => exact ⟨_, _, ⟨nxA_in s 4 HS.out⟩, HI, HH, HB⟩
        have k3b : (kd == 3) = false := beq_eq_false_iff_ne.mpr k3
        clear k3
        go_wp2_with fail
        go_meet
        case rel => exact ⟨s, b, HS, HI, HH, HB⟩
      case rest =>
        clear HI HH HB HS
        obtain ⟨s, b, HS, HI, HH, HB⟩ := hcut
        have hs5 : s = 0 ∨ s = 1 ∨ s = 2 ∨ s = 3 ∨ s = 4 := by have := HS.out; omega
        rcases hs5 with rfl | rfl | rfl | rfl | rfl
        · as_aux_lemma =>
          have Qst := Aside0.mk (show ∀ W : World, W.heap[g]? = some (.cells #[.int .i64 0, .int .i64 b] 26 (0, 0)) → Calls Tryd.prog 18 #[.pointer (some ⟨g, 0, none⟩)] W fun e w' => e = .returned (.int .i64 0) ∧ ∃ n, w' = W.drewN n from fun W hW => qState hW HS.out)
          have Qsp := Aside0.mk (show ∀ W : World, W.heap[g]? = some (.cells #[.int .i64 0, .int .i64 b] 26 (0, 0)) → Calls Tryd.prog 12 #[.pointer (some ⟨g, 0, none⟩)] W fun e w' => e = .returned (.bool false) ∧ ∃ n, w' = W.drewN n from fun W hW => qSpk hW HS.out)
          have Rsp := Aside0.mk (show ∀ W : World, W.heap[h]? = some (.cells #[.int .i64 0, .int .i64 b] 38 (0, 0)) → Calls Tryd.prog 19 #[.pointer (some ⟨h, 0, none⟩)] W fun e w' => e = .returned (.bool false) ∧ ∃ n, w' = W.drewN n from fun W hW => qRSpk hW HS.out)
          have Qpe := Aside0.mk (show ∀ W : World, W.heap[g]? = some (.cells #[.int .i64 0, .int .i64 b] 26 (0, 0)) → Calls Tryd.prog 13 #[.pointer (some ⟨g, 0, none⟩)] W fun e w' => e = .returned (.bool false) ∧ ∃ n, w' = W.drewN n from fun W hW => qPend hW HS.out)
          have Qid := Aside0.mk (show ∀ W : World, W.heap[g]? = some (.cells #[.int .i64 0, .int .i64 b] 26 (0, 0)) → Calls Tryd.prog 14 #[.pointer (some ⟨g, 0, none⟩)] W fun e w' => e = .returned (.bool true) ∧ ∃ n, w' = W.drewN n from fun W hW => qIdle hW HS.out)
          have q0 := (blk_cell HH.out.1 0).trans (rfl : _ = some (Value.int .i64 0))
          go_wp2_with fail
          go_quiet (first | (go_at_call 18; exact Calls.quiet_of (Qst.out _ HI.out.1)) | (go_at_call 12; exact Calls.quiet_of (Qsp.out _ HI.out.1)) | (go_at_call 19; exact Calls.quiet_of (Rsp.out _ HH.out.1)) | (go_at_call 13; exact Calls.quiet_of (Qpe.out _ HI.out.1)) | (go_at_call 14; exact Calls.quiet_of (Qid.out _ HI.out.1)))
          go_wp2_with fail
          rw [E3.out]
          first
            | (go_roundw; case rel => exact ⟨k + 1, _, b, HK.out, by first | rfl | rw [E3.out], HS, ⟨IsS26.drewN HI.out _⟩, ⟨IsS38.drewN HH.out _⟩, ⟨below_step HB.out (Drawn0.below ⟨⟨_, rfl⟩⟩)⟩⟩)
            | (refine ⟨?_, ?measure⟩; exact ⟨k + 1, _, b, HK.out, by first | rfl | rw [E3.out], HS, ⟨IsS26.drewN HI.out _⟩, ⟨IsS38.drewN HH.out _⟩, ⟨below_step HB.out (Drawn0.below ⟨⟨_, rfl⟩⟩)⟩⟩)
          case measure => have := HK.out; simp [intOf]; omega
        · as_aux_lemma =>
          have Qst := Aside0.mk (show ∀ W : World, W.heap[g]? = some (.cells #[.int .i64 1, .int .i64 b] 26 (0, 0)) → Calls Tryd.prog 18 #[.pointer (some ⟨g, 0, none⟩)] W fun e w' => e = .returned (.int .i64 1) ∧ ∃ n, w' = W.drewN n from fun W hW => qState hW HS.out)
          have Qsp := Aside0.mk (show ∀ W : World, W.heap[g]? = some (.cells #[.int .i64 1, .int .i64 b] 26 (0, 0)) → Calls Tryd.prog 12 #[.pointer (some ⟨g, 0, none⟩)] W fun e w' => e = .returned (.bool true) ∧ ∃ n, w' = W.drewN n from fun W hW => qSpk hW HS.out)
          have Rsp := Aside0.mk (show ∀ W : World, W.heap[h]? = some (.cells #[.int .i64 1, .int .i64 b] 38 (0, 0)) → Calls Tryd.prog 19 #[.pointer (some ⟨h, 0, none⟩)] W fun e w' => e = .returned (.bool true) ∧ ∃ n, w' = W.drewN n from fun W hW => qRSpk hW HS.out)
          have Qpe := Aside0.mk (show ∀ W : World, W.heap[g]? = some (.cells #[.int .i64 1, .int .i64 b] 26 (0, 0)) → Calls Tryd.prog 13 #[.pointer (some ⟨g, 0, none⟩)] W fun e w' => e = .returned (.bool true) ∧ ∃ n, w' = W.drewN n from fun W hW => qPend hW HS.out)
          have Qid := Aside0.mk (show ∀ W : World, W.heap[g]? = some (.cells #[.int .i64 1, .int .i64 b] 26 (0, 0)) → Calls Tryd.prog 14 #[.pointer (some ⟨g, 0, none⟩)] W fun e w' => e = .returned (.bool false) ∧ ∃ n, w' = W.drewN n from fun W hW => qIdle hW HS.out)
          have q0 := (blk_cell HH.out.1 0).trans (rfl : _ = some (Value.int .i64 1))
          go_wp2_with fail
          go_quiet (first | (go_at_call 18; exact Calls.quiet_of (Qst.out _ HI.out.1)) | (go_at_call 12; exact Calls.quiet_of (Qsp.out _ HI.out.1)) | (go_at_call 19; exact Calls.quiet_of (Rsp.out _ HH.out.1)) | (go_at_call 13; exact Calls.quiet_of (Qpe.out _ HI.out.1)) | (go_at_call 14; exact Calls.quiet_of (Qid.out _ HI.out.1)))
          go_wp2_with fail
          rw [E3.out]
          first
            | (go_roundw; case rel => exact ⟨k + 1, _, b, HK.out, by first | rfl | rw [E3.out], HS, ⟨IsS26.drewN HI.out _⟩, ⟨IsS38.drewN HH.out _⟩, ⟨below_step HB.out (Drawn0.below ⟨⟨_, rfl⟩⟩)⟩⟩)
            | (refine ⟨?_, ?measure⟩; exact ⟨k + 1, _, b, HK.out, by first | rfl | rw [E3.out], HS, ⟨IsS26.drewN HI.out _⟩, ⟨IsS38.drewN HH.out _⟩, ⟨below_step HB.out (Drawn0.below ⟨⟨_, rfl⟩⟩)⟩⟩)
          case measure => have := HK.out; simp [intOf]; omega
        · as_aux_lemma =>
          have Qst := Aside0.mk (show ∀ W : World, W.heap[g]? = some (.cells #[.int .i64 2, .int .i64 b] 26 (0, 0)) → Calls Tryd.prog 18 #[.pointer (some ⟨g, 0, none⟩)] W fun e w' => e = .returned (.int .i64 2) ∧ ∃ n, w' = W.drewN n from fun W hW => qState hW HS.out)
          have Qsp := Aside0.mk (show ∀ W : World, W.heap[g]? = some (.cells #[.int .i64 2, .int .i64 b] 26 (0, 0)) → Calls Tryd.prog 12 #[.pointer (some ⟨g, 0, none⟩)] W fun e w' => e = .returned (.bool true) ∧ ∃ n, w' = W.drewN n from fun W hW => qSpk hW HS.out)
          have Rsp := Aside0.mk (show ∀ W : World, W.heap[h]? = some (.cells #[.int .i64 2, .int .i64 b] 38 (0, 0)) → Calls Tryd.prog 19 #[.pointer (some ⟨h, 0, none⟩)] W fun e w' => e = .returned (.bool true) ∧ ∃ n, w' = W.drewN n from fun W hW => qRSpk hW HS.out)
          have Qpe := Aside0.mk (show ∀ W : World, W.heap[g]? = some (.cells #[.int .i64 2, .int .i64 b] 26 (0, 0)) → Calls Tryd.prog 13 #[.pointer (some ⟨g, 0, none⟩)] W fun e w' => e = .returned (.bool true) ∧ ∃ n, w' = W.drewN n from fun W hW => qPend hW HS.out)
          have Qid := Aside0.mk (show ∀ W : World, W.heap[g]? = some (.cells #[.int .i64 2, .int .i64 b] 26 (0, 0)) → Calls Tryd.prog 14 #[.pointer (some ⟨g, 0, none⟩)] W fun e w' => e = .returned (.bool false) ∧ ∃ n, w' = W.drewN n from fun W hW => qIdle hW HS.out)
          have q0 := (blk_cell HH.out.1 0).trans (rfl : _ = some (Value.int .i64 2))
          go_wp2_with fail
          go_quiet (first | (go_at_call 18; exact Calls.quiet_of (Qst.out _ HI.out.1)) | (go_at_call 12; exact Calls.quiet_of (Qsp.out _ HI.out.1)) | (go_at_call 19; exact Calls.quiet_of (Rsp.out _ HH.out.1)) | (go_at_call 13; exact Calls.quiet_of (Qpe.out _ HI.out.1)) | (go_at_call 14; exact Calls.quiet_of (Qid.out _ HI.out.1)))
          go_wp2_with fail
          rw [E3.out]
          first
            | (go_roundw; case rel => exact ⟨k + 1, _, b, HK.out, by first | rfl | rw [E3.out], HS, ⟨IsS26.drewN HI.out _⟩, ⟨IsS38.drewN HH.out _⟩, ⟨below_step HB.out (Drawn0.below ⟨⟨_, rfl⟩⟩)⟩⟩)
            | (refine ⟨?_, ?measure⟩; exact ⟨k + 1, _, b, HK.out, by first | rfl | rw [E3.out], HS, ⟨IsS26.drewN HI.out _⟩, ⟨IsS38.drewN HH.out _⟩, ⟨below_step HB.out (Drawn0.below ⟨⟨_, rfl⟩⟩)⟩⟩)
          case measure => have := HK.out; simp [intOf]; omega
        · as_aux_lemma =>
          have Qst := Aside0.mk (show ∀ W : World, W.heap[g]? = some (.cells #[.int .i64 3, .int .i64 b] 26 (0, 0)) → Calls Tryd.prog 18 #[.pointer (some ⟨g, 0, none⟩)] W fun e w' => e = .returned (.int .i64 3) ∧ ∃ n, w' = W.drewN n from fun W hW => qState hW HS.out)
          have Qsp := Aside0.mk (show ∀ W : World, W.heap[g]? = some (.cells #[.int .i64 3, .int .i64 b] 26 (0, 0)) → Calls Tryd.prog 12 #[.pointer (some ⟨g, 0, none⟩)] W fun e w' => e = .returned (.bool true) ∧ ∃ n, w' = W.drewN n from fun W hW => qSpk hW HS.out)
          have Rsp := Aside0.mk (show ∀ W : World, W.heap[h]? = some (.cells #[.int .i64 3, .int .i64 b] 38 (0, 0)) → Calls Tryd.prog 19 #[.pointer (some ⟨h, 0, none⟩)] W fun e w' => e = .returned (.bool true) ∧ ∃ n, w' = W.drewN n from fun W hW => qRSpk hW HS.out)
          have Qpe := Aside0.mk (show ∀ W : World, W.heap[g]? = some (.cells #[.int .i64 3, .int .i64 b] 26 (0, 0)) → Calls Tryd.prog 13 #[.pointer (some ⟨g, 0, none⟩)] W fun e w' => e = .returned (.bool false) ∧ ∃ n, w' = W.drewN n from fun W hW => qPend hW HS.out)
          have Qid := Aside0.mk (show ∀ W : World, W.heap[g]? = some (.cells #[.int .i64 3, .int .i64 b] 26 (0, 0)) → Calls Tryd.prog 14 #[.pointer (some ⟨g, 0, none⟩)] W fun e w' => e = .returned (.bool false) ∧ ∃ n, w' = W.drewN n from fun W hW => qIdle hW HS.out)
          have q0 := (blk_cell HH.out.1 0).trans (rfl : _ = some (Value.int .i64 3))
          go_wp2_with fail
          go_quiet (first | (go_at_call 18; exact Calls.quiet_of (Qst.out _ HI.out.1)) | (go_at_call 12; exact Calls.quiet_of (Qsp.out _ HI.out.1)) | (go_at_call 19; exact Calls.quiet_of (Rsp.out _ HH.out.1)) | (go_at_call 13; exact Calls.quiet_of (Qpe.out _ HI.out.1)) | (go_at_call 14; exact Calls.quiet_of (Qid.out _ HI.out.1)))
          go_wp2_with fail
          rw [E3.out]
          first
            | (go_roundw; case rel => exact ⟨k + 1, _, b, HK.out, by first | rfl | rw [E3.out], HS, ⟨IsS26.drewN HI.out _⟩, ⟨IsS38.drewN HH.out _⟩, ⟨below_step HB.out (Drawn0.below ⟨⟨_, rfl⟩⟩)⟩⟩)
            | (refine ⟨?_, ?measure⟩; exact ⟨k + 1, _, b, HK.out, by first | rfl | rw [E3.out], HS, ⟨IsS26.drewN HI.out _⟩, ⟨IsS38.drewN HH.out _⟩, ⟨below_step HB.out (Drawn0.below ⟨⟨_, rfl⟩⟩)⟩⟩)
          case measure => have := HK.out; simp [intOf]; omega
        · as_aux_lemma =>
          have Qst := Aside0.mk (show ∀ W : World, W.heap[g]? = some (.cells #[.int .i64 4, .int .i64 b] 26 (0, 0)) → Calls Tryd.prog 18 #[.pointer (some ⟨g, 0, none⟩)] W fun e w' => e = .returned (.int .i64 4) ∧ ∃ n, w' = W.drewN n from fun W hW => qState hW HS.out)
          have Qsp := Aside0.mk (show ∀ W : World, W.heap[g]? = some (.cells #[.int .i64 4, .int .i64 b] 26 (0, 0)) → Calls Tryd.prog 12 #[.pointer (some ⟨g, 0, none⟩)] W fun e w' => e = .returned (.bool false) ∧ ∃ n, w' = W.drewN n from fun W hW => qSpk hW HS.out)
          have Rsp := Aside0.mk (show ∀ W : World, W.heap[h]? = some (.cells #[.int .i64 4, .int .i64 b] 38 (0, 0)) → Calls Tryd.prog 19 #[.pointer (some ⟨h, 0, none⟩)] W fun e w' => e = .returned (.bool false) ∧ ∃ n, w' = W.drewN n from fun W hW => qRSpk hW HS.out)
          have Qpe := Aside0.mk (show ∀ W : World, W.heap[g]? = some (.cells #[.int .i64 4, .int .i64 b] 26 (0, 0)) → Calls Tryd.prog 13 #[.pointer (some ⟨g, 0, none⟩)] W fun e w' => e = .returned (.bool true) ∧ ∃ n, w' = W.drewN n from fun W hW => qPend hW HS.out)
          have Qid := Aside0.mk (show ∀ W : World, W.heap[g]? = some (.cells #[.int .i64 4, .int .i64 b] 26 (0, 0)) → Calls Tryd.prog 14 #[.pointer (some ⟨g, 0, none⟩)] W fun e w' => e = .returned (.bool false) ∧ ∃ n, w' = W.drewN n from fun W hW => qIdle hW HS.out)
          have q0 := (blk_cell HH.out.1 0).trans (rfl : _ = some (Value.int .i64 4))
          go_wp2_with fail
          go_quiet (first | (go_at_call 18; exact Calls.quiet_of (Qst.out _ HI.out.1)) | (go_at_call 12; exact Calls.quiet_of (Qsp.out _ HI.out.1)) | (go_at_call 19; exact Calls.quiet_of (Rsp.out _ HH.out.1)) | (go_at_call 13; exact Calls.quiet_of (Qpe.out _ HI.out.1)) | (go_at_call 14; exact Calls.quiet_of (Qid.out _ HI.out.1)))
          go_wp2_with fail
          rw [E3.out]
          first
            | (go_roundw; case rel => exact ⟨k + 1, _, b, HK.out, by first | rfl | rw [E3.out], HS, ⟨IsS26.drewN HI.out _⟩, ⟨IsS38.drewN HH.out _⟩, ⟨below_step HB.out (Drawn0.below ⟨⟨_, rfl⟩⟩)⟩⟩)
            | (refine ⟨?_, ?measure⟩; exact ⟨k + 1, _, b, HK.out, by first | rfl | rw [E3.out], HS, ⟨IsS26.drewN HI.out _⟩, ⟨IsS38.drewN HH.out _⟩, ⟨below_step HB.out (Drawn0.below ⟨⟨_, rfl⟩⟩)⟩⟩)
          case measure => have := HK.out; simp [intOf]; omega
    · have hltn : decide (k < l0.length) = false := decide_eq_false (by omega)
      clear hlt hk
      go_wp2_with fail
      go_at_call 8
      refine (nil_Want _).mono ?_
      rintro e w5 ⟨rfl, hd⟩
      have HB := Aside0.mk (below_step HB.out hd.below)
      clear hd
      go_wp2_with fail
      go_at_call 10
      refine (nil_All _).mono ?_
      rintro e w5 ⟨rfl, hd⟩
      have HB := Aside0.mk (below_step HB.out hd.below)
      clear hd
      go_wp2_with fail
      go_at_call 11
      refine (nil_Again _).mono ?_
      rintro e w5 ⟨rfl, hd⟩
      have HB := Aside0.mk (below_step HB.out hd.below)
      clear hd
      go_wp2_with fail
      go_at_call 9
      refine (nil_Say _).mono ?_
      rintro e w5 ⟨rfl, hd⟩
      have HB := Aside0.mk (below_step HB.out hd.below)
      clear hd
      go_wp2_with fail
      go_at_call 12
      refine (nil_Speaks _).mono ?_
      rintro e w5 ⟨rfl, hd⟩
      have HB := Aside0.mk (below_step HB.out hd.below)
      clear hd
      go_wp2_with fail
      go_at_call 13
      refine (nil_Pending _).mono ?_
      rintro e w5 ⟨rfl, hd⟩
      have HB := Aside0.mk (below_step HB.out hd.below)
      clear hd
      go_wp2_with fail
      go_at_call 18
      refine (nil_State _).mono ?_
      rintro e w5 ⟨rfl, hd⟩
      have HB := Aside0.mk (below_step HB.out hd.below)
      clear hd
      go_wp2_with fail
      go_at_call 14
      refine (nil_Idle _).mono ?_
      rintro e w5 ⟨rfl, hd⟩
      have HB := Aside0.mk (below_step HB.out hd.below)
      clear hd
      go_wp2_with fail
      go_ret
      exact ⟨rfl, HB.out⟩


end Go.Proofs.YtnphindpbdjmpaaDoor.PAppliDoes
