-- Written by a program of this session (see NOTES.md), which reads the translation's print; Lean checks it.
import Derived.Test.YtcginknabpgjnaaDoorPFrameTurnedx0
import Derived.Test.YtcginknabpgjnaaDoorPFrameTurnedx1
import Derived.Test.YtcginknabpgjnaaDoorPFrameTurnedx4
import Derived.Test.YtcginknabpgjnaaDoorPFrameTurnedx6
import Derived.Test.YtcginknabpgjnaaDoorPFrameTurnedx7
import Derived.Test.YtcginknabpgjnaaDoorPFrameTurnedx8
namespace Go.Proofs.YtcginknabpgjnaaDoor.PFrameTurned
open Go.RowKit Go.Proofs.YtcginknabpgjnaaDoorW.PrintWords Go.Proofs.YtcginknabpgjnaaDoorW.PrintLast Go.Proofs.YtcginknabpgjnaaDoorW.PrintMore
attribute [local go_sem] max2_int min2_int max_two min_two max_three min_three max_four min_four   -- for this text's walks alone
set_option linter.unusedVariables false
set_option linter.unusedSimpArgs false

/-! ### kissgatelaw05_FrameTurned: function 5 -/
/-- A bit turned. -/
def flipAt (l : List Nat) (i r : Nat) : List Nat := l.set i (l.getD i 0 ^^^ 2 ^ r)
def kissgatelaw05_FrameTurned.Pure : Prop := ∀ (a0_0 a0_1 : Int) (a0_2 : Bool) (a0_3 a0_4 a0_5 : Int) (a0_6 : ByteArray), a0_6.size ≤ 140737488351232 → ∃ k, kissgatelaw05_alive.f k = some true ∧
  (kissgateref05_Good.f k a0_0 a0_1 a0_2 a0_3 a0_4 a0_5 a0_6 = some false ∨ (kissgateref05_Good.f k a0_0 a0_1 a0_2 a0_3 a0_4 a0_5 a0_6 = some true ∧ ∃ z, kissgateref05_Bytes.f k a0_0 a0_1 a0_2 a0_3 a0_4 a0_5 a0_6 = some z ∧ 2 ≤ z.size ∧ z.size ≤ 500 ∧
    (∀ (i x y : Nat), i + 1 < z.size → x < 256 → y < 256 → ¬ (x = 0 ∧ y = 0) → frame_Read.f k (Bb.strOf (((Bb.natsOf z).set i ((Bb.natsOf z).getD i 0 ^^^ x)).set (i + 1) ((Bb.natsOf z).getD (i + 1) 0 ^^^ y))) = some (0, 0, false, 0, 0, 0, ⟨#[]⟩, 4)) ∧
    (∀ (i r : Nat), i < z.size → r < 8 → frame_Read.f k (Bb.strOf (flipAt (Bb.natsOf z) i r)) = some (0, 0, false, 0, 0, 0, ⟨#[]⟩, 4)) ∧
    (∀ (i r j q : Nat), i < z.size → r < 8 → j < z.size → q < 8 → ¬ (i = j ∧ r = q) → frame_Read.f k (Bb.strOf (flipAt (flipAt (Bb.natsOf z) i r) j q)) = some (0, 0, false, 0, 0, 0, ⟨#[]⟩, 4))))
attribute [local go_sem high] eqA23
set_option maxHeartbeats 16000000 in
set_option maxRecDepth 100000 in
theorem kissgatelaw05_FrameTurned.walk (P : kissgatelaw05_FrameTurned.Pure) (a0_0 a0_1 : Int) (a0_2 : Bool) (a0_3 a0_4 a0_5 : Int) (a0_6 : ByteArray) (a1 a2 a3 : Int) (a4 : Bool) (w : World)
    (w0_0 : (Lit.int .i64 a0_0).wf = true) (w0_1 : (Lit.int .i64 a0_1).wf = true) (w0_3 : (Lit.int .i64 a0_3).wf = true) (w0_4 : (Lit.int .i64 a0_4).wf = true) (w0_5 : (Lit.int .i64 a0_5).wf = true) (w0_6 : a0_6.size ≤ 140737488351232)
    (w1 : (Lit.int .i64 a1).wf = true) (w2 : (Lit.int .i64 a2).wf = true) (w3 : (Lit.int .i64 a3).wf = true) (hG : LaidG w) :
    Calls Tryd.prog 5 #[.agg #[.int .i64 a0_0, .int .i64 a0_1, .bool a0_2, .int .i64 a0_3, .int .i64 a0_4, .int .i64 a0_5, .string a0_6], .int .i64 a1, .int .i64 a2, .int .i64 a3, .bool a4] w fun e w' => e = .returned (.bool true) ∧ Below w.heap.size w w' := by
  obtain ⟨k, Pa, Pm⟩ := P a0_0 a0_1 a0_2 a0_3 a0_4 a0_5 a0_6 w0_6
  have hu := Tryd.underlying23
  have HG := Aside0.mk hG
  have HA := Aside0.mk Pa
  clear hG Pa w0_0 w0_1 w0_3 w0_4 w0_5 w0_6 w1 w2 w3
  rcases Pm with hg | ⟨hg, z, hz, hz2, hz5, hrow, hb1, hb2⟩
  · have HGd := Aside0.mk hg
    clear hg
    go_enter Tryd.func5, Tryd.ntmps5
    go_wp2_with fail
    refine (kissgatelaw05_alive.calls k true _ (LaidG.far HG.out (below_alloc (Below.refl _ _) _)) HA.out).mono ?_
    rintro e w1 ⟨rfl, hb⟩
    have hX : w1.heap[w.heap.size]? = some (.cells #[.int .i64 a0_0, .int .i64 a0_1, .bool a0_2, .int .i64 a0_3, .int .i64 a0_4, .int .i64 a0_5, .string a0_6] 23 (0, 0)) := blk_below (heap_alloc_new w _) hb
    have HB1 := Aside0.mk (below_step (below_alloc (Below.refl w.heap.size w) _) hb)
    have q0 := (blk_cell hX 0).trans rfl
    have q1 := (blk_cell hX 1).trans rfl
    have q2 := (blk_cell hX 2).trans rfl
    have q3 := (blk_cell hX 3).trans rfl
    have q4 := (blk_cell hX 4).trans rfl
    have q5 := (blk_cell hX 5).trans rfl
    have q6 := (blk_cell hX 6).trans rfl
    have HX := Aside0.mk hX
    clear hX hb
    go_wp2_with fail
    refine (kissgateref05_Good.calls k _ _ _ _ _ _ _ false _ HGd.out).mono ?_
    rintro e w2 ⟨rfl, hb⟩
    have HX2 := Aside0.mk (blk_below HX.out hb)
    have HB2 := Aside0.mk (below_step HB1.out hb)
    clear hb q0 q1 q2 q3 q4 q5 q6
    go_wp2
    go_ret
    exact ⟨rfl, HB2.out⟩
  have HGd := Aside0.mk hg
  have HZ := Aside0.mk hz
  have HROW := Aside0.mk hrow
  have HP1 := Aside0.mk hb1
  have HP2 := Aside0.mk hb2
  clear hg hz hrow hb1 hb2
  cases a4 with
  | true =>
    by_cases h2 : IntKind.u16.wrap a3 = 0
    · have h2b : (IntKind.u16.wrap a3 == 0) = true := by rw [h2]; rfl
      go_enter Tryd.func5, Tryd.ntmps5
      go_wp2_with fail
      refine (kissgatelaw05_alive.calls k true _ (LaidG.far HG.out (below_alloc (Below.refl _ _) _)) HA.out).mono ?_
      rintro e w1 ⟨rfl, hb⟩
      have hX : w1.heap[w.heap.size]? = some (.cells #[.int .i64 a0_0, .int .i64 a0_1, .bool a0_2, .int .i64 a0_3, .int .i64 a0_4, .int .i64 a0_5, .string a0_6] 23 (0, 0)) := blk_below (heap_alloc_new w _) hb
      have HB1 := Aside0.mk (below_step (below_alloc (Below.refl w.heap.size w) _) hb)
      have q0 := (blk_cell hX 0).trans rfl
      have q1 := (blk_cell hX 1).trans rfl
      have q2 := (blk_cell hX 2).trans rfl
      have q3 := (blk_cell hX 3).trans rfl
      have q4 := (blk_cell hX 4).trans rfl
      have q5 := (blk_cell hX 5).trans rfl
      have q6 := (blk_cell hX 6).trans rfl
      have HX := Aside0.mk hX
      clear hX hb
      go_wp2_with fail
      refine (kissgateref05_Good.calls k _ _ _ _ _ _ _ true _ HGd.out).mono ?_
      rintro e w2 ⟨rfl, hb⟩
      have HX2 := Aside0.mk (blk_below HX.out hb)
      have HB2 := Aside0.mk (below_step HB1.out hb)
      clear hb q0 q1 q2 q3 q4 q5 q6
      go_wp2
      go_ret
      exact ⟨rfl, HB2.out⟩
    · have h2b : (IntKind.u16.wrap a3 == 0) = false := by rw [beq_eq_false_iff_ne]; exact h2
      obtain ⟨x, hx, hx2⟩ : ∃ x : Nat, IntKind.u8.wrap (a3 / 256) = (x : Int) ∧ x < 256 := ⟨(IntKind.u8.wrap (a3 / 256)).toNat, by rw [IntKind.wrap_u8]; omega, by rw [IntKind.wrap_u8]; omega⟩
      obtain ⟨y, hy, hy2⟩ : ∃ y : Nat, IntKind.u8.wrap a3 = (y : Int) ∧ y < 256 := ⟨(IntKind.u8.wrap a3).toNat, by rw [IntKind.wrap_u8]; omega, by rw [IntKind.wrap_u8]; omega⟩
      have hxy : ¬ (x = 0 ∧ y = 0) := by
        rintro ⟨rfl, rfl⟩
        rw [IntKind.wrap_u8] at hx hy
        rw [IntKind.wrap_u16] at h2
        omega
      clear h2
      obtain ⟨m, hm⟩ : ∃ m, z.size = m + 1 := ⟨z.size - 1, by omega⟩
      obtain ⟨i, hi, e1, e2, e3⟩ := Bb.rem_place a1 m (by omega) (by omega)
      have hm1 : wrap64 ((z.size : Int) - 1) = (m : Int) := by unfold wrap64; omega
      have hm2 : m ≤ 1000 := by omega
      have hk1 : i + 1 < z.size := by omega
      have hk2 : i < z.size := by omega
      have HM := Aside0.mk hm
      clear hm hz2 hz5 e1 e3
      have kb := fun W => print_bytes (P := Tryd.prog) 9 34 5 Tryd.underlying9 Tryd.underlying34 Tryd.underlying5 z W
      obtain ⟨b, hb, hb2⟩ : ∃ b : Nat, (Bb.natsOf z).getD i 0 = b ∧ b < 256 := ⟨_, rfl, Bb.natsOf_lt _ _⟩
      obtain ⟨c, hc, hc2⟩ : ∃ b : Nat, (Bb.natsOf z).getD (i + 1) 0 = b ∧ b < 256 := ⟨_, rfl, Bb.natsOf_lt _ _⟩
      have hx3 := Go.u8_xor_nat b x hb2 hx2
      have hx4 := Go.u8_xor_nat c y hc2 hy2
      have HR := Aside0.mk hb
      have HS := Aside0.mk hc
      clear hb hc
      go_enter Tryd.func5, Tryd.ntmps5
      go_wp2_with fail
      refine (kissgatelaw05_alive.calls k true _ (LaidG.far HG.out (below_alloc (Below.refl _ _) _)) HA.out).mono ?_
      rintro e w1 ⟨rfl, hb⟩
      have hX : w1.heap[w.heap.size]? = some (.cells #[.int .i64 a0_0, .int .i64 a0_1, .bool a0_2, .int .i64 a0_3, .int .i64 a0_4, .int .i64 a0_5, .string a0_6] 23 (0, 0)) := blk_below (heap_alloc_new w _) hb
      have HB1 := Aside0.mk (below_step (below_alloc (Below.refl w.heap.size w) _) hb)
      have q0 := (blk_cell hX 0).trans rfl
      have q1 := (blk_cell hX 1).trans rfl
      have q2 := (blk_cell hX 2).trans rfl
      have q3 := (blk_cell hX 3).trans rfl
      have q4 := (blk_cell hX 4).trans rfl
      have q5 := (blk_cell hX 5).trans rfl
      have q6 := (blk_cell hX 6).trans rfl
      have HX := Aside0.mk hX
      clear hX hb
      go_wp2_with fail
      refine (kissgateref05_Good.calls k _ _ _ _ _ _ _ true _ HGd.out).mono ?_
      rintro e w2 ⟨rfl, hb⟩
      have HX2 := Aside0.mk (blk_below HX.out hb)
      have HB2 := Aside0.mk (below_step HB1.out hb)
      clear hb q0 q1 q2 q3 q4 q5 q6
      have q0 := (blk_cell HX2.out 0).trans rfl
      have q1 := (blk_cell HX2.out 1).trans rfl
      have q2 := (blk_cell HX2.out 2).trans rfl
      have q3 := (blk_cell HX2.out 3).trans rfl
      have q4 := (blk_cell HX2.out 4).trans rfl
      have q5 := (blk_cell HX2.out 5).trans rfl
      have q6 := (blk_cell HX2.out 6).trans rfl
      go_wp2_with fail
      clear q0 q1 q2 q3 q4 q5 q6
      refine (kissgateref05_Bytes.calls k _ _ _ _ _ _ _ z _ HZ.out).mono ?_
      rintro e w5 ⟨rfl, hb⟩
      have HB5 := Aside0.mk (below_step HB2.out hb)
      clear hb
      have B0 := Bb.BB.new w5 z
      have hkl : i < (Bb.natsOf z).length := by rw [Bb.natsOf_length]; exact hk2
      have hcell := (B0.cell i hkl).trans (by rw [HR.out] : _ = some (Value.int .u8 ((b : Nat) : Int)))
      have hfro := B0.frozen i hkl
      have B1 := B0.set i (b ^^^ x)
      have hkl1 : i + 1 < ((Bb.natsOf z).set i (b ^^^ x)).length := by rw [List.length_set, Bb.natsOf_length]; exact hk1
      have hcell1 := (B1.cell (i + 1) hkl1).trans (by rw [List.getD_eq_getElem?_getD, List.getElem?_set_ne (by omega), ← List.getD_eq_getElem?_getD, HS.out] : _ = some (Value.int .u8 ((c : Nat) : Int)))
      have hfro1 := B1.frozen (i + 1) hkl1
      have B2 := B1.set (i + 1) (c ^^^ y)
      have kt := fun n => B2.text n
      rw [List.length_set, List.length_set, Bb.natsOf_length] at kt
      have HBL := Aside0.mk (below_set (j := i + 1) (v := .int .u8 ((c ^^^ y : Nat) : Int)) (below_set (j := i) (v := .int .u8 ((b ^^^ x : Nat) : Int)) (bytes_below HB5.out HB5.out.size 5 z) HB5.out.size) HB5.out.size)
      clear B0 B1 B2
      go_wp2_with fail
      clear kb hcell hfro hcell1 hfro1
      have HRD := Aside0.mk (show frame_Read.f k (Bb.strOf (((Bb.natsOf z).set i (b ^^^ x)).set (i + 1) (c ^^^ y))) = some (0, 0, false, 0, 0, 0, ⟨#[]⟩, 4) by have e := HROW.out i x y hk1 hx2 hy2 hxy; rw [HR.out, HS.out] at e; exact e)
      clear kt
      refine (frame_Read.calls k _ _ _ _ _ _ _ _ _ _ (LaidG.far HG.out HBL.out) HRD.out).mono ?_
      rintro e w6 ⟨rfl, hb6⟩
      have HB6 := Aside0.mk (below_step HBL.out hb6)
      clear hb6
      go_wp2
      go_ret
      exact ⟨rfl, by repeat (first | exact HB6.out | refine below_set ?_ (by first | exact HB6.out.size | exact Nat.le_refl _) | apply below_alloc | (refine Below.setCell ?_ HB6.out.size _))⟩
  | false =>
    obtain ⟨m, hm⟩ : ∃ m, m = 8 * z.size := ⟨_, rfl⟩
    obtain ⟨x, hx, e1, e2, e3⟩ := Bb.rem_place a1 m (by omega) (by omega)
    obtain ⟨y, hy, d1, d2, d3⟩ := Bb.rem_place a2 m (by omega) (by omega)
    have hm0 : wrap64 (8 * (z.size : Int)) = (m : Int) := by unfold wrap64; omega
    have hm2 : m ≤ 10000 := by omega
    have hm3 : 0 < m := by omega
    have kb := fun W => print_bytes (P := Tryd.prog) 9 34 5 Tryd.underlying9 Tryd.underlying34 Tryd.underlying5 z W
    have HM := Aside0.mk hm
    clear hm hz2 hz5 e1 e3 d1 d3
    go_enter Tryd.func5, Tryd.ntmps5
    go_wp2_with fail
    refine (kissgatelaw05_alive.calls k true _ (LaidG.far HG.out (below_alloc (Below.refl _ _) _)) HA.out).mono ?_
    rintro e w1 ⟨rfl, hb⟩
    have hX : w1.heap[w.heap.size]? = some (.cells #[.int .i64 a0_0, .int .i64 a0_1, .bool a0_2, .int .i64 a0_3, .int .i64 a0_4, .int .i64 a0_5, .string a0_6] 23 (0, 0)) := blk_below (heap_alloc_new w _) hb
    have HB1 := Aside0.mk (below_step (below_alloc (Below.refl w.heap.size w) _) hb)
    have q0 := (blk_cell hX 0).trans rfl
    have q1 := (blk_cell hX 1).trans rfl
    have q2 := (blk_cell hX 2).trans rfl
    have q3 := (blk_cell hX 3).trans rfl
    have q4 := (blk_cell hX 4).trans rfl
    have q5 := (blk_cell hX 5).trans rfl
    have q6 := (blk_cell hX 6).trans rfl
    have HX := Aside0.mk hX
    clear hX hb
    go_wp2_with fail
    refine (kissgateref05_Good.calls k _ _ _ _ _ _ _ true _ HGd.out).mono ?_
    rintro e w2 ⟨rfl, hb⟩
    have HX2 := Aside0.mk (blk_below HX.out hb)
    have HB2 := Aside0.mk (below_step HB1.out hb)
    clear hb q0 q1 q2 q3 q4 q5 q6
    have q0 := (blk_cell HX2.out 0).trans rfl
    have q1 := (blk_cell HX2.out 1).trans rfl
    have q2 := (blk_cell HX2.out 2).trans rfl
    have q3 := (blk_cell HX2.out 3).trans rfl
    have q4 := (blk_cell HX2.out 4).trans rfl
    have q5 := (blk_cell HX2.out 5).trans rfl
    have q6 := (blk_cell HX2.out 6).trans rfl
    go_wp2_with fail
    clear q0 q1 q2 q3 q4 q5 q6
    refine (kissgateref05_Bytes.calls k _ _ _ _ _ _ _ z _ HZ.out).mono ?_
    rintro e w5 ⟨rfl, hb⟩
    have HB5 := Aside0.mk (below_step HB2.out hb)
    clear hb
    go_wp2_with fail
    go_quiet (fail)
    obtain ⟨g, hg⟩ : ∃ g, g = w5.heap.size := ⟨_, rfl⟩
    have HGE := Aside0.mk (show w.heap.size ≤ g by rw [hg]; exact HB5.out.size)
    have HBL := Aside0.mk (pw_below_drewN (bytes_below HB5.out HB5.out.size 5 z) nq)
    have HBB := Aside0.mk (show Bb.BB ((Lib.bytesWorld w5 5 z).drewN nq) g (Bb.natsOf z) by rw [hg]; exact Bb.BB.new w5 z)
    obtain ⟨cap, hcap⟩ : ∃ c, c = grownCap w5 z.size 0 5 := ⟨_, rfl⟩
    obtain ⟨W2, hW2⟩ : ∃ W2, W2 = (Lib.bytesWorld w5 5 z).drewN nq := ⟨_, rfl⟩
    rw [← hW2] at HBL HBB
    rw [← hW2, ← hg, ← hcap]
    clear hW2 hg hcap kb HB5 hm0 e2 d2
    obtain ⟨i, r, hxi, hr8⟩ : ∃ i r : Nat, x = 8 * i + r ∧ r < 8 := ⟨x / 8, x % 8, by omega, by omega⟩
    obtain ⟨j, q, hyj, hq8⟩ : ∃ j q : Nat, y = 8 * j + q ∧ q < 8 := ⟨y / 8, y % 8, by omega, by omega⟩
    have hiz : i < z.size := by have := HM.out; omega
    have hjz : j < z.size := by have := HM.out; omega
    have ei : (x : Int) / 8 = (i : Int) := by omega
    have er : (x : Int) % 8 = (r : Int) := by omega
    have ej : (y : Int) / 8 = (j : Int) := by omega
    have eq_ : (y : Int) % 8 = (q : Int) := by omega
    have pr : ∀ r : Nat, r < 8 → IntKind.u8.wrap ((2 : Int) ^ r) = ((2 ^ r : Nat) : Int) ∧ 2 ^ r < 256 := by
      intro r hr
      have : r = 0 ∨ r = 1 ∨ r = 2 ∨ r = 3 ∨ r = 4 ∨ r = 5 ∨ r = 6 ∨ r = 7 := by omega
      rcases this with rfl | rfl | rfl | rfl | rfl | rfl | rfl | rfl <;> decide
    obtain ⟨pr1, pr2⟩ := pr r hr8
    obtain ⟨pq1, pq2⟩ := pr q hq8
    clear pr
    have hkl : i < (Bb.natsOf z).length := by rw [Bb.natsOf_length]; exact hiz
    obtain ⟨b, hb, hb2⟩ : ∃ b : Nat, (Bb.natsOf z).getD i 0 = b ∧ b < 256 := ⟨_, rfl, Bb.natsOf_lt _ _⟩
    have hcell := (HBB.out.cell i hkl).trans (by rw [hb] : _ = some (Value.int .u8 ((b : Nat) : Int)))
    have hfro := HBB.out.frozen i hkl
    have hx3 : Go.bits .xor .u8 ((b : Nat) : Int) ((2 : Int) ^ r) = ((b ^^^ 2 ^ r : Nat) : Int) := by have e := Go.u8_xor_nat b (2 ^ r) hb2 pr2; rw [Int.natCast_pow] at e; exact e
    have HR := Aside0.mk hb
    have HXI := Aside0.mk hxi
    have HYJ := Aside0.mk hyj
    clear hb hxi hyj
    have HBB1 := Aside0.mk (show Bb.BB (W2.setCell ⟨g, i, none⟩ (.int .u8 ((b ^^^ 2 ^ r : Nat) : Int))) g (flipAt (Bb.natsOf z) i r) by unfold flipAt; rw [HR.out]; exact HBB.out.set i (b ^^^ 2 ^ r))
    have HBL1 := Aside0.mk (below_set (j := i) (v := .int .u8 ((b ^^^ 2 ^ r : Nat) : Int)) HBL.out HGE.out)
    have hfl : ∀ (l : List Nat) (i r : Nat), (flipAt l i r).length = l.length := fun l i r => by unfold flipAt; rw [List.length_set]
    have HFL := Aside0.mk hfl
    clear hfl
    by_cases hxy : x = y
    · have hxyb : ((x : Int) != (y : Int)) = false := by rw [bne_eq_false_iff_eq]; omega
      have kt := fun n => HBB1.out.text n
      rw [HFL.out, Bb.natsOf_length] at kt
      clear hxy
      go_wp2_with fail
      have HRD := Aside0.mk (HP1.out i r hiz hr8)
      clear kt
      refine (frame_Read.calls k _ _ _ _ _ _ _ _ _ _ (LaidG.far HG.out HBL1.out) HRD.out).mono ?_
      rintro e w6 ⟨rfl, hb6⟩
      have HB6 := Aside0.mk (below_step HBL1.out hb6)
      clear hb6
      go_wp2
      go_ret
      exact ⟨rfl, by repeat (first | exact HB6.out | refine below_set ?_ (by first | exact HB6.out.size | exact Nat.le_refl _) | apply below_alloc | (refine Below.setCell ?_ HB6.out.size _))⟩
    · have hxyb : ((x : Int) != (y : Int)) = true := by rw [bne_iff_ne]; intro e; exact hxy (by omega)
      have hrd := HP2.out i r j q hiz hr8 hjz hq8 (by have := HXI.out; have := HYJ.out; omega)
      have HRD0 := Aside0.mk hrd
      clear hrd hxy
      have hkl2 : j < (flipAt (Bb.natsOf z) i r).length := by rw [HFL.out, Bb.natsOf_length]; exact hjz
      obtain ⟨c, hc, hc2⟩ : ∃ c : Nat, (flipAt (Bb.natsOf z) i r).getD j 0 = c ∧ c < 256 := by
        refine ⟨_, rfl, ?_⟩
        unfold flipAt
        rw [List.getD_eq_getElem?_getD, List.getElem?_set]
        by_cases hij : i = j
        · subst hij
          rw [if_pos rfl]
          rw [HR.out]
          simp only [hkl, if_true, Option.getD_some]
          exact Nat.xor_lt_two_pow (n := 8) hb2 pr2
        · rw [if_neg hij, ← List.getD_eq_getElem?_getD]
          exact Bb.natsOf_lt _ _
      have hcell2 := (HBB1.out.cell j hkl2).trans (by rw [hc] : _ = some (Value.int .u8 ((c : Nat) : Int)))
      have hfro2 := HBB1.out.frozen j hkl2
      have hx4 : Go.bits .xor .u8 ((c : Nat) : Int) ((2 : Int) ^ q) = ((c ^^^ 2 ^ q : Nat) : Int) := by have e := Go.u8_xor_nat c (2 ^ q) hc2 pq2; rw [Int.natCast_pow] at e; exact e
      have HBB2 := Aside0.mk (show Bb.BB ((W2.setCell ⟨g, i, none⟩ (.int .u8 ((b ^^^ 2 ^ r : Nat) : Int))).setCell ⟨g, j, none⟩ (.int .u8 ((c ^^^ 2 ^ q : Nat) : Int))) g (flipAt (flipAt (Bb.natsOf z) i r) j q) by
        conv => arg 3; unfold flipAt
        rw [show (List.set (Bb.natsOf z) i ((Bb.natsOf z).getD i 0 ^^^ 2 ^ r)) = flipAt (Bb.natsOf z) i r from rfl, hc]
        exact HBB1.out.set j (c ^^^ 2 ^ q))
      have HBL2 := Aside0.mk (below_set (j := j) (v := .int .u8 ((c ^^^ 2 ^ q : Nat) : Int)) HBL1.out HGE.out)
      have kt := fun n => HBB2.out.text n
      rw [HFL.out, HFL.out, Bb.natsOf_length] at kt
      clear hc
      go_wp2_with fail
      have HRD := Aside0.mk (HRD0.out)
      clear kt
      refine (frame_Read.calls k _ _ _ _ _ _ _ _ _ _ (LaidG.far HG.out HBL2.out) HRD.out).mono ?_
      rintro e w6 ⟨rfl, hb6⟩
      have HB6 := Aside0.mk (below_step HBL2.out hb6)
      clear hb6
      go_wp2
      go_ret
      exact ⟨rfl, by repeat (first | exact HB6.out | refine below_set ?_ (by first | exact HB6.out.size | exact Nat.le_refl _) | apply below_alloc | (refine Below.setCell ?_ HB6.out.size _))⟩


end Go.Proofs.YtcginknabpgjnaaDoor.PFrameTurned
