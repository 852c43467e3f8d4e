-- Written by a program of this session (see NOTES.md), which reads the translation's print; Lean checks it.
import Derived.Test.YtgmnkilnajkidaaPRegisKeepsx0
import Derived.Test.YtgmnkilnajkidaaPRegisKeepsx1
import Derived.Test.YtgmnkilnajkidaaPRegisKeepsx2
namespace Go.Proofs.Ytgmnkilnajkidaa.PRegisKeeps
open Go.RowKit Go.Proofs.YtgmnkilnajkidaaW.PrintWords Go.Proofs.YtgmnkilnajkidaaW.PrintLast Go.Proofs.YtgmnkilnajkidaaW.PrintMore
attribute [local go_sem] max2_int min2_int max_two min_two max_three min_three max_four min_four   -- for this text's walks alone
set_option linter.unusedVariables false
set_option linter.unusedSimpArgs false

/-! ### kissgatelaw14_RegisKeeps: function 5 -/
theorem great_go (l : List S38) (hl : l.length ≤ 9223372036854775807) : ∀ (j i : Nat), i + j = l.length → ∃ r, kissgatelaw14_great.l0 (j + 1) l l (l.length : Int) (i : Int) = some r ∧
    (r = false → l.length ≤ 100 ∧ ∀ n : Nat, i ≤ n → n < l.length → (rd_T38 l n).f0 = 3 → 0 ≤ (rd_T38 l n).f3 ∧ (rd_T38 l n).f3 ≤ 1000) := by
  intro j
  induction j with
  | zero =>
    intro i h
    rw [kissgatelaw14_great.l0, if_neg (by omega)]
    exact ⟨_, rfl, fun h1 => ⟨by have := of_decide_eq_false h1; omega, fun n h2 h3 => by omega⟩⟩
  | succ j ih =>
    intro i h
    rw [kissgatelaw14_great.l0, if_pos (by omega), if_pos (by omega), if_pos (by omega)]
    have e : wrap64 ((i : Int) + 1) = ((i + 1 : Nat) : Int) := by unfold wrap64; omega
    obtain ⟨r, hr, hq⟩ := ih (i + 1) (by omega)
    by_cases h0 : (rd_T38 l (i : Int)).f0 = 3
    · rw [if_pos h0]
      by_cases h1 : (rd_T38 l (i : Int)).f3 < 0
      · rw [if_pos h1]; exact ⟨_, rfl, fun h => by simp at h⟩
      · rw [if_neg h1]
        by_cases h2 : (rd_T38 l (i : Int)).f3 > 1000
        · rw [if_pos h2]; exact ⟨_, rfl, fun h => by simp at h⟩
        · rw [if_neg h2, e]
          refine ⟨r, hr, fun h3 => ⟨(hq h3).1, fun n hn hn2 h4 => ?_⟩⟩
          by_cases hni : n = i
          · subst hni; omega
          · exact (hq h3).2 n (by omega) hn2 h4
    · rw [if_neg h0, e]
      refine ⟨r, hr, fun h3 => ⟨(hq h3).1, fun n hn hn2 h4 => ?_⟩⟩
      by_cases hni : n = i
      · subst hni; exact absurd h4 h0
      · exact (hq h3).2 n (by omega) hn2 h4
theorem Great_nice {A : Option Addr} {c : Nat} {l : List S38} {w : World} (hr : Kd.C k38 w A l.length l) (hc : l.length ≤ c) :
    Calls Try.prog 15 #[.slice A l.length c] w fun e w' => ∃ r : Bool, e = .returned (.bool r) ∧ (r = false → l.length ≤ 100 ∧ ∀ n : Nat, n < l.length → (rd_T38 l n).f0 = 3 → 0 ≤ (rd_T38 l n).f3 ∧ (rd_T38 l n).f3 ≤ 1000) ∧ Below w.heap.size w w' := by
  obtain ⟨r, h, hq⟩ := great_go l hr.2.1 l.length 0 (by omega)
  refine (kissgatelaw14_great.calls (l.length + 1) A c l r w hr hc h).mono ?_
  rintro e w' ⟨rfl, hb⟩
  exact ⟨r, rfl, fun h => ⟨(hq h).1, fun n => (hq h).2 n (Nat.zero_le n)⟩, hb⟩
theorem born_eq (m s b d now : Int) : regis_Reg_Born.f m s b d now = some (if hasB m s = true then (if m = 1 then now else b) else -1, m, s, b, d) := by
  unfold regis_Reg_Born.f
  rw [has_eq, Option.bind_some]
  by_cases h : hasB m s = true
  · rw [if_pos h, if_pos h]; by_cases h1 : m = 1
    · rw [if_pos h1, if_pos h1]
    · rw [if_neg h1, if_neg h1]
  · rw [if_neg h, if_neg h]
theorem Born_nice {g : Nat} {m s b d : Int} {w0 w : World} (hI : IsS49 w0 w g m s b d) (hB : Below w0.heap.size w0 w) (now : Int) :
    Calls Try.prog 17 #[.pointer (some ⟨g, 0, none⟩), .int .i64 now] w fun e w' => e = .returned (.int .i64 (if hasB m s = true then (if m = 1 then now else b) else -1)) ∧ IsS49 w0 w' g m s b d ∧ Below w0.heap.size w0 w' ∧ KeepBut w w' g none :=
  regis_Reg_Born.calls g m s b d now _ _ _ _ _ w0 w hI hB (born_eq m s b d now)
theorem all_eq (m s b d now : Int) (hs : 0 ≤ s ∧ s ≤ 2) : regis_Reg_All.f m s b d now = some (m, nx s 2, b, du s d 2 now) := by
  unfold regis_Reg_All.f; rw [step_eq _ _ _ _ _ _ hs (by omega)]; rfl
theorem All_nice {g : Nat} {m s b d : Int} {w0 w : World} (hI : IsS49 w0 w g m s b d) (hB : Below w0.heap.size w0 w) (hs : 0 ≤ s ∧ s ≤ 2) (now : Int) :
    Calls Try.prog 13 #[.pointer (some ⟨g, 0, none⟩), .int .i64 now] w fun e w' => e = .returned (.tuple #[]) ∧ IsS49 w0 w' g m (nx s 2) b (du s d 2 now) ∧ Below w0.heap.size w0 w' ∧ KeepBut w w' g none :=
  regis_Reg_All.calls g m s b d now _ _ _ _ w0 w hI hB (all_eq m s b d now hs)
theorem flush_eq (m s b d now : Int) (hs : 0 ≤ s ∧ s ≤ 2) : regis_Reg_Flush.f m s b d now = some (hasB m 0 != hasB m s, m, 0, b, d) := by
  unfold regis_Reg_Flush.f
  simp only [has_eq, Option.bind_some, step_eq _ _ _ _ _ _ hs (show (0 : Int) ≤ 4 ∧ (4 : Int) ≤ 4 by decide), nx_4, du_4]
theorem Flush_nice {g : Nat} {m s b d : Int} {w0 w : World} (hI : IsS49 w0 w g m s b d) (hB : Below w0.heap.size w0 w) (hs : 0 ≤ s ∧ s ≤ 2) (now : Int) :
    Calls Try.prog 16 #[.pointer (some ⟨g, 0, none⟩), .int .i64 now] w fun e w' => e = .returned (.bool (hasB m 0 != hasB m s)) ∧ IsS49 w0 w' g m 0 b d ∧ Below w0.heap.size w0 w' ∧ KeepBut w w' g none :=
  regis_Reg_Flush.calls g m s b d now _ _ _ _ _ w0 w hI hB (flush_eq m s b d now hs)
def KInv (s b last now : Int) : Prop := (0 ≤ s ∧ s ≤ 2) ∧ 0 ≤ now ∧ -1 ≤ last ∧ last ≤ now ∧ (s ≠ 0 → 0 ≤ b ∧ b ≤ last ∧ now - b ≤ 120)
theorem keeps_hear {s b d last now ev bn : Int} (h : KInv s b last now) (hn : now ≤ 1000000) (he : ev = 0 ∨ ev = 1 ∨ ev = 3) : KInv (hearS s b d ev bn now).1 (hearS s b d ev bn now).2.1 (mx last (mn bn now)) now := by
  obtain ⟨h1, h2, h3, h4, h5⟩ := h
  have hm : mn bn now ≤ now := by unfold mn; split <;> omega
  have hx : last ≤ mx last (mn bn now) ∧ mn bn now ≤ mx last (mn bn now) ∧ mx last (mn bn now) ≤ now := by unfold mx; split <;> omega
  unfold hearS
  rw [if_pos he]
  generalize mn bn now = b' at hm hx ⊢
  generalize mx last b' = l' at hx ⊢
  by_cases hc : ¬ wrap64 (now - b') > 120 ∧ b' ≥ 0
  · rw [if_pos hc]
    have e : wrap64 (now - b') = now - b' := by unfold wrap64; omega
    rw [e] at hc
    refine ⟨by simp, h2, by omega, by omega, fun _ => ?_⟩
    show 0 ≤ (if s = 0 then b' else mx b b') ∧ (if s = 0 then b' else mx b b') ≤ l' ∧ now - (if s = 0 then b' else mx b b') ≤ 120
    by_cases hs : s = 0
    · rw [if_pos hs]; omega
    · rw [if_neg hs]; have := h5 hs; unfold mx; split <;> omega
  · rw [if_neg hc]
    exact ⟨h1, h2, by omega, by omega, fun hs => by have := h5 hs; show 0 ≤ b ∧ b ≤ l' ∧ now - b ≤ 120; omega⟩
theorem nx_0s (ev : Int) (h : ev = 1 ∨ ev = 2) : nx 0 ev = 0 := by unfold nx; rcases h with rfl | rfl <;> rfl
theorem keeps_nx {s b last now ev : Int} (h : KInv s b last now) (he : ev = 1 ∨ ev = 2) : KInv (nx s ev) b last now :=
  ⟨nx_in _ _, h.2.1, h.2.2.1, h.2.2.2.1, fun hs => h.2.2.2.2 (fun h0 => hs (by rw [h0]; exact nx_0s ev he))⟩
theorem keeps_hear2 {s b d last now ev bn : Int} (h : KInv s b last now) (he : ¬ (ev = 0 ∨ ev = 1 ∨ ev = 3)) : KInv (hearS s b d ev bn now).1 (hearS s b d ev bn now).2.1 last now := by
  unfold hearS
  rw [if_neg he]
  by_cases h5 : ev = 5
  · rw [if_pos h5]; exact keeps_nx h (.inl rfl)
  · rw [if_neg h5]; exact h
theorem keeps_flush {s b last now : Int} (h : KInv s b last now) : KInv 0 b last now := ⟨by decide, h.2.1, h.2.2.1, h.2.2.2.1, fun hs => absurd rfl hs⟩
theorem keeps_tick {s b d last now : Int} (h : KInv s b last now) (hn : now ≤ 1000000) : KInv (tickS s b d (now + 1)).1 b last (now + 1) ∧ (tickS s b d (now + 1)).2 = (b, d) := by
  obtain ⟨h1, h2, h3, h4, h5⟩ := h
  have hs1 : ∀ x, x = (if s = 1 ∧ now + 1 ≥ d then (0 : Int) else s) → (0 ≤ x ∧ x ≤ 2) ∧ (x ≠ 0 → s ≠ 0) := by
    intro x hx; subst hx; split
    · exact ⟨by decide, fun h => absurd rfl h⟩
    · exact ⟨h1, id⟩
  unfold tickS
  have hq := hs1 _ rfl
  generalize (if s = 1 ∧ now + 1 ≥ d then (0 : Int) else s) = s1 at hq ⊢
  by_cases hc : s1 ≠ 0 ∧ wrap64 (now + 1 - b) > 120
  · rw [if_pos hc]; exact ⟨⟨by simp, by omega, h3, by omega, fun h => absurd rfl h⟩, rfl⟩
  · rw [if_neg hc]
    refine ⟨⟨hq.1, by omega, h3, by omega, fun hs => ?_⟩, rfl⟩
    have hb := h5 (hq.2 hs)
    have e : wrap64 (now + 1 - b) = now + 1 - b := by unfold wrap64; omega
    rw [e] at hc
    have : ¬ (now + 1 - b > 120) := fun h => hc ⟨hs, h⟩
    omega
def kissgatelaw14_RegisKeeps.Pure : Prop := True
set_option maxHeartbeats 8000000 in
set_option maxRecDepth 100000 in
theorem kissgatelaw14_RegisKeeps.walk (P : kissgatelaw14_RegisKeeps.Pure) (a0 : Int) (A1 : Option Addr) (c1 : Nat) (l1 : List S38) (w : World) (w0 : (Lit.int .i64 a0).wf = true) (hr1 : Kd.C k38 w A1 l1.length l1) (hc1 : l1.length ≤ c1) (hw1 : ∀ z ∈ l1, (Lit.int .i64 z.f0).wf = true ∧ (Lit.int .i64 z.f1).wf = true ∧ (Lit.int .i64 z.f2).wf = true ∧ (Lit.int .i64 z.f3).wf = true) :
    Calls Try.prog 5 #[.int .i64 a0, .slice A1 l1.length c1] w fun e w' => e = .returned (.bool true) ∧ Below w.heap.size w w' := by
  clear P hw1 w0
  have hu38 := Try.underlying38
  have HR := Aside0.mk hr1
  have HC := Aside0.mk hc1
  clear hr1 hc1
  go_enter Try.func5, Try.ntmps5
  go_wp2_with fail
  go_at_call 8
  refine (kissgatelaw14_alive.good w _ (Below.refl _ _)).mono ?_
  rintro e w1 ⟨rfl, hb, _⟩
  have HB := Aside0.mk hb
  clear hb
  go_wp2_with fail
  go_at_call 15
  refine (Great_nice (Kd.C_below HR.out HB.out) HC.out).mono ?_
  rintro e w2 ⟨r, rfl, hq, hb⟩
  have HB := Aside0.mk (below_step HB.out hb)
  clear hb
  cases r
  case true =>
    clear hq
    go_wp2_with fail
    go_ret
    exact ⟨rfl, HB.out⟩
  have HQ := Aside0.mk (hq rfl)
  clear hq
  by_cases c2 : a0 < 0
  · have c2b : decide (a0 < 0) = true := decide_eq_true c2
    go_wp2_with fail
    go_ret
    exact ⟨rfl, HB.out⟩
  have c2b : decide (a0 < 0) = false := decide_eq_false c2
  by_cases c3 : 2 < a0
  · have c3b : decide (2 < a0) = true := decide_eq_true c3
    go_wp2_with fail
    go_ret
    exact ⟨rfl, HB.out⟩
  have c3b : decide (2 < a0) = false := decide_eq_false c3
  have HM := Aside0.mk (show 0 ≤ a0 ∧ a0 ≤ 2 by omega)
  clear c2 c3
  go_wp2_with fail
  go_at_call 9
  refine (regis_New.good a0 HM.out.1 HM.out.2 w _ HB.out).mono ?_
  rintro e w3 ⟨g, rfl, hg, hi, hb, _⟩
  have HI := Aside0.mk hi
  have HB := Aside0.mk hb
  clear hi hb hg
  go_wp2_with fail
  go_loopw [7, 8, 30] (fun v7 v8 v30 wr => ∃ (k : Nat) (now last s b d : Int), k ≤ l1.length ∧ v30 = .int .i64 (k : Nat) ∧ v7 = .int .i64 now ∧ v8 = .int .i64 last ∧ Aside0 (now ≤ 1000 * k) ∧ Aside0 (KInv s b last now) ∧ Aside0 (IsS49 w wr g a0 s b d) ∧ Aside0 (Below w.heap.size w wr)) (fun _ _ v30 _ => l1.length - (intOf v30).toNat)
  case atStart => exact ⟨0, 0, -1, 0, 0, 0, Nat.zero_le _, rfl, rfl, rfl, ⟨by decide⟩, ⟨⟨by decide, by decide, by decide, by decide, fun h => absurd rfl h⟩⟩, ⟨HI.out⟩, ⟨HB.out⟩⟩
  case round =>
    clear HI HB
    obtain ⟨k, now, last, s, b, d, hk, rfl, rfl, rfl, HT, HV, HI, HB⟩ := hrel
    by_cases hlt : (k : Int) < (l1.length : Int)
    · have hltn : decide (k < l1.length) = true := decide_eq_true (by omega)
      have HK := Aside0.mk (show k < l1.length by omega)
      obtain ⟨ad, e0, hx0, hx1, hx2, hx3⟩ := at_T38 HR.out (k : Int) (by omega) hlt
      cases e0
      replace hx0 := (HB.out.cell (World.block_lt_of_cell? w _ hx0)).trans hx0
      replace hx1 := (HB.out.cell (World.block_lt_of_cell? w _ hx1)).trans hx1
      replace hx2 := (HB.out.cell (World.block_lt_of_cell? w _ hx2)).trans hx2
      replace hx3 := (HB.out.cell (World.block_lt_of_cell? w _ hx3)).trans hx3
      have p0 := eq_true (show 0 ≤ (k : Int) by omega)
      have q0 := eq_true hlt
      have HF := Aside0.mk (HQ.out.2 k HK.out)
      generalize rd_T38 l1 (k : Int) = z at hx0 hx1 hx2 hx3 HF
      obtain ⟨kd, ev, bn, n⟩ := z
      replace hx0 : wr.cell? (ad.add (k * 4)) = some (.int .i64 kd) := hx0
      replace hx1 : wr.cell? ⟨(ad.add (k * 4)).block, (ad.add (k * 4)).off + 1, none⟩ = some (.int .i64 ev) := hx1
      replace hx2 : wr.cell? ⟨(ad.add (k * 4)).block, (ad.add (k * 4)).off + 2, none⟩ = some (.int .i64 bn) := hx2
      replace hx3 : wr.cell? ⟨(ad.add (k * 4)).block, (ad.add (k * 4)).off + 3, none⟩ = some (.int .i64 n) := hx3
      clear hlt hk
      have HZ0 := Aside0.mk (heap_alloc_new wr (.cells #[.int .i64 kd, .int .i64 ev, .int .i64 bn, .int .i64 n] 38))
      have cz0 := (blk_cell HZ0.out 0).trans rfl
      have cz1 := (blk_cell HZ0.out 1).trans rfl
      have cz2 := (blk_cell HZ0.out 2).trans rfl
      have cz3 := (blk_cell HZ0.out 3).trans rfl
      go_upto_block 2 with (fail)
      clear cz0 cz1 cz2 cz3 hx0 hx1 hx2 hx3 p0 q0
      have HIW := Aside0.mk (IsS49.alloc HI.out (.cells #[.int .i64 kd, .int .i64 ev, .int .i64 bn, .int .i64 n] 38))
      have HBW := Aside0.mk (below_alloc HB.out (.cells #[.int .i64 kd, .int .i64 ev, .int .i64 bn, .int .i64 n] 38))
      have HNE := Aside0.mk (show wr.heap.size ≠ g from Nat.ne_of_gt (IsS49.lt HI.out))
      generalize wr.alloc (.cells #[.int .i64 kd, .int .i64 ev, .int .i64 bn, .int .i64 n] 38) = W at HZ0 HIW HBW ⊢
      generalize wr.heap.size = gb at HZ0 HNE ⊢
      clear HI HB
      go_cut [7, 8] (fun v7 v8 wc => ∃ (now1 last1 s1 b1 d1 : Int), v7 = .int .i64 now1 ∧ v8 = .int .i64 last1 ∧ Aside0 (now1 ≤ 1000 * ((k : Int) + 1)) ∧ Aside0 (KInv s1 b1 last1 now1) ∧ Aside0 (IsS49 w wc g a0 s1 b1 d1) ∧ Aside0 (Below w.heap.size w wc))
      case first =>
        have z1 := (blk_cell HZ0.out 1).trans rfl
        have z2 := (blk_cell HZ0.out 2).trans rfl
        have z3 := (blk_cell HZ0.out 3).trans rfl
        by_cases k0 : kd = 0
        · have k0b : (kd == 0) = true := beq_iff_eq.mpr k0
          clear k0
          obtain ⟨mm, hmm⟩ : ∃ mm, mn bn now = mm := ⟨_, rfl⟩
          have hmm_ : (if now < bn then now else bn) = mm := hmm
          obtain ⟨ll, hll⟩ : ∃ ll, mx last mm = ll := ⟨_, rfl⟩
          have hll_ : (if last < mm then mm else last) = ll := hll
          have HLL := Aside0.mk (show mx last (mn bn now) = ll by rw [hmm, hll])
          clear hmm hll
          go_wp2_with fail
          go_at_call 10
          refine (Hear_nice HIW.out HBW.out HV.out.1 ev bn now).mono ?_
          rintro e w5 ⟨rfl, hi, hb, hk⟩
          have HI := Aside0.mk hi
          have HB := Aside0.mk hb
          have HZ1 := Aside0.mk ((hk.2 gb (Array.getElem?_eq_some_iff.1 HZ0.out).1 HNE.out (by simp)).trans HZ0.out)
          clear hi hb hk z1 z2 z3
          have y1 := (blk_cell HZ1.out 1).trans rfl
          have y2 := (blk_cell HZ1.out 2).trans rfl
          by_cases e0 : ev = 0
          · have e0b : (ev == 0) = true := beq_iff_eq.mpr e0
            have HX := Aside0.mk (keeps_hear (d := d) (ev := ev) (bn := bn) HV.out (by have := HT.out; have := HK.out; have := HQ.out.1; omega) (.inl e0))
            rw [HLL.out] at HX
            clear e0
            go_wp2_with fail
            go_meet
            case rel => exact ⟨now, ll, _, _, _, rfl, rfl, ⟨by have := HT.out; omega⟩, HX, HI, HB⟩
          have e0b : (ev == 0) = false := beq_eq_false_iff_ne.mpr e0
          by_cases e1 : ev = 1
          · have e1b : (ev == 1) = true := beq_iff_eq.mpr e1
            have HX := Aside0.mk (keeps_hear (d := d) (ev := ev) (bn := bn) HV.out (by have := HT.out; have := HK.out; have := HQ.out.1; omega) (.inr (.inl e1)))
            rw [HLL.out] at HX
            clear e1 e0
            go_wp2_with fail
            go_meet
            case rel => exact ⟨now, ll, _, _, _, rfl, rfl, ⟨by have := HT.out; omega⟩, HX, HI, HB⟩
          have e1b : (ev == 1) = false := beq_eq_false_iff_ne.mpr e1
          by_cases e3 : ev = 3
          · have e3b : (ev == 3) = true := beq_iff_eq.mpr e3
            have HX := Aside0.mk (keeps_hear (d := d) (ev := ev) (bn := bn) HV.out (by have := HT.out; have := HK.out; have := HQ.out.1; omega) (.inr (.inr e3)))
            rw [HLL.out] at HX
            clear e1 e0 e3
            go_wp2_with fail
            go_meet
            case rel => exact ⟨now, ll, _, _, _, rfl, rfl, ⟨by have := HT.out; omega⟩, HX, HI, HB⟩
          have e3b : (ev == 3) = false := beq_eq_false_iff_ne.mpr e3
          have HX := Aside0.mk (keeps_hear2 (d := d) (ev := ev) (bn := bn) HV.out (by omega))
          clear e1 e0 e3
          go_wp2_with fail
          go_meet
          case rel => exact ⟨now, last, _, _, _, rfl, rfl, ⟨by have := HT.out; omega⟩, HX, HI, HB⟩
        have k0b : (kd == 0) = false := beq_eq_false_iff_ne.mpr k0
        clear k0
        by_cases k1 : kd = 1
        · have k1b : (kd == 1) = true := beq_iff_eq.mpr k1
          clear k1
          go_wp2_with fail
          go_at_call 13
          refine (All_nice HIW.out HBW.out HV.out.1 now).mono ?_
          rintro e w5 ⟨rfl, hi, hb, _⟩
          have HI := Aside0.mk hi
          have HB := Aside0.mk hb
          clear hi hb
          go_wp2_with fail
          go_meet
          case rel => exact ⟨now, last, _, _, _, rfl, rfl, ⟨by have := HT.out; omega⟩, ⟨keeps_nx HV.out (.inr rfl)⟩, HI, HB⟩
        have k1b : (kd == 1) = false := beq_eq_false_iff_ne.mpr k1
        clear k1
        by_cases k2 : kd = 2
        · have k2b : (kd == 2) = true := beq_iff_eq.mpr k2
          clear k2
          go_wp2_with fail
          go_at_call 16
          refine (Flush_nice HIW.out HBW.out HV.out.1 now).mono ?_
          rintro e w5 ⟨rfl, hi, hb, _⟩
          have HI := Aside0.mk hi
          have HB := Aside0.mk hb
          clear hi hb
          go_wp2_with fail
          go_meet
          case rel => exact ⟨now, last, _, _, _, rfl, rfl, ⟨by have := HT.out; omega⟩, ⟨keeps_flush HV.out⟩, HI, HB⟩
        have k2b : (kd == 2) = false := beq_eq_false_iff_ne.mpr k2
        clear k2
        by_cases k3 : kd = 3
        · have k3b : (kd == 3) = true := beq_iff_eq.mpr k3
          have HN := Aside0.mk (HF.out k3)
          clear k3
          replace HN : Aside0 (0 ≤ n ∧ n ≤ 1000) := ⟨HN.out⟩
          go_wp2_with fail
          go_loopw [7, 78] (fun v7 v78 wr2 => ∃ (j nw s1 b1 d1 : Int), v78 = .int .i64 j ∧ v7 = .int .i64 nw ∧ Aside0 (0 ≤ j ∧ j ≤ n ∧ nw = now + j) ∧ Aside0 (KInv s1 b1 last nw) ∧ Aside0 (IsS49 w wr2 g a0 s1 b1 d1) ∧ Aside0 (Below w.heap.size w wr2)) (fun _ v78 _ => (n - intOf v78).toNat)
          case atStart => exact ⟨0, now, s, b, d, rfl, rfl, ⟨by have := HN.out; omega⟩, HV, HIW, HBW⟩
          case round =>
            clear z1 z2 z3
            obtain ⟨j, nw, s1, b1, d1, rfl, rfl, HJ, HV1, HI, HB⟩ := hrel
            by_cases cj : j < n
            · have cjb : decide (j < n) = true := decide_eq_true cj
              have hnw : nw ≤ 1000000 := by have := HT.out; have := HK.out; have := HQ.out.1; have := HJ.out; have := HN.out; omega
              have hnw0 : 0 ≤ nw := HV1.out.2.1
              have e1 : wrap64 (nw + 1) = nw + 1 := by unfold wrap64; omega
              have e2 : wrap64 (j + 1) = j + 1 := by have := HJ.out; have := HN.out; unfold wrap64; omega
              have HX := Aside0.mk (keeps_tick (d := d1) HV1.out hnw)
              have HC2 := Aside0.mk cj
              clear cj hnw hnw0
              go_wp2_with fail
              go_at_call 11
              refine (Tick_nice HI.out HB.out HV1.out.1 (nw + 1)).mono ?_
              rintro e w5 ⟨rfl, hi, hb, _⟩
              have HI := Aside0.mk hi
              have HB := Aside0.mk hb
              clear hi hb
              go_wp2_with fail
              (try rw [e2])
              first
                | (go_roundw; case rel => exact ⟨j + 1, nw + 1, _, _, _, by first | rfl | rw [e2], by first | rfl | rw [e1], ⟨by have := HJ.out; have := HC2.out; omega⟩, ⟨by have h := HX.out; rw [show (tickS s1 b1 d1 (nw + 1)).2.1 = b1 from by rw [h.2]]; exact h.1⟩, HI, HB⟩)
                | (refine ⟨?_, ?measure⟩; exact ⟨j + 1, nw + 1, _, _, _, by first | rfl | rw [e2], by first | rfl | rw [e1], ⟨by have := HJ.out; have := HC2.out; omega⟩, ⟨by have h := HX.out; rw [show (tickS s1 b1 d1 (nw + 1)).2.1 = b1 from by rw [h.2]]; exact h.1⟩, HI, HB⟩)
                | (refine ⟨?_, ?measure⟩; refine ⟨_, _, _, _, _, _, _, _, _, ?rel, rfl⟩; case rel => exact ⟨j + 1, nw + 1, _, _, _, by first | rfl | rw [e2], by first | rfl | rw [e1], ⟨by have := HJ.out; have := HC2.out; omega⟩, ⟨by have h := HX.out; rw [show (tickS s1 b1 d1 (nw + 1)).2.1 = b1 from by rw [h.2]]; exact h.1⟩, HI, HB⟩)
              case measure => have := HJ.out; have := HC2.out; simp [intOf]; omega
            · have cjb : decide (j < n) = false := decide_eq_false cj
              clear cj
              go_wp2_with fail
              go_meet
              case rel => exact ⟨nw, last, _, _, _, rfl, rfl, ⟨by have := HT.out; have := HJ.out; have := HN.out; omega⟩, HV1, HI, HB⟩
        have k3b : (kd == 3) = false := beq_eq_false_iff_ne.mpr k3
        clear k3
        go_wp2_with fail
        go_meet
        case rel => exact ⟨now, last, _, _, _, rfl, rfl, ⟨by have := HT.out; omega⟩, HV, HIW, HBW⟩
      case rest =>
        obtain ⟨now1, last1, s1, b1, d1, rfl, rfl, HT1, HV1, HI, HB⟩ := hcut
        have e3 : wrap64 ((k : Int) + 1) = ((k + 1 : Nat) : Int) := by have := HK.out; have := HQ.out.1; unfold wrap64; omega
        have hm : a0 = 0 ∨ a0 = 1 ∨ a0 = 2 := by have := HM.out; omega
        rcases hm with rfl | rfl | rfl
        · by_cases hs : s1 = 0
          · clear c2b c3b
            have hb1 : hasB 0 s1 = false := by rw [hs]; rfl
            clear hs
            go_wp2_with fail
            go_at_call 12
            refine (Has_nice HI.out HB.out).mono ?_
            rw [hb1]
            rintro e w6 ⟨rfl, hi, hb, _⟩
            have HI := Aside0.mk hi
            have HB := Aside0.mk hb
            clear hi hb
            go_wp2_with fail
            (try rw [e3])
            first
              | (go_roundw; case rel => exact ⟨k + 1, now1, last1, _, _, _, HK.out, by first | rfl | rw [e3], rfl, rfl, ⟨by have := HT1.out; omega⟩, HV1, HI, HB⟩)
              | (refine ⟨?_, ?measure⟩; exact ⟨k + 1, now1, last1, _, _, _, HK.out, by first | rfl | rw [e3], rfl, rfl, ⟨by have := HT1.out; omega⟩, HV1, HI, HB⟩)
            case measure => have := HK.out; simp [intOf]; omega
          · have hv := HV1.out.2.2.2.2 hs
            have hv2 := HV1.out.2
            have hb1 : hasB 0 s1 = true := by unfold hasB; rw [show (s1 != 0) = true from bne_iff_ne.mpr hs]; rfl
            have f1 : decide (last1 < 0) = false := decide_eq_false (by omega)
            have hnow : now1 ≤ 1000000 := by have := HT1.out; have := HK.out; have := HQ.out.1; omega
            have f2 : wrap64 (now1 - last1) = now1 - last1 := by unfold wrap64; omega
            have f3 : decide (120 < now1 - last1) = false := decide_eq_false (by omega)
            have f4 : decide (last1 < b1) = false := decide_eq_false (by omega)
            have hbo : (if hasB 0 s1 = true then (if (0 : Int) = 1 then now1 else b1) else -1) = b1 := by rw [if_pos hb1, if_neg (by decide)]
            clear hv hv2 hs hnow
            go_wp2_with fail
            go_at_call 12
            refine (Has_nice HI.out HB.out).mono ?_
            rw [hb1]
            rintro e w6 ⟨rfl, hi, hb, _⟩
            have HI := Aside0.mk hi
            have HB := Aside0.mk hb
            clear hi hb
            go_wp2_with fail
            go_at_call 17
            refine (Born_nice HI.out HB.out now1).mono ?_
            rw [hbo]
            rintro e w7 ⟨rfl, hi, hb, _⟩
            have HI := Aside0.mk hi
            have HB := Aside0.mk hb
            clear hi hb
            go_wp2_with fail
            (try rw [e3])
            first
              | (go_roundw; case rel => exact ⟨k + 1, now1, last1, _, _, _, HK.out, by first | rfl | rw [e3], rfl, rfl, ⟨by have := HT1.out; omega⟩, HV1, HI, HB⟩)
              | (refine ⟨?_, ?measure⟩; exact ⟨k + 1, now1, last1, _, _, _, HK.out, by first | rfl | rw [e3], rfl, rfl, ⟨by have := HT1.out; omega⟩, HV1, HI, HB⟩)
            case measure => have := HK.out; simp [intOf]; omega
        · clear c2b c3b
          go_wp2_with fail
          go_at_call 12
          refine (Has_nice HI.out HB.out).mono ?_
          rw [show hasB 1 s1 = true from rfl]
          rintro e w6 ⟨rfl, hi, hb, _⟩
          have HI := Aside0.mk hi
          have HB := Aside0.mk hb
          clear hi hb
          go_wp2_with fail
          (try rw [e3])
          first
            | (go_roundw; case rel => exact ⟨k + 1, now1, last1, _, _, _, HK.out, by first | rfl | rw [e3], rfl, rfl, ⟨by have := HT1.out; omega⟩, HV1, HI, HB⟩)
            | (refine ⟨?_, ?measure⟩; exact ⟨k + 1, now1, last1, _, _, _, HK.out, by first | rfl | rw [e3], rfl, rfl, ⟨by have := HT1.out; omega⟩, HV1, HI, HB⟩)
          case measure => have := HK.out; simp [intOf]; omega
        · clear c2b c3b
          go_wp2_with fail
          go_at_call 12
          refine (Has_nice HI.out HB.out).mono ?_
          rw [show hasB 2 s1 = false from rfl]
          rintro e w6 ⟨rfl, hi, hb, _⟩
          have HI := Aside0.mk hi
          have HB := Aside0.mk hb
          clear hi hb
          go_wp2_with fail
          (try rw [e3])
          first
            | (go_roundw; case rel => exact ⟨k + 1, now1, last1, _, _, _, HK.out, by first | rfl | rw [e3], rfl, rfl, ⟨by have := HT1.out; omega⟩, HV1, HI, HB⟩)
            | (refine ⟨?_, ?measure⟩; exact ⟨k + 1, now1, last1, _, _, _, HK.out, by first | rfl | rw [e3], rfl, rfl, ⟨by have := HT1.out; omega⟩, HV1, HI, HB⟩)
          case measure => have := HK.out; simp [intOf]; omega
    · have hltn : decide (k < l1.length) = false := decide_eq_false (by omega)
      clear hlt hk
      go_wp2_with fail
      go_ret
      exact ⟨rfl, HB.out⟩


end Go.Proofs.Ytgmnkilnajkidaa.PRegisKeeps
