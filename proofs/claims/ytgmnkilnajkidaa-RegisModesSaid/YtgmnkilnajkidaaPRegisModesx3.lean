-- Written by a program of this session (see NOTES.md), which reads the translation's print; Lean checks it.
import Derived.Test.YtgmnkilnajkidaaPRegisModesx0
import Derived.Test.YtgmnkilnajkidaaPRegisModesx1
import Derived.Test.YtgmnkilnajkidaaPRegisModesx2
namespace Go.Proofs.Ytgmnkilnajkidaa.PRegisModes
open Go.RowKit Go.Proofs.YtgmnkilnajkidaaW.PrintWords Go.Proofs.YtgmnkilnajkidaaW.PrintLast Go.Proofs.YtgmnkilnajkidaaW.PrintMore
attribute [local go_sem] max2_int min2_int max_two min_two max_three min_three max_four min_four   -- for this text's walks alone
set_option linter.unusedVariables false
set_option linter.unusedSimpArgs false

/-! ### regis_Reg_Mode: function 18 -/
def regis_Reg_Mode.f (s0_0 : Int) (s0_1 : Int) (s0_2 : Int) (s0_3 : Int) : Option (Int × Int × Int × Int × Int) := some (s0_0, s0_0, s0_1, s0_2, s0_3)
set_option maxHeartbeats 8000000 in
set_option maxRecDepth 100000 in
theorem regis_Reg_Mode.calls (g : Nat) (s0_0 : Int) (s0_1 : Int) (s0_2 : Int) (s0_3 : Int) (r1 : Int) (r2 : Int) (r3 : Int) (r4 : Int) (r5 : Int) (w0 w : World) (hI : IsS49 w0 w g s0_0 s0_1 s0_2 s0_3) (hB : Below w0.heap.size w0 w) (h : regis_Reg_Mode.f s0_0 s0_1 s0_2 s0_3 = some (r1, r2, r3, r4, r5)) :
    Calls Try.prog 18 #[.pointer (some ⟨g, 0, none⟩)] w fun e w' => e = .returned (.int .i64 r1) ∧ IsS49 w0 w' g r2 r3 r4 r5 ∧ Below w0.heap.size w0 w' ∧ KeepBut w w' g none := by
  have HI0 := Aside0.mk hI
  have HK := Aside0.mk (KeepBut.refl w g none)
  have HL := Aside0.mk hB.size
  clear hI
  have HW0 := Aside0.mk hB.size
  have HB := Aside0.mk hB
  clear hB
  have H : (some (s0_0, s0_0, s0_1, s0_2, s0_3)) = some (r1, r2, r3, r4, r5) := h
  clear h
  simp only [Option.some.injEq, Prod.mk.injEq] at H
  obtain ⟨rfl, rfl, rfl, rfl, rfl⟩ := H
  obtain ⟨HGz2, hgz2⟩ := HI0.out
  have hcz2_0 := cellS49_0 HGz2
  have hcz2_1 := cellS49_1 HGz2
  have hcz2_2 := cellS49_2 HGz2
  have hcz2_3 := cellS49_3 HGz2
  have hfz2_0 := blk_frozen HGz2 0
  have hfz2_1 := blk_frozen HGz2 1
  have hfz2_2 := blk_frozen HGz2 2
  have hfz2_3 := blk_frozen HGz2 3
  clear HGz2 hgz2
  go_enter Try.func18, Try.ntmps18
  go_wp2
  go_ret
  exact ⟨by first | rfl | (simp [show ∀ l_ : List UInt8, (l_ == []) = l_.isEmpty from fun l_ => by cases l_ <;> rfl]; done) | (simp [errW_none, errW_some] <;> rfl) | ((repeat rw [Int.tdiv_eq_ediv_of_nonneg (by omega)]); (repeat rw [Int.tmod_eq_emod_of_nonneg (by omega)]); first | rfl | (simp [errW_none, errW_some] <;> rfl)) | (simp [*, errW_none, errW_some] <;> rfl), by repeat (first | (with_reducible first | exact HI0.out | apply IsS49.alloc | apply IsS49.drewN | apply IsS49.drew | apply IsS49.set_0 | apply IsS49.set_1 | apply IsS49.set_2 | apply IsS49.set_3) | exact HI0.out), by repeat (first | (with_reducible first | exact HB.out | apply below_alloc | apply pw_below_drewN | apply below_drew1 | refine below_set ?_ (IsS49.ge HI0.out)) | exact HB.out), by repeat (first | (with_reducible first | exact HK.out | apply KeepBut.set_ | apply keep_drewN | apply keep_drew | apply keep_alloc) | exact HK.out)⟩

/-! ### regis_Reg_Set: function 19 -/
def regis_Reg_Set.f (s0_0 : Int) (s0_1 : Int) (s0_2 : Int) (s0_3 : Int) (a1 : Int) : Option (Int × Int × Int × Int × Int) := if a1 < 0 then (some (1, s0_0, s0_1, s0_2, s0_3)) else (if a1 > 2 then (some (1, s0_0, s0_1, s0_2, s0_3)) else (some (0, a1, s0_1, s0_2, s0_3)))
set_option maxHeartbeats 8000000 in
set_option maxRecDepth 100000 in
theorem regis_Reg_Set.calls (g : Nat) (s0_0 : Int) (s0_1 : Int) (s0_2 : Int) (s0_3 : Int) (a1 : Int) (r1 : Int) (r2 : Int) (r3 : Int) (r4 : Int) (r5 : Int) (w0 w : World) (hI : IsS49 w0 w g s0_0 s0_1 s0_2 s0_3) (hB : Below w0.heap.size w0 w) (h : regis_Reg_Set.f s0_0 s0_1 s0_2 s0_3 a1 = some (r1, r2, r3, r4, r5)) :
    Calls Try.prog 19 #[.pointer (some ⟨g, 0, none⟩), .int .i64 a1] w fun e w' => e = .returned (.int .i64 r1) ∧ IsS49 w0 w' g r2 r3 r4 r5 ∧ Below w0.heap.size w0 w' ∧ KeepBut w w' g none := by
  have HI0 := Aside0.mk hI
  have HK := Aside0.mk (KeepBut.refl w g none)
  have HL := Aside0.mk hB.size
  clear hI
  have HW0 := Aside0.mk hB.size
  have HB := Aside0.mk hB
  clear hB
  have H : (if a1 < 0 then (some (1, s0_0, s0_1, s0_2, s0_3)) else (if a1 > 2 then (some (1, s0_0, s0_1, s0_2, s0_3)) else (some (0, a1, s0_1, s0_2, s0_3)))) = some (r1, r2, r3, r4, r5) := h
  clear h
  by_cases c3 : a1 < 0
  · rw [if_pos c3] at H
    have c3b0 : decide (a1 < 0) = true := decide_eq_true c3
    clear c3
    simp only [Option.some.injEq, Prod.mk.injEq] at H
    obtain ⟨rfl, rfl, rfl, rfl, rfl⟩ := H
    go_enter Try.func19, Try.ntmps19
    go_wp2
    go_ret
    exact ⟨by first | rfl | (simp [show ∀ l_ : List UInt8, (l_ == []) = l_.isEmpty from fun l_ => by cases l_ <;> rfl]; done) | (simp [errW_none, errW_some] <;> rfl) | ((repeat rw [Int.tdiv_eq_ediv_of_nonneg (by omega)]); (repeat rw [Int.tmod_eq_emod_of_nonneg (by omega)]); first | rfl | (simp [errW_none, errW_some] <;> rfl)) | (simp [*, errW_none, errW_some] <;> rfl), by repeat (first | (with_reducible first | exact HI0.out | apply IsS49.alloc | apply IsS49.drewN | apply IsS49.drew | apply IsS49.set_0 | apply IsS49.set_1 | apply IsS49.set_2 | apply IsS49.set_3) | exact HI0.out), by repeat (first | (with_reducible first | exact HB.out | apply below_alloc | apply pw_below_drewN | apply below_drew1 | refine below_set ?_ (IsS49.ge HI0.out)) | exact HB.out), by repeat (first | (with_reducible first | exact HK.out | apply KeepBut.set_ | apply keep_drewN | apply keep_drew | apply keep_alloc) | exact HK.out)⟩
  · rw [if_neg c3] at H
    have c3b0 : decide (a1 < 0) = false := decide_eq_false c3
    clear c3
    by_cases c4 : a1 > 2
    · rw [if_pos c4] at H
      have c4b0 : decide (2 < a1) = true := decide_eq_true c4
      clear c4
      simp only [Option.some.injEq, Prod.mk.injEq] at H
      obtain ⟨rfl, rfl, rfl, rfl, rfl⟩ := H
      go_enter Try.func19, Try.ntmps19
      go_wp2
      go_ret
      exact ⟨by first | rfl | (simp [show ∀ l_ : List UInt8, (l_ == []) = l_.isEmpty from fun l_ => by cases l_ <;> rfl]; done) | (simp [errW_none, errW_some] <;> rfl) | ((repeat rw [Int.tdiv_eq_ediv_of_nonneg (by omega)]); (repeat rw [Int.tmod_eq_emod_of_nonneg (by omega)]); first | rfl | (simp [errW_none, errW_some] <;> rfl)) | (simp [*, errW_none, errW_some] <;> rfl), by repeat (first | (with_reducible first | exact HI0.out | apply IsS49.alloc | apply IsS49.drewN | apply IsS49.drew | apply IsS49.set_0 | apply IsS49.set_1 | apply IsS49.set_2 | apply IsS49.set_3) | exact HI0.out), by repeat (first | (with_reducible first | exact HB.out | apply below_alloc | apply pw_below_drewN | apply below_drew1 | refine below_set ?_ (IsS49.ge HI0.out)) | exact HB.out), by repeat (first | (with_reducible first | exact HK.out | apply KeepBut.set_ | apply keep_drewN | apply keep_drew | apply keep_alloc) | exact HK.out)⟩
    · rw [if_neg c4] at H
      have c4b0 : decide (2 < a1) = false := decide_eq_false c4
      clear c4
      simp only [Option.some.injEq, Prod.mk.injEq] at H
      obtain ⟨rfl, rfl, rfl, rfl, rfl⟩ := H
      obtain ⟨HGz5, hgz5⟩ := HI0.out
      have hcz5_0 := cellS49_0 HGz5
      have hcz5_1 := cellS49_1 HGz5
      have hcz5_2 := cellS49_2 HGz5
      have hcz5_3 := cellS49_3 HGz5
      have hfz5_0 := blk_frozen HGz5 0
      have hfz5_1 := blk_frozen HGz5 1
      have hfz5_2 := blk_frozen HGz5 2
      have hfz5_3 := blk_frozen HGz5 3
      clear HGz5 hgz5
      go_enter Try.func19, Try.ntmps19
      go_wp2
      go_ret
      exact ⟨by first | rfl | (simp [show ∀ l_ : List UInt8, (l_ == []) = l_.isEmpty from fun l_ => by cases l_ <;> rfl]; done) | (simp [errW_none, errW_some] <;> rfl) | ((repeat rw [Int.tdiv_eq_ediv_of_nonneg (by omega)]); (repeat rw [Int.tmod_eq_emod_of_nonneg (by omega)]); first | rfl | (simp [errW_none, errW_some] <;> rfl)) | (simp [*, errW_none, errW_some] <;> rfl), by repeat (first | (with_reducible first | exact HI0.out | apply IsS49.alloc | apply IsS49.drewN | apply IsS49.drew | apply IsS49.set_0 | apply IsS49.set_1 | apply IsS49.set_2 | apply IsS49.set_3) | exact HI0.out), by repeat (first | (with_reducible first | exact HB.out | apply below_alloc | apply pw_below_drewN | apply below_drew1 | refine below_set ?_ (IsS49.ge HI0.out)) | exact HB.out), by repeat (first | (with_reducible first | exact HK.out | apply KeepBut.set_ | apply keep_drewN | apply keep_drew | apply keep_alloc) | exact HK.out)⟩

/-! ### kissgatelaw14_RegisModes: function 6 -/
theorem great_go (l : List S38) (hl : l.length ≤ 9223372036854775807) : ∀ (j i : Nat), i + j = l.length → ∃ r, kissgatelaw14_great.l0 (j + 1) l l (l.length : Int) (i : Int) = some r ∧
    (r = false → l.length ≤ 100 ∧ ∀ n : Nat, i ≤ n → n < l.length → (rd_T38 l n).f0 = 3 → 0 ≤ (rd_T38 l n).f3 ∧ (rd_T38 l n).f3 ≤ 1000) := by
  intro j
  induction j with
  | zero =>
    intro i h
    rw [kissgatelaw14_great.l0, if_neg (by omega)]
    exact ⟨_, rfl, fun h1 => ⟨by have := of_decide_eq_false h1; omega, fun n h2 h3 => by omega⟩⟩
  | succ j ih =>
    intro i h
    rw [kissgatelaw14_great.l0, if_pos (by omega), if_pos (by omega), if_pos (by omega)]
    have e : wrap64 ((i : Int) + 1) = ((i + 1 : Nat) : Int) := by unfold wrap64; omega
    obtain ⟨r, hr, hq⟩ := ih (i + 1) (by omega)
    by_cases h0 : (rd_T38 l (i : Int)).f0 = 3
    · rw [if_pos h0]
      by_cases h1 : (rd_T38 l (i : Int)).f3 < 0
      · rw [if_pos h1]; exact ⟨_, rfl, fun h => by simp at h⟩
      · rw [if_neg h1]
        by_cases h2 : (rd_T38 l (i : Int)).f3 > 1000
        · rw [if_pos h2]; exact ⟨_, rfl, fun h => by simp at h⟩
        · rw [if_neg h2, e]
          refine ⟨r, hr, fun h3 => ⟨(hq h3).1, fun n hn hn2 h4 => ?_⟩⟩
          by_cases hni : n = i
          · subst hni; omega
          · exact (hq h3).2 n (by omega) hn2 h4
    · rw [if_neg h0, e]
      refine ⟨r, hr, fun h3 => ⟨(hq h3).1, fun n hn hn2 h4 => ?_⟩⟩
      by_cases hni : n = i
      · subst hni; exact absurd h4 h0
      · exact (hq h3).2 n (by omega) hn2 h4
theorem Great_nice {A : Option Addr} {c : Nat} {l : List S38} {w : World} (hr : Kd.C k38 w A l.length l) (hc : l.length ≤ c) :
    Calls Try.prog 15 #[.slice A l.length c] w fun e w' => ∃ r : Bool, e = .returned (.bool r) ∧ (r = false → l.length ≤ 100 ∧ ∀ n : Nat, n < l.length → (rd_T38 l n).f0 = 3 → 0 ≤ (rd_T38 l n).f3 ∧ (rd_T38 l n).f3 ≤ 1000) ∧ Below w.heap.size w w' := by
  obtain ⟨r, h, hq⟩ := great_go l hr.2.1 l.length 0 (by omega)
  refine (kissgatelaw14_great.calls (l.length + 1) A c l r w hr hc h).mono ?_
  rintro e w' ⟨rfl, hb⟩
  exact ⟨r, rfl, fun h => ⟨(hq h).1, fun n => (hq h).2 n (Nat.zero_le n)⟩, hb⟩
theorem born_eq (m s b d now : Int) : regis_Reg_Born.f m s b d now = some (if hasB m s = true then (if m = 1 then now else b) else -1, m, s, b, d) := by
  unfold regis_Reg_Born.f
  rw [has_eq, Option.bind_some]
  by_cases h : hasB m s = true
  · rw [if_pos h, if_pos h]; by_cases h1 : m = 1
    · rw [if_pos h1, if_pos h1]
    · rw [if_neg h1, if_neg h1]
  · rw [if_neg h, if_neg h]
theorem Born_nice {g : Nat} {m s b d : Int} {w0 w : World} (hI : IsS49 w0 w g m s b d) (hB : Below w0.heap.size w0 w) (now : Int) :
    Calls Try.prog 17 #[.pointer (some ⟨g, 0, none⟩), .int .i64 now] w fun e w' => e = .returned (.int .i64 (if hasB m s = true then (if m = 1 then now else b) else -1)) ∧ IsS49 w0 w' g m s b d ∧ Below w0.heap.size w0 w' ∧ KeepBut w w' g none :=
  regis_Reg_Born.calls g m s b d now _ _ _ _ _ w0 w hI hB (born_eq m s b d now)
theorem all_eq (m s b d now : Int) (hs : 0 ≤ s ∧ s ≤ 2) : regis_Reg_All.f m s b d now = some (m, nx s 2, b, du s d 2 now) := by
  unfold regis_Reg_All.f; rw [step_eq _ _ _ _ _ _ hs (by omega)]; rfl
theorem All_nice {g : Nat} {m s b d : Int} {w0 w : World} (hI : IsS49 w0 w g m s b d) (hB : Below w0.heap.size w0 w) (hs : 0 ≤ s ∧ s ≤ 2) (now : Int) :
    Calls Try.prog 13 #[.pointer (some ⟨g, 0, none⟩), .int .i64 now] w fun e w' => e = .returned (.tuple #[]) ∧ IsS49 w0 w' g m (nx s 2) b (du s d 2 now) ∧ Below w0.heap.size w0 w' ∧ KeepBut w w' g none :=
  regis_Reg_All.calls g m s b d now _ _ _ _ w0 w hI hB (all_eq m s b d now hs)
theorem flush_eq (m s b d now : Int) (hs : 0 ≤ s ∧ s ≤ 2) : regis_Reg_Flush.f m s b d now = some (hasB m 0 != hasB m s, m, 0, b, d) := by
  unfold regis_Reg_Flush.f
  simp only [has_eq, Option.bind_some, step_eq _ _ _ _ _ _ hs (show (0 : Int) ≤ 4 ∧ (4 : Int) ≤ 4 by decide), nx_4, du_4]
theorem Flush_nice {g : Nat} {m s b d : Int} {w0 w : World} (hI : IsS49 w0 w g m s b d) (hB : Below w0.heap.size w0 w) (hs : 0 ≤ s ∧ s ≤ 2) (now : Int) :
    Calls Try.prog 16 #[.pointer (some ⟨g, 0, none⟩), .int .i64 now] w fun e w' => e = .returned (.bool (hasB m 0 != hasB m s)) ∧ IsS49 w0 w' g m 0 b d ∧ Below w0.heap.size w0 w' ∧ KeepBut w w' g none :=
  regis_Reg_Flush.calls g m s b d now _ _ _ _ _ w0 w hI hB (flush_eq m s b d now hs)
def KInv (s b last now : Int) : Prop := (0 ≤ s ∧ s ≤ 2) ∧ 0 ≤ now ∧ -1 ≤ last ∧ last ≤ now ∧ (s ≠ 0 → 0 ≤ b ∧ b ≤ last ∧ now - b ≤ 120)
theorem keeps_hear {s b d last now ev bn : Int} (h : KInv s b last now) (hn : now ≤ 1000000) (he : ev = 0 ∨ ev = 1 ∨ ev = 3) : KInv (hearS s b d ev bn now).1 (hearS s b d ev bn now).2.1 (mx last (mn bn now)) now := by
  obtain ⟨h1, h2, h3, h4, h5⟩ := h
  have hm : mn bn now ≤ now := by unfold mn; split <;> omega
  have hx : last ≤ mx last (mn bn now) ∧ mn bn now ≤ mx last (mn bn now) ∧ mx last (mn bn now) ≤ now := by unfold mx; split <;> omega
  unfold hearS
  rw [if_pos he]
  generalize mn bn now = b' at hm hx ⊢
  generalize mx last b' = l' at hx ⊢
  by_cases hc : ¬ wrap64 (now - b') > 120 ∧ b' ≥ 0
  · rw [if_pos hc]
    have e : wrap64 (now - b') = now - b' := by unfold wrap64; omega
    rw [e] at hc
    refine ⟨by simp, h2, by omega, by omega, fun _ => ?_⟩
    show 0 ≤ (if s = 0 then b' else mx b b') ∧ (if s = 0 then b' else mx b b') ≤ l' ∧ now - (if s = 0 then b' else mx b b') ≤ 120
    by_cases hs : s = 0
    · rw [if_pos hs]; omega
    · rw [if_neg hs]; have := h5 hs; unfold mx; split <;> omega
  · rw [if_neg hc]
    exact ⟨h1, h2, by omega, by omega, fun hs => by have := h5 hs; show 0 ≤ b ∧ b ≤ l' ∧ now - b ≤ 120; omega⟩
theorem nx_0s (ev : Int) (h : ev = 1 ∨ ev = 2) : nx 0 ev = 0 := by unfold nx; rcases h with rfl | rfl <;> rfl
theorem keeps_nx {s b last now ev : Int} (h : KInv s b last now) (he : ev = 1 ∨ ev = 2) : KInv (nx s ev) b last now :=
  ⟨nx_in _ _, h.2.1, h.2.2.1, h.2.2.2.1, fun hs => h.2.2.2.2 (fun h0 => hs (by rw [h0]; exact nx_0s ev he))⟩
theorem keeps_hear2 {s b d last now ev bn : Int} (h : KInv s b last now) (he : ¬ (ev = 0 ∨ ev = 1 ∨ ev = 3)) : KInv (hearS s b d ev bn now).1 (hearS s b d ev bn now).2.1 last now := by
  unfold hearS
  rw [if_neg he]
  by_cases h5 : ev = 5
  · rw [if_pos h5]; exact keeps_nx h (.inl rfl)
  · rw [if_neg h5]; exact h
theorem keeps_flush {s b last now : Int} (h : KInv s b last now) : KInv 0 b last now := ⟨by decide, h.2.1, h.2.2.1, h.2.2.2.1, fun hs => absurd rfl hs⟩
theorem keeps_tick {s b d last now : Int} (h : KInv s b last now) (hn : now ≤ 1000000) : KInv (tickS s b d (now + 1)).1 b last (now + 1) ∧ (tickS s b d (now + 1)).2 = (b, d) := by
  obtain ⟨h1, h2, h3, h4, h5⟩ := h
  have hs1 : ∀ x, x = (if s = 1 ∧ now + 1 ≥ d then (0 : Int) else s) → (0 ≤ x ∧ x ≤ 2) ∧ (x ≠ 0 → s ≠ 0) := by
    intro x hx; subst hx; split
    · exact ⟨by decide, fun h => absurd rfl h⟩
    · exact ⟨h1, id⟩
  unfold tickS
  have hq := hs1 _ rfl
  generalize (if s = 1 ∧ now + 1 ≥ d then (0 : Int) else s) = s1 at hq ⊢
  by_cases hc : s1 ≠ 0 ∧ wrap64 (now + 1 - b) > 120
  · rw [if_pos hc]; exact ⟨⟨by simp, by omega, h3, by omega, fun h => absurd rfl h⟩, rfl⟩
  · rw [if_neg hc]
    refine ⟨⟨hq.1, by omega, h3, by omega, fun hs => ?_⟩, rfl⟩
    have hb := h5 (hq.2 hs)
    have e : wrap64 (now + 1 - b) = now + 1 - b := by unfold wrap64; omega
    rw [e] at hc
    have : ¬ (now + 1 - b > 120) := fun h => hc ⟨hs, h⟩
    omega
def kissgatelaw14_RegisModes.Pure : Prop := True
theorem keep_is {w0 W W' : World} {g h : Nat} {f0 f1 f2 f3 : Int} (hI : IsS49 w0 W h f0 f1 f2 f3) (hk : KeepBut W W' g none) (hne : h ≠ g) : IsS49 w0 W' h f0 f1 f2 f3 :=
  ⟨(hk.2 h (IsS49.lt hI) hne (by simp)).trans hI.1, hI.2⟩
theorem State_nice {g : Nat} {m s b d : Int} {w0 w : World} (hI : IsS49 w0 w g m s b d) (hB : Below w0.heap.size w0 w) :
    Calls Try.prog 14 #[.pointer (some ⟨g, 0, none⟩)] w fun e w' => e = .returned (.int .i64 s) ∧ IsS49 w0 w' g m s b d ∧ Below w0.heap.size w0 w' ∧ KeepBut w w' g none :=
  regis_Reg_State.calls g m s b d _ _ _ _ _ w0 w hI hB rfl
theorem Mode_nice {g : Nat} {m s b d : Int} {w0 w : World} (hI : IsS49 w0 w g m s b d) (hB : Below w0.heap.size w0 w) :
    Calls Try.prog 18 #[.pointer (some ⟨g, 0, none⟩)] w fun e w' => e = .returned (.int .i64 m) ∧ IsS49 w0 w' g m s b d ∧ Below w0.heap.size w0 w' ∧ KeepBut w w' g none :=
  regis_Reg_Mode.calls g m s b d _ _ _ _ _ w0 w hI hB rfl
theorem Set_nice {g : Nat} {m s b d : Int} {w0 w : World} (hI : IsS49 w0 w g m s b d) (hB : Below w0.heap.size w0 w) (x : Int) (hx : 0 ≤ x ∧ x ≤ 2) :
    Calls Try.prog 19 #[.pointer (some ⟨g, 0, none⟩), .int .i64 x] w fun e w' => e = .returned (.int .i64 0) ∧ IsS49 w0 w' g x s b d ∧ Below w0.heap.size w0 w' ∧ KeepBut w w' g none :=
  regis_Reg_Set.calls g m s b d x _ _ _ _ _ w0 w hI hB (by unfold regis_Reg_Set.f; rw [if_neg (by omega), if_neg (by omega)])
set_option maxHeartbeats 8000000 in
set_option maxRecDepth 100000 in
theorem kissgatelaw14_RegisModes.walk (P : kissgatelaw14_RegisModes.Pure) (A0 : Option Addr) (c0 : Nat) (l0 : List S38) (a1 : Int) (w : World) (hr0 : Kd.C k38 w A0 l0.length l0) (hc0 : l0.length ≤ c0) (hw0 : ∀ z ∈ l0, (Lit.int .i64 z.f0).wf = true ∧ (Lit.int .i64 z.f1).wf = true ∧ (Lit.int .i64 z.f2).wf = true ∧ (Lit.int .i64 z.f3).wf = true) (w1 : (Lit.int .i64 a1).wf = true) :
    Calls Try.prog 6 #[.slice A0 l0.length c0, .int .i64 a1] w fun e w' => e = .returned (.bool true) ∧ Below w.heap.size w w' := by
  clear P hw0 w1
  have hu38 := Try.underlying38
  have HR := Aside0.mk hr0
  have HC := Aside0.mk hc0
  clear hr0 hc0
  go_enter Try.func6, Try.ntmps6
  go_wp2_with fail
  go_at_call 8
  refine (kissgatelaw14_alive.good w _ (Below.refl _ _)).mono ?_
  rintro e w1 ⟨rfl, hb, _⟩
  have HB := Aside0.mk hb
  clear hb
  go_wp2_with fail
  go_at_call 15
  refine (Great_nice (Kd.C_below HR.out HB.out) HC.out).mono ?_
  rintro e w2 ⟨r, rfl, hq, hb⟩
  have HB := Aside0.mk (below_step HB.out hb)
  clear hb
  cases r
  case true =>
    clear hq
    go_wp2_with fail
    go_ret
    exact ⟨rfl, HB.out⟩
  have HQ := Aside0.mk (hq rfl)
  clear hq
  by_cases c2 : a1 < 0
  · have c2b : decide (a1 < 0) = true := decide_eq_true c2
    go_wp2_with fail
    go_ret
    exact ⟨rfl, HB.out⟩
  have c2b : decide (a1 < 0) = false := decide_eq_false c2
  by_cases c3 : 2 < a1
  · have c3b : decide (2 < a1) = true := decide_eq_true c3
    go_wp2_with fail
    go_ret
    exact ⟨rfl, HB.out⟩
  have c3b : decide (2 < a1) = false := decide_eq_false c3
  have HM := Aside0.mk (show 0 ≤ a1 ∧ a1 ≤ 2 by omega)
  clear c2 c3
  go_wp2_with fail
  go_at_call 9
  refine (regis_New.good 0 (by decide) (by decide) w _ HB.out).mono ?_
  rintro e w3 ⟨g, rfl, hg, hi, hb, _⟩
  have HG := Aside0.mk hi
  have HB := Aside0.mk hb
  clear hi hb hg
  go_wp2_with fail
  go_at_call 9
  refine (regis_New.good a1 HM.out.1 HM.out.2 w _ HB.out).mono ?_
  rintro e w4 ⟨h, rfl, hg, hi, hb, hb2⟩
  have HNE := Aside0.mk (show h ≠ g from Ne.symm (Nat.ne_of_lt (Nat.lt_of_lt_of_le (IsS49.lt HG.out) hg)))
  have HG := Aside0.mk (IsS49.below HG.out hb2)
  have HH := Aside0.mk hi
  have HB := Aside0.mk hb
  clear hi hb hg hb2 c2b c3b
  go_wp2_with fail
  go_loopw [9, 35] (fun v9 v35 wr => ∃ (k : Nat) (now s b d : Int), k ≤ l0.length ∧ v35 = .int .i64 (k : Nat) ∧ v9 = .int .i64 now ∧ Aside0 (0 ≤ s ∧ s ≤ 2) ∧ Aside0 (IsS49 w wr g 0 s b d) ∧ Aside0 (IsS49 w wr h a1 s b d) ∧ Aside0 (Below w.heap.size w wr)) (fun _ v35 _ => l0.length - (intOf v35).toNat)
  case atStart => exact ⟨0, 0, 0, 0, 0, Nat.zero_le _, rfl, rfl, ⟨by decide⟩, HG, HH, HB⟩
  case round =>
    clear HG HH HB
    obtain ⟨k, now, s, b, d, hk, rfl, rfl, HS, HG, HH, HB⟩ := hrel
    by_cases hlt : (k : Int) < (l0.length : Int)
    · have hltn : decide (k < l0.length) = true := decide_eq_true (by omega)
      have HK := Aside0.mk (show k < l0.length by omega)
      obtain ⟨ad, e0, hx0, hx1, hx2, hx3⟩ := at_T38 HR.out (k : Int) (by omega) hlt
      cases e0
      replace hx0 := (HB.out.cell (World.block_lt_of_cell? w _ hx0)).trans hx0
      replace hx1 := (HB.out.cell (World.block_lt_of_cell? w _ hx1)).trans hx1
      replace hx2 := (HB.out.cell (World.block_lt_of_cell? w _ hx2)).trans hx2
      replace hx3 := (HB.out.cell (World.block_lt_of_cell? w _ hx3)).trans hx3
      have p0 := eq_true (show 0 ≤ (k : Int) by omega)
      have q0 := eq_true hlt
      generalize rd_T38 l0 (k : Int) = z at hx0 hx1 hx2 hx3
      obtain ⟨kd, ev, bn, n⟩ := z
      replace hx0 : wr.cell? (ad.add (k * 4)) = some (.int .i64 kd) := hx0
      replace hx1 : wr.cell? ⟨(ad.add (k * 4)).block, (ad.add (k * 4)).off + 1, none⟩ = some (.int .i64 ev) := hx1
      replace hx2 : wr.cell? ⟨(ad.add (k * 4)).block, (ad.add (k * 4)).off + 2, none⟩ = some (.int .i64 bn) := hx2
      replace hx3 : wr.cell? ⟨(ad.add (k * 4)).block, (ad.add (k * 4)).off + 3, none⟩ = some (.int .i64 n) := hx3
      clear hlt hk
      have HZ := Aside0.mk (heap_alloc_new wr (.cells #[.int .i64 kd, .int .i64 ev, .int .i64 bn, .int .i64 n] 38))
      have cz0 := (blk_cell HZ.out 0).trans rfl
      have cz1 := (blk_cell HZ.out 1).trans rfl
      have cz2 := (blk_cell HZ.out 2).trans rfl
      have cz3 := (blk_cell HZ.out 3).trans rfl
      go_upto_block 2 with (fail)
      clear cz0 cz1 cz2 cz3 hx0 hx1 hx2 hx3 p0 q0
      have HBG := Aside0.mk (show wr.heap.size ≠ g from Nat.ne_of_gt (IsS49.lt HG.out))
      have HBH := Aside0.mk (show wr.heap.size ≠ h from Nat.ne_of_gt (IsS49.lt HH.out))
      replace HG := Aside0.mk (IsS49.alloc HG.out (.cells #[.int .i64 kd, .int .i64 ev, .int .i64 bn, .int .i64 n] 38))
      replace HH := Aside0.mk (IsS49.alloc HH.out (.cells #[.int .i64 kd, .int .i64 ev, .int .i64 bn, .int .i64 n] 38))
      replace HB := Aside0.mk (below_alloc HB.out (.cells #[.int .i64 kd, .int .i64 ev, .int .i64 bn, .int .i64 n] 38))
      generalize wr.alloc (.cells #[.int .i64 kd, .int .i64 ev, .int .i64 bn, .int .i64 n] 38) = W at HZ HG HH HB ⊢
      generalize wr.heap.size = gb at HZ HBG HBH ⊢
      have e3 : wrap64 ((k : Int) + 1) = ((k + 1 : Nat) : Int) := by have := HK.out; have := HQ.out.1; unfold wrap64; omega
      have E3 := Aside0.mk e3
      clear e3
      have z1 := (blk_cell HZ.out 1).trans rfl
      have z2 := (blk_cell HZ.out 2).trans rfl
      have z3 := (blk_cell HZ.out 3).trans rfl
      by_cases k0 : kd = 0
      · have k0b : (kd == 0) = true := beq_iff_eq.mpr k0
        clear k0
        go_wp2_with fail
        go_at_call 10
        refine (Hear_nice HG.out HB.out HS.out ev bn now).mono ?_
        rintro e w5 ⟨rfl, hi, hb, hk⟩
        have HZ := Aside0.mk ((hk.2 gb (Array.getElem?_eq_some_iff.1 HZ.out).1 HBG.out (by simp)).trans HZ.out)
        have z1 := (blk_cell HZ.out 1).trans rfl
        have z2 := (blk_cell HZ.out 2).trans rfl
        have z3 := (blk_cell HZ.out 3).trans rfl
        have HH := Aside0.mk (keep_is HH.out hk HNE.out)
        have HG := Aside0.mk hi
        have HB := Aside0.mk hb
        clear hi hb hk
        go_wp2_with fail
        go_at_call 10
        refine (Hear_nice HH.out HB.out HS.out ev bn now).mono ?_
        rintro e w5 ⟨rfl, hi, hb, hk⟩
        have HG := Aside0.mk (keep_is HG.out hk (Ne.symm HNE.out))
        have HH := Aside0.mk hi
        have HB := Aside0.mk hb
        clear hi hb hk
        go_wp2_with fail
        (try rw [E3.out])
        first
          | (go_roundw; case rel => exact ⟨k + 1, now, _, _, _, HK.out, by first | rfl | rw [E3.out], rfl, ⟨hearS_in s b d ev bn now HS.out⟩, HG, HH, HB⟩)
          | (refine ⟨?_, ?measure⟩; exact ⟨k + 1, now, _, _, _, HK.out, by first | rfl | rw [E3.out], rfl, ⟨hearS_in s b d ev bn now HS.out⟩, HG, HH, HB⟩)
        case measure => have := HK.out; simp [intOf]; omega
      have k0b : (kd == 0) = false := beq_eq_false_iff_ne.mpr k0
      clear k0
      by_cases k1 : kd = 1
      · have k1b : (kd == 1) = true := beq_iff_eq.mpr k1
        clear k1
        go_wp2_with fail
        go_at_call 13
        refine (All_nice HG.out HB.out HS.out now).mono ?_
        rintro e w5 ⟨rfl, hi, hb, hk⟩
        have HH := Aside0.mk (keep_is HH.out hk HNE.out)
        have HG := Aside0.mk hi
        have HB := Aside0.mk hb
        clear hi hb hk
        go_wp2_with fail
        go_at_call 13
        refine (All_nice HH.out HB.out HS.out now).mono ?_
        rintro e w5 ⟨rfl, hi, hb, hk⟩
        have HG := Aside0.mk (keep_is HG.out hk (Ne.symm HNE.out))
        have HH := Aside0.mk hi
        have HB := Aside0.mk hb
        clear hi hb hk
        go_wp2_with fail
        (try rw [E3.out])
        first
          | (go_roundw; case rel => exact ⟨k + 1, now, _, _, _, HK.out, by first | rfl | rw [E3.out], rfl, ⟨nx_in _ _⟩, HG, HH, HB⟩)
          | (refine ⟨?_, ?measure⟩; exact ⟨k + 1, now, _, _, _, HK.out, by first | rfl | rw [E3.out], rfl, ⟨nx_in _ _⟩, HG, HH, HB⟩)
        case measure => have := HK.out; simp [intOf]; omega
      have k1b : (kd == 1) = false := beq_eq_false_iff_ne.mpr k1
      clear k1
      by_cases k2 : kd = 2
      · have k2b : (kd == 2) = true := beq_iff_eq.mpr k2
        clear k2
        go_wp2_with fail
        go_at_call 16
        refine (Flush_nice HG.out HB.out HS.out now).mono ?_
        rintro e w5 ⟨rfl, hi, hb, hk⟩
        have HH := Aside0.mk (keep_is HH.out hk HNE.out)
        have HG := Aside0.mk hi
        have HB := Aside0.mk hb
        clear hi hb hk
        go_wp2_with fail
        go_at_call 16
        refine (Flush_nice HH.out HB.out HS.out now).mono ?_
        rintro e w5 ⟨rfl, hi, hb, hk⟩
        have HG := Aside0.mk (keep_is HG.out hk (Ne.symm HNE.out))
        have HH := Aside0.mk hi
        have HB := Aside0.mk hb
        clear hi hb hk
        go_wp2_with fail
        (try rw [E3.out])
        first
          | (go_roundw; case rel => exact ⟨k + 1, now, _, _, _, HK.out, by first | rfl | rw [E3.out], rfl, ⟨by decide⟩, HG, HH, HB⟩)
          | (refine ⟨?_, ?measure⟩; exact ⟨k + 1, now, _, _, _, HK.out, by first | rfl | rw [E3.out], rfl, ⟨by decide⟩, HG, HH, HB⟩)
        case measure => have := HK.out; simp [intOf]; omega
      have k2b : (kd == 2) = false := beq_eq_false_iff_ne.mpr k2
      clear k2
      by_cases k3 : kd = 3
      · have k3b : (kd == 3) = true := beq_iff_eq.mpr k3
        clear k3
        obtain ⟨t, ht⟩ : ∃ t, wrap64 (now + n) = t := ⟨_, rfl⟩
        go_wp2_with fail
        go_at_call 11
        refine (Tick_nice HG.out HB.out HS.out t).mono ?_
        rintro e w5 ⟨rfl, hi, hb, hk⟩
        have HH := Aside0.mk (keep_is HH.out hk HNE.out)
        have HG := Aside0.mk hi
        have HB := Aside0.mk hb
        clear hi hb hk
        go_wp2_with fail
        go_at_call 11
        refine (Tick_nice HH.out HB.out HS.out t).mono ?_
        rintro e w5 ⟨rfl, hi, hb, hk⟩
        have HG := Aside0.mk (keep_is HG.out hk (Ne.symm HNE.out))
        have HH := Aside0.mk hi
        have HB := Aside0.mk hb
        clear hi hb hk
        go_wp2_with fail
        (try rw [E3.out])
        first
          | (go_roundw; case rel => exact ⟨k + 1, t, _, _, _, HK.out, by first | rfl | rw [E3.out], rfl, ⟨tickS_in s b d t HS.out⟩, HG, HH, HB⟩)
          | (refine ⟨?_, ?measure⟩; exact ⟨k + 1, t, _, _, _, HK.out, by first | rfl | rw [E3.out], rfl, ⟨tickS_in s b d t HS.out⟩, HG, HH, HB⟩)
        case measure => have := HK.out; simp [intOf]; omega
      have k3b : (kd == 3) = false := beq_eq_false_iff_ne.mpr k3
      clear k3
      go_wp2_with fail
      (try rw [E3.out])
      first
        | (go_roundw; case rel => exact ⟨k + 1, now, _, _, _, HK.out, by first | rfl | rw [E3.out], rfl, HS, HG, HH, HB⟩)
        | (refine ⟨?_, ?measure⟩; exact ⟨k + 1, now, _, _, _, HK.out, by first | rfl | rw [E3.out], rfl, HS, HG, HH, HB⟩)
      case measure => have := HK.out; simp [intOf]; omega
    · have hltn : decide (k < l0.length) = false := decide_eq_false (by omega)
      clear hlt hk
      go_wp2_with fail
      go_at_call 18
      refine (Mode_nice HH.out HB.out).mono ?_
      rintro e w5 ⟨rfl, hi, hb, hk⟩
      have HG := Aside0.mk (keep_is HG.out hk (Ne.symm HNE.out))
      have HH := Aside0.mk hi
      have HB := Aside0.mk hb
      clear hi hb hk
      go_wp2_with fail
      go_at_call 19
      refine (Set_nice HH.out HB.out 0 (by decide)).mono ?_
      rintro e w5 ⟨rfl, hi, hb, hk⟩
      have HG := Aside0.mk (keep_is HG.out hk (Ne.symm HNE.out))
      have HH := Aside0.mk hi
      have HB := Aside0.mk hb
      clear hi hb hk
      go_wp2_with fail
      go_at_call 14
      refine (State_nice HG.out HB.out).mono ?_
      rintro e w5 ⟨rfl, hi, hb, hk⟩
      have HH := Aside0.mk (keep_is HH.out hk HNE.out)
      have HG := Aside0.mk hi
      have HB := Aside0.mk hb
      clear hi hb hk
      go_wp2_with fail
      go_at_call 14
      refine (State_nice HH.out HB.out).mono ?_
      rintro e w5 ⟨rfl, hi, hb, hk⟩
      have HG := Aside0.mk (keep_is HG.out hk (Ne.symm HNE.out))
      have HH := Aside0.mk hi
      have HB := Aside0.mk hb
      clear hi hb hk
      go_wp2_with fail
      go_at_call 12
      refine (Has_nice HG.out HB.out).mono ?_
      rintro e w5 ⟨rfl, hi, hb, hk⟩
      have HH := Aside0.mk (keep_is HH.out hk HNE.out)
      have HG := Aside0.mk hi
      have HB := Aside0.mk hb
      clear hi hb hk
      go_wp2_with fail
      go_at_call 12
      refine (Has_nice HH.out HB.out).mono ?_
      rintro e w5 ⟨rfl, hi, hb, hk⟩
      have HG := Aside0.mk (keep_is HG.out hk (Ne.symm HNE.out))
      have HH := Aside0.mk hi
      have HB := Aside0.mk hb
      clear hi hb hk
      obtain ⟨bo, hbo⟩ : ∃ bo, (if hasB 0 s = true then (if (0 : Int) = 1 then now else b) else -1) = bo := ⟨_, rfl⟩
      obtain ⟨ha, hha⟩ : ∃ ha, hasB 0 s = ha := ⟨_, rfl⟩
      have BN := Aside0.mk (Born_nice HG.out HB.out now)
      have HBO := Aside0.mk hbo
      clear hbo
      go_wp2_with fail
      go_at_call 17
      refine (Born_nice HG.out HB.out now).mono ?_
      rw [HBO.out]
      rintro e w5 ⟨rfl, hi, hb, hk⟩
      have HH := Aside0.mk (keep_is HH.out hk HNE.out)
      have HG := Aside0.mk hi
      have HB := Aside0.mk hb
      clear hi hb hk
      go_wp2_with fail
      go_at_call 17
      refine (Born_nice HH.out HB.out now).mono ?_
      rw [HBO.out]
      rintro e w5 ⟨rfl, hi, hb, hk⟩
      have HB := Aside0.mk hb
      clear hi hb hk
      go_wp2_with fail
      go_ret
      exact ⟨by simp, HB.out⟩


end Go.Proofs.Ytgmnkilnajkidaa.PRegisModes
