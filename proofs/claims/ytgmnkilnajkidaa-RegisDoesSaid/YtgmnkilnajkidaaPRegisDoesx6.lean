-- Written by a program of this session (see NOTES.md), which reads the translation's print; Lean checks it.
import Derived.Test.YtgmnkilnajkidaaPRegisDoesx0
import Derived.Test.YtgmnkilnajkidaaPRegisDoesx1
import Derived.Test.YtgmnkilnajkidaaPRegisDoesx2
import Derived.Test.YtgmnkilnajkidaaPRegisDoesx3
import Derived.Test.YtgmnkilnajkidaaPRegisDoesx4
import Derived.Test.YtgmnkilnajkidaaPRegisDoesx5
namespace Go.Proofs.Ytgmnkilnajkidaa.PRegisDoes
open Go.RowKit Go.Proofs.YtgmnkilnajkidaaW.PrintWords Go.Proofs.YtgmnkilnajkidaaW.PrintLast Go.Proofs.YtgmnkilnajkidaaW.PrintMore
attribute [local go_sem] max2_int min2_int max_two min_two max_three min_three max_four min_four   -- for this text's walks alone
set_option linter.unusedVariables false
set_option linter.unusedSimpArgs false

/-! ### kissgatelaw14_RegisDoes: function 7 -/
theorem great_go (l : List S38) (hl : l.length ≤ 9223372036854775807) : ∀ (j i : Nat), i + j = l.length → ∃ r, kissgatelaw14_great.l0 (j + 1) l l (l.length : Int) (i : Int) = some r ∧
    (r = false → l.length ≤ 100 ∧ ∀ n : Nat, i ≤ n → n < l.length → (rd_T38 l n).f0 = 3 → 0 ≤ (rd_T38 l n).f3 ∧ (rd_T38 l n).f3 ≤ 1000) := by
  intro j
  induction j with
  | zero =>
    intro i h
    rw [kissgatelaw14_great.l0, if_neg (by omega)]
    exact ⟨_, rfl, fun h1 => ⟨by have := of_decide_eq_false h1; omega, fun n h2 h3 => by omega⟩⟩
  | succ j ih =>
    intro i h
    rw [kissgatelaw14_great.l0, if_pos (by omega), if_pos (by omega), if_pos (by omega)]
    have e : wrap64 ((i : Int) + 1) = ((i + 1 : Nat) : Int) := by unfold wrap64; omega
    obtain ⟨r, hr, hq⟩ := ih (i + 1) (by omega)
    by_cases h0 : (rd_T38 l (i : Int)).f0 = 3
    · rw [if_pos h0]
      by_cases h1 : (rd_T38 l (i : Int)).f3 < 0
      · rw [if_pos h1]; exact ⟨_, rfl, fun h => by simp at h⟩
      · rw [if_neg h1]
        by_cases h2 : (rd_T38 l (i : Int)).f3 > 1000
        · rw [if_pos h2]; exact ⟨_, rfl, fun h => by simp at h⟩
        · rw [if_neg h2, e]
          refine ⟨r, hr, fun h3 => ⟨(hq h3).1, fun n hn hn2 h4 => ?_⟩⟩
          by_cases hni : n = i
          · subst hni; omega
          · exact (hq h3).2 n (by omega) hn2 h4
    · rw [if_neg h0, e]
      refine ⟨r, hr, fun h3 => ⟨(hq h3).1, fun n hn hn2 h4 => ?_⟩⟩
      by_cases hni : n = i
      · subst hni; exact absurd h4 h0
      · exact (hq h3).2 n (by omega) hn2 h4
theorem Great_nice {A : Option Addr} {c : Nat} {l : List S38} {w : World} (hr : Kd.C k38 w A l.length l) (hc : l.length ≤ c) :
    Calls Try.prog 15 #[.slice A l.length c] w fun e w' => ∃ r : Bool, e = .returned (.bool r) ∧ (r = false → l.length ≤ 100 ∧ ∀ n : Nat, n < l.length → (rd_T38 l n).f0 = 3 → 0 ≤ (rd_T38 l n).f3 ∧ (rd_T38 l n).f3 ≤ 1000) ∧ Below w.heap.size w w' := by
  obtain ⟨r, h, hq⟩ := great_go l hr.2.1 l.length 0 (by omega)
  refine (kissgatelaw14_great.calls (l.length + 1) A c l r w hr hc h).mono ?_
  rintro e w' ⟨rfl, hb⟩
  exact ⟨r, rfl, fun h => ⟨(hq h).1, fun n => (hq h).2 n (Nat.zero_le n)⟩, hb⟩
theorem born_eq (m s b d now : Int) : regis_Reg_Born.f m s b d now = some (if hasB m s = true then (if m = 1 then now else b) else -1, m, s, b, d) := by
  unfold regis_Reg_Born.f
  rw [has_eq, Option.bind_some]
  by_cases h : hasB m s = true
  · rw [if_pos h, if_pos h]; by_cases h1 : m = 1
    · rw [if_pos h1, if_pos h1]
    · rw [if_neg h1, if_neg h1]
  · rw [if_neg h, if_neg h]
theorem Born_nice {g : Nat} {m s b d : Int} {w0 w : World} (hI : IsS49 w0 w g m s b d) (hB : Below w0.heap.size w0 w) (now : Int) :
    Calls Try.prog 17 #[.pointer (some ⟨g, 0, none⟩), .int .i64 now] w fun e w' => e = .returned (.int .i64 (if hasB m s = true then (if m = 1 then now else b) else -1)) ∧ IsS49 w0 w' g m s b d ∧ Below w0.heap.size w0 w' ∧ KeepBut w w' g none :=
  regis_Reg_Born.calls g m s b d now _ _ _ _ _ w0 w hI hB (born_eq m s b d now)
theorem all_eq (m s b d now : Int) (hs : 0 ≤ s ∧ s ≤ 2) : regis_Reg_All.f m s b d now = some (m, nx s 2, b, du s d 2 now) := by
  unfold regis_Reg_All.f; rw [step_eq _ _ _ _ _ _ hs (by omega)]; rfl
theorem All_nice {g : Nat} {m s b d : Int} {w0 w : World} (hI : IsS49 w0 w g m s b d) (hB : Below w0.heap.size w0 w) (hs : 0 ≤ s ∧ s ≤ 2) (now : Int) :
    Calls Try.prog 13 #[.pointer (some ⟨g, 0, none⟩), .int .i64 now] w fun e w' => e = .returned (.tuple #[]) ∧ IsS49 w0 w' g m (nx s 2) b (du s d 2 now) ∧ Below w0.heap.size w0 w' ∧ KeepBut w w' g none :=
  regis_Reg_All.calls g m s b d now _ _ _ _ w0 w hI hB (all_eq m s b d now hs)
theorem flush_eq (m s b d now : Int) (hs : 0 ≤ s ∧ s ≤ 2) : regis_Reg_Flush.f m s b d now = some (hasB m 0 != hasB m s, m, 0, b, d) := by
  unfold regis_Reg_Flush.f
  simp only [has_eq, Option.bind_some, step_eq _ _ _ _ _ _ hs (show (0 : Int) ≤ 4 ∧ (4 : Int) ≤ 4 by decide), nx_4, du_4]
theorem Flush_nice {g : Nat} {m s b d : Int} {w0 w : World} (hI : IsS49 w0 w g m s b d) (hB : Below w0.heap.size w0 w) (hs : 0 ≤ s ∧ s ≤ 2) (now : Int) :
    Calls Try.prog 16 #[.pointer (some ⟨g, 0, none⟩), .int .i64 now] w fun e w' => e = .returned (.bool (hasB m 0 != hasB m s)) ∧ IsS49 w0 w' g m 0 b d ∧ Below w0.heap.size w0 w' ∧ KeepBut w w' g none :=
  regis_Reg_Flush.calls g m s b d now _ _ _ _ _ w0 w hI hB (flush_eq m s b d now hs)
def KInv (s b last now : Int) : Prop := (0 ≤ s ∧ s ≤ 2) ∧ 0 ≤ now ∧ -1 ≤ last ∧ last ≤ now ∧ (s ≠ 0 → 0 ≤ b ∧ b ≤ last ∧ now - b ≤ 120)
theorem keeps_hear {s b d last now ev bn : Int} (h : KInv s b last now) (hn : now ≤ 1000000) (he : ev = 0 ∨ ev = 1 ∨ ev = 3) : KInv (hearS s b d ev bn now).1 (hearS s b d ev bn now).2.1 (mx last (mn bn now)) now := by
  obtain ⟨h1, h2, h3, h4, h5⟩ := h
  have hm : mn bn now ≤ now := by unfold mn; split <;> omega
  have hx : last ≤ mx last (mn bn now) ∧ mn bn now ≤ mx last (mn bn now) ∧ mx last (mn bn now) ≤ now := by unfold mx; split <;> omega
  unfold hearS
  rw [if_pos he]
  generalize mn bn now = b' at hm hx ⊢
  generalize mx last b' = l' at hx ⊢
  by_cases hc : ¬ wrap64 (now - b') > 120 ∧ b' ≥ 0
  · rw [if_pos hc]
    have e : wrap64 (now - b') = now - b' := by unfold wrap64; omega
    rw [e] at hc
    refine ⟨by simp, h2, by omega, by omega, fun _ => ?_⟩
    show 0 ≤ (if s = 0 then b' else mx b b') ∧ (if s = 0 then b' else mx b b') ≤ l' ∧ now - (if s = 0 then b' else mx b b') ≤ 120
    by_cases hs : s = 0
    · rw [if_pos hs]; omega
    · rw [if_neg hs]; have := h5 hs; unfold mx; split <;> omega
  · rw [if_neg hc]
    exact ⟨h1, h2, by omega, by omega, fun hs => by have := h5 hs; show 0 ≤ b ∧ b ≤ l' ∧ now - b ≤ 120; omega⟩
theorem nx_0s (ev : Int) (h : ev = 1 ∨ ev = 2) : nx 0 ev = 0 := by unfold nx; rcases h with rfl | rfl <;> rfl
theorem keeps_nx {s b last now ev : Int} (h : KInv s b last now) (he : ev = 1 ∨ ev = 2) : KInv (nx s ev) b last now :=
  ⟨nx_in _ _, h.2.1, h.2.2.1, h.2.2.2.1, fun hs => h.2.2.2.2 (fun h0 => hs (by rw [h0]; exact nx_0s ev he))⟩
theorem keeps_hear2 {s b d last now ev bn : Int} (h : KInv s b last now) (he : ¬ (ev = 0 ∨ ev = 1 ∨ ev = 3)) : KInv (hearS s b d ev bn now).1 (hearS s b d ev bn now).2.1 last now := by
  unfold hearS
  rw [if_neg he]
  by_cases h5 : ev = 5
  · rw [if_pos h5]; exact keeps_nx h (.inl rfl)
  · rw [if_neg h5]; exact h
theorem keeps_flush {s b last now : Int} (h : KInv s b last now) : KInv 0 b last now := ⟨by decide, h.2.1, h.2.2.1, h.2.2.2.1, fun hs => absurd rfl hs⟩
theorem keeps_tick {s b d last now : Int} (h : KInv s b last now) (hn : now ≤ 1000000) : KInv (tickS s b d (now + 1)).1 b last (now + 1) ∧ (tickS s b d (now + 1)).2 = (b, d) := by
  obtain ⟨h1, h2, h3, h4, h5⟩ := h
  have hs1 : ∀ x, x = (if s = 1 ∧ now + 1 ≥ d then (0 : Int) else s) → (0 ≤ x ∧ x ≤ 2) ∧ (x ≠ 0 → s ≠ 0) := by
    intro x hx; subst hx; split
    · exact ⟨by decide, fun h => absurd rfl h⟩
    · exact ⟨h1, id⟩
  unfold tickS
  have hq := hs1 _ rfl
  generalize (if s = 1 ∧ now + 1 ≥ d then (0 : Int) else s) = s1 at hq ⊢
  by_cases hc : s1 ≠ 0 ∧ wrap64 (now + 1 - b) > 120
  · rw [if_pos hc]; exact ⟨⟨by simp, by omega, h3, by omega, fun h => absurd rfl h⟩, rfl⟩
  · rw [if_neg hc]
    refine ⟨⟨hq.1, by omega, h3, by omega, fun hs => ?_⟩, rfl⟩
    have hb := h5 (hq.2 hs)
    have e : wrap64 (now + 1 - b) = now + 1 - b := by unfold wrap64; omega
    rw [e] at hc
    have : ¬ (now + 1 - b > 120) := fun h => hc ⟨hs, h⟩
    omega
def kissgatelaw14_RegisDoes.Pure : Prop := True
theorem keep_g {w0 W W' : World} {g h : Nat} {f0 f1 f2 f3 : Int} (hI : IsS49 w0 W h f0 f1 f2 f3) (hk : KeepBut W W' g none) (hne : h ≠ g) : IsS49 w0 W' h f0 f1 f2 f3 :=
  ⟨(hk.2 h (IsS49.lt hI) hne (by simp)).trans hI.1, hI.2⟩
theorem keep_h {w0 W W' : World} {g h : Nat} {f0 f1 f2 f3 : Int} (hI : IsS45 w0 W h f0 f1 f2 f3) (hk : KeepBut W W' g none) (hne : h ≠ g) : IsS45 w0 W' h f0 f1 f2 f3 :=
  ⟨(hk.2 h (IsS45.lt hI) hne (by simp)).trans hI.1, hI.2⟩
theorem rhas_eq (m s b d : Int) (hs : 0 ≤ s) : kissgateref14_Reg_Has.f m s b d = some (hasB m s, m, s, b, d) := by
  unfold kissgateref14_Reg_Has.f hasB
  by_cases h1 : m = 1
  · rw [if_pos h1, h1]; rfl
  · rw [if_neg h1, beq_eq_false_iff_ne.mpr h1]
    by_cases h0 : m = 0
    · rw [if_pos h0, h0]
      have : (decide (s > 0)) = (s != 0) := by
        by_cases c : s = 0
        · subst c; rfl
        · rw [decide_eq_true (show s > 0 by omega), bne_iff_ne.mpr c]
      rw [this]; rfl
    · rw [if_neg h0, beq_eq_false_iff_ne.mpr h0]; rfl
theorem rstep_eq (m s b d ev now : Int) (hs : 0 ≤ s ∧ s ≤ 2) (he : 0 ≤ ev ∧ ev ≤ 4) : kissgateref14_Reg_Step.f m s b d ev now = some (m, nx s ev, b, du s d ev now) := by
  have h1 : s = 0 ∨ s = 1 ∨ s = 2 := by omega
  have h2 : ev = 0 ∨ ev = 1 ∨ ev = 2 ∨ ev = 3 ∨ ev = 4 := by omega
  rcases h1 with rfl | rfl | rfl <;> rcases h2 with rfl | rfl | rfl | rfl | rfl <;> rfl
theorem rhear_j2 (k : Nat) (m s b d x now : Int) (q : Bool) (hs : 0 ≤ s ∧ s ≤ 2) : kissgateref14_Reg_Hear.j2 (k + 1) now x q m s b d =
    some (if q = true then (m, s, b, d) else (m, 2, if s = 0 then x else mx b x, d)) := by
  rw [kissgateref14_Reg_Hear.j2]
  cases q
  · rw [if_neg Bool.false_ne_true, if_neg Bool.false_ne_true]
    by_cases h : s = 0
    · rw [if_pos h, if_pos h, rstep_eq _ _ _ _ _ _ hs (by omega), nx_0, du_0]; rfl
    · rw [if_neg h, if_neg h]
      by_cases h2 : x > b
      · rw [if_pos h2, rstep_eq _ _ _ _ _ _ hs (by omega), nx_0, du_0, show mx b x = x from by unfold mx; rw [if_pos (by omega)]]; rfl
      · rw [if_neg h2, rstep_eq _ _ _ _ _ _ hs (by omega), nx_0, du_0, show mx b x = b from by unfold mx; rw [if_neg (by omega)]]; rfl
  · rw [if_pos rfl, if_pos rfl]
theorem rhear_j1 (k : Nat) (m s b d bn now : Int) (q : Bool) (hs : 0 ≤ s ∧ s ≤ 2) : kissgateref14_Reg_Hear.j1 (k + 2) bn now q m s b d =
    some (if q = true then (m, s, b, d) else (if ¬ wrap64 (now - mn bn now) > 120 ∧ mn bn now ≥ 0 then (m, 2, if s = 0 then mn bn now else mx b (mn bn now), d) else (m, s, b, d))) := by
  rw [show k + 2 = (k + 1) + 1 from rfl, kissgateref14_Reg_Hear.j1]
  cases q
  · rw [if_neg Bool.false_ne_true, if_neg Bool.false_ne_true, rhear_j2 _ _ _ _ _ _ _ _ hs, rhear_j2 _ _ _ _ _ _ _ _ hs]
    by_cases h1 : mn bn now < 0
    · rw [if_pos h1, if_pos rfl, if_neg (show ¬ (¬ wrap64 (now - mn bn now) > 120 ∧ mn bn now ≥ 0) from fun h => by omega)]
    · rw [if_neg h1]
      by_cases h2 : wrap64 (now - mn bn now) > 120
      · rw [decide_eq_true h2, if_pos rfl, if_neg (show ¬ (¬ wrap64 (now - mn bn now) > 120 ∧ mn bn now ≥ 0) from fun h => h.1 h2)]
      · rw [decide_eq_false h2, if_neg Bool.false_ne_true, if_pos (show ¬ wrap64 (now - mn bn now) > 120 ∧ mn bn now ≥ 0 from ⟨h2, by omega⟩)]
  · rw [if_pos rfl, if_pos rfl]
theorem rhear_j0 (k : Nat) (m s b d ev bn now : Int) (hs : 0 ≤ s ∧ s ≤ 2) : kissgateref14_Reg_Hear.j0 (k + 3) ev bn now m s b d =
    some (if ev = 0 ∨ ev = 1 ∨ ev = 3 then (if ¬ wrap64 (now - mn bn now) > 120 ∧ mn bn now ≥ 0 then (m, 2, if s = 0 then mn bn now else mx b (mn bn now), d) else (m, s, b, d)) else (m, s, b, d)) := by
  rw [show k + 3 = (k + 2) + 1 from rfl, kissgateref14_Reg_Hear.j0, rhear_j1 _ _ _ _ _ _ _ _ hs, rhear_j1 _ _ _ _ _ _ _ _ hs]
  by_cases h0 : ev = 0
  · rw [if_pos h0, if_neg Bool.false_ne_true, if_pos (show ev = 0 ∨ ev = 1 ∨ ev = 3 from .inl h0)]
  · rw [if_neg h0]
    by_cases h1 : ev = 1
    · rw [if_pos h1, if_neg Bool.false_ne_true, if_pos (show ev = 0 ∨ ev = 1 ∨ ev = 3 from .inr (.inl h1))]
    · rw [if_neg h1]
      by_cases h3 : ev = 3
      · rw [show (ev != 3) = false from by simp [h3], if_neg Bool.false_ne_true, if_pos (show ev = 0 ∨ ev = 1 ∨ ev = 3 from .inr (.inr h3))]
      · rw [show (ev != 3) = true from bne_iff_ne.mpr h3, if_pos rfl, if_neg (show ¬ (ev = 0 ∨ ev = 1 ∨ ev = 3) by omega)]
theorem rhear_eq (m s b d ev bn now : Int) (hs : 0 ≤ s ∧ s ≤ 2) : kissgateref14_Reg_Hear.f 3 m s b d ev bn now =
    some (m, (hearS s b d ev bn now).1, (hearS s b d ev bn now).2.1, (hearS s b d ev bn now).2.2) := by
  unfold kissgateref14_Reg_Hear.f hearS
  by_cases h5 : ev = 5
  · subst h5
    rw [if_pos rfl, rstep_eq _ _ _ _ _ _ hs (by omega), Option.bind_some, rhear_j0 0 _ _ _ _ _ _ _ (nx_in _ _)]
    simp
  · rw [if_neg h5, rhear_j0 0 _ _ _ _ _ _ _ hs, if_neg h5]
    by_cases h1 : ev = 0 ∨ ev = 1 ∨ ev = 3
    · rw [if_pos h1, if_pos h1]; split <;> rfl
    · rw [if_neg h1, if_neg h1]
theorem rtick_eq (m s b d now : Int) (hs : 0 ≤ s ∧ s ≤ 2) : kissgateref14_Reg_Tick.f 1 m s b d now =
    some (m, (tickS s b d now).1, (tickS s b d now).2.1, (tickS s b d now).2.2) := by
  have key : ∀ (q : Bool) (z : Int), (q = true → s = 1) → (if q = true then 0 else s) = z → kissgateref14_Reg_Tick.j0 1 now q m s b d = some (m, (if z ≠ 0 ∧ wrap64 (now - b) > 120 then (0, b, d) else (z, b, d) : Int × Int × Int).1, (if z ≠ 0 ∧ wrap64 (now - b) > 120 then (0, b, d) else (z, b, d) : Int × Int × Int).2.1, (if z ≠ 0 ∧ wrap64 (now - b) > 120 then (0, b, d) else (z, b, d) : Int × Int × Int).2.2) := by
    intro q z hq hz
    rw [show (1 : Nat) = 0 + 1 from rfl, kissgateref14_Reg_Tick.j0]
    cases q
    · rw [if_neg Bool.false_ne_true] at hz ⊢
      subst hz
      by_cases h0 : s = 0
      · rw [if_pos h0, if_neg (fun h => h.1 h0)]
      · rw [if_neg h0]
        by_cases h1 : wrap64 (now - b) > 120
        · rw [if_pos h1, if_pos ⟨h0, h1⟩, rstep_eq _ _ _ _ _ _ hs (by omega), nx_4, du_4]; rfl
        · rw [if_neg h1, if_neg (fun h => h1 h.2)]
    · have h1 := hq rfl
      rw [if_pos rfl] at hz ⊢
      subst h1 hz
      rw [rstep_eq _ _ _ _ _ _ hs (by omega), Option.bind_some, show nx 1 3 = 0 from rfl, du_3, if_pos rfl, if_neg (fun h => h.1 rfl)]
  unfold kissgateref14_Reg_Tick.f tickS
  by_cases h : s = 1
  · rw [if_pos h]
    by_cases h2 : now ≥ d
    · rw [decide_eq_true h2, key true 0 (fun _ => h) rfl, show (if s = 1 ∧ now ≥ d then (0 : Int) else s) = 0 from if_pos ⟨h, h2⟩]
    · rw [decide_eq_false h2, key false s (by simp) rfl, show (if s = 1 ∧ now ≥ d then (0 : Int) else s) = s from if_neg (fun h => h2 h.2)]
  · rw [if_neg h, key false s (by simp) rfl, show (if s = 1 ∧ now ≥ d then (0 : Int) else s) = s from if_neg (fun h2 => h h2.1)]
theorem RHas_nice {g : Nat} {m s b d : Int} {w0 w : World} (hI : IsS45 w0 w g m s b d) (hB : Below w0.heap.size w0 w) (hs : 0 ≤ s ∧ s ≤ 2) :
    Calls Try.prog 21 #[.pointer (some ⟨g, 0, none⟩)] w fun e w' => e = .returned (.bool (hasB m s)) ∧ IsS45 w0 w' g m s b d ∧ Below w0.heap.size w0 w' ∧ KeepBut w w' g none :=
  kissgateref14_Reg_Has.calls g m s b d _ _ _ _ _ w0 w hI hB (rhas_eq m s b d hs.1)
theorem RHear_nice {g : Nat} {m s b d : Int} {w0 w : World} (hI : IsS45 w0 w g m s b d) (hB : Below w0.heap.size w0 w) (hs : 0 ≤ s ∧ s ≤ 2) (ev : Int) (bn : Int) (now : Int) :
    Calls Try.prog 22 #[.pointer (some ⟨g, 0, none⟩), .int .i64 ev, .int .i64 bn, .int .i64 now] w fun e w' => e = .returned (.tuple #[]) ∧ IsS45 w0 w' g m (hearS s b d ev bn now).1 (hearS s b d ev bn now).2.1 (hearS s b d ev bn now).2.2 ∧ Below w0.heap.size w0 w' ∧ KeepBut w w' g none :=
  kissgateref14_Reg_Hear.calls 3 g m s b d ev bn now _ _ _ _ w0 w hI hB (rhear_eq m s b d ev bn now hs)
theorem RTick_nice {g : Nat} {m s b d : Int} {w0 w : World} (hI : IsS45 w0 w g m s b d) (hB : Below w0.heap.size w0 w) (hs : 0 ≤ s ∧ s ≤ 2) (now : Int) :
    Calls Try.prog 24 #[.pointer (some ⟨g, 0, none⟩), .int .i64 now] w fun e w' => e = .returned (.tuple #[]) ∧ IsS45 w0 w' g m (tickS s b d now).1 (tickS s b d now).2.1 (tickS s b d now).2.2 ∧ Below w0.heap.size w0 w' ∧ KeepBut w w' g none :=
  kissgateref14_Reg_Tick.calls 1 g m s b d now _ _ _ _ w0 w hI hB (rtick_eq m s b d now hs)
theorem RStep2_nice {g : Nat} {m s b d : Int} {w0 w : World} (hI : IsS45 w0 w g m s b d) (hB : Below w0.heap.size w0 w) (hs : 0 ≤ s ∧ s ≤ 2) (now : Int) :
    Calls Try.prog 23 #[.pointer (some ⟨g, 0, none⟩), .int .i64 2, .int .i64 now] w fun e w' => e = .returned (.tuple #[]) ∧ IsS45 w0 w' g m (nx s 2) b (du s d 2 now) ∧ Below w0.heap.size w0 w' ∧ KeepBut w w' g none :=
  kissgateref14_Reg_Step.calls g m s b d 2 now _ _ _ _ w0 w hI hB (rstep_eq m s b d 2 now hs (by decide))
theorem RStep4_nice {g : Nat} {m s b d : Int} {w0 w : World} (hI : IsS45 w0 w g m s b d) (hB : Below w0.heap.size w0 w) (hs : 0 ≤ s ∧ s ≤ 2) (now : Int) :
    Calls Try.prog 23 #[.pointer (some ⟨g, 0, none⟩), .int .i64 4, .int .i64 now] w fun e w' => e = .returned (.tuple #[]) ∧ IsS45 w0 w' g m 0 b d ∧ Below w0.heap.size w0 w' ∧ KeepBut w w' g none :=
  kissgateref14_Reg_Step.calls g m s b d 4 now _ _ _ _ w0 w hI hB ((rstep_eq m s b d 4 now hs (by decide)).trans (by rw [nx_4, du_4]))
theorem State_nice {g : Nat} {m s b d : Int} {w0 w : World} (hI : IsS49 w0 w g m s b d) (hB : Below w0.heap.size w0 w) :
    Calls Try.prog 14 #[.pointer (some ⟨g, 0, none⟩)] w fun e w' => e = .returned (.int .i64 s) ∧ IsS49 w0 w' g m s b d ∧ Below w0.heap.size w0 w' ∧ KeepBut w w' g none :=
  regis_Reg_State.calls g m s b d _ _ _ _ _ w0 w hI hB rfl
theorem Mode_nice {g : Nat} {m s b d : Int} {w0 w : World} (hI : IsS49 w0 w g m s b d) (hB : Below w0.heap.size w0 w) :
    Calls Try.prog 18 #[.pointer (some ⟨g, 0, none⟩)] w fun e w' => e = .returned (.int .i64 m) ∧ IsS49 w0 w' g m s b d ∧ Below w0.heap.size w0 w' ∧ KeepBut w w' g none :=
  regis_Reg_Mode.calls g m s b d _ _ _ _ _ w0 w hI hB rfl
def idleB (m s : Int) : Bool := m == 0 && s == 0
theorem Idle_nice {g : Nat} {m s b d : Int} {w0 w : World} (hI : IsS49 w0 w g m s b d) (hB : Below w0.heap.size w0 w) :
    Calls Try.prog 20 #[.pointer (some ⟨g, 0, none⟩)] w fun e w' => e = .returned (.bool (idleB m s)) ∧ IsS49 w0 w' g m s b d ∧ Below w0.heap.size w0 w' ∧ KeepBut w w' g none :=
  regis_Reg_Idle.calls g m s b d _ _ _ _ _ w0 w hI hB (by unfold regis_Reg_Idle.f idleB; by_cases h : m = 0 <;> simp [h])
theorem Set_nice {g : Nat} {m s b d : Int} {w0 w : World} (hI : IsS49 w0 w g m s b d) (hB : Below w0.heap.size w0 w) (x : Int) (hx : 0 ≤ x ∧ x ≤ 2) :
    Calls Try.prog 19 #[.pointer (some ⟨g, 0, none⟩), .int .i64 x] w fun e w' => e = .returned (.int .i64 0) ∧ IsS49 w0 w' g x s b d ∧ Below w0.heap.size w0 w' ∧ KeepBut w w' g none :=
  regis_Reg_Set.calls g m s b d x _ _ _ _ _ w0 w hI hB (by unfold regis_Reg_Set.f; rw [if_neg (by omega), if_neg (by omega)])
theorem Setbad_nice {g : Nat} {m s b d : Int} {w0 w : World} (hI : IsS49 w0 w g m s b d) (hB : Below w0.heap.size w0 w) (x : Int) (hx : ¬ (0 ≤ x ∧ x ≤ 2)) :
    Calls Try.prog 19 #[.pointer (some ⟨g, 0, none⟩), .int .i64 x] w fun e w' => e = .returned (.int .i64 1) ∧ IsS49 w0 w' g m s b d ∧ Below w0.heap.size w0 w' ∧ KeepBut w w' g none :=
  regis_Reg_Set.calls g m s b d x _ _ _ _ _ w0 w hI hB (by unfold regis_Reg_Set.f; by_cases h : x < 0 <;> simp [h]; omega)
theorem nil_Hear (a : Int) (b : Int) (c : Int) (w : World) : Calls Try.prog 10 #[.pointer none, .int .i64 a, .int .i64 b, .int .i64 c] w fun e w' => e = .returned (.bool false) ∧ Drawn0 w w' := by
  go_enter Try.func10, Try.ntmps10
  go_wp2_with fail
  go_ret
  exact ⟨rfl, Drawn0.refl _⟩
theorem nil_Flush (a : Int) (w : World) : Calls Try.prog 16 #[.pointer none, .int .i64 a] w fun e w' => e = .returned (.bool false) ∧ Drawn0 w w' := by
  go_enter Try.func16, Try.ntmps16
  go_wp2_with fail
  go_ret
  exact ⟨rfl, Drawn0.refl _⟩
theorem nil_Tick (a : Int) (w : World) : Calls Try.prog 11 #[.pointer none, .int .i64 a] w fun e w' => e = .returned (.bool false) ∧ Drawn0 w w' := by
  go_enter Try.func11, Try.ntmps11
  go_wp2_with fail
  go_ret
  exact ⟨rfl, Drawn0.refl _⟩
theorem nil_Has (w : World) : Calls Try.prog 12 #[.pointer none] w fun e w' => e = .returned (.bool false) ∧ Drawn0 w w' := by
  go_enter Try.func12, Try.ntmps12
  go_wp2_with fail
  go_ret
  exact ⟨rfl, Drawn0.refl _⟩
theorem nil_Born (a : Int) (w : World) : Calls Try.prog 17 #[.pointer none, .int .i64 a] w fun e w' => e = .returned (.int .i64 (-1)) ∧ Drawn0 w w' := by
  go_enter Try.func17, Try.ntmps17
  go_wp2_with fail
  go_at_call 12
  refine (nil_Has w).mono ?_
  rintro e w1 ⟨rfl, hd⟩
  have HD := Aside0.mk hd
  clear hd
  go_wp2_with fail
  go_ret
  exact ⟨rfl, HD.out⟩
theorem nil_State (w : World) : Calls Try.prog 14 #[.pointer none] w fun e w' => e = .returned (.int .i64 0) ∧ Drawn0 w w' := by
  go_enter Try.func14, Try.ntmps14
  go_wp2_with fail
  go_ret
  exact ⟨rfl, Drawn0.refl _⟩
theorem nil_Mode (w : World) : Calls Try.prog 18 #[.pointer none] w fun e w' => e = .returned (.int .i64 0) ∧ Drawn0 w w' := by
  go_enter Try.func18, Try.ntmps18
  go_wp2_with fail
  go_ret
  exact ⟨rfl, Drawn0.refl _⟩
theorem nil_Idle (w : World) : Calls Try.prog 20 #[.pointer none] w fun e w' => e = .returned (.bool true) ∧ Drawn0 w w' := by
  go_enter Try.func20, Try.ntmps20
  go_wp2_with fail
  go_ret
  exact ⟨rfl, Drawn0.refl _⟩
theorem nil_Set (a : Int) (w : World) : Calls Try.prog 19 #[.pointer none, .int .i64 a] w fun e w' => e = .returned (.int .i64 2) ∧ Drawn0 w w' := by
  go_enter Try.func19, Try.ntmps19
  go_wp2_with fail
  go_ret
  exact ⟨rfl, Drawn0.refl _⟩
set_option maxHeartbeats 4000000 in
set_option maxRecDepth 100000 in
theorem qHas {g : Nat} {m s b d : Int} {w : World} (h : w.heap[g]? = some (.cells #[.int .i64 m, .int .i64 s, .int .i64 b, .int .i64 d] 49 (0, 0))) (hm : 0 ≤ m ∧ m ≤ 2) (hs : 0 ≤ s ∧ s ≤ 2) :
    Calls Try.prog 12 #[.pointer (some ⟨g, 0, none⟩)] w fun e w' => e = .returned (.bool (hasB m s)) ∧ ∃ n, w' = w.drewN n := by
  have q0 := (blk_cell h 0).trans (rfl : _ = some (Value.int .i64 m))
  have q1 := (blk_cell h 1).trans (rfl : _ = some (Value.int .i64 s))
  have q2 := (blk_cell h 2).trans (rfl : _ = some (Value.int .i64 b))
  have HH := Aside0.mk h
  have HM := Aside0.mk hm
  have HS := Aside0.mk hs
  have h1 : m = 0 ∨ m = 1 ∨ m = 2 := by omega
  have h2 : s = 0 ∨ s = 1 ∨ s = 2 := by omega
  clear hm hs h
  rcases h1 with rfl | rfl | rfl <;> rcases h2 with rfl | rfl | rfl <;>
    (go_enter Try.func12, Try.ntmps12
     go_wp2_with fail
     go_ret
     first | exact ⟨rfl, 0, rfl⟩ | exact ⟨rfl, nq, rfl⟩ | exact ⟨rfl, _, rfl⟩)
set_option maxHeartbeats 4000000 in
set_option maxRecDepth 100000 in
theorem qRHas {g : Nat} {m s b d : Int} {w : World} (h : w.heap[g]? = some (.cells #[.int .i64 m, .int .i64 s, .int .i64 b, .int .i64 d] 45 (0, 0))) (hm : 0 ≤ m ∧ m ≤ 2) (hs : 0 ≤ s ∧ s ≤ 2) :
    Calls Try.prog 21 #[.pointer (some ⟨g, 0, none⟩)] w fun e w' => e = .returned (.bool (hasB m s)) ∧ ∃ n, w' = w.drewN n := by
  have q0 := (blk_cell h 0).trans (rfl : _ = some (Value.int .i64 m))
  have q1 := (blk_cell h 1).trans (rfl : _ = some (Value.int .i64 s))
  have q2 := (blk_cell h 2).trans (rfl : _ = some (Value.int .i64 b))
  have HH := Aside0.mk h
  have HM := Aside0.mk hm
  have HS := Aside0.mk hs
  have h1 : m = 0 ∨ m = 1 ∨ m = 2 := by omega
  have h2 : s = 0 ∨ s = 1 ∨ s = 2 := by omega
  clear hm hs h
  rcases h1 with rfl | rfl | rfl <;> rcases h2 with rfl | rfl | rfl <;>
    (go_enter Try.func21, Try.ntmps21
     go_wp2_with fail
     go_ret
     first | exact ⟨rfl, 0, rfl⟩ | exact ⟨rfl, nq, rfl⟩ | exact ⟨rfl, _, rfl⟩)
set_option maxHeartbeats 4000000 in
set_option maxRecDepth 100000 in
theorem qState {g : Nat} {m s b d : Int} {w : World} (h : w.heap[g]? = some (.cells #[.int .i64 m, .int .i64 s, .int .i64 b, .int .i64 d] 49 (0, 0))) (hm : 0 ≤ m ∧ m ≤ 2) (hs : 0 ≤ s ∧ s ≤ 2) :
    Calls Try.prog 14 #[.pointer (some ⟨g, 0, none⟩)] w fun e w' => e = .returned (.int .i64 s) ∧ ∃ n, w' = w.drewN n := by
  have q0 := (blk_cell h 0).trans (rfl : _ = some (Value.int .i64 m))
  have q1 := (blk_cell h 1).trans (rfl : _ = some (Value.int .i64 s))
  have q2 := (blk_cell h 2).trans (rfl : _ = some (Value.int .i64 b))
  have HH := Aside0.mk h
  have HM := Aside0.mk hm
  have HS := Aside0.mk hs
  have h1 : m = 0 ∨ m = 1 ∨ m = 2 := by omega
  have h2 : s = 0 ∨ s = 1 ∨ s = 2 := by omega
  clear hm hs h
  rcases h1 with rfl | rfl | rfl <;> rcases h2 with rfl | rfl | rfl <;>
    (go_enter Try.func14, Try.ntmps14
     go_wp2_with fail
     go_ret
     first | exact ⟨rfl, 0, rfl⟩ | exact ⟨rfl, nq, rfl⟩ | exact ⟨rfl, _, rfl⟩)
set_option maxHeartbeats 4000000 in
set_option maxRecDepth 100000 in
theorem qMode {g : Nat} {m s b d : Int} {w : World} (h : w.heap[g]? = some (.cells #[.int .i64 m, .int .i64 s, .int .i64 b, .int .i64 d] 49 (0, 0))) (hm : 0 ≤ m ∧ m ≤ 2) (hs : 0 ≤ s ∧ s ≤ 2) :
    Calls Try.prog 18 #[.pointer (some ⟨g, 0, none⟩)] w fun e w' => e = .returned (.int .i64 m) ∧ ∃ n, w' = w.drewN n := by
  have q0 := (blk_cell h 0).trans (rfl : _ = some (Value.int .i64 m))
  have q1 := (blk_cell h 1).trans (rfl : _ = some (Value.int .i64 s))
  have q2 := (blk_cell h 2).trans (rfl : _ = some (Value.int .i64 b))
  have HH := Aside0.mk h
  have HM := Aside0.mk hm
  have HS := Aside0.mk hs
  have h1 : m = 0 ∨ m = 1 ∨ m = 2 := by omega
  have h2 : s = 0 ∨ s = 1 ∨ s = 2 := by omega
  clear hm hs h
  rcases h1 with rfl | rfl | rfl <;> rcases h2 with rfl | rfl | rfl <;>
    (go_enter Try.func18, Try.ntmps18
     go_wp2_with fail
     go_ret
     first | exact ⟨rfl, 0, rfl⟩ | exact ⟨rfl, nq, rfl⟩ | exact ⟨rfl, _, rfl⟩)
set_option maxHeartbeats 4000000 in
set_option maxRecDepth 100000 in
theorem qIdle {g : Nat} {m s b d : Int} {w : World} (h : w.heap[g]? = some (.cells #[.int .i64 m, .int .i64 s, .int .i64 b, .int .i64 d] 49 (0, 0))) (hm : 0 ≤ m ∧ m ≤ 2) (hs : 0 ≤ s ∧ s ≤ 2) :
    Calls Try.prog 20 #[.pointer (some ⟨g, 0, none⟩)] w fun e w' => e = .returned (.bool (idleB m s)) ∧ ∃ n, w' = w.drewN n := by
  have q0 := (blk_cell h 0).trans (rfl : _ = some (Value.int .i64 m))
  have q1 := (blk_cell h 1).trans (rfl : _ = some (Value.int .i64 s))
  have q2 := (blk_cell h 2).trans (rfl : _ = some (Value.int .i64 b))
  have HH := Aside0.mk h
  have HM := Aside0.mk hm
  have HS := Aside0.mk hs
  have h1 : m = 0 ∨ m = 1 ∨ m = 2 := by omega
  have h2 : s = 0 ∨ s = 1 ∨ s = 2 := by omega
  clear hm hs h
  rcases h1 with rfl | rfl | rfl <;> rcases h2 with rfl | rfl | rfl <;>
    (go_enter Try.func20, Try.ntmps20
     go_wp2_with fail
     go_ret
     first | exact ⟨rfl, 0, rfl⟩ | exact ⟨rfl, nq, rfl⟩ | exact ⟨rfl, _, rfl⟩)
set_option maxHeartbeats 4000000 in
set_option maxRecDepth 100000 in
theorem qBorn {g : Nat} {m s b d : Int} {w : World} (h : w.heap[g]? = some (.cells #[.int .i64 m, .int .i64 s, .int .i64 b, .int .i64 d] 49 (0, 0))) (hm : 0 ≤ m ∧ m ≤ 2) (hs : 0 ≤ s ∧ s ≤ 2) (now : Int) :
    Calls Try.prog 17 #[.pointer (some ⟨g, 0, none⟩), .int .i64 now] w fun e w' => e = .returned (.int .i64 (if hasB m s = true then (if m = 1 then now else b) else -1)) ∧ ∃ n, w' = w.drewN n := by
  have q0 := (blk_cell h 0).trans (rfl : _ = some (Value.int .i64 m))
  have q1 := (blk_cell h 1).trans (rfl : _ = some (Value.int .i64 s))
  have q2 := (blk_cell h 2).trans (rfl : _ = some (Value.int .i64 b))
  have HH := Aside0.mk h
  have HM := Aside0.mk hm
  have HS := Aside0.mk hs
  have h1 : m = 0 ∨ m = 1 ∨ m = 2 := by omega
  have h2 : s = 0 ∨ s = 1 ∨ s = 2 := by omega
  clear hm hs h
  rcases h1 with rfl | rfl | rfl <;> rcases h2 with rfl | rfl | rfl <;>
    (go_enter Try.func17, Try.ntmps17
     go_wp2_with fail
     go_at_call 12
     refine (qHas HH.out HM.out HS.out).mono ?_
     rintro e w1 ⟨rfl, n1, rfl⟩
     replace q0 : (w.drewN n1).cell? ⟨g, 0, none⟩ = _ := q0
     replace q1 : (w.drewN n1).cell? ⟨g, 1, none⟩ = _ := q1
     replace q2 : (w.drewN n1).cell? ⟨g, 2, none⟩ = _ := q2
     (try rw [show hasB 0 0 = false from rfl]); (try rw [show hasB 0 1 = true from rfl]); (try rw [show hasB 0 2 = true from rfl]); (try rw [show hasB 1 0 = true from rfl]); (try rw [show hasB 1 1 = true from rfl]); (try rw [show hasB 1 2 = true from rfl]); (try rw [show hasB 2 0 = false from rfl]); (try rw [show hasB 2 1 = false from rfl]); (try rw [show hasB 2 2 = false from rfl])
     go_wp2_with fail
     go_ret
     first | exact ⟨rfl, 0, rfl⟩ | exact ⟨rfl, nq, rfl⟩ | exact ⟨rfl, _, rfl⟩)
set_option maxHeartbeats 8000000 in
set_option maxRecDepth 100000 in
theorem kissgatelaw14_RegisDoes.walk (P : kissgatelaw14_RegisDoes.Pure) (a0 : Int) (A1 : Option Addr) (c1 : Nat) (l1 : List S38) (w : World) (w0 : (Lit.int .i64 a0).wf = true) (hr1 : Kd.C k38 w A1 l1.length l1) (hc1 : l1.length ≤ c1) (hw1 : ∀ z ∈ l1, (Lit.int .i64 z.f0).wf = true ∧ (Lit.int .i64 z.f1).wf = true ∧ (Lit.int .i64 z.f2).wf = true ∧ (Lit.int .i64 z.f3).wf = true) :
    Calls Try.prog 7 #[.int .i64 a0, .slice A1 l1.length c1] w fun e w' => e = .returned (.bool true) ∧ Below w.heap.size w w' := by
  clear P hw1 w0
  have hu38 := Try.underlying38
  have hu45 := Try.underlying45
  have HR := Aside0.mk hr1
  have HC := Aside0.mk hc1
  clear hr1 hc1
  go_enter Try.func7, Try.ntmps7
  go_wp2_with fail
  go_at_call 8
  refine (kissgatelaw14_alive.good w _ (Below.refl _ _)).mono ?_
  rintro e w1 ⟨rfl, hb, _⟩
  have HB := Aside0.mk hb
  clear hb
  go_wp2_with fail
  go_at_call 15
  refine (Great_nice (Kd.C_below HR.out HB.out) HC.out).mono ?_
  rintro e w2 ⟨r, rfl, hq, hb⟩
  have HB := Aside0.mk (below_step HB.out hb)
  clear hb
  cases r
  case true =>
    clear hq
    go_wp2_with fail
    go_ret
    exact ⟨rfl, HB.out⟩
  have HQ := Aside0.mk (hq rfl)
  clear hq
  by_cases c2 : ¬ (0 ≤ a0 ∧ a0 ≤ 2)
  · go_wp2_with fail
    go_at_call 9
    refine (regis_New.bad a0 c2 _).mono ?_
    rintro e w3 ⟨rfl, nd, rfl⟩
    replace HB := Aside0.mk (below_step HB.out (Drawn0.below ⟨⟨nd, rfl⟩⟩))
    by_cases c3 : a0 < 0
    · have c3b : decide (a0 < 0) = true := decide_eq_true c3
      clear c2 c3
      go_wp2_with fail
      go_at_call 10
      refine (nil_Hear 1 1 1 _).mono ?_
      rintro e w5 ⟨rfl, hd⟩
      have HB := Aside0.mk (below_step HB.out hd.below)
      clear hd
      go_wp2_with fail
      go_at_call 16
      refine (nil_Flush 1 _).mono ?_
      rintro e w5 ⟨rfl, hd⟩
      have HB := Aside0.mk (below_step HB.out hd.below)
      clear hd
      go_wp2_with fail
      go_at_call 11
      refine (nil_Tick 1 _).mono ?_
      rintro e w5 ⟨rfl, hd⟩
      have HB := Aside0.mk (below_step HB.out hd.below)
      clear hd
      go_wp2_with fail
      go_at_call 12
      refine (nil_Has _).mono ?_
      rintro e w5 ⟨rfl, hd⟩
      have HB := Aside0.mk (below_step HB.out hd.below)
      clear hd
      go_wp2_with fail
      go_at_call 17
      refine (nil_Born 1 _).mono ?_
      rintro e w5 ⟨rfl, hd⟩
      have HB := Aside0.mk (below_step HB.out hd.below)
      clear hd
      go_wp2_with fail
      go_at_call 14
      refine (nil_State _).mono ?_
      rintro e w5 ⟨rfl, hd⟩
      have HB := Aside0.mk (below_step HB.out hd.below)
      clear hd
      go_wp2_with fail
      go_at_call 18
      refine (nil_Mode _).mono ?_
      rintro e w5 ⟨rfl, hd⟩
      have HB := Aside0.mk (below_step HB.out hd.below)
      clear hd
      go_wp2_with fail
      go_at_call 20
      refine (nil_Idle _).mono ?_
      rintro e w5 ⟨rfl, hd⟩
      have HB := Aside0.mk (below_step HB.out hd.below)
      clear hd
      go_wp2_with fail
      go_at_call 19
      refine (nil_Set 0 _).mono ?_
      rintro e w5 ⟨rfl, hd⟩
      have HB := Aside0.mk (below_step HB.out hd.below)
      clear hd
      go_wp2_with fail
      go_ret
      exact ⟨rfl, HB.out⟩
    · have c3b : decide (a0 < 0) = false := decide_eq_false c3
      have c4b : decide (2 < a0) = true := decide_eq_true (by omega)
      clear c2 c3
      go_wp2_with fail
      go_at_call 10
      refine (nil_Hear 1 1 1 _).mono ?_
      rintro e w5 ⟨rfl, hd⟩
      have HB := Aside0.mk (below_step HB.out hd.below)
      clear hd
      go_wp2_with fail
      go_at_call 16
      refine (nil_Flush 1 _).mono ?_
      rintro e w5 ⟨rfl, hd⟩
      have HB := Aside0.mk (below_step HB.out hd.below)
      clear hd
      go_wp2_with fail
      go_at_call 11
      refine (nil_Tick 1 _).mono ?_
      rintro e w5 ⟨rfl, hd⟩
      have HB := Aside0.mk (below_step HB.out hd.below)
      clear hd
      go_wp2_with fail
      go_at_call 12
      refine (nil_Has _).mono ?_
      rintro e w5 ⟨rfl, hd⟩
      have HB := Aside0.mk (below_step HB.out hd.below)
      clear hd
      go_wp2_with fail
      go_at_call 17
      refine (nil_Born 1 _).mono ?_
      rintro e w5 ⟨rfl, hd⟩
      have HB := Aside0.mk (below_step HB.out hd.below)
      clear hd
      go_wp2_with fail
      go_at_call 14
      refine (nil_State _).mono ?_
      rintro e w5 ⟨rfl, hd⟩
      have HB := Aside0.mk (below_step HB.out hd.below)
      clear hd
      go_wp2_with fail
      go_at_call 18
      refine (nil_Mode _).mono ?_
      rintro e w5 ⟨rfl, hd⟩
      have HB := Aside0.mk (below_step HB.out hd.below)
      clear hd
      go_wp2_with fail
      go_at_call 20
      refine (nil_Idle _).mono ?_
      rintro e w5 ⟨rfl, hd⟩
      have HB := Aside0.mk (below_step HB.out hd.below)
      clear hd
      go_wp2_with fail
      go_at_call 19
      refine (nil_Set 0 _).mono ?_
      rintro e w5 ⟨rfl, hd⟩
      have HB := Aside0.mk (below_step HB.out hd.below)
      clear hd
      go_wp2_with fail
      go_ret
      exact ⟨rfl, HB.out⟩
  have HM := Aside0.mk (Classical.not_not.1 c2)
  have c3b : decide (a0 < 0) = false := decide_eq_false (by omega)
  have c4b : decide (2 < a0) = false := decide_eq_false (by omega)
  clear c2
  go_wp2_with fail
  go_at_call 9
  refine (regis_New.good a0 HM.out.1 HM.out.2 w _ HB.out).mono ?_
  rintro e w3 ⟨g, rfl, hg, hi, hb, _⟩
  have HG := Aside0.mk hi
  have HB := Aside0.mk hb
  clear hi hb hg
  go_upto_block 0 with (fail)
  have HNE := Aside0.mk (show w3.heap.size ≠ g from Nat.ne_of_gt (IsS49.lt HG.out))
  have HH := Aside0.mk (IsS45.new w w3 a0 0 0 0 HB.out)
  have HG := Aside0.mk (IsS49.alloc HG.out (.cells #[.int .i64 a0, .int .i64 0, .int .i64 0, .int .i64 0] 45))
  have HB := Aside0.mk (below_alloc HB.out (.cells #[.int .i64 a0, .int .i64 0, .int .i64 0, .int .i64 0] 45))
  generalize w3.alloc (.cells #[.int .i64 a0, .int .i64 0, .int .i64 0, .int .i64 0] 45) = W3 at HG HH HB ⊢
  generalize w3.heap.size = h at HNE HH ⊢
  go_wp2_with fail
  go_loopw [8, 84] (fun v8 v84 wr => ∃ (k : Nat) (now m s b d : Int), k ≤ l1.length ∧ v84 = .int .i64 (k : Nat) ∧ v8 = .int .i64 now ∧ Aside0 (0 ≤ m ∧ m ≤ 2) ∧ Aside0 (0 ≤ s ∧ s ≤ 2) ∧ Aside0 (IsS49 w wr g m s b d) ∧ Aside0 (IsS45 w wr h m s b d) ∧ Aside0 (Below w.heap.size w wr)) (fun _ v84 _ => l1.length - (intOf v84).toNat)
  case atStart => exact ⟨0, 0, a0, 0, 0, 0, Nat.zero_le _, rfl, rfl, HM, ⟨by decide⟩, HG, HH, HB⟩
  case round =>
    clear HG HH HB HM c3b c4b
    obtain ⟨k, now, m, s, b, d, hk, rfl, rfl, HM, HS, HG, HH, HB⟩ := hrel
    by_cases hlt : (k : Int) < (l1.length : Int)
    · have hltn : decide (k < l1.length) = true := decide_eq_true (by omega)
      have HK := Aside0.mk (show k < l1.length by omega)
      obtain ⟨ad, e0, hx0, hx1, hx2, hx3⟩ := at_T38 HR.out (k : Int) (by omega) hlt
      cases e0
      replace hx0 := (HB.out.cell (World.block_lt_of_cell? w _ hx0)).trans hx0
      replace hx1 := (HB.out.cell (World.block_lt_of_cell? w _ hx1)).trans hx1
      replace hx2 := (HB.out.cell (World.block_lt_of_cell? w _ hx2)).trans hx2
      replace hx3 := (HB.out.cell (World.block_lt_of_cell? w _ hx3)).trans hx3
      have p0 := eq_true (show 0 ≤ (k : Int) by omega)
      have q0 := eq_true hlt
      generalize rd_T38 l1 (k : Int) = z at hx0 hx1 hx2 hx3
      obtain ⟨kd, ev, bn, n⟩ := z
      replace hx0 : wr.cell? (ad.add (k * 4)) = some (.int .i64 kd) := hx0
      replace hx1 : wr.cell? ⟨(ad.add (k * 4)).block, (ad.add (k * 4)).off + 1, none⟩ = some (.int .i64 ev) := hx1
      replace hx2 : wr.cell? ⟨(ad.add (k * 4)).block, (ad.add (k * 4)).off + 2, none⟩ = some (.int .i64 bn) := hx2
      replace hx3 : wr.cell? ⟨(ad.add (k * 4)).block, (ad.add (k * 4)).off + 3, none⟩ = some (.int .i64 n) := hx3
      clear hlt hk
      have HZ := Aside0.mk (heap_alloc_new wr (.cells #[.int .i64 kd, .int .i64 ev, .int .i64 bn, .int .i64 n] 38))
      have cz0 := (blk_cell HZ.out 0).trans rfl
      have cz1 := (blk_cell HZ.out 1).trans rfl
      have cz2 := (blk_cell HZ.out 2).trans rfl
      have cz3 := (blk_cell HZ.out 3).trans rfl
      go_upto_region 13 with (fail)
      clear cz0 cz1 cz2 cz3 hx0 hx1 hx2 hx3 p0 q0
      have HBG := Aside0.mk (show wr.heap.size ≠ g from Nat.ne_of_gt (IsS49.lt HG.out))
      have HBH := Aside0.mk (show wr.heap.size ≠ h from Nat.ne_of_gt (IsS45.lt HH.out))
      replace HG := Aside0.mk (IsS49.alloc HG.out (.cells #[.int .i64 kd, .int .i64 ev, .int .i64 bn, .int .i64 n] 38))
      replace HH := Aside0.mk (IsS45.alloc HH.out (.cells #[.int .i64 kd, .int .i64 ev, .int .i64 bn, .int .i64 n] 38))
      replace HB := Aside0.mk (below_alloc HB.out (.cells #[.int .i64 kd, .int .i64 ev, .int .i64 bn, .int .i64 n] 38))
      generalize wr.alloc (.cells #[.int .i64 kd, .int .i64 ev, .int .i64 bn, .int .i64 n] 38) = W at HZ HG HH HB ⊢
      generalize wr.heap.size = gb at HZ HBG HBH ⊢
      have e3 : wrap64 ((k : Int) + 1) = ((k + 1 : Nat) : Int) := by have := HK.out; have := HC.out; have := HR.out.2.1; unfold wrap64; omega
      have E3 := Aside0.mk e3
      clear e3
      obtain ⟨was, hwas⟩ : ∃ was, hasB m s = was := ⟨_, rfl⟩
      have HN := Aside0.mk (show Calls Try.prog 21 #[.pointer (some ⟨h, 0, none⟩)] W fun e w' => e = .returned (.bool was) ∧ IsS45 w w' h m s b d ∧ Below w.heap.size w w' ∧ KeepBut W w' h none from by rw [← hwas]; exact RHas_nice HH.out HB.out HS.out)
      have HWAS := Aside0.mk hwas
      clear hwas
      go_wp2_with fail
      go_at_call 21
      refine (HN.out).mono ?_
      rintro e w5 ⟨rfl, hi, hb, hk⟩
      have HZ := Aside0.mk ((hk.2 gb (Array.getElem?_eq_some_iff.1 HZ.out).1 HBH.out (by simp)).trans HZ.out)
      have z1 := (blk_cell HZ.out 1).trans rfl
      have z2 := (blk_cell HZ.out 2).trans rfl
      have z3 := (blk_cell HZ.out 3).trans rfl
      have HG := Aside0.mk (keep_g HG.out hk (Ne.symm HNE.out))
      have HH := Aside0.mk hi
      have HB := Aside0.mk hb
      clear hi hb hk
      have c0 := (blk_cell HZ.out 0).trans rfl
      clear HN
      go_upto_block 2 with (fail)
      clear c0
      go_cut [8, 12, 13] (fun v8 v12 v13 wc => ∃ (now m s b d : Int) (tl sy : Bool), v8 = .int .i64 now ∧ v12 = .bool tl ∧ v13 = .bool sy ∧ Aside0 (sy = true → tl = (hasB m s != was)) ∧ Aside0 (0 ≤ m ∧ m ≤ 2) ∧ Aside0 (0 ≤ s ∧ s ≤ 2) ∧ Aside0 (IsS49 w wc g m s b d) ∧ Aside0 (IsS45 w wc h m s b d) ∧ Aside0 (Below w.heap.size w wc))
      case first => as_aux_lemma =>
        have z1 := (blk_cell HZ.out 1).trans rfl
        have z2 := (blk_cell HZ.out 2).trans rfl
        have z3 := (blk_cell HZ.out 3).trans rfl
        by_cases k0 : kd = 0
        · have k0b : (kd == 0) = true := beq_iff_eq.mpr k0
          clear k0
          obtain ⟨t, ht⟩ : ∃ t, (hasB m (hearS s b d ev bn now).1 != hasB m s) = t := ⟨_, rfl⟩
          have HN := Hear_nice HG.out HB.out HS.out ev bn now
          rw [ht] at HN
          replace HN := Aside0.mk HN
          have HT := Aside0.mk ht
          clear ht
          go_wp2_with fail
          go_at_call 10
          refine (HN.out).mono ?_
          rintro e w5 ⟨rfl, hi, hb, hk⟩
          have HZ := Aside0.mk ((hk.2 gb (Array.getElem?_eq_some_iff.1 HZ.out).1 HBG.out (by simp)).trans HZ.out)
          have z1 := (blk_cell HZ.out 1).trans rfl
          have z2 := (blk_cell HZ.out 2).trans rfl
          have z3 := (blk_cell HZ.out 3).trans rfl
          have HH := Aside0.mk (keep_h HH.out hk HNE.out)
          have HG := Aside0.mk hi
          have HB := Aside0.mk hb
          clear hi hb hk
          go_wp2_with fail
          go_at_call 22
          refine (RHear_nice HH.out HB.out HS.out ev bn now).mono ?_
          rintro e w5 ⟨rfl, hi, hb, hk⟩
          have HG := Aside0.mk (keep_g HG.out hk (Ne.symm HNE.out))
          have HH := Aside0.mk hi
          have HB := Aside0.mk hb
          clear hi hb hk
          go_wp2_with fail
          go_meet
          case rel => exact ⟨now, m, _, _, _, t, true, rfl, rfl, rfl, ⟨fun _ => by rw [← HT.out, HWAS.out]⟩, HM, ⟨hearS_in s b d ev bn now HS.out⟩, HG, HH, HB⟩
        have k0b : (kd == 0) = false := beq_eq_false_iff_ne.mpr k0
        clear k0
        by_cases k1 : kd = 1
        · have k1b : (kd == 1) = true := beq_iff_eq.mpr k1
          clear k1
          go_wp2_with fail
          go_at_call 13
          refine (All_nice HG.out HB.out HS.out now).mono ?_
          rintro e w5 ⟨rfl, hi, hb, hk⟩
          have HZ := Aside0.mk ((hk.2 gb (Array.getElem?_eq_some_iff.1 HZ.out).1 HBG.out (by simp)).trans HZ.out)
          have z1 := (blk_cell HZ.out 1).trans rfl
          have z2 := (blk_cell HZ.out 2).trans rfl
          have z3 := (blk_cell HZ.out 3).trans rfl
          have HH := Aside0.mk (keep_h HH.out hk HNE.out)
          have HG := Aside0.mk hi
          have HB := Aside0.mk hb
          clear hi hb hk
          go_wp2_with fail
          go_at_call 23
          refine (RStep2_nice HH.out HB.out HS.out now).mono ?_
          rintro e w5 ⟨rfl, hi, hb, hk⟩
          have HG := Aside0.mk (keep_g HG.out hk (Ne.symm HNE.out))
          have HH := Aside0.mk hi
          have HB := Aside0.mk hb
          clear hi hb hk
          go_wp2_with fail
          go_meet
          case rel => exact ⟨now, m, _, _, _, false, false, rfl, rfl, rfl, ⟨fun h => by simp at h⟩, HM, ⟨nx_in _ _⟩, HG, HH, HB⟩
        have k1b : (kd == 1) = false := beq_eq_false_iff_ne.mpr k1
        clear k1
        by_cases k2 : kd = 2
        · have k2b : (kd == 2) = true := beq_iff_eq.mpr k2
          clear k2
          obtain ⟨t, ht⟩ : ∃ t, (hasB m 0 != hasB m s) = t := ⟨_, rfl⟩
          have HN := Flush_nice HG.out HB.out HS.out now
          rw [ht] at HN
          replace HN := Aside0.mk HN
          have HT := Aside0.mk ht
          clear ht
          go_wp2_with fail
          go_at_call 16
          refine (HN.out).mono ?_
          rintro e w5 ⟨rfl, hi, hb, hk⟩
          have HZ := Aside0.mk ((hk.2 gb (Array.getElem?_eq_some_iff.1 HZ.out).1 HBG.out (by simp)).trans HZ.out)
          have z1 := (blk_cell HZ.out 1).trans rfl
          have z2 := (blk_cell HZ.out 2).trans rfl
          have z3 := (blk_cell HZ.out 3).trans rfl
          have HH := Aside0.mk (keep_h HH.out hk HNE.out)
          have HG := Aside0.mk hi
          have HB := Aside0.mk hb
          clear hi hb hk
          go_wp2_with fail
          go_at_call 23
          refine (RStep4_nice HH.out HB.out HS.out now).mono ?_
          rintro e w5 ⟨rfl, hi, hb, hk⟩
          have HG := Aside0.mk (keep_g HG.out hk (Ne.symm HNE.out))
          have HH := Aside0.mk hi
          have HB := Aside0.mk hb
          clear hi hb hk
          go_wp2_with fail
          go_meet
          case rel => exact ⟨now, m, _, _, _, t, true, rfl, rfl, rfl, ⟨fun _ => by rw [← HT.out, HWAS.out]⟩, HM, ⟨by decide⟩, HG, HH, HB⟩
        have k2b : (kd == 2) = false := beq_eq_false_iff_ne.mpr k2
        clear k2
        by_cases k3 : kd = 3
        · have k3b : (kd == 3) = true := beq_iff_eq.mpr k3
          clear k3
          obtain ⟨t1, ht1⟩ : ∃ t1, wrap64 (now + n) = t1 := ⟨_, rfl⟩
          obtain ⟨t, ht⟩ : ∃ t, (hasB m (tickS s b d t1).1 != hasB m s) = t := ⟨_, rfl⟩
          have HN := Tick_nice HG.out HB.out HS.out t1
          rw [ht] at HN
          replace HN := Aside0.mk HN
          have HT := Aside0.mk ht
          clear ht
          go_wp2_with fail
          go_at_call 11
          refine (HN.out).mono ?_
          rintro e w5 ⟨rfl, hi, hb, hk⟩
          have HZ := Aside0.mk ((hk.2 gb (Array.getElem?_eq_some_iff.1 HZ.out).1 HBG.out (by simp)).trans HZ.out)
          have z1 := (blk_cell HZ.out 1).trans rfl
          have z2 := (blk_cell HZ.out 2).trans rfl
          have z3 := (blk_cell HZ.out 3).trans rfl
          have HH := Aside0.mk (keep_h HH.out hk HNE.out)
          have HG := Aside0.mk hi
          have HB := Aside0.mk hb
          clear hi hb hk
          go_wp2_with fail
          go_at_call 24
          refine (RTick_nice HH.out HB.out HS.out t1).mono ?_
          rintro e w5 ⟨rfl, hi, hb, hk⟩
          have HG := Aside0.mk (keep_g HG.out hk (Ne.symm HNE.out))
          have HH := Aside0.mk hi
          have HB := Aside0.mk hb
          clear hi hb hk
          go_wp2_with fail
          go_meet
          case rel => exact ⟨t1, m, _, _, _, t, true, rfl, rfl, rfl, ⟨fun _ => by rw [← HT.out, HWAS.out]⟩, HM, ⟨tickS_in s b d t1 HS.out⟩, HG, HH, HB⟩
        have k3b : (kd == 3) = false := beq_eq_false_iff_ne.mpr k3
        clear k3
        by_cases k4 : kd = 4
        · have k4b : (kd == 4) = true := beq_iff_eq.mpr k4
          clear k4
          by_cases c5 : 0 ≤ n ∧ n ≤ 2
          · have c5b : decide (n < 0) = false := decide_eq_false (by omega)
            have c6b : decide (2 < n) = false := decide_eq_false (by omega)
            have HN := Aside0.mk c5
            clear c5
            go_wp2_with fail
            go_at_call 19
            refine (Set_nice HG.out HB.out n HN.out).mono ?_
            rintro e w5 ⟨rfl, hi, hb, hk⟩
            have HZ := Aside0.mk ((hk.2 gb (Array.getElem?_eq_some_iff.1 HZ.out).1 HBG.out (by simp)).trans HZ.out)
            have z1 := (blk_cell HZ.out 1).trans rfl
            have z2 := (blk_cell HZ.out 2).trans rfl
            have z3 := (blk_cell HZ.out 3).trans rfl
            have HH := Aside0.mk (keep_h HH.out hk HNE.out)
            have HG := Aside0.mk hi
            have HB := Aside0.mk hb
            clear hi hb hk
            have q0 := (blk_cell HH.out.1 0).trans rfl
            have q1 := blk_frozen HH.out.1 0
            go_wp2_with fail
            go_meet
            case rel => exact ⟨now, n, s, b, d, false, false, rfl, rfl, rfl, ⟨fun h => by simp at h⟩, HN, HS, ⟨IsS49.far HG.out (Ne.symm HNE.out) _⟩, ⟨IsS45.set_0 HH.out n⟩, ⟨HB.out.setCell HH.out.2 _⟩⟩
          have HN := Aside0.mk c5
          by_cases c6 : n < 0
          · have c6b : decide (n < 0) = true := decide_eq_true c6
            clear c5 c6
            go_wp2_with fail
            go_at_call 19
            refine (Setbad_nice HG.out HB.out n HN.out).mono ?_
            rintro e w5 ⟨rfl, hi, hb, hk⟩
            have HZ := Aside0.mk ((hk.2 gb (Array.getElem?_eq_some_iff.1 HZ.out).1 HBG.out (by simp)).trans HZ.out)
            have z1 := (blk_cell HZ.out 1).trans rfl
            have z2 := (blk_cell HZ.out 2).trans rfl
            have z3 := (blk_cell HZ.out 3).trans rfl
            have HH := Aside0.mk (keep_h HH.out hk HNE.out)
            have HG := Aside0.mk hi
            have HB := Aside0.mk hb
            clear hi hb hk
            go_wp2_with fail
            go_meet
            case rel => exact ⟨now, m, s, b, d, false, false, rfl, rfl, rfl, ⟨fun h => by simp at h⟩, HM, HS, HG, HH, HB⟩
          · have c6b : decide (n < 0) = false := decide_eq_false c6
            have c7b : decide (2 < n) = true := decide_eq_true (by omega)
            clear c5 c6
            go_wp2_with fail
            go_at_call 19
            refine (Setbad_nice HG.out HB.out n HN.out).mono ?_
            rintro e w5 ⟨rfl, hi, hb, hk⟩
            have HZ := Aside0.mk ((hk.2 gb (Array.getElem?_eq_some_iff.1 HZ.out).1 HBG.out (by simp)).trans HZ.out)
            have z1 := (blk_cell HZ.out 1).trans rfl
            have z2 := (blk_cell HZ.out 2).trans rfl
            have z3 := (blk_cell HZ.out 3).trans rfl
            have HH := Aside0.mk (keep_h HH.out hk HNE.out)
            have HG := Aside0.mk hi
            have HB := Aside0.mk hb
            clear hi hb hk
            go_wp2_with fail
            go_meet
            case rel => exact ⟨now, m, s, b, d, false, false, rfl, rfl, rfl, ⟨fun h => by simp at h⟩, HM, HS, HG, HH, HB⟩
        have k4b : (kd == 4) = false := beq_eq_false_iff_ne.mpr k4
        clear k4
        go_wp2_with fail
        go_meet
        case rel => exact ⟨now, m, s, b, d, false, true, rfl, rfl, rfl, ⟨fun _ => by rw [HWAS.out]; simp⟩, HM, HS, HG, HH, HB⟩
      case rest => as_aux_lemma =>
        clear HG HH HB HM HS HWAS
        obtain ⟨now, m, s, b, d, tl, sy, rfl, rfl, rfl, HT, HM, HS, HG, HH, HB⟩ := hcut
        obtain ⟨hv, hhv⟩ : ∃ hv, hasB m s = hv := ⟨_, rfl⟩
        obtain ⟨bo, hbo⟩ : ∃ bo, (if hasB m s = true then (if m = 1 then now else b) else -1) = bo := ⟨_, rfl⟩
        obtain ⟨il, hil⟩ : ∃ il, idleB m s = il := ⟨_, rfl⟩
        have RH := Aside0.mk (show ∀ W : World, IsS45 w W h m s b d → Below w.heap.size w W → Calls Try.prog 21 #[.pointer (some ⟨h, 0, none⟩)] W fun e w' => e = .returned (.bool hv) ∧ IsS45 w w' h m s b d ∧ Below w.heap.size w w' ∧ KeepBut W w' h none from fun W hi hb => by rw [← hhv]; exact RHas_nice hi hb HS.out)
        have GH := Aside0.mk (show ∀ W : World, IsS49 w W g m s b d → Below w.heap.size w W → Calls Try.prog 12 #[.pointer (some ⟨g, 0, none⟩)] W fun e w' => e = .returned (.bool hv) ∧ IsS49 w w' g m s b d ∧ Below w.heap.size w w' ∧ KeepBut W w' g none from fun W hi hb => by rw [← hhv]; exact Has_nice hi hb)
        have GB := Aside0.mk (show ∀ W : World, IsS49 w W g m s b d → Below w.heap.size w W → Calls Try.prog 17 #[.pointer (some ⟨g, 0, none⟩), .int .i64 now] W fun e w' => e = .returned (.int .i64 bo) ∧ IsS49 w w' g m s b d ∧ Below w.heap.size w w' ∧ KeepBut W w' g none from fun W hi hb => by rw [← hbo]; exact Born_nice hi hb now)
        have GS := Aside0.mk (show ∀ W : World, IsS49 w W g m s b d → Below w.heap.size w W → Calls Try.prog 14 #[.pointer (some ⟨g, 0, none⟩)] W fun e w' => e = .returned (.int .i64 s) ∧ IsS49 w w' g m s b d ∧ Below w.heap.size w w' ∧ KeepBut W w' g none from fun W hi hb => by exact State_nice hi hb)
        have GM := Aside0.mk (show ∀ W : World, IsS49 w W g m s b d → Below w.heap.size w W → Calls Try.prog 18 #[.pointer (some ⟨g, 0, none⟩)] W fun e w' => e = .returned (.int .i64 m) ∧ IsS49 w w' g m s b d ∧ Below w.heap.size w w' ∧ KeepBut W w' g none from fun W hi hb => by exact Mode_nice hi hb)
        have GI := Aside0.mk (show ∀ W : World, IsS49 w W g m s b d → Below w.heap.size w W → Calls Try.prog 20 #[.pointer (some ⟨g, 0, none⟩)] W fun e w' => e = .returned (.bool il) ∧ IsS49 w w' g m s b d ∧ Below w.heap.size w w' ∧ KeepBut W w' g none from fun W hi hb => by rw [← hil]; exact Idle_nice hi hb)
        have RHq := Aside0.mk (show ∀ W : World, W.heap[h]? = some (.cells #[.int .i64 m, .int .i64 s, .int .i64 b, .int .i64 d] 45 (0, 0)) → Calls Try.prog 21 #[.pointer (some ⟨h, 0, none⟩)] W fun e w' => e = .returned (.bool hv) ∧ ∃ n, w' = W.drewN n from fun W hW => by rw [← hhv]; exact qRHas hW HM.out HS.out)
        have GHq := Aside0.mk (show ∀ W : World, W.heap[g]? = some (.cells #[.int .i64 m, .int .i64 s, .int .i64 b, .int .i64 d] 49 (0, 0)) → Calls Try.prog 12 #[.pointer (some ⟨g, 0, none⟩)] W fun e w' => e = .returned (.bool hv) ∧ ∃ n, w' = W.drewN n from fun W hW => by rw [← hhv]; exact qHas hW HM.out HS.out)
        have GBq := Aside0.mk (show ∀ W : World, W.heap[g]? = some (.cells #[.int .i64 m, .int .i64 s, .int .i64 b, .int .i64 d] 49 (0, 0)) → Calls Try.prog 17 #[.pointer (some ⟨g, 0, none⟩), .int .i64 now] W fun e w' => e = .returned (.int .i64 bo) ∧ ∃ n, w' = W.drewN n from fun W hW => by rw [← hbo]; exact qBorn hW HM.out HS.out now)
        have GSq := Aside0.mk (show ∀ W : World, W.heap[g]? = some (.cells #[.int .i64 m, .int .i64 s, .int .i64 b, .int .i64 d] 49 (0, 0)) → Calls Try.prog 14 #[.pointer (some ⟨g, 0, none⟩)] W fun e w' => e = .returned (.int .i64 s) ∧ ∃ n, w' = W.drewN n from fun W hW => by exact qState hW HM.out HS.out)
        have GMq := Aside0.mk (show ∀ W : World, W.heap[g]? = some (.cells #[.int .i64 m, .int .i64 s, .int .i64 b, .int .i64 d] 49 (0, 0)) → Calls Try.prog 18 #[.pointer (some ⟨g, 0, none⟩)] W fun e w' => e = .returned (.int .i64 m) ∧ ∃ n, w' = W.drewN n from fun W hW => by exact qMode hW HM.out HS.out)
        have GIq := Aside0.mk (show ∀ W : World, W.heap[g]? = some (.cells #[.int .i64 m, .int .i64 s, .int .i64 b, .int .i64 d] 49 (0, 0)) → Calls Try.prog 20 #[.pointer (some ⟨g, 0, none⟩)] W fun e w' => e = .returned (.bool il) ∧ ∃ n, w' = W.drewN n from fun W hW => by rw [← hil]; exact qIdle hW HM.out HS.out)
        rw [hhv] at hbo HT
        have HBO := Aside0.mk hbo
        have HIL := Aside0.mk hil
        clear hhv hbo hil
        go_wp2_with fail
        (go_at_call 21; refine (RH.out _ (by exact HH.out) (by exact HB.out)).mono ?_; rintro e w5 ⟨rfl, hi, hb, hk⟩; have HG := Aside0.mk (keep_g HG.out hk (Ne.symm HNE.out)); have HH := Aside0.mk hi; have HB := Aside0.mk hb; clear hi hb hk)
        have q0 := (blk_cell HH.out.1 0).trans rfl
        have q2 := (blk_cell HH.out.1 2).trans rfl
        go_upto_if 158 with (fail)
        go_cut [15] (fun v15 wc => v15 = .int .i64 bo ∧ Aside0 (IsS49 w wc g m s b d) ∧ Aside0 (IsS45 w wc h m s b d) ∧ Aside0 (Below w.heap.size w wc))
        case first =>
          cases hv
          · obtain rfl : bo = -1 := by rw [← HBO.out, if_neg Bool.false_ne_true]
            go_wp2_with fail
            go_meet
            case rel => exact ⟨rfl, HG, HH, HB⟩
          · by_cases h1 : m = 1
            · obtain rfl : bo = now := by rw [← HBO.out, if_pos rfl, if_pos h1]
              have h1b : (m == 1) = true := beq_iff_eq.mpr h1
              go_wp2_with fail
              go_meet
              case rel => exact ⟨rfl, HG, HH, HB⟩
            · obtain rfl : bo = b := by rw [← HBO.out, if_pos rfl, if_neg h1]
              have h1b : (m == 1) = false := beq_eq_false_iff_ne.mpr h1
              clear h1
              go_wp2_with fail
              go_meet
              case rel => exact ⟨rfl, HG, HH, HB⟩
        case rest =>
          clear HG HH HB q0 q2
          obtain ⟨rfl, HG, HH, HB⟩ := hcut
          obtain ⟨sb, hsb⟩ : ∃ sb, (s == 0) = sb := ⟨_, rfl⟩
          have f2 : (hv != hv) = false := bne_self_eq_false _
          have f3 : (bo != bo) = false := bne_self_eq_false _
          have f4 : (s != s) = false := bne_self_eq_false _
          have f5 : (m != m) = false := bne_self_eq_false _
          have f6 : (il != il) = false := bne_self_eq_false _
          have f7 : (tl != tl) = false := bne_self_eq_false _
          by_cases h0 : m = 0
          · have h0b : (m == 0) = true := beq_iff_eq.mpr h0
            have hil : sb = il := by rw [← HIL.out]; unfold idleB; rw [h0b, hsb]; rfl
            rw [hil] at hsb
            clear h0 hil
            cases sy
            · have q0 := (blk_cell HH.out.1 0).trans rfl
              have q1 := (blk_cell HH.out.1 1).trans rfl
              go_wp2_with fail
              go_quiet (first | (go_at_call 21; exact Calls.quiet_of (RHq.out _ HH.out.1)) | (go_at_call 12; exact Calls.quiet_of (GHq.out _ HG.out.1)) | (go_at_call 17; exact Calls.quiet_of (GBq.out _ HG.out.1)) | (go_at_call 14; exact Calls.quiet_of (GSq.out _ HG.out.1)) | (go_at_call 18; exact Calls.quiet_of (GMq.out _ HG.out.1)) | (go_at_call 20; exact Calls.quiet_of (GIq.out _ HG.out.1)))
              go_wp2_with fail
              rw [E3.out]
              first
                | (go_roundw; case rel => exact ⟨k + 1, now, m, s, b, d, HK.out, by first | rfl | rw [E3.out], rfl, HM, HS, ⟨IsS49.drewN HG.out _⟩, ⟨IsS45.drewN HH.out _⟩, ⟨below_step HB.out (Drawn0.below ⟨⟨_, rfl⟩⟩)⟩⟩)
                | (refine ⟨?_, ?measure⟩; exact ⟨k + 1, now, m, s, b, d, HK.out, by first | rfl | rw [E3.out], rfl, HM, HS, ⟨IsS49.drewN HG.out _⟩, ⟨IsS45.drewN HH.out _⟩, ⟨below_step HB.out (Drawn0.below ⟨⟨_, rfl⟩⟩)⟩⟩)
              case measure => have := HK.out; simp [intOf]; omega
            · have f1 : (!(hv == was)) = tl := (HT.out rfl).symm
              have f8 : (!(tl == tl)) = false := by simp
              clear HT
              have q0 := (blk_cell HH.out.1 0).trans rfl
              have q1 := (blk_cell HH.out.1 1).trans rfl
              go_wp2_with fail
              go_quiet (first | (go_at_call 21; exact Calls.quiet_of (RHq.out _ HH.out.1)) | (go_at_call 12; exact Calls.quiet_of (GHq.out _ HG.out.1)) | (go_at_call 17; exact Calls.quiet_of (GBq.out _ HG.out.1)) | (go_at_call 14; exact Calls.quiet_of (GSq.out _ HG.out.1)) | (go_at_call 18; exact Calls.quiet_of (GMq.out _ HG.out.1)) | (go_at_call 20; exact Calls.quiet_of (GIq.out _ HG.out.1)))
              go_wp2_with fail
              rw [E3.out]
              first
                | (go_roundw; case rel => exact ⟨k + 1, now, m, s, b, d, HK.out, by first | rfl | rw [E3.out], rfl, HM, HS, ⟨IsS49.drewN HG.out _⟩, ⟨IsS45.drewN HH.out _⟩, ⟨below_step HB.out (Drawn0.below ⟨⟨_, rfl⟩⟩)⟩⟩)
                | (refine ⟨?_, ?measure⟩; exact ⟨k + 1, now, m, s, b, d, HK.out, by first | rfl | rw [E3.out], rfl, HM, HS, ⟨IsS49.drewN HG.out _⟩, ⟨IsS45.drewN HH.out _⟩, ⟨below_step HB.out (Drawn0.below ⟨⟨_, rfl⟩⟩)⟩⟩)
              case measure => have := HK.out; simp [intOf]; omega
          · have h0b : (m == 0) = false := beq_eq_false_iff_ne.mpr h0
            obtain rfl : il = false := by rw [← HIL.out]; unfold idleB; rw [h0b]; rfl
            clear h0 hsb
            cases sy
            · have q0 := (blk_cell HH.out.1 0).trans rfl
              have q1 := (blk_cell HH.out.1 1).trans rfl
              go_wp2_with fail
              go_quiet (first | (go_at_call 21; exact Calls.quiet_of (RHq.out _ HH.out.1)) | (go_at_call 12; exact Calls.quiet_of (GHq.out _ HG.out.1)) | (go_at_call 17; exact Calls.quiet_of (GBq.out _ HG.out.1)) | (go_at_call 14; exact Calls.quiet_of (GSq.out _ HG.out.1)) | (go_at_call 18; exact Calls.quiet_of (GMq.out _ HG.out.1)) | (go_at_call 20; exact Calls.quiet_of (GIq.out _ HG.out.1)))
              go_wp2_with fail
              rw [E3.out]
              first
                | (go_roundw; case rel => exact ⟨k + 1, now, m, s, b, d, HK.out, by first | rfl | rw [E3.out], rfl, HM, HS, ⟨IsS49.drewN HG.out _⟩, ⟨IsS45.drewN HH.out _⟩, ⟨below_step HB.out (Drawn0.below ⟨⟨_, rfl⟩⟩)⟩⟩)
                | (refine ⟨?_, ?measure⟩; exact ⟨k + 1, now, m, s, b, d, HK.out, by first | rfl | rw [E3.out], rfl, HM, HS, ⟨IsS49.drewN HG.out _⟩, ⟨IsS45.drewN HH.out _⟩, ⟨below_step HB.out (Drawn0.below ⟨⟨_, rfl⟩⟩)⟩⟩)
              case measure => have := HK.out; simp [intOf]; omega
            · have f1 : (!(hv == was)) = tl := (HT.out rfl).symm
              have f8 : (!(tl == tl)) = false := by simp
              clear HT
              have q0 := (blk_cell HH.out.1 0).trans rfl
              have q1 := (blk_cell HH.out.1 1).trans rfl
              go_wp2_with fail
              go_quiet (first | (go_at_call 21; exact Calls.quiet_of (RHq.out _ HH.out.1)) | (go_at_call 12; exact Calls.quiet_of (GHq.out _ HG.out.1)) | (go_at_call 17; exact Calls.quiet_of (GBq.out _ HG.out.1)) | (go_at_call 14; exact Calls.quiet_of (GSq.out _ HG.out.1)) | (go_at_call 18; exact Calls.quiet_of (GMq.out _ HG.out.1)) | (go_at_call 20; exact Calls.quiet_of (GIq.out _ HG.out.1)))
              go_wp2_with fail
              rw [E3.out]
              first
                | (go_roundw; case rel => exact ⟨k + 1, now, m, s, b, d, HK.out, by first | rfl | rw [E3.out], rfl, HM, HS, ⟨IsS49.drewN HG.out _⟩, ⟨IsS45.drewN HH.out _⟩, ⟨below_step HB.out (Drawn0.below ⟨⟨_, rfl⟩⟩)⟩⟩)
                | (refine ⟨?_, ?measure⟩; exact ⟨k + 1, now, m, s, b, d, HK.out, by first | rfl | rw [E3.out], rfl, HM, HS, ⟨IsS49.drewN HG.out _⟩, ⟨IsS45.drewN HH.out _⟩, ⟨below_step HB.out (Drawn0.below ⟨⟨_, rfl⟩⟩)⟩⟩)
              case measure => have := HK.out; simp [intOf]; omega
    · have hltn : decide (k < l1.length) = false := decide_eq_false (by omega)
      clear hlt hk
      go_wp2_with fail
      go_ret
      exact ⟨rfl, HB.out⟩


end Go.Proofs.Ytgmnkilnajkidaa.PRegisDoes
