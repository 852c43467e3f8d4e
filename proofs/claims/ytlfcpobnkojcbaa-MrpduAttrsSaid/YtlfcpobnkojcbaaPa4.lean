/- Texts of this claim that stand one behind the other (joined by wip/pack.py): printed contracts and own proofs. -/
import Derived.Test.YtlfcpobnkojcbaaPa3
/- Walks of chapter 7: Read (begun: its lemmas build) -/
namespace Go.Proofs.Ytlfcpobnkojcbaa.Pm
open Go.RowKit Go.Proofs.Ytlfcpobnkojcbaa.PMrpduBytes Go.Proofs.YtlfcpobnkojcbaaW.PrintWords Go.Proofs.YtlfcpobnkojcbaaW.PrintLast Go.Proofs.YtlfcpobnkojcbaaW.PrintMore
open Wr (putBytes numOf WS IsW KeepW)
set_option linter.unusedVariables false
set_option linter.unusedSimpArgs false
/-- What Read answers: the message, whether something is wrong, the error. -/
noncomputable def readR (s : ByteArray) : (List Int × List S43) × Bool × Int :=
  if s.size = 0 ∨ val (seg s 0 1) ≠ 0 then (([], []), false, 4) else ((readL (left_ s 1) ([], [])).1, (readL (left_ s 1) ([], [])).2, 0)
theorem one_bounds {s : ByteArray} (hs : s.size ≤ 20000) {i : Nat} {p : List Int × List S43} {r : (List Int × List S43) × List Int} (h : oneL (left_ s i) p = some r) : r.1.1.length ≤ p.1.length + 1 ∧ r.1.2.length + 3 * r.2.length ≤ p.2.length + 3 * (s.size - i) ∧ r.2.length + 4 ≤ s.size - i := by
  have h4 := (oneL_len h).1
  rw [left_len] at h4
  have h2 : i + 2 ≤ s.size := by omega
  rw [one_two s i h2] at h
  split at h
  · obtain ⟨q, hq, h⟩ := Option.bind_eq_some_iff.1 h
    have hw := vecsL_words _ _ _ _ _ _ (Nat.le_refl _) (by rw [left_len]; omega) hq
    rw [left_len] at hw
    obtain ⟨al, ws, L⟩ := q
    unfold nextL at h
    by_cases hc : goodB (p.1 ++ if al = true then [val (seg s i 1)] else []) (p.2 ++ ws) = true ∧ ¬ (al = false ∧ ws = [])
    · rw [if_pos hc] at h
      injection h with h
      subst h
      simp only [List.length_append, List.length_nil] at hw ⊢
      refine ⟨?_, by omega, h4⟩
      cases al <;> simp
    · rw [if_neg hc] at h; cases h
  · cases h
theorem tail_two (s : ByteArray) (j : Nat) (h : s.size - j = 2) (hj : j ≤ s.size) : ((s.extract (s.size - 2) s.size).toList == [0, 0]) = true ↔ left_ s j = [0, 0] := by
  have e : s.size - 2 = j := by omega
  have e2 : s.size = j + 2 := by omega
  have h1 : bytesOf (s.extract (s.size - 2) s.size) = left_ s j := by
    rw [e]
    conv => lhs; rw [e2]
    rw [bytesOf_cut]
    unfold seg left_
    rw [List.take_of_length_le (by rw [List.length_drop, bytesOf_length]; omega)]
  rw [← h1, beq_iff_eq]
  generalize s.extract (s.size - 2) s.size = t
  constructor
  · intro h
    have : t = (⟨#[0, 0]⟩ : ByteArray) := by
      obtain ⟨⟨l⟩⟩ := t
      rw [ByteArray.toList_eq] at h
      simp only at h
      rw [h]
    rw [this]; rfl
  · intro h
    have : t = strOfNums [0, 0] := by rw [← h, Wr.str_bytesOf]
    rw [this, ByteArray.toList_eq]; rfl
/-- What Read leaves. -/
def ReadQ (w0 : World) (r : (List Int × List S43) × Bool × Int) (e : Ending) (w' : World) : Prop :=
  ∃ (A : Option Addr) (ca : Nat) (Aw : Option Addr) (cw : Nat), e = .returned (.tuple #[.agg #[.slice A r.1.1.length ca, .slice Aw r.1.2.length cw], .bool r.2.1, .int .i64 r.2.2]) ∧ RowI w0.heap.size w' (.slice A r.1.1.length ca) r.1.1 ∧ RowW w0.heap.size w' (.slice Aw r.1.2.length cw) r.1.2 ∧ Below w0.heap.size w0 w'
set_option maxHeartbeats 8000000 in
set_option maxRecDepth 100000 in
theorem read_calls (w : World) (s : ByteArray) (hs : s.size ≤ 20000) :
    Calls Try.prog 15 #[.string s] w (ReadQ w (readR s)) := by
  obtain ⟨i1, b1, g1, R1, q1, p1⟩ := get_val s (by omega) 0 (Nat.zero_le _)
  obtain ⟨k1, hk1⟩ := g1.rounds
  have HK1 := Aside0.mk hk1
  have HQ1 := Aside0.mk q1
  have HP1 := Aside0.mk p1
  have HR1 := Aside0.mk R1
  clear g1 hk1 R1 q1 p1
  go_enter Try.func15, Try.ntmps15
  go_wp2_with fail
  go_step3
  go_wp2_with fail
  go_at_call 31
  have hob : (w.alloc (.cells #[.slice none 0 0, .slice none 0 0] 25)).heap[w.heap.size]? = some (.cells #[.slice none 0 0, .slice none 0 0] 25 (0, 0)) := heap_alloc_new w _
  have hbw : Below w.heap.size w (w.alloc (.cells #[.slice none 0 0, .slice none 0 0] 25)) := below_alloc (Below.refl _ _) _
  generalize w.alloc (.cells #[.slice none 0 0, .slice none 0 0] 25) = w1 at hob hbw ⊢
  refine (octet_Open.calls s _ _ _ w1 w1 (Below.refl _ _) rfl).mono ?_
  rintro e w2 ⟨gr, rfl, hI2, hB2, hb2⟩
  have HO := Aside0.mk hob
  have HBw := Aside0.mk hbw
  have HI2 := Aside0.mk hI2
  have HB2 := Aside0.mk hB2
  clear hob hbw hI2 hB2 hb2
  go_wp2_with fail
  have hP3 : PduAt w1.heap.size (w2.alloc (.cells #[.slice none 0 0, .slice none 0 0] 25)) w2.heap.size (.slice none 0 0) (.slice none 0 0) [] [] := ⟨heap_alloc_new w2 _, RowI.nil _ _, RowW.nil _ _, HB2.out.size⟩
  have HP3 := Aside0.mk hP3
  have HI3 := Aside0.mk (IsS77.alloc HI2.out (.cells #[.slice none 0 0, .slice none 0 0] 25))
  have HB3 := Aside0.mk (HB2.out.alloc HB2.out.size (.cells #[.slice none 0 0, .slice none 0 0] 25))
  clear hP3 HI2 HB2
  generalize w2.alloc (.cells #[.slice none 0 0, .slice none 0 0] 25) = w3 at HP3 HI3 HB3 ⊢
  generalize w2.heap.size = gp at HP3 ⊢
  go_at_call 32
  refine (octet_Reader_Get.calls k1 gr s 0 (-1) 1 _ _ _ _ w1 w3 HI3.out HB3.out HK1.out).mono ?_
  rintro e w4 ⟨rfl, hI4, hB4, hK4⟩
  have HP4 := Aside0.mk (HP3.out.keep hK4 HI3.out.1)
  have HI4 := Aside0.mk hI4
  have HB4 := Aside0.mk hB4
  clear hI4 hB4 hK4 HI3 HB3 HP3
  by_cases c1 : val (seg s 0 1) = 0
  · rw [c1]
    go_wp2_with fail
    go_at_call 33
    refine (octet_Reader_Fault.calls gr s _ b1 _ _ _ _ w1 w4 HI4.out HB4.out rfl).mono ?_
    rintro e w5 ⟨rfl, hI5, hB5, hK5⟩
    have HP5 := Aside0.mk (HP4.out.keep hK5 HI4.out.1)
    have HI5 := Aside0.mk hI5
    have HB5 := Aside0.mk hB5
    clear hI5 hB5 hK5 HI4 HB4 HP4
    by_cases hsz : 1 ≤ s.size
    · have hb1 := HQ1.out.2 (by omega)
      obtain rfl := HP1.out hb1
      subst hb1
      obtain ⟨T, hT⟩ : ∃ T, readL (left_ s 1) ([], []) = T := ⟨_, rfl⟩
      have HR : Aside0 (readR s = (T.1, T.2, 0)) := ⟨by
        unfold readR
        rw [if_neg (not_or.2 ⟨by omega, fun h => h c1⟩), hT]⟩
      have HT := Aside0.mk hT
      clear hT
      rw [HR.out]
      go_wp2_with fail
      go_step3
      go_wp2_with fail
      go_loopg [] (s.size + 1) (fun kq wr => ∃ (va vw : Value) (all : List Int) (words : List S43) (j : Nat), j ≤ s.size ∧ s.size - j < kq ∧ words.length ≤ 3 * j ∧ 4 * all.length ≤ j ∧ Aside0 (readL (left_ s j) (all, words) = T) ∧ Aside0 (IsS77 w1 wr gr s (j : Int) (-1)) ∧ Aside0 (PduAt w1.heap.size wr gp va vw all words) ∧ Aside0 (Below w1.heap.size w1 wr))
      case atStart => exact ⟨_, _, [], [], 1, hsz, by omega, by simp, by simp, HT, HI5, HP5, HB5⟩
      case round =>
        rename World => wr
        clear HI5 HP5 HB5 HK1 HR1 HQ1 HP1
        obtain ⟨va, vw, all, words, j, hj, hfu, hwl, hal, HT', HI, HP, HB⟩ := hrel
        cases gk with
        | zero => omega
        | succ q1 =>
          have HL : Aside0 (octet_Reader_Left.f s (j : Int) (-1) = some (((s.size - j : Nat) : Int), s, (j : Int), -1)) := ⟨by
            unfold octet_Reader_Left.f
            rw [if_neg (by decide), wrap_id (by omega) (by omega)]
            rw [show (s.size : Int) - (j : Int) = ((s.size - j : Nat) : Int) from by omega]⟩
          go_wp2_with fail
          go_at_call 34
          refine (octet_Reader_Left.calls gr s _ (-1) _ _ _ _ w1 wr HI.out HB.out HL.out).mono ?_
          rintro e w6 ⟨rfl, hI6, hB6, hK6⟩
          have HP6 := Aside0.mk (HP.out.keep hK6 HI.out.1)
          have HI6 := Aside0.mk hI6
          have HB6 := Aside0.mk hB6
          clear hI6 hB6 hK6 HI HB HP HL
          by_cases c2 : s.size - j = 2
          · by_cases cz : left_ s j = [0, 0]
            · have e1 : (((s.size - j : Nat) : Int) == 2) = true := beq_iff_eq.2 (by omega)
              have e2 : ((s.extract (s.size - 2) s.size).toList == [0, 0]) = true := (tail_two s j c2 hj).2 cz
              have HTe : Aside0 (((all, words), false) = T) := ⟨by rw [← HT'.out, cz, readL_end]⟩
              obtain ⟨Aa, ca, rfl, hca, hCa⟩ := HP6.out.ri.reads
              obtain ⟨Aw, cw, rfl, hcw, hCw⟩ := HP6.out.rw_.reads
              have pa := (blk_cell HP6.out.obj 0).trans rfl
              have pw := (blk_cell HP6.out.obj 1).trans rfl
              have hob4 := (HB6.out.block _ (blk_lt HO.out)).trans HO.out
              have HF := Aside0.mk (put_set hob4 HP6.out.ri HP6.out.rw_ HBw.out.size (Nat.le_refl _) (HBw.out.trans (HB6.out.mono HBw.out.size)))
              have x0 := (blk_cell hob4 0).trans rfl
              have x1 := (blk_cell hob4 1).trans rfl
              have f0 := blk_frozen hob4 0
              have f1 := blk_frozen hob4 1
              clear hob4 hCa hCw
              go_wp2_with fail
              rw [HR.out]
              rw [Exit.noGoto_ret]
              generalize (w6.setCell ⟨w.heap.size, 0, none⟩ (.slice Aa all.length ca)).setCell ⟨w.heap.size, 1, none⟩ (.slice Aw words.length cw) = W at HF ⊢
              have z0 := (blk_cell HF.out.1.obj 0).trans rfl
              have z1 := (blk_cell HF.out.1.obj 1).trans rfl
              refine bodyPost_ret (v := .tuple #[.agg #[.slice Aa all.length ca, .slice Aw words.length cw], .bool false, .int .i64 0]) (by simp [results, Try.results15, go_sem, z0, z1]) rfl ?_
              rw [← HTe.out]
              exact ⟨_, _, _, _, rfl, HF.out.1.ri, HF.out.1.rw_, HF.out.2⟩
            · have e1 : (((s.size - j : Nat) : Int) == 2) = true := beq_iff_eq.2 (by omega)
              have e2 : ((s.extract (s.size - 2) s.size).toList == [0, 0]) = false := by
                rw [Bool.eq_false_iff]
                exact fun h => cz ((tail_two s j c2 hj).1 h)
              have e3 : decide (((s.size - j : Nat) : Int) < 2) = false := decide_eq_false (by omega)
              have e4 : decide (s.size - j < 2) = false := decide_eq_false (by omega)
              go_wp2_with fail
              go_at_call 35
              refine (one_calls w1 w6 gr gp s j va vw all words HI6.out HB6.out HP6.out hs hj (by omega) hwl).mono ?_
              rintro e w7 hq
              cases hone : oneL (left_ s j) (all, words) with
              | none =>
                rw [hone] at hq
                obtain ⟨rfl, hP7, hB7⟩ := hq
                have HTe : Aside0 (((all, words), true) = T) := ⟨by rw [← HT'.out, readL_none cz hone]⟩
                have HP7 := Aside0.mk hP7
                have HB7 := Aside0.mk hB7
                clear hP7 hB7 hone HP6 HB6 HI6
                obtain ⟨Aa, ca, rfl, hca, hCa⟩ := HP7.out.ri.reads
                obtain ⟨Aw, cw, rfl, hcw, hCw⟩ := HP7.out.rw_.reads
                have pa := (blk_cell HP7.out.obj 0).trans rfl
                have pw := (blk_cell HP7.out.obj 1).trans rfl
                have hob4 := (HB7.out.block _ (blk_lt HO.out)).trans HO.out
                have HF := Aside0.mk (put_set hob4 HP7.out.ri HP7.out.rw_ HBw.out.size (Nat.le_refl _) (HBw.out.trans (HB7.out.mono HBw.out.size)))
                have x0 := (blk_cell hob4 0).trans rfl
                have x1 := (blk_cell hob4 1).trans rfl
                have f0 := blk_frozen hob4 0
                have f1 := blk_frozen hob4 1
                clear hob4 hCa hCw
                go_wp2_with fail
                rw [HR.out]
                rw [Exit.noGoto_ret]
                generalize (w7.setCell ⟨w.heap.size, 0, none⟩ (.slice Aa all.length ca)).setCell ⟨w.heap.size, 1, none⟩ (.slice Aw words.length cw) = W at HF ⊢
                have z0 := (blk_cell HF.out.1.obj 0).trans rfl
                have z1 := (blk_cell HF.out.1.obj 1).trans rfl
                refine bodyPost_ret (v := .tuple #[.agg #[.slice Aa all.length ca, .slice Aw words.length cw], .bool true, .int .i64 0]) (by simp [results, Try.results15, go_sem, z0, z1]) rfl ?_
                rw [← HTe.out]
                exact ⟨_, _, _, _, rfl, HF.out.1.ri, HF.out.1.rw_, HF.out.2⟩
              | some x =>
                rw [hone] at hq
                obtain ⟨i', va', vw', rfl, hI7, hi', hx2, hP7, hB7⟩ := hq
                obtain ⟨o1, o2, o3⟩ := one_bounds hs hone
                have hlx : x.2.length = s.size - i' := by rw [hx2, left_len]
                have HTn : Aside0 (readL (left_ s i') (x.1.1, x.1.2) = T) := ⟨by rw [← HT'.out, readL_some cz (by rw [left_len]; omega) hone (by rw [left_len]; omega), hx2]⟩
                have HP7 := Aside0.mk hP7
                have HB7 := Aside0.mk hB7
                have HI7 := Aside0.mk hI7
                clear hP7 hB7 hI7 hone HP6 HB6 HI6
                simp only at o1 o2
                go_wp2_with fail
                go_roundg q1
                case measure => omega
                case rel => exact ⟨va', vw', x.1.1, x.1.2, i', hi', by omega, by omega, by omega, HTn, HI7, HP7, HB7⟩
          · have e1 : (((s.size - j : Nat) : Int) == 2) = false := beq_eq_false_iff_ne.2 (by omega)
            by_cases c3 : s.size - j < 2
            · have e3 : decide (((s.size - j : Nat) : Int) < 2) = true := decide_eq_true (by omega)
              have e4 : decide (s.size - j < 2) = true := decide_eq_true (by omega)
              have HTe : Aside0 (((all, words), true) = T) := ⟨by rw [← HT'.out, readL_short (by rw [left_len]; exact c3)]⟩
              obtain ⟨Aa, ca, rfl, hca, hCa⟩ := HP6.out.ri.reads
              obtain ⟨Aw, cw, rfl, hcw, hCw⟩ := HP6.out.rw_.reads
              have pa := (blk_cell HP6.out.obj 0).trans rfl
              have pw := (blk_cell HP6.out.obj 1).trans rfl
              have hob4 := (HB6.out.block _ (blk_lt HO.out)).trans HO.out
              have HF := Aside0.mk (put_set hob4 HP6.out.ri HP6.out.rw_ HBw.out.size (Nat.le_refl _) (HBw.out.trans (HB6.out.mono HBw.out.size)))
              have x0 := (blk_cell hob4 0).trans rfl
              have x1 := (blk_cell hob4 1).trans rfl
              have f0 := blk_frozen hob4 0
              have f1 := blk_frozen hob4 1
              clear hob4 hCa hCw
              go_wp2_with fail
              rw [HR.out]
              rw [Exit.noGoto_ret]
              generalize (w6.setCell ⟨w.heap.size, 0, none⟩ (.slice Aa all.length ca)).setCell ⟨w.heap.size, 1, none⟩ (.slice Aw words.length cw) = W at HF ⊢
              have z0 := (blk_cell HF.out.1.obj 0).trans rfl
              have z1 := (blk_cell HF.out.1.obj 1).trans rfl
              refine bodyPost_ret (v := .tuple #[.agg #[.slice Aa all.length ca, .slice Aw words.length cw], .bool true, .int .i64 0]) (by simp [results, Try.results15, go_sem, z0, z1]) rfl ?_
              rw [← HTe.out]
              exact ⟨_, _, _, _, rfl, HF.out.1.ri, HF.out.1.rw_, HF.out.2⟩
            · have e3 : decide (((s.size - j : Nat) : Int) < 2) = false := decide_eq_false (by omega)
              have e4 : decide (s.size - j < 2) = false := decide_eq_false (by omega)
              go_wp2_with fail
              go_at_call 35
              refine (one_calls w1 w6 gr gp s j va vw all words HI6.out HB6.out HP6.out hs hj (by omega) hwl).mono ?_
              rintro e w7 hq
              cases hone : oneL (left_ s j) (all, words) with
              | none =>
                rw [hone] at hq
                obtain ⟨rfl, hP7, hB7⟩ := hq
                have HTe : Aside0 (((all, words), true) = T) := ⟨by rw [← HT'.out, readL_none (fun h => absurd (congrArg List.length h) (by rw [left_len]; simp; omega)) hone]⟩
                have HP7 := Aside0.mk hP7
                have HB7 := Aside0.mk hB7
                clear hP7 hB7 hone HP6 HB6 HI6
                obtain ⟨Aa, ca, rfl, hca, hCa⟩ := HP7.out.ri.reads
                obtain ⟨Aw, cw, rfl, hcw, hCw⟩ := HP7.out.rw_.reads
                have pa := (blk_cell HP7.out.obj 0).trans rfl
                have pw := (blk_cell HP7.out.obj 1).trans rfl
                have hob4 := (HB7.out.block _ (blk_lt HO.out)).trans HO.out
                have HF := Aside0.mk (put_set hob4 HP7.out.ri HP7.out.rw_ HBw.out.size (Nat.le_refl _) (HBw.out.trans (HB7.out.mono HBw.out.size)))
                have x0 := (blk_cell hob4 0).trans rfl
                have x1 := (blk_cell hob4 1).trans rfl
                have f0 := blk_frozen hob4 0
                have f1 := blk_frozen hob4 1
                clear hob4 hCa hCw
                go_wp2_with fail
                rw [HR.out]
                rw [Exit.noGoto_ret]
                generalize (w7.setCell ⟨w.heap.size, 0, none⟩ (.slice Aa all.length ca)).setCell ⟨w.heap.size, 1, none⟩ (.slice Aw words.length cw) = W at HF ⊢
                have z0 := (blk_cell HF.out.1.obj 0).trans rfl
                have z1 := (blk_cell HF.out.1.obj 1).trans rfl
                refine bodyPost_ret (v := .tuple #[.agg #[.slice Aa all.length ca, .slice Aw words.length cw], .bool true, .int .i64 0]) (by simp [results, Try.results15, go_sem, z0, z1]) rfl ?_
                rw [← HTe.out]
                exact ⟨_, _, _, _, rfl, HF.out.1.ri, HF.out.1.rw_, HF.out.2⟩
              | some x =>
                rw [hone] at hq
                obtain ⟨i', va', vw', rfl, hI7, hi', hx2, hP7, hB7⟩ := hq
                obtain ⟨o1, o2, o3⟩ := one_bounds hs hone
                have hlx : x.2.length = s.size - i' := by rw [hx2, left_len]
                have HTn : Aside0 (readL (left_ s i') (x.1.1, x.1.2) = T) := ⟨by rw [← HT'.out, readL_some (fun h => absurd (congrArg List.length h) (by rw [left_len]; simp; omega)) (by rw [left_len]; omega) hone (by rw [left_len]; omega), hx2]⟩
                have HP7 := Aside0.mk hP7
                have HB7 := Aside0.mk hB7
                have HI7 := Aside0.mk hI7
                clear hP7 hB7 hI7 hone HP6 HB6 HI6
                simp only at o1 o2
                go_wp2_with fail
                go_roundg q1
                case measure => omega
                case rel => exact ⟨va', vw', x.1.1, x.1.2, i', hi', by omega, by omega, by omega, HTn, HI7, HP7, HB7⟩
    · have hb1 : 0 ≤ b1 := by
        rcases HR1.out.2 with h | h
        · exact absurd (HQ1.out.1 h) (by omega)
        · omega
      have d1 : decide (0 ≤ b1) = true := decide_eq_true hb1
      have hob4 := (HB5.out.block _ (blk_lt HO.out)).trans HO.out
      have x0 := (blk_cell hob4 0).trans rfl
      have x1 := (blk_cell hob4 1).trans rfl
      have f0 := blk_frozen hob4 0
      have f1 := blk_frozen hob4 1
      clear hob4
      have HR : Aside0 (readR s = (([], []), false, 4)) := ⟨by unfold readR; rw [if_pos (.inl (by omega))]⟩
      go_wp2_with fail
      rw [HR.out]
      rw [Exit.noGoto_ret]
      have s1 := blk_set ((HB5.out.block _ (blk_lt HO.out)).trans HO.out) 0 (.slice none 0 0)
      have s2 := blk_set s1 1 (.slice none 0 0)
      have hend : Below w.heap.size w ((w5.setCell ⟨w.heap.size, 0, none⟩ (.slice none 0 0)).setCell ⟨w.heap.size, 1, none⟩ (.slice none 0 0)) := (((HBw.out.trans (HB5.out.mono HBw.out.size)).setCell (Nat.le_refl _) _).setCell (Nat.le_refl _) _)
      generalize (w5.setCell ⟨w.heap.size, 0, none⟩ (.slice none 0 0)).setCell ⟨w.heap.size, 1, none⟩ (.slice none 0 0) = W at s2 hend ⊢
      have z0 := (blk_cell s2 0).trans rfl
      have z1 := (blk_cell s2 1).trans rfl
      refine bodyPost_ret (v := .tuple #[.agg #[.slice none 0 0, .slice none 0 0], .bool false, .int .i64 4]) (by simp [results, Try.results15, go_sem, z0, z1]) rfl ⟨none, 0, none, 0, rfl, RowI.nil _ _, RowW.nil _ _, hend⟩
  · have e1 : (val (seg s 0 1) != 0) = true := bne_iff_ne.2 c1
    have e2 : (val (seg s 0 1) == 0) = false := beq_eq_false_iff_ne.2 c1
    have hob4 := (HB4.out.block _ (blk_lt HO.out)).trans HO.out
    have x0 := (blk_cell hob4 0).trans rfl
    have x1 := (blk_cell hob4 1).trans rfl
    have f0 := blk_frozen hob4 0
    have f1 := blk_frozen hob4 1
    clear hob4
    have HR : Aside0 (readR s = (([], []), false, 4)) := ⟨by unfold readR; rw [if_pos (.inr c1)]⟩
    go_wp2_with fail
    rw [HR.out]
    rw [Exit.noGoto_ret]
    have s1 := blk_set ((HB4.out.block _ (blk_lt HO.out)).trans HO.out) 0 (.slice none 0 0)
    have s2 := blk_set s1 1 (.slice none 0 0)
    have hend : Below w.heap.size w ((w4.setCell ⟨w.heap.size, 0, none⟩ (.slice none 0 0)).setCell ⟨w.heap.size, 1, none⟩ (.slice none 0 0)) := (((HBw.out.trans (HB4.out.mono HBw.out.size)).setCell (Nat.le_refl _) _).setCell (Nat.le_refl _) _)
    generalize (w4.setCell ⟨w.heap.size, 0, none⟩ (.slice none 0 0)).setCell ⟨w.heap.size, 1, none⟩ (.slice none 0 0) = W at s2 hend ⊢
    have z0 := (blk_cell s2 0).trans rfl
    have z1 := (blk_cell s2 1).trans rfl
    refine bodyPost_ret (v := .tuple #[.agg #[.slice none 0 0, .slice none 0 0], .bool false, .int .i64 4]) (by simp [results, Try.results15, go_sem, z0, z1]) rfl ⟨none, 0, none, 0, rfl, RowI.nil _ _, RowW.nil _ _, hend⟩
end Go.Proofs.Ytlfcpobnkojcbaa.Pm
/- Walks of chapter 7: alive, and what a message is to a law. -/
namespace Go.Proofs.Ytlfcpobnkojcbaa.Pm
open Go.RowKit Go.Proofs.Ytlfcpobnkojcbaa.PMrpduBytes Go.Proofs.YtlfcpobnkojcbaaW.PrintWords Go.Proofs.YtlfcpobnkojcbaaW.PrintLast Go.Proofs.YtlfcpobnkojcbaaW.PrintMore
open Wr (putBytes numOf WS IsW KeepW)
set_option linter.unusedVariables false
set_option linter.unusedSimpArgs false
/-- A message in memory: its block, and the two lists. -/
structure At (w : World) (g : Nat) (A : Option Addr) (c : Nat) (all : List Int) (A' : Option Addr) (c' : Nat) (words : List S43) : Prop where
  obj : w.heap[g]? = some (.cells #[.slice A all.length c, .slice A' words.length c'] 25 (0, 0))
  ri : (Kd.int .i64).C w A all.length all
  ci : all.length ≤ c
  rw_ : k43.C w A' words.length words
  cw : words.length ≤ c'
theorem At.cells {w : World} {g : Nat} {A : Option Addr} {c : Nat} {all : List Int} {A' : Option Addr} {c' : Nat} {words : List S43} (h : At w g A c all A' c' words) : w.cell? ⟨g, 0, none⟩ = some (.slice A all.length c) ∧ w.cell? ⟨g, 1, none⟩ = some (.slice A' words.length c') :=
  ⟨(blk_cell h.obj 0).trans rfl, (blk_cell h.obj 1).trans rfl⟩
theorem bytes_nil : bytesR [] [] = ((⟨#[0, 0, 0]⟩ : ByteArray), 0) := by
  have hg : goodB [] [] = true := goodB_iff.2 ⟨by simp, .nil, by simp, .nil⟩
  have hb : bytesL [] [] = [0, 0, 0] := by decide
  unfold bytesR
  rw [if_pos hg, hb, if_pos (by decide)]
  rfl
theorem read_nil : readR (⟨#[0, 0, 0]⟩ : ByteArray) = (([], []), false, 0) := by
  unfold readR
  rw [if_neg (by decide), show left_ (⟨#[0, 0, 0]⟩ : ByteArray) 1 = [0, 0] by decide, readL_end]
set_option maxHeartbeats 8000000 in
set_option maxRecDepth 100000 in
theorem alive_calls (w : World) : Calls Try.prog 9 #[] w fun e w' => e = .returned (.bool true) ∧ Below w.heap.size w w' := by
  have hu := Try.underlying25
  go_enter Try.func9, Try.ntmps9
  go_wp2_with fail
  go_at_call 12
  have hB := bytes_calls w none 0 [] none 0 [] (by exact ⟨rfl, by decide, fun h => absurd h (by decide)⟩) (Nat.le_refl _) (by exact ⟨rfl, by decide, fun h => absurd h (by decide)⟩) (Nat.le_refl _) (by decide) (by decide)
  rw [bytes_nil] at hB
  refine hB.mono ?_
  clear hB
  rintro e w1 ⟨rfl, hb1⟩
  have HB1 := Aside0.mk hb1
  clear hb1
  go_wp2_with fail
  go_at_call 15
  have hR := read_calls w1 ⟨#[0, 0, 0]⟩ (by decide)
  rw [read_nil] at hR
  refine hR.mono ?_
  clear hR
  rintro e w2 ⟨A, ca, Aw, cw, rfl, hri, hrw, hb2⟩
  have HB2 := Aside0.mk (HB1.out.trans (hb2.mono HB1.out.size))
  clear hri hrw hb2
  go_wp2_with fail
  go_at_call 18
  refine (mrpdu_Attr.calls 1 1 true _ rfl).mono ?_
  rintro e w4 ⟨rfl, hb4⟩
  go_wp2_with fail
  go_ret
  exact ⟨rfl, HB2.out.alloc HB2.out.size _ |>.trans (hb4.mono (by simpa using Nat.le_succ_of_le HB2.out.size))⟩
end Go.Proofs.Ytlfcpobnkojcbaa.Pm
/- Walk of chapter 7: MrpduAttrs (its way through, where all that it asks holds: lines of the print, cut out by wip/c07/mkat.py) -/
namespace Go.Proofs.Ytlfcpobnkojcbaa.Pm
open Go.RowKit Go.Proofs.Ytlfcpobnkojcbaa.PMrpduBytes Go.Proofs.YtlfcpobnkojcbaaW.PrintWords Go.Proofs.YtlfcpobnkojcbaaW.PrintLast Go.Proofs.YtlfcpobnkojcbaaW.PrintMore
set_option linter.unusedVariables false
set_option linter.unusedSimpArgs false
attribute [local go_sem] max2_int min2_int max_two min_two max_three min_three max_four min_four   -- for this text's walks alone
attribute [local go_sem high] eqA37
def kissgatelaw07_MrpduAttrs.T4 : Bool × List (List Nat × List Nat) := (true, [([], []), ([0], [0]), ([], []), ([2, 1], [2]), ([1, 3], [1, 3]), ([4, 3], [4]), ([5], [5]), ([6, 5], [5, 6]), ([5], [5]), ([5], [5]), ([8, 9, 5, 5], [5, 8, 9]), ([7, 10, 5], [5, 7, 10]), ([5, 11], [5, 11]), ([12, 10], [12]), ([13], [13]), ([14, 13], [13, 14]), ([13], [13]), ([13], [13]), ([16, 17, 13, 13], [13, 16, 17]), ([15, 18, 13], [13, 15, 18]), ([13, 19], [13, 19]), ([20, 18], [20]), ([21], [21]), ([22, 21], [21, 22]), ([21], [21]), ([21], [21]), ([24, 25, 21], [21, 24, 25]), ([23, 26, 21], [21, 23, 26]), ([21, 27], [21, 27]), ([28, 21], [28]), ([29], [29]), ([29], [29]), ([29], [29]), ([31, 32, 29, 29], [29, 31, 32]), ([33, 29], [29, 33]), ([30, 34, 29], [29, 30, 34]), ([29, 35], [29, 35]), ([36, 33, 0, 1, 2, 3, 4, 5, 6, 7, 8, 9, 10, 11, 12, 13, 14, 15, 16, 17, 18, 19, 20, 21, 22, 23, 24, 25, 26, 27, 28, 29, 30, 31, 32, 33, 34, 35, 36], [36])])
def kissgatelaw07_MrpduAttrs.B4 : List Nat := [0, 1, 0, 7, 15, 31, 63, 127, 63, 63, 831, 2047, 4095, 8191, 16383, 32767, 16383, 16383, 212991, 524287, 1048575, 2097151, 4194303, 8388607, 4194303, 4194303, 54525951, 134217727, 268435455, 536870911, 1073741823, 1073741823, 1073741823, 7516192767, 16106127359, 34359738367, 68719476735, 137438953471]
theorem kissgatelaw07_MrpduAttrs.tab4 : rtab .any (opsOf Try.f4 4) = kissgatelaw07_MrpduAttrs.T4 := by kernel_rfl
theorem kissgatelaw07_MrpduAttrs.bits4 : waitsOk kissgatelaw07_MrpduAttrs.T4.2 kissgatelaw07_MrpduAttrs.B4 = true := by kernel_rfl
set_option maxHeartbeats 8000000 in
set_option maxRecDepth 100000 in
theorem attrs_way (k : Nat) (a0_0 a0_1 a1_0 a1_1 : Int) (t223 : Int) (t224 t225 t226 t227 : Bool) (t228 : Int) (w : World)
    (A5 : Aside0 (mrpdu_Compare.f k a0_0 a0_1 a1_0 a1_1 = some t223))
    (A6 : Aside0 (mrpdu_Attr.f a0_0 a0_1 = some t224))
    (A7 : Aside0 (kissgateref07_Attr.f a0_0 a0_1 = some t225))
    (c8b0 : (t224 == t225) = true)
    (c8b1 : decide (t224 = t225) = true)
    (A9 : Aside0 (kissgateref07_Less.f a0_0 a0_1 a1_0 a1_1 = some t226))
    (c10b0 : ((decide (t223 < 0)) == t226) = true)
    (c10b1 : decide ((decide (t223 < 0)) = t226) = true)
    (A11 : Aside0 (kissgateref07_Less.f a1_0 a1_1 a0_0 a0_1 = some t227))
    (c12b0 : ((decide (t223 > 0)) == t227) = true)
    (c12b1 : decide ((decide (t223 > 0)) = t227) = true)
    (c13b0 : ((t223 == 0) == (a0_0 == a1_0 && (a0_1 == a1_1))) = true)
    (c13b1 : decide ((t223 == 0) = (a0_0 == a1_0 && (a0_1 == a1_1))) = true)
    (A14 : Aside0 (mrpdu_Compare.f k a1_0 a1_1 a0_0 a0_1 = some t228)) :
    Calls Try.prog 4 #[.agg #[.int .i64 a0_0, .int .i64 a0_1], .agg #[.int .i64 a1_0, .int .i64 a1_1]] w fun e w' => e = .returned (.bool (t223 == (wrap64 (-t228)))) ∧ Below w.heap.size w w' := by
  have hu37 := Try.underlying37
  have HB := Aside0.mk (Below.refl w.heap.size w)
  go_enter Try.func4, Try.ntmps4
  try go_wp2_with (first | ((with_reducible refine gate_dst (N := 2) rfl ?_); refine box_event ?hg (N := 2) ?hd (cs := #[.int .i64 a0_0, .int .i64 a0_1]) (t := 37) ?hr ?_; (case hd => rfl); (case hg => rfl); (case hr => first | (go_simp; done) | (go_simp; rfl)); intro gb220 hg w15 hbox hb; have n0_ := Aside0.mk (below_step (by repeat (first | (with_reducible first | exact HB.out | apply below_alloc | apply pw_below_drewN | apply below_drew1) | exact HB.out)) hb); have n1_ := Aside0.mk (hbox); have n2_ := Aside0.mk ((by rw [hg]; exact (below_size (by repeat (first | (with_reducible first | exact HB.out | apply below_alloc | apply pw_below_drewN | apply below_drew1) | exact HB.out))) : w.heap.size ≤ gb220)); have n3_ := Aside0.mk ((by rw [hg]; exact (below_size (by repeat (first | (with_reducible first | exact HB.out | apply below_alloc | apply pw_below_drewN | apply below_drew1) | exact HB.out))) : w.heap.size ≤ gb220)); clear HB; have HB := n0_; have BK220 := n1_; have GW220 := n2_; have GE220 := n3_; clear n0_ n1_ n2_ n3_; clear hb hbox hg) | ((with_reducible refine gate_dst (N := 3) rfl ?_); refine box_event ?hg (N := 3) ?hd (cs := #[.int .i64 a1_0, .int .i64 a1_1]) (t := 37) ?hr ?_; (case hd => rfl); (case hg => rfl); (case hr => first | (go_simp; done) | (go_simp; rfl)); intro gb221 hg w16 hbox hb; have n0_ := Aside0.mk (blk_below (g := gb220) (o := .cells #[.int .i64 a0_0, .int .i64 a0_1] 37 (0, 0)) (by (with_reducible repeat (first | refine blk_drewN ?_ _ | refine blk_drew ?_ | refine blk_alloc ?_ _)); exact BK220.out) hb); have n1_ := Aside0.mk (below_step (by repeat (first | (with_reducible first | exact HB.out | apply below_alloc | apply pw_below_drewN | apply below_drew1 | refine below_set ?_ GE220.out) | exact HB.out)) hb); have n2_ := Aside0.mk (hbox); have n3_ := Aside0.mk ((by rw [hg]; exact (below_size (by repeat (first | (with_reducible first | exact HB.out | apply below_alloc | apply pw_below_drewN | apply below_drew1 | refine below_set ?_ GE220.out) | exact HB.out))) : w.heap.size ≤ gb221)); have n4_ := Aside0.mk ((by rw [hg]; exact (below_size (by repeat (first | (with_reducible first | exact HB.out | apply below_alloc | apply pw_below_drewN | apply below_drew1 | refine below_set ?_ GE220.out) | exact HB.out))) : w.heap.size ≤ gb221)); have n5_ := Aside0.mk ((by rw [hg]; exact Nat.ne_of_lt (blk_lt (g := gb220) (o := .cells #[.int .i64 a0_0, .int .i64 a0_1] 37 (0, 0)) (by (with_reducible repeat (first | refine blk_drewN ?_ _ | refine blk_drew ?_ | refine blk_alloc ?_ _)); exact BK220.out)) : gb220 ≠ gb221)); have n6_ := Aside0.mk ((by rw [hg]; exact Nat.ne_of_gt (blk_lt (g := gb220) (o := .cells #[.int .i64 a0_0, .int .i64 a0_1] 37 (0, 0)) (by (with_reducible repeat (first | refine blk_drewN ?_ _ | refine blk_drew ?_ | refine blk_alloc ?_ _)); exact BK220.out)) : gb221 ≠ gb220)); clear BK220; clear HB; have BK220 := n0_; have HB := n1_; have BK221 := n2_; have GW221 := n3_; have GE221 := n4_; have NB220_221 := n5_; have NB221_220 := n6_; clear n0_ n1_ n2_ n3_ n4_ n5_ n6_; clear hb hbox hg) | ((with_reducible refine gate_callee (f := 9) rfl ?_); refine goesL_ (some 6) rfl rfl Try.func9 (by kernel_rfl) rfl #[] rfl (by (try simp only [List.map_toArray, List.map_cons, List.map_nil]); first | done | rfl | (simp only [List.length_drop, List.length_take]; rfl) | (go_simp; first | done | (unfold wrap64; omega))) ?_; (with_reducible refine (alive_calls _).mono ?_); rintro e w17 ⟨rfl, hb⟩; refine ⟨_, rfl, ?_⟩; have n0_ := Aside0.mk (blk_below (g := gb220) (o := .cells #[.int .i64 a0_0, .int .i64 a0_1] 37 (0, 0)) (by (with_reducible repeat (first | refine blk_drewN ?_ _ | refine blk_drew ?_ | refine blk_alloc ?_ _)); exact BK220.out) hb); have n1_ := Aside0.mk (blk_below (g := gb221) (o := .cells #[.int .i64 a1_0, .int .i64 a1_1] 37 (0, 0)) (by (with_reducible repeat (first | refine blk_drewN ?_ _ | refine blk_drew ?_ | refine blk_alloc ?_ _)); exact BK221.out) hb); have n2_ := Aside0.mk (below_step (by repeat (first | (with_reducible first | exact HB.out | apply below_alloc | apply pw_below_drewN | apply below_drew1 | refine below_set ?_ GE220.out | refine below_set ?_ GE221.out) | exact HB.out)) hb); clear BK220; clear BK221; clear HB; have BK220 := n0_; have BK221 := n1_; have HB := n2_; clear n0_ n1_ n2_; (try clear hb); (try clear hb2); (try clear hk); (try clear hi); have hnb18 := NB220_221.out; have hnc18 := NB221_220.out; have hcz19_0 : w17.cell? ⟨gb220, 0, none⟩ = some (.int .i64 a0_0) := (blk_cell BK220.out 0).trans rfl; have hcz19_1 : w17.cell? ⟨gb220, 1, none⟩ = some (.int .i64 a0_1) := (blk_cell BK220.out 1).trans rfl; have hfz19_0 := blk_frozen BK220.out 0; have hfz19_1 := blk_frozen BK220.out 1; have hcz20_0 : w17.cell? ⟨gb221, 0, none⟩ = some (.int .i64 a1_0) := (blk_cell BK221.out 0).trans rfl; have hcz20_1 : w17.cell? ⟨gb221, 1, none⟩ = some (.int .i64 a1_1) := (blk_cell BK221.out 1).trans rfl; have hfz20_0 := blk_frozen BK221.out 0; have hfz20_1 := blk_frozen BK221.out 1) | ((with_reducible refine gate_callee (f := 17) rfl ?_); refine goesL_ (some 10) rfl rfl Try.func17 (by kernel_rfl) rfl #[.agg #[.int .i64 a0_0, .int .i64 a0_1], .agg #[.int .i64 a1_0, .int .i64 a1_1]] rfl (by (try simp only [List.map_toArray, List.map_cons, List.map_nil]); first | done | rfl | (simp only [List.length_drop, List.length_take]; rfl) | (go_simp; first | done | (unfold wrap64; omega))) ?_; (with_reducible refine (mrpdu_Compare.calls k a0_0 a0_1 a1_0 a1_1 t223 _ A5.out).mono ?_); rintro e w21 ⟨rfl, hb⟩; refine ⟨_, rfl, ?_⟩; have n0_ := Aside0.mk (blk_below (g := gb220) (o := .cells #[.int .i64 a0_0, .int .i64 a0_1] 37 (0, 0)) (by (with_reducible repeat (first | refine blk_drewN ?_ _ | refine blk_drew ?_ | refine blk_alloc ?_ _)); exact BK220.out) hb); have n1_ := Aside0.mk (blk_below (g := gb221) (o := .cells #[.int .i64 a1_0, .int .i64 a1_1] 37 (0, 0)) (by (with_reducible repeat (first | refine blk_drewN ?_ _ | refine blk_drew ?_ | refine blk_alloc ?_ _)); exact BK221.out) hb); have n2_ := Aside0.mk (below_step (by repeat (first | (with_reducible first | exact HB.out | apply below_alloc | apply pw_below_drewN | apply below_drew1 | refine below_set ?_ GE220.out | refine below_set ?_ GE221.out) | exact HB.out)) hb); clear BK220; clear BK221; clear HB; have BK220 := n0_; have BK221 := n1_; have HB := n2_; clear n0_ n1_ n2_; (try clear hb); (try clear hb2); (try clear hk); (try clear hi)))
  have n0_ := Aside0.mk (blk_drew BK220.out)
  have n1_ := Aside0.mk (blk_drew BK221.out)
  have n2_ := Aside0.mk (below_drew1 HB.out)
  clear BK220
  clear BK221
  clear HB
  have BK220 := n0_
  have BK221 := n1_
  have HB := n2_
  clear n0_ n1_ n2_
  refine start_ (n := 38) (S := fun w' => w'.cell? ⟨gb220, 0, none⟩ = some (.int .i64 a0_0) ∧ w'.cell? ⟨gb220, 1, none⟩ = some (.int .i64 a0_1) ∧ w'.cell? ⟨gb221, 0, none⟩ = some (.int .i64 a1_0) ∧ w'.cell? ⟨gb221, 1, none⟩ = some (.int .i64 a1_1)) (ds := []) #[false, false, false, false, false, false, false, false, false, false, false, false, false, false, false, false, false, false, false, false, false, false, false, false, false, false, false, false, false, false, false, false, false, false, false, false, false, false] (by kernel_rfl) rfl rfl ⟨(blk_cell BK220.out 0).trans rfl, (blk_cell BK220.out 1).trans rfl, (blk_cell BK221.out 0).trans rfl, (blk_cell BK221.out 1).trans rfl⟩ (fun hHeld => ?_); refine with_tabW kissgatelaw07_MrpduAttrs.tab4 kissgatelaw07_MrpduAttrs.bits4 (fun HT_ HW_ => ?_)
  generalize w21.drew = w22 at BK220 BK221 HB hHeld ⊢
  refine take_ (i := 0) (N := some 11) (v := ?_) (a' := ?_) #[true, false, false, false, false, false, false, false, false, false, false, false, false, false, false, false, false, false, false, false, false, false, false, false, false, false, false, false, false, false, false, false, false, false, false, false, false, false] rfl rfl (take_ofW HT_.out HW_.out (by kernel_rfl)) (fun _ _ _ h => h) (Or.inl ⟨by rfl, ?_⟩) hHeld ?_ ?_
  rotate_left
  · rintro w' ⟨s0, s1, s2, s3⟩
    go_simp
    with_reducible rfl
  rotate_left
  · simp only [Act.put, List.setIfInBounds_toArray, List.set_cons_zero, List.set_cons_succ, i64_w, i32_w]
    rfl
  refine take_ (i := 2) (N := some 13) (v := ?_) (a' := ?_) #[true, false, true, false, false, false, false, false, false, false, false, false, false, false, false, false, false, false, false, false, false, false, false, false, false, false, false, false, false, false, false, false, false, false, false, false, false, false] rfl rfl (take_ofW HT_.out HW_.out (by kernel_rfl)) (fun _ _ _ h => h) (Or.inl ⟨by rfl, ?_⟩) hHeld ?_ ?_
  rotate_left
  · rintro w' ⟨s0, s1, s2, s3⟩
    go_simp
    with_reducible rfl
  rotate_left
  · simp only [Act.put, List.setIfInBounds_toArray, List.set_cons_zero, List.set_cons_succ, i64_w, i32_w]
    rfl
  refine one_ (i := 1) (N := some 12) #[true, true, true, false, false, false, false, false, false, false, false, false, false, false, false, false, false, false, false, false, false, false, false, false, false, false, false, false, false, false, false, false, false, false, false, false, false, false] rfl rfl (one_of HT_.out (by kernel_rfl)) (by decide) (fun K hK => ?_)
  refine goes_ Try.func18 (by kernel_rfl) rfl #[.agg #[.int .i64 a0_0, .int .i64 a0_1]] (by rfl) rfl rfl (by (try simp only [List.map_toArray, List.map_cons, List.map_nil]); first | done | rfl | (simp only [List.length_drop, List.length_take]; rfl)) ?_
  with_reducible refine (mrpdu_Attr.calls a0_0 a0_1 t224 _ A6.out).mono ?_
  rintro e w23 ⟨rfl, hb⟩
  refine ⟨_, rfl, ?_⟩
  have n0_ := Aside0.mk (blk_below (g := gb220) (o := .cells #[.int .i64 a0_0, .int .i64 a0_1] 37 (0, 0)) (by (with_reducible repeat (first | refine blk_drewN ?_ _ | refine blk_drew ?_ | refine blk_alloc ?_ _)); exact BK220.out) hb)
  have n1_ := Aside0.mk (blk_below (g := gb221) (o := .cells #[.int .i64 a1_0, .int .i64 a1_1] 37 (0, 0)) (by (with_reducible repeat (first | refine blk_drewN ?_ _ | refine blk_drew ?_ | refine blk_alloc ?_ _)); exact BK221.out) hb)
  have n2_ := Aside0.mk (below_step (by repeat (first | (with_reducible first | exact HB.out | apply below_alloc | apply pw_below_drewN | apply below_drew1 | refine below_set ?_ GE220.out | refine below_set ?_ GE221.out) | exact HB.out)) hb)
  clear BK220
  clear BK221
  clear HB
  have BK220 := n0_
  have BK221 := n1_
  have HB := n2_
  clear n0_ n1_ n2_
  (try clear hb)
  (try clear hb2)
  (try clear hk)
  (try clear hi)
  refine hK.out _ _ ⟨(blk_cell BK220.out 0).trans rfl, (blk_cell BK220.out 1).trans rfl, (blk_cell BK221.out 0).trans rfl, (blk_cell BK221.out 1).trans rfl⟩ (fun hHeld => ?_)
  clear hK K
  refine norm_ (a' := ?_) ?_ ?_
  rotate_left
  · show Act.put _ (some 12) _ = _
    simp only [Act.put, List.setIfInBounds_toArray, List.set_cons_zero, List.set_cons_succ, i64_w, i32_w]
    rfl
  refine one_ (i := 3) (N := some 14) #[true, true, true, true, false, false, false, false, false, false, false, false, false, false, false, false, false, false, false, false, false, false, false, false, false, false, false, false, false, false, false, false, false, false, false, false, false, false] rfl rfl (one_of HT_.out (by kernel_rfl)) (by decide) (fun K hK => ?_)
  refine goes_ Try.func19 (by kernel_rfl) rfl #[.agg #[.int .i64 a0_0, .int .i64 a0_1]] (by rfl) rfl rfl (by (try simp only [List.map_toArray, List.map_cons, List.map_nil]); first | done | rfl | (simp only [List.length_drop, List.length_take]; rfl)) ?_
  with_reducible refine (kissgateref07_Attr.calls a0_0 a0_1 t225 _ A7.out).mono ?_
  rintro e w24 ⟨rfl, hb⟩
  refine ⟨_, rfl, ?_⟩
  have n0_ := Aside0.mk (blk_below (g := gb220) (o := .cells #[.int .i64 a0_0, .int .i64 a0_1] 37 (0, 0)) (by (with_reducible repeat (first | refine blk_drewN ?_ _ | refine blk_drew ?_ | refine blk_alloc ?_ _)); exact BK220.out) hb)
  have n1_ := Aside0.mk (blk_below (g := gb221) (o := .cells #[.int .i64 a1_0, .int .i64 a1_1] 37 (0, 0)) (by (with_reducible repeat (first | refine blk_drewN ?_ _ | refine blk_drew ?_ | refine blk_alloc ?_ _)); exact BK221.out) hb)
  have n2_ := Aside0.mk (below_step (by repeat (first | (with_reducible first | exact HB.out | apply below_alloc | apply pw_below_drewN | apply below_drew1 | refine below_set ?_ GE220.out | refine below_set ?_ GE221.out) | exact HB.out)) hb)
  clear BK220
  clear BK221
  clear HB
  have BK220 := n0_
  have BK221 := n1_
  have HB := n2_
  clear n0_ n1_ n2_
  (try clear hb)
  (try clear hb2)
  (try clear hk)
  (try clear hi)
  refine hK.out _ _ ⟨(blk_cell BK220.out 0).trans rfl, (blk_cell BK220.out 1).trans rfl, (blk_cell BK221.out 0).trans rfl, (blk_cell BK221.out 1).trans rfl⟩ (fun hHeld => ?_)
  clear hK K
  refine norm_ (a' := ?_) ?_ ?_
  rotate_left
  · show Act.put _ (some 14) _ = _
    simp only [Act.put, List.setIfInBounds_toArray, List.set_cons_zero, List.set_cons_succ, i64_w, i32_w]
    rfl
  refine pure_ (i := 4) (N := some 15) (v := ?_) (a' := ?_) #[true, true, true, true, true, false, false, false, false, false, false, false, false, false, false, false, false, false, false, false, false, false, false, false, false, false, false, false, false, false, false, false, false, false, false, false, false, false] rfl rfl (any_of HT_.out (by kernel_rfl)) (fun _ _ _ h => h) (Or.inl ⟨by rfl, ?_⟩) ?_ ?_
  rotate_left
  · intro w'
    go_simp
    with_reducible rfl
  rotate_left
  · simp only [Act.put, List.setIfInBounds_toArray, List.set_cons_zero, List.set_cons_succ, i64_w, i32_w]
    rfl
  refine pure_ (i := 5) (N := some 16) (v := ?_) (a' := ?_) #[true, true, true, true, true, true, false, false, false, false, false, false, false, false, false, false, false, false, false, false, false, false, false, false, false, false, false, false, false, false, false, false, false, false, false, false, false, false] rfl rfl (any_of HT_.out (by kernel_rfl)) (fun _ _ _ h => h) (Or.inl ⟨by rfl, ?_⟩) ?_ ?_
  rotate_left
  · intro w'
    go_simp
    with_reducible rfl
  rotate_left
  · simp only [Act.put, List.setIfInBounds_toArray, List.set_cons_zero, List.set_cons_succ, i64_w, i32_w]
    rfl
  refine pure_ (i := 6) (N := some 17) (v := ?_) (a' := ?_) #[true, true, true, true, true, true, true, false, false, false, false, false, false, false, false, false, false, false, false, false, false, false, false, false, false, false, false, false, false, false, false, false, false, false, false, false, false, false] rfl rfl (any_of HT_.out (by kernel_rfl)) (fun _ _ _ h => h) (Or.inl ⟨by rfl, ?_⟩) ?_ ?_
  rotate_left
  · intro w'
    go_simp
    with_reducible rfl
  rotate_left
  · simp only [Act.put, List.setIfInBounds_toArray, List.set_cons_zero, List.set_cons_succ, i64_w, i32_w]
    rfl
  refine pure_ (i := 7) (N := some 18) (v := ?_) (a' := ?_) #[true, true, true, true, true, true, true, true, false, false, false, false, false, false, false, false, false, false, false, false, false, false, false, false, false, false, false, false, false, false, false, false, false, false, false, false, false, false] rfl rfl (any_of HT_.out (by kernel_rfl)) (fun _ _ _ h => h) (Or.inl ⟨by rfl, ?_⟩) ?_ ?_
  rotate_left
  · intro w'
    go_simp
    with_reducible rfl
  rotate_left
  · simp only [Act.put, List.setIfInBounds_toArray, List.set_cons_zero, List.set_cons_succ, i64_w, i32_w]
    rfl
  refine take_ (i := 8) (N := some 19) (v := ?_) (a' := ?_) #[true, true, true, true, true, true, true, true, true, false, false, false, false, false, false, false, false, false, false, false, false, false, false, false, false, false, false, false, false, false, false, false, false, false, false, false, false, false] rfl rfl (take_ofW HT_.out HW_.out (by kernel_rfl)) (fun _ _ _ h => h) (Or.inl ⟨by rfl, ?_⟩) hHeld ?_ ?_
  rotate_left
  · rintro w' ⟨s0, s1, s2, s3⟩
    go_simp
    with_reducible rfl
  rotate_left
  · simp only [Act.put, List.setIfInBounds_toArray, List.set_cons_zero, List.set_cons_succ, i64_w, i32_w]
    rfl
  refine take_ (i := 9) (N := some 20) (v := ?_) (a' := ?_) #[true, true, true, true, true, true, true, true, true, true, false, false, false, false, false, false, false, false, false, false, false, false, false, false, false, false, false, false, false, false, false, false, false, false, false, false, false, false] rfl rfl (take_ofW HT_.out HW_.out (by kernel_rfl)) (fun _ _ _ h => h) (Or.inl ⟨by rfl, ?_⟩) hHeld ?_ ?_
  rotate_left
  · rintro w' ⟨s0, s1, s2, s3⟩
    go_simp
    with_reducible rfl
  rotate_left
  · simp only [Act.put, List.setIfInBounds_toArray, List.set_cons_zero, List.set_cons_succ, i64_w, i32_w]
    rfl
  refine one_ (i := 10) (N := some 21) #[true, true, true, true, true, true, true, true, true, true, true, false, false, false, false, false, false, false, false, false, false, false, false, false, false, false, false, false, false, false, false, false, false, false, false, false, false, false] rfl rfl (one_of HT_.out (by kernel_rfl)) (by decide) (fun K hK => ?_)
  refine goes_ Try.func20 (by kernel_rfl) rfl #[.agg #[.int .i64 a0_0, .int .i64 a0_1], .agg #[.int .i64 a1_0, .int .i64 a1_1]] (by rfl) rfl rfl (by (try simp only [List.map_toArray, List.map_cons, List.map_nil]); first | done | rfl | (simp only [List.length_drop, List.length_take]; rfl)) ?_
  with_reducible refine (kissgateref07_Less.calls a0_0 a0_1 a1_0 a1_1 t226 _ A9.out).mono ?_
  rintro e w25 ⟨rfl, hb⟩
  refine ⟨_, rfl, ?_⟩
  have n0_ := Aside0.mk (blk_below (g := gb220) (o := .cells #[.int .i64 a0_0, .int .i64 a0_1] 37 (0, 0)) (by (with_reducible repeat (first | refine blk_drewN ?_ _ | refine blk_drew ?_ | refine blk_alloc ?_ _)); exact BK220.out) hb)
  have n1_ := Aside0.mk (blk_below (g := gb221) (o := .cells #[.int .i64 a1_0, .int .i64 a1_1] 37 (0, 0)) (by (with_reducible repeat (first | refine blk_drewN ?_ _ | refine blk_drew ?_ | refine blk_alloc ?_ _)); exact BK221.out) hb)
  have n2_ := Aside0.mk (below_step (by repeat (first | (with_reducible first | exact HB.out | apply below_alloc | apply pw_below_drewN | apply below_drew1 | refine below_set ?_ GE220.out | refine below_set ?_ GE221.out) | exact HB.out)) hb)
  clear BK220
  clear BK221
  clear HB
  have BK220 := n0_
  have BK221 := n1_
  have HB := n2_
  clear n0_ n1_ n2_
  (try clear hb)
  (try clear hb2)
  (try clear hk)
  (try clear hi)
  refine hK.out _ _ ⟨(blk_cell BK220.out 0).trans rfl, (blk_cell BK220.out 1).trans rfl, (blk_cell BK221.out 0).trans rfl, (blk_cell BK221.out 1).trans rfl⟩ (fun hHeld => ?_)
  clear hK K
  refine norm_ (a' := ?_) ?_ ?_
  rotate_left
  · show Act.put _ (some 21) _ = _
    simp only [Act.put, List.setIfInBounds_toArray, List.set_cons_zero, List.set_cons_succ, i64_w, i32_w]
    rfl
  refine pure_ (i := 11) (N := some 22) (v := ?_) (a' := ?_) #[true, true, true, true, true, true, true, true, true, true, true, true, false, false, false, false, false, false, false, false, false, false, false, false, false, false, false, false, false, false, false, false, false, false, false, false, false, false] rfl rfl (any_of HT_.out (by kernel_rfl)) (fun _ _ _ h => h) (Or.inl ⟨by rfl, ?_⟩) ?_ ?_
  rotate_left
  · intro w'
    go_simp
    with_reducible rfl
  rotate_left
  · simp only [Act.put, List.setIfInBounds_toArray, List.set_cons_zero, List.set_cons_succ, i64_w, i32_w]
    rfl
  refine pure_ (i := 12) (N := some 23) (v := ?_) (a' := ?_) #[true, true, true, true, true, true, true, true, true, true, true, true, true, false, false, false, false, false, false, false, false, false, false, false, false, false, false, false, false, false, false, false, false, false, false, false, false, false] rfl rfl (any_of HT_.out (by kernel_rfl)) (fun _ _ _ h => h) (Or.inl ⟨by rfl, ?_⟩) ?_ ?_
  rotate_left
  · intro w'
    go_simp
    with_reducible rfl
  rotate_left
  · simp only [Act.put, List.setIfInBounds_toArray, List.set_cons_zero, List.set_cons_succ, i64_w, i32_w]
    rfl
  refine pure_ (i := 13) (N := some 24) (v := ?_) (a' := ?_) #[true, true, true, true, true, true, true, true, true, true, true, true, true, true, false, false, false, false, false, false, false, false, false, false, false, false, false, false, false, false, false, false, false, false, false, false, false, false] rfl rfl (any_of HT_.out (by kernel_rfl)) (fun _ _ _ h => h) (Or.inl ⟨by rfl, ?_⟩) ?_ ?_
  rotate_left
  · intro w'
    go_simp
    with_reducible rfl
  rotate_left
  · simp only [Act.put, List.setIfInBounds_toArray, List.set_cons_zero, List.set_cons_succ, i64_w, i32_w]
    rfl
  refine pure_ (i := 14) (N := some 25) (v := ?_) (a' := ?_) #[true, true, true, true, true, true, true, true, true, true, true, true, true, true, true, false, false, false, false, false, false, false, false, false, false, false, false, false, false, false, false, false, false, false, false, false, false, false] rfl rfl (any_of HT_.out (by kernel_rfl)) (fun _ _ _ h => h) (Or.inl ⟨by rfl, ?_⟩) ?_ ?_
  rotate_left
  · intro w'
    go_simp
    with_reducible rfl
  rotate_left
  · simp only [Act.put, List.setIfInBounds_toArray, List.set_cons_zero, List.set_cons_succ, i64_w, i32_w]
    rfl
  refine pure_ (i := 15) (N := some 26) (v := ?_) (a' := ?_) #[true, true, true, true, true, true, true, true, true, true, true, true, true, true, true, true, false, false, false, false, false, false, false, false, false, false, false, false, false, false, false, false, false, false, false, false, false, false] rfl rfl (any_of HT_.out (by kernel_rfl)) (fun _ _ _ h => h) (Or.inl ⟨by rfl, ?_⟩) ?_ ?_
  rotate_left
  · intro w'
    go_simp
    with_reducible rfl
  rotate_left
  · simp only [Act.put, List.setIfInBounds_toArray, List.set_cons_zero, List.set_cons_succ, i64_w, i32_w]
    rfl
  refine take_ (i := 16) (N := some 27) (v := ?_) (a' := ?_) #[true, true, true, true, true, true, true, true, true, true, true, true, true, true, true, true, true, false, false, false, false, false, false, false, false, false, false, false, false, false, false, false, false, false, false, false, false, false] rfl rfl (take_ofW HT_.out HW_.out (by kernel_rfl)) (fun _ _ _ h => h) (Or.inl ⟨by rfl, ?_⟩) hHeld ?_ ?_
  rotate_left
  · rintro w' ⟨s0, s1, s2, s3⟩
    go_simp
    with_reducible rfl
  rotate_left
  · simp only [Act.put, List.setIfInBounds_toArray, List.set_cons_zero, List.set_cons_succ, i64_w, i32_w]
    rfl
  refine take_ (i := 17) (N := some 28) (v := ?_) (a' := ?_) #[true, true, true, true, true, true, true, true, true, true, true, true, true, true, true, true, true, true, false, false, false, false, false, false, false, false, false, false, false, false, false, false, false, false, false, false, false, false] rfl rfl (take_ofW HT_.out HW_.out (by kernel_rfl)) (fun _ _ _ h => h) (Or.inl ⟨by rfl, ?_⟩) hHeld ?_ ?_
  rotate_left
  · rintro w' ⟨s0, s1, s2, s3⟩
    go_simp
    with_reducible rfl
  rotate_left
  · simp only [Act.put, List.setIfInBounds_toArray, List.set_cons_zero, List.set_cons_succ, i64_w, i32_w]
    rfl
  refine one_ (i := 18) (N := some 29) #[true, true, true, true, true, true, true, true, true, true, true, true, true, true, true, true, true, true, true, false, false, false, false, false, false, false, false, false, false, false, false, false, false, false, false, false, false, false] rfl rfl (one_of HT_.out (by kernel_rfl)) (by decide) (fun K hK => ?_)
  refine goes_ Try.func20 (by kernel_rfl) rfl #[.agg #[.int .i64 a1_0, .int .i64 a1_1], .agg #[.int .i64 a0_0, .int .i64 a0_1]] (by rfl) rfl rfl (by (try simp only [List.map_toArray, List.map_cons, List.map_nil]); first | done | rfl | (simp only [List.length_drop, List.length_take]; rfl)) ?_
  with_reducible refine (kissgateref07_Less.calls a1_0 a1_1 a0_0 a0_1 t227 _ A11.out).mono ?_
  rintro e w26 ⟨rfl, hb⟩
  refine ⟨_, rfl, ?_⟩
  have n0_ := Aside0.mk (blk_below (g := gb220) (o := .cells #[.int .i64 a0_0, .int .i64 a0_1] 37 (0, 0)) (by (with_reducible repeat (first | refine blk_drewN ?_ _ | refine blk_drew ?_ | refine blk_alloc ?_ _)); exact BK220.out) hb)
  have n1_ := Aside0.mk (blk_below (g := gb221) (o := .cells #[.int .i64 a1_0, .int .i64 a1_1] 37 (0, 0)) (by (with_reducible repeat (first | refine blk_drewN ?_ _ | refine blk_drew ?_ | refine blk_alloc ?_ _)); exact BK221.out) hb)
  have n2_ := Aside0.mk (below_step (by repeat (first | (with_reducible first | exact HB.out | apply below_alloc | apply pw_below_drewN | apply below_drew1 | refine below_set ?_ GE220.out | refine below_set ?_ GE221.out) | exact HB.out)) hb)
  clear BK220
  clear BK221
  clear HB
  have BK220 := n0_
  have BK221 := n1_
  have HB := n2_
  clear n0_ n1_ n2_
  (try clear hb)
  (try clear hb2)
  (try clear hk)
  (try clear hi)
  refine hK.out _ _ ⟨(blk_cell BK220.out 0).trans rfl, (blk_cell BK220.out 1).trans rfl, (blk_cell BK221.out 0).trans rfl, (blk_cell BK221.out 1).trans rfl⟩ (fun hHeld => ?_)
  clear hK K
  refine norm_ (a' := ?_) ?_ ?_
  rotate_left
  · show Act.put _ (some 29) _ = _
    simp only [Act.put, List.setIfInBounds_toArray, List.set_cons_zero, List.set_cons_succ, i64_w, i32_w]
    rfl
  refine pure_ (i := 19) (N := some 30) (v := ?_) (a' := ?_) #[true, true, true, true, true, true, true, true, true, true, true, true, true, true, true, true, true, true, true, true, false, false, false, false, false, false, false, false, false, false, false, false, false, false, false, false, false, false] rfl rfl (any_of HT_.out (by kernel_rfl)) (fun _ _ _ h => h) (Or.inl ⟨by rfl, ?_⟩) ?_ ?_
  rotate_left
  · intro w'
    go_simp
    with_reducible rfl
  rotate_left
  · simp only [Act.put, List.setIfInBounds_toArray, List.set_cons_zero, List.set_cons_succ, i64_w, i32_w]
    rfl
  refine pure_ (i := 20) (N := some 31) (v := ?_) (a' := ?_) #[true, true, true, true, true, true, true, true, true, true, true, true, true, true, true, true, true, true, true, true, true, false, false, false, false, false, false, false, false, false, false, false, false, false, false, false, false, false] rfl rfl (any_of HT_.out (by kernel_rfl)) (fun _ _ _ h => h) (Or.inl ⟨by rfl, ?_⟩) ?_ ?_
  rotate_left
  · intro w'
    go_simp
    with_reducible rfl
  rotate_left
  · simp only [Act.put, List.setIfInBounds_toArray, List.set_cons_zero, List.set_cons_succ, i64_w, i32_w]
    rfl
  refine pure_ (i := 21) (N := some 32) (v := ?_) (a' := ?_) #[true, true, true, true, true, true, true, true, true, true, true, true, true, true, true, true, true, true, true, true, true, true, false, false, false, false, false, false, false, false, false, false, false, false, false, false, false, false] rfl rfl (any_of HT_.out (by kernel_rfl)) (fun _ _ _ h => h) (Or.inl ⟨by rfl, ?_⟩) ?_ ?_
  rotate_left
  · intro w'
    go_simp
    with_reducible rfl
  rotate_left
  · simp only [Act.put, List.setIfInBounds_toArray, List.set_cons_zero, List.set_cons_succ, i64_w, i32_w]
    rfl
  refine pure_ (i := 22) (N := some 33) (v := ?_) (a' := ?_) #[true, true, true, true, true, true, true, true, true, true, true, true, true, true, true, true, true, true, true, true, true, true, true, false, false, false, false, false, false, false, false, false, false, false, false, false, false, false] rfl rfl (any_of HT_.out (by kernel_rfl)) (fun _ _ _ h => h) (Or.inl ⟨by rfl, ?_⟩) ?_ ?_
  rotate_left
  · intro w'
    go_simp
    with_reducible rfl
  rotate_left
  · simp only [Act.put, List.setIfInBounds_toArray, List.set_cons_zero, List.set_cons_succ, i64_w, i32_w]
    rfl
  refine pure_ (i := 23) (N := some 34) (v := ?_) (a' := ?_) #[true, true, true, true, true, true, true, true, true, true, true, true, true, true, true, true, true, true, true, true, true, true, true, true, false, false, false, false, false, false, false, false, false, false, false, false, false, false] rfl rfl (any_of HT_.out (by kernel_rfl)) (fun _ _ _ h => h) (Or.inl ⟨by rfl, ?_⟩) ?_ ?_
  rotate_left
  · intro w'
    go_simp
    with_reducible rfl
  rotate_left
  · simp only [Act.put, List.setIfInBounds_toArray, List.set_cons_zero, List.set_cons_succ, i64_w, i32_w]
    rfl
  refine take_ (i := 24) (N := some 35) (v := ?_) (a' := ?_) #[true, true, true, true, true, true, true, true, true, true, true, true, true, true, true, true, true, true, true, true, true, true, true, true, true, false, false, false, false, false, false, false, false, false, false, false, false, false] rfl rfl (take_ofW HT_.out HW_.out (by kernel_rfl)) (fun _ _ _ h => h) (Or.inl ⟨by rfl, ?_⟩) hHeld ?_ ?_
  rotate_left
  · rintro w' ⟨s0, s1, s2, s3⟩
    go_simp
    with_reducible rfl
  rotate_left
  · simp only [Act.put, List.setIfInBounds_toArray, List.set_cons_zero, List.set_cons_succ, i64_w, i32_w]
    rfl
  refine take_ (i := 25) (N := some 36) (v := ?_) (a' := ?_) #[true, true, true, true, true, true, true, true, true, true, true, true, true, true, true, true, true, true, true, true, true, true, true, true, true, true, false, false, false, false, false, false, false, false, false, false, false, false] rfl rfl (take_ofW HT_.out HW_.out (by kernel_rfl)) (fun _ _ _ h => h) (Or.inl ⟨by rfl, ?_⟩) hHeld ?_ ?_
  rotate_left
  · rintro w' ⟨s0, s1, s2, s3⟩
    go_simp
    with_reducible rfl
  rotate_left
  · simp only [Act.put, List.setIfInBounds_toArray, List.set_cons_zero, List.set_cons_succ, i64_w, i32_w]
    rfl
  refine pure_ (i := 26) (N := some 37) (v := ?_) (a' := ?_) #[true, true, true, true, true, true, true, true, true, true, true, true, true, true, true, true, true, true, true, true, true, true, true, true, true, true, true, false, false, false, false, false, false, false, false, false, false, false] rfl rfl (any_of HT_.out (by kernel_rfl)) (fun _ _ _ h => h) (Or.inl ⟨by rfl, ?_⟩) ?_ ?_
  rotate_left
  · intro w'
    go_simp
    with_reducible rfl
  rotate_left
  · simp only [Act.put, List.setIfInBounds_toArray, List.set_cons_zero, List.set_cons_succ, i64_w, i32_w]
    rfl
  refine pure_ (i := 27) (N := some 38) (v := ?_) (a' := ?_) #[true, true, true, true, true, true, true, true, true, true, true, true, true, true, true, true, true, true, true, true, true, true, true, true, true, true, true, true, false, false, false, false, false, false, false, false, false, false] rfl rfl (any_of HT_.out (by kernel_rfl)) (fun _ _ _ h => h) (Or.inl ⟨by rfl, ?_⟩) ?_ ?_
  rotate_left
  · intro w'
    go_simp
    with_reducible rfl
  rotate_left
  · simp only [Act.put, List.setIfInBounds_toArray, List.set_cons_zero, List.set_cons_succ, i64_w, i32_w]
    rfl
  refine pure_ (i := 28) (N := some 39) (v := ?_) (a' := ?_) #[true, true, true, true, true, true, true, true, true, true, true, true, true, true, true, true, true, true, true, true, true, true, true, true, true, true, true, true, true, false, false, false, false, false, false, false, false, false] rfl rfl (any_of HT_.out (by kernel_rfl)) (fun _ _ _ h => h) (Or.inl ⟨by rfl, ?_⟩) ?_ ?_
  rotate_left
  · intro w'
    go_simp
    with_reducible rfl
  rotate_left
  · simp only [Act.put, List.setIfInBounds_toArray, List.set_cons_zero, List.set_cons_succ, i64_w, i32_w]
    rfl
  refine pure_ (i := 29) (N := some 40) (v := ?_) (a' := ?_) #[true, true, true, true, true, true, true, true, true, true, true, true, true, true, true, true, true, true, true, true, true, true, true, true, true, true, true, true, true, true, false, false, false, false, false, false, false, false] rfl rfl (any_of HT_.out (by kernel_rfl)) (fun _ _ _ h => h) (Or.inl ⟨by rfl, ?_⟩) ?_ ?_
  rotate_left
  · intro w'
    go_simp
    with_reducible rfl
  rotate_left
  · simp only [Act.put, List.setIfInBounds_toArray, List.set_cons_zero, List.set_cons_succ, i64_w, i32_w]
    rfl
  refine pure_ (i := 30) (N := some 41) (v := ?_) (a' := ?_) #[true, true, true, true, true, true, true, true, true, true, true, true, true, true, true, true, true, true, true, true, true, true, true, true, true, true, true, true, true, true, true, false, false, false, false, false, false, false] rfl rfl (any_of HT_.out (by kernel_rfl)) (fun _ _ _ h => h) (Or.inl ⟨by rfl, ?_⟩) ?_ ?_
  rotate_left
  · intro w'
    go_simp
    with_reducible rfl
  rotate_left
  · simp only [Act.put, List.setIfInBounds_toArray, List.set_cons_zero, List.set_cons_succ, i64_w, i32_w]
    rfl
  refine take_ (i := 31) (N := some 42) (v := ?_) (a' := ?_) #[true, true, true, true, true, true, true, true, true, true, true, true, true, true, true, true, true, true, true, true, true, true, true, true, true, true, true, true, true, true, true, true, false, false, false, false, false, false] rfl rfl (take_ofW HT_.out HW_.out (by kernel_rfl)) (fun _ _ _ h => h) (Or.inl ⟨by rfl, ?_⟩) hHeld ?_ ?_
  rotate_left
  · rintro w' ⟨s0, s1, s2, s3⟩
    go_simp
    with_reducible rfl
  rotate_left
  · simp only [Act.put, List.setIfInBounds_toArray, List.set_cons_zero, List.set_cons_succ, i64_w, i32_w]
    rfl
  refine take_ (i := 32) (N := some 43) (v := ?_) (a' := ?_) #[true, true, true, true, true, true, true, true, true, true, true, true, true, true, true, true, true, true, true, true, true, true, true, true, true, true, true, true, true, true, true, true, true, false, false, false, false, false] rfl rfl (take_ofW HT_.out HW_.out (by kernel_rfl)) (fun _ _ _ h => h) (Or.inl ⟨by rfl, ?_⟩) hHeld ?_ ?_
  rotate_left
  · rintro w' ⟨s0, s1, s2, s3⟩
    go_simp
    with_reducible rfl
  rotate_left
  · simp only [Act.put, List.setIfInBounds_toArray, List.set_cons_zero, List.set_cons_succ, i64_w, i32_w]
    rfl
  refine one_ (i := 33) (N := some 44) #[true, true, true, true, true, true, true, true, true, true, true, true, true, true, true, true, true, true, true, true, true, true, true, true, true, true, true, true, true, true, true, true, true, true, false, false, false, false] rfl rfl (one_of HT_.out (by kernel_rfl)) (by decide) (fun K hK => ?_)
  refine goes_ Try.func17 (by kernel_rfl) rfl #[.agg #[.int .i64 a1_0, .int .i64 a1_1], .agg #[.int .i64 a0_0, .int .i64 a0_1]] (by rfl) rfl rfl (by (try simp only [List.map_toArray, List.map_cons, List.map_nil]); first | done | rfl | (simp only [List.length_drop, List.length_take]; rfl)) ?_
  with_reducible refine (mrpdu_Compare.calls k a1_0 a1_1 a0_0 a0_1 t228 _ A14.out).mono ?_
  rintro e w27 ⟨rfl, hb⟩
  refine ⟨_, rfl, ?_⟩
  have n0_ := Aside0.mk (blk_below (g := gb220) (o := .cells #[.int .i64 a0_0, .int .i64 a0_1] 37 (0, 0)) (by (with_reducible repeat (first | refine blk_drewN ?_ _ | refine blk_drew ?_ | refine blk_alloc ?_ _)); exact BK220.out) hb)
  have n1_ := Aside0.mk (blk_below (g := gb221) (o := .cells #[.int .i64 a1_0, .int .i64 a1_1] 37 (0, 0)) (by (with_reducible repeat (first | refine blk_drewN ?_ _ | refine blk_drew ?_ | refine blk_alloc ?_ _)); exact BK221.out) hb)
  have n2_ := Aside0.mk (below_step (by repeat (first | (with_reducible first | exact HB.out | apply below_alloc | apply pw_below_drewN | apply below_drew1 | refine below_set ?_ GE220.out | refine below_set ?_ GE221.out) | exact HB.out)) hb)
  clear BK220
  clear BK221
  clear HB
  have BK220 := n0_
  have BK221 := n1_
  have HB := n2_
  clear n0_ n1_ n2_
  (try clear hb)
  (try clear hb2)
  (try clear hk)
  (try clear hi)
  refine hK.out _ _ ⟨(blk_cell BK220.out 0).trans rfl, (blk_cell BK220.out 1).trans rfl, (blk_cell BK221.out 0).trans rfl, (blk_cell BK221.out 1).trans rfl⟩ (fun hHeld => ?_)
  clear hK K
  refine norm_ (a' := ?_) ?_ ?_
  rotate_left
  · show Act.put _ (some 44) _ = _
    simp only [Act.put, List.setIfInBounds_toArray, List.set_cons_zero, List.set_cons_succ, i64_w, i32_w]
    rfl
  refine pure_ (i := 34) (N := some 45) (v := ?_) (a' := ?_) #[true, true, true, true, true, true, true, true, true, true, true, true, true, true, true, true, true, true, true, true, true, true, true, true, true, true, true, true, true, true, true, true, true, true, true, false, false, false] rfl rfl (any_of HT_.out (by kernel_rfl)) (fun _ _ _ h => h) (Or.inl ⟨by rfl, ?_⟩) ?_ ?_
  rotate_left
  · intro w'
    go_simp
    with_reducible rfl
  rotate_left
  · simp only [Act.put, List.setIfInBounds_toArray, List.set_cons_zero, List.set_cons_succ, i64_w, i32_w]
    rfl
  refine pure_ (i := 35) (N := some 46) (v := ?_) (a' := ?_) #[true, true, true, true, true, true, true, true, true, true, true, true, true, true, true, true, true, true, true, true, true, true, true, true, true, true, true, true, true, true, true, true, true, true, true, true, false, false] rfl rfl (any_of HT_.out (by kernel_rfl)) (fun _ _ _ h => h) (Or.inl ⟨by rfl, ?_⟩) ?_ ?_
  rotate_left
  · intro w'
    go_simp
    with_reducible rfl
  rotate_left
  · simp only [Act.put, List.setIfInBounds_toArray, List.set_cons_zero, List.set_cons_succ, i64_w, i32_w]
    rfl
  refine pure_ (i := 36) (N := some 47) (v := ?_) (a' := ?_) #[true, true, true, true, true, true, true, true, true, true, true, true, true, true, true, true, true, true, true, true, true, true, true, true, true, true, true, true, true, true, true, true, true, true, true, true, true, false] rfl rfl (any_of HT_.out (by kernel_rfl)) (fun _ _ _ h => h) (Or.inl ⟨by rfl, ?_⟩) ?_ ?_
  rotate_left
  · intro w'
    go_simp
    with_reducible rfl
  rotate_left
  · simp only [Act.put, List.setIfInBounds_toArray, List.set_cons_zero, List.set_cons_succ, i64_w, i32_w]
    rfl
  refine pure_ (i := 37) (N := some 4) (v := ?_) (a' := ?_) #[true, true, true, true, true, true, true, true, true, true, true, true, true, true, true, true, true, true, true, true, true, true, true, true, true, true, true, true, true, true, true, true, true, true, true, true, true, true] rfl rfl (any_of HT_.out (by kernel_rfl)) (fun _ _ _ h => h) (Or.inl ⟨by rfl, ?_⟩) ?_ ?_
  rotate_left
  · intro w'
    go_simp
    with_reducible rfl
  rotate_left
  · simp only [Act.put, List.setIfInBounds_toArray, List.set_cons_zero, List.set_cons_succ, i64_w, i32_w]
    rfl
  refine done_ (done_of HT_.out (by kernel_rfl)) ?_
  try go_wp2
  go_ret
  exact ⟨by first | rfl | (simp [show ∀ l_ : List UInt8, (l_ == []) = l_.isEmpty from fun l_ => by cases l_ <;> rfl]; done) | (simp [errW_none, errW_some] <;> rfl) | ((repeat rw [Int.tdiv_eq_ediv_of_nonneg (by omega)]); (repeat rw [Int.tmod_eq_emod_of_nonneg (by omega)]); first | rfl | (simp [errW_none, errW_some] <;> rfl)) | (simp [*, errW_none, errW_some] <;> rfl), by repeat (first | (with_reducible first | exact HB.out | apply below_alloc | apply pw_below_drewN | apply below_drew1 | refine below_set ?_ GE220.out | refine below_set ?_ GE221.out) | exact HB.out)⟩
theorem attrs_holds (a0_0 a0_1 a1_0 a1_1 : Int) (w : World) :
    Calls Try.prog 4 #[.agg #[.int .i64 a0_0, .int .i64 a0_1], .agg #[.int .i64 a1_0, .int .i64 a1_1]] w fun e w' => e = .returned (.bool true) ∧ Below w.heap.size w w' := by
  obtain ⟨k1, h1⟩ := compare_ev a0_0 a0_1 a1_0 a1_1
  obtain ⟨k2, h2⟩ := compare_ev a1_0 a1_1 a0_0 a0_1
  have g1 := h1 (max k1 k2) (by omega)
  have g2 := h2 (max k1 k2) (by omega)
  have l1 := less_eq ⟨⟨a0_0, a0_1⟩, 0, 0⟩ ⟨⟨a1_0, a1_1⟩, 0, 0⟩
  have l2 := less_eq ⟨⟨a1_0, a1_1⟩, 0, 0⟩ ⟨⟨a0_0, a0_1⟩, 0, 0⟩
  simp only at g1 g2 l1 l2
  have f1 : (decide (cmpA a0_0 a0_1 a1_0 a1_1 < 0)) = decide (lessA ⟨⟨a0_0, a0_1⟩, 0, 0⟩ ⟨⟨a1_0, a1_1⟩, 0, 0⟩) := by
    apply decide_eq_decide.2; unfold lessA cmpA cmpI; simp only; repeat' split
    all_goals omega
  have f2 : (decide (cmpA a0_0 a0_1 a1_0 a1_1 > 0)) = decide (lessA ⟨⟨a1_0, a1_1⟩, 0, 0⟩ ⟨⟨a0_0, a0_1⟩, 0, 0⟩) := by
    apply decide_eq_decide.2; unfold lessA cmpA cmpI; simp only; repeat' split
    all_goals omega
  have f3 : (cmpA a0_0 a0_1 a1_0 a1_1 == 0) = (a0_0 == a1_0 && (a0_1 == a1_1)) := by
    rw [Bool.eq_iff_iff, Bool.and_eq_true, beq_iff_eq, beq_iff_eq, beq_iff_eq]; unfold cmpA cmpI; repeat' split
    all_goals omega
  have f4 : cmpA a1_0 a1_1 a0_0 a0_1 = - cmpA a0_0 a0_1 a1_0 a1_1 ∧ -1 ≤ cmpA a0_0 a0_1 a1_0 a1_1 ∧ cmpA a0_0 a0_1 a1_0 a1_1 ≤ 1 := by
    unfold cmpA cmpI; repeat' split
    all_goals omega
  refine (attrs_way (max k1 k2) a0_0 a0_1 a1_0 a1_1 _ _ _ _ _ _ w ⟨g1⟩ ⟨attr_eq _ _⟩ ⟨refattr_eq _ _⟩ (by simp) (by simp) ⟨l1⟩ (by rw [f1]; simp) (by rw [f1]; simp) ⟨l2⟩ (by rw [f2]; simp) (by rw [f2]; simp) (by rw [f3]; simp) (by rw [f3]; simp) ⟨g2⟩).mono ?_
  rintro e w' ⟨rfl, hb⟩
  refine ⟨?_, hb⟩
  rw [f4.1, wrap_id (by omega) (by omega), Int.neg_neg]
  simp
end Go.Proofs.Ytlfcpobnkojcbaa.Pm
