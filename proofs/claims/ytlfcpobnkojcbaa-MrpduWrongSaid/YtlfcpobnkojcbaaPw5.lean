/- Texts of this claim that stand one behind the other (joined by wip/pack.py): printed contracts and own proofs. -/
import Derived.Test.YtlfcpobnkojcbaaPw4
set_option maxHeartbeats 8000000
set_option maxRecDepth 100000
namespace Go.Proofs.Ytlfcpobnkojcbaa.Pm
open Go.RowKit Go.Proofs.Ytlfcpobnkojcbaa.PMrpduBytes Go.Proofs.YtlfcpobnkojcbaaW.PrintWords Go.Proofs.YtlfcpobnkojcbaaW.PrintLast Go.Proofs.YtlfcpobnkojcbaaW.PrintMore
open Wr (putBytes numOf)
attribute [local go_sem] max2_int min2_int max_two min_two max_three min_three max_four min_four   -- for this text's walks alone
set_option pp.deepTerms true
set_option linter.unusedVariables false
set_option linter.unusedSimpArgs false
/-- Whether a word goes on with the last row. -/
def goesOn (rows : List (List S43)) (x : S43) : Bool := decide (rows ≠ []) && joins (rows.getLastD []) x
theorem addRow_on {rows : List (List S43)} {x : S43} (h : goesOn rows x = true) : addRow rows x = rows.dropLast ++ [rows.getLastD [] ++ [x]] ∧ rows ≠ [] := by
 unfold goesOn at h
 simp only [Bool.and_eq_true, decide_eq_true_eq] at h
 unfold addRow
 rw [if_neg h.1, if_pos h.2]
 exact ⟨rfl, h.1⟩
theorem addRow_off {rows : List (List S43)} {x : S43} (h : goesOn rows x = false) : addRow rows x = rows ++ [[x]] := by
 unfold addRow
 by_cases h0 : rows = []
 ·
  rw [if_pos h0, h0]; rfl
 ·
  have : joins (rows.getLastD []) x = false := by
   unfold goesOn at h
   rw [decide_eq_true h0, Bool.true_and] at h
   exact h
  rw [if_neg h0, this, if_neg (by decide)]
theorem rdL_nat (l : List (List S43)) (i : Nat) : rd_L4 l (i : Int) = l.getD i [] := by simp [rd_L4]
theorem rows_take {all : List Int} {words : List S43} (h : GoodP all words) (kind : Int) (j : Nat) : ∀ r ∈ rowsOf (ofKind kind (words.take j)), r ≠ [] ∧ RowP kind r :=
 (rows_ok (l := ofKind kind (words.take j)) fun x hx => by
  unfold ofKind at hx
  rw [List.mem_filter] at hx
  exact good_kind h kind x (by unfold ofKind; rw [List.mem_filter]; exact ⟨List.mem_of_mem_take hx.1, hx.2⟩)).1
theorem flat_len : ∀ rows : List (List S43), (∀ r ∈ rows, r ≠ []) → rows.length ≤ rows.flatten.length
 | [], _ => Nat.le_refl _
 | r :: rs, h => by
  have h1 := flat_len rs fun q hq => h q (by simp [hq])
  have h2 := List.length_pos_iff.2 (h r (by simp))
  simp only [List.length_cons, List.flatten_cons, List.length_append]
  omega
theorem rows_len {all : List Int} {words : List S43} (h : GoodP all words) (kind : Int) (j : Nat) : (rowsOf (ofKind kind (words.take j))).length ≤ words.length := by
 have h1 := flat_len _ fun r hr => (rows_take h kind j r hr).1
 have h2 := (rows_ok (kind := kind) (l := ofKind kind (words.take j)) fun x hx => by
  unfold ofKind at hx
  rw [List.mem_filter] at hx
  exact good_kind h kind x (by unfold ofKind; rw [List.mem_filter]; exact ⟨List.mem_of_mem_take hx.1, hx.2⟩)).2
 rw [h2] at h1
 have h3 := ofKind_le kind (words.take j)
 rw [List.length_take] at h3
 omega
theorem row_words {all : List Int} {words : List S43} (h : GoodP all words) (kind : Int) (j : Nat) {r : List S43} (hr : r ∈ rowsOf (ofKind kind (words.take j))) {y : S43} (hy : y ∈ r) : WordP y := by
 have hx : ∀ x ∈ ofKind kind (words.take j), x.f0.f0 = kind ∧ WordP x := fun x hx => by
  unfold ofKind at hx
  rw [List.mem_filter] at hx
  exact good_kind h kind x (by unfold ofKind; rw [List.mem_filter]; exact ⟨List.mem_of_mem_take hx.1, hx.2⟩)
 have h2 := (rows_ok hx).2
 exact (hx y (by rw [← h2]; exact List.mem_flatten.2 ⟨r, hr, hy⟩)).2
theorem word_range {y : S43} (h : WordP y) : 0 ≤ y.f0.f1 ∧ y.f0.f1 < 281474976710656 := by
 refine ⟨h.v0, Int.lt_of_lt_of_le h.v1 ?_⟩
 rcases h.kind with e | e | e <;> rw [e] <;> decide
theorem last_mem {c : List S43} (h : c ≠ []) : lastOf c ∈ c := by
 unfold lastOf
 rw [List.getLastD_eq_getLast?, List.getLast?_eq_some_getLast h]
 exact List.getLast_mem h
/-- The rows, in memory. -/
def RowsAt (B : Nat) (w : World) (ok : Nat → Prop) (v : Value) (rows : List (List S43)) : Prop := Kd.S (Kd.slice 43 k43) 23 w B ok v rows
def bnd (i : Nat) : Nat := if i = 0 then 1 else if i = 1 then 30000001 else if i = 2 then 60000001 else 90000001
theorem bnd_le (i : Nat) : bnd i ≤ 90000001 := by unfold bnd; (repeat' split) <;> decide
theorem bnd_step {i : Nat} (h : i < 3) : bnd i + 21400018 ≤ bnd (i + 1) := by
 have : i = 0 ∨ i = 1 ∨ i = 2 := by omega
 rcases this with rfl | rfl | rfl <;> decide
theorem size_sum {a b n k : Nat} (h : a ≤ b + 16 + 214 * n) (hn : n ≤ 100000) (hb : b ≤ k) : a + 2 ≤ k + 21400018 := by omega
theorem size_more {a b c r : Nat} (h : a ≤ b + 16 + 214 * r) (hc : c ≤ 214) : a + c ≤ b + 16 + 214 * (r + 1) := by omega
theorem str_nil_r (s : ByteArray) : s ++ strOfNums [] = s := by
 conv => rhs; rw [← Wr.str_bytesOf s]
 conv => lhs; rw [← Wr.str_bytesOf s]
 rw [str_append, List.append_nil]
theorem info23 : (Try.prog.info? 23).map (fun i => (i.zero, i.size, i.bytes)) = some (some (.slice none 0 0), 1, 24) := by kernel_rfl
theorem set_last {α : Type} : ∀ {l : List α} {m : Nat}, l.length = m + 1 → ∀ y, l.dropLast ++ [y] = l.set m y
 | [a], 0, _, y => rfl
 | a :: b :: l, m + 1, h, y => by
  have := set_last (l := b :: l) (m := m) (by simpa using h) y
  simp only [List.dropLast_cons_cons, List.cons_append, List.set_cons_succ, this]
def refb_T12 : Bool × List (List Nat × List Nat) := (true, [([], []), ([], []), ([1], [1]), ([], []), ([], []), ([4], [4]), ([3, 5], [3, 5]), ([6], [6]), ([], []), ([8], [8]), ([7, 9], [7, 9]), ([0, 2, 0, 1, 2, 3, 4, 5, 6, 7, 8, 9, 10], [0, 2]), ([11, 10, 10, 0, 1, 2, 3, 4, 5, 6, 7, 8, 9, 10], [10, 11])])
def refb_B12 : List Nat := [0, 0, 2, 0, 0, 16, 56, 120, 0, 256, 1016, 2047, 4095]
theorem refb_tab12 : rtab .any (opsOf Try.f14 12) = refb_T12 := by kernel_rfl
theorem refb_bits12 : waitsOk refb_T12.2 refb_B12 = true := by kernel_rfl
theorem refbytes_calls (w : World) (A0 : Option Addr) (c0 : Nat) (all : List Int) (A1 : Option Addr) (c1 : Nat) (words : List S43) (hr0 : (Kd.int .i64).C w A0 all.length all) (hc0 : all.length ≤ c0) (hr1 : k43.C w A1 words.length words) (hc1 : words.length ≤ c1) (ha : all.length ≤ 100000) (hw : words.length ≤ 100000) (hg : GoodP all words) :
  Calls Try.prog 14 #[.slice A0 all.length c0, .slice A1 words.length c1] w fun e w' => e = .returned (.string (strOfNums (bytesL all words))) ∧ Below w.heap.size w w' := by
 have H0 := Aside0.mk hr0
 have H1 := Aside0.mk hr1
 have HA := Aside0.mk ha
 have HWl := Aside0.mk hw
 have HC0 := Aside0.mk hc0
 have HC1 := Aside0.mk hc1
 have HGd := Aside0.mk hg
 have hu43 := Try.underlying43
 clear hr0 hr1 hg ha hw hc0 hc1
 go_enter Try.func14, Try.ntmps14
 go_wp2_with fail
 go_loopg [5, 6] 4 (fun kq v5 v6 wr => ∃ (i : Nat) (sb : ByteArray), i ≤ 3 ∧ 3 - i < kq ∧ v5 = .string sb ∧ v6 = .int .i64 ((i : Int) + 1) ∧ Aside0 (sb = strOfNums (0 :: bodyTo all words i)) ∧ Aside0 (sb.size ≤ bnd i) ∧ Aside0 (Below w.heap.size w wr))
 case atStart => exact ⟨0, _, by decide, by decide, rfl, rfl, ⟨rfl⟩, ⟨by decide⟩, ⟨Below.refl _ _⟩⟩
 case round =>
  rename World => wo
  obtain ⟨i, sb, hi, hfu, rfl, rfl, HSb, HSz, HB⟩ := hrel
  cases gk with
  | zero => omega
  | succ q1 =>
   by_cases hi3 : i = 3
   ·
    subst hi3
    have hfin : sb ++ ⟨#[0, 0]⟩ = strOfNums (bytesL all words) := by
     rw [HSb.out, show (⟨#[0, 0]⟩ : ByteArray) = strOfNums [0, 0] from rfl, str_append, bodyTo_3]; rfl
    have d1 : decide (((3 : Nat) : Int) + 1 ≤ 3) = false := by decide
    have hq := Nat.le_trans HSz.out (bnd_le 3)
    have HFin := Aside0.mk hfin
    clear hfin HSz HSb
    have c79b0 := eq_true (show sb.size + 2 ≤ 9223372036854775807 from by omega)
    have c79b1 : decide (sb.size + 2 ≤ 9223372036854775807) = true := decide_eq_true (by omega)
    have c79b2 : (9223372036854775807 < sb.size + 2) = False := eq_false (by omega)
    go_wp2_with fail
    go_ret
    rw [← HFin.out]
    exact ⟨rfl, HB.out⟩
   ·
    have hlt3 : i < 3 := by omega
    obtain ⟨kind, hkind⟩ : ∃ kind : Int, kind = (i : Int) + 1 := ⟨_, rfl⟩
    rw [← hkind]
    have hk : kind = 1 ∨ kind = 2 ∨ kind = 3 := by omega
    have d1 : decide (kind ≤ 3) = true := decide_eq_true (by omega)
    have HKi := Aside0.mk hkind
    clear hkind
    go_wp2_with fail
    go_loopg [7, 20] (words.length + 1) (fun kq v7 v20 wr => ∃ j : Nat, v20 = .int .i64 (j : Int) ∧ j ≤ words.length ∧ words.length - j < kq ∧ Aside0 (RowsAt w.heap.size wr (fun _ => True) v7 (rowsOf (ofKind kind (words.take j)))) ∧ Aside0 (Below w.heap.size w wr))
    case atStart => exact ⟨0, rfl, Nat.zero_le _, by omega, ⟨Kd.S_nil _ _ _ _ _⟩, HB⟩
    case round =>
     rename World => wr
     obtain ⟨j, rfl, hj, hfj, HR, HB⟩ := hrel
     cases gk with
     | zero => omega
     | succ q2 =>
      by_cases hjn : j = words.length
      ·
       subst hjn
       rw [List.take_length] at HR
       have d2 : decide ((words.length : Int) < (words.length : Int)) = false := decide_eq_false (by omega)
       have HRin := Aside0.mk (rows_take HGd.out kind words.length)
       have hrl := rows_len HGd.out kind words.length
       rw [List.take_length] at HRin hrl
       have hwl := HWl.out
       have hPart : bodyTo all words (i + 1) = bodyTo all words i ++ (if moreOf all kind = false ∧ ofKind kind words = [] then [] else putBytes kind 1 ++ putBytes (sizeT kind) 1 ++ vecsOf kind (moreOf all kind) (rowsOf (ofKind kind words)) ++ [0, 0]) := by rw [HKi.out]; rfl
       have hnil : ofKind kind words = [] ↔ rowsOf (ofKind kind words) = [] := by
        have h2 := (rows_ok (good_kind HGd.out kind)).2
        constructor
        ·
         intro h; rw [h]; rfl
        ·
         intro h; rw [h] at h2; exact h2.symm
       obtain ⟨rows, hrows⟩ : ∃ rows, rowsOf (ofKind kind words) = rows := ⟨_, rfl⟩
       rw [hrows] at HR HRin hrl hPart hnil
       have HPart := Aside0.mk (hPart.trans (congrArg (bodyTo all words i ++ ·) (ite_congr (propext (and_congr Iff.rfl hnil)) (fun _ => rfl) (fun _ => rfl))))
       have HSq := Aside0.mk (show sb.size ≤ 90000001 from Nat.le_trans HSz.out (bnd_le i))
       obtain ⟨Lb, hLb⟩ : ∃ Lb, Lb = 0 :: bodyTo all words i := ⟨_, rfl⟩
       have HLb := Aside0.mk hLb
       rw [← hLb] at HSb
       have HRl := Aside0.mk (show rows.length ≤ 100000 from by omega)
       clear hLb hPart hnil hrows hrl hwl
       obtain ⟨A7, c7, rfl⟩ := Kd.S_slice HR.out
       obtain ⟨kc, hkc⟩ := (has_ev all kind (by have := HA.out; omega)).rounds
       have HKc := Aside0.mk hkc
       clear hkc
       have HC0r := Aside0.mk (cint_move H0.out (fun ad e hn => by subst e; exact HB.out.block _ (Kd.C_lt H0.out hn (by decide))))
       go_wp2_with fail
       go_at_call 28
       refine (kissgateref07_has.calls kc A0 c0 all kind (moreOf all kind) wr HC0r.out HC0.out HKc.out).mono ?_
       rintro e w5 ⟨rfl, ⟨⟨nd, hnd⟩⟩⟩
       subst hnd
       have HR5 := Aside0.mk (show RowsAt w.heap.size (wr.drewN nd) (fun _ => True) (.slice A7 rows.length c7) rows from Kd.S_drewN HR.out nd)
       have HB5 := Aside0.mk (pw_below_drewN HB.out nd)
       clear HR HB HC0r HKc
       generalize wr.drewN nd = w5 at HR5 HB5 ⊢
       obtain ⟨more, hmore⟩ : ∃ more, moreOf all kind = more := ⟨_, rfl⟩
       rw [hmore] at HPart ⊢
       clear hmore
       by_cases hskip : more = false ∧ rows = []
       ·
        obtain ⟨rfl, rfl⟩ := hskip
        have HNext : Aside0 (0 :: bodyTo all words (i + 1) = Lb) := ⟨by rw [HPart.out, if_pos ⟨rfl, rfl⟩, List.append_nil, HLb.out]⟩
        clear d2
        have hw6 := wrap_one (i + 1) (by omega)
        go_wp2_with fail
        go_roundg q1
        case measure => omega
        case rel => exact ⟨i + 1, sb, by omega, by omega, rfl, by rw [HKi.out]; first | rfl | (congr 1; omega), ⟨by rw [HNext.out]; exact HSb.out⟩, ⟨by have := HSz.out; have := bnd_step hlt3; omega⟩, HB5⟩
       ·
        have HNext : Aside0 (0 :: bodyTo all words (i + 1) = Lb ++ (putBytes kind 1 ++ putBytes (sizeT kind) 1 ++ vecsOf kind more rows ++ [0, 0])) := ⟨by rw [HPart.out, if_neg hskip, HLb.out]; rfl⟩
        have hfl : (more = true) ∨ (more = false ∧ 0 < rows.length) := by
         cases more
         ·
          exact .inr ⟨rfl, List.length_pos_iff.2 fun h => hskip ⟨rfl, h⟩⟩
         ·
          exact .inl rfl
        clear HPart hskip d2
        obtain ⟨k1, hk1⟩ := (number_ev 1 kind).rounds
        obtain ⟨k2, hk2⟩ := (number_ev 1 ((sizeT kind : Nat) : Int)).rounds
        rw [num_1] at hk1 hk2
        have hs1 : (strOfNums (putBytes kind 1)).size = 1 := by rw [str_size, putBytes_length]
        have hs2 : (strOfNums (putBytes ((sizeT kind : Nat) : Int) 1)).size = 1 := by rw [str_size, putBytes_length]
        obtain ⟨t1, ht1⟩ : ∃ t, t = strOfNums (putBytes kind 1) := ⟨_, rfl⟩
        obtain ⟨t2, ht2⟩ : ∃ t, t = strOfNums (putBytes ((sizeT kind : Nat) : Int) 1) := ⟨_, rfl⟩
        rw [← ht1] at hk1 hs1
        rw [← ht2] at hk2 hs2
        have hs0 := HSq.out
        have HK1 := Aside0.mk hk1
        have HK2 := Aside0.mk hk2
        have HT1 := Aside0.mk ht1
        have HT2 := Aside0.mk ht2
        have HT0 := HSb
        clear hk1 hk2 ht1 ht2
        have caa := eq_true (show sb.size + t1.size ≤ 9223372036854775807 from by omega)
        have cab : decide (sb.size + t1.size ≤ 9223372036854775807) = true := decide_eq_true (by omega)
        have cac : (9223372036854775807 < sb.size + t1.size) = False := eq_false (by omega)
        have cba := eq_true (show sb.size + t1.size + t2.size ≤ 9223372036854775807 from by omega)
        have cbb : decide (sb.size + t1.size + t2.size ≤ 9223372036854775807) = true := decide_eq_true (by omega)
        have cbc : (9223372036854775807 < sb.size + t1.size + t2.size) = False := eq_false (by omega)
        have HLen := Aside0.mk (show sb.size ≤ 90000001 ∧ t1.size = 1 ∧ t2.size = 1 from ⟨hs0, hs1, hs2⟩)
        clear hs0 hs1 hs2
        have hgate : ∀ P : Prop, (more = true → P) → (more = false → 0 < rows.length → P) → P := fun P h1 h2 => hfl.elim h1 (fun h => h2 h.1 h.2)
        clear hfl
        have HHdr : Aside0 (sb ++ t1 ++ t2 = strOfNums (Lb ++ putBytes kind 1 ++ putBytes (sizeT kind) 1)) := ⟨by rw [HT0.out, HT1.out, HT2.out, str_append, str_append]⟩
        refine hgate _ (fun hm => ?_) (fun hm hp => ?_)
        ·
         subst hm
         clear hgate
         have g1 : True := trivial
         go_wp2_with fail
         go_at_call 29
         refine (kissgateref01_Number.calls k1 1 kind t1 w5 HK1.out).mono ?_
         rintro e w6 ⟨rfl, hb6⟩
         have HR6 := Aside0.mk (Kd.S_below HR5.out hb6)
         have HB6 := Aside0.mk (HB5.out.trans (hb6.mono HB5.out.size))
         clear HR5 HB5 hb6 HK1
         go_wp2_with fail
         go_at_call 21
         refine (kissgateref07_Size.calls kind _ w6 (refsize_eq kind)).mono ?_
         rintro e w7 ⟨rfl, ⟨⟨n7, hn7⟩⟩⟩
         subst hn7
         have HR7 := Aside0.mk (Kd.S_drewN HR6.out n7)
         have HB7 := Aside0.mk (pw_below_drewN HB6.out n7)
         clear HR6 HB6
         generalize w6.drewN n7 = w7 at HR7 HB7 ⊢
         go_wp2_with fail
         go_at_call 29
         refine (kissgateref01_Number.calls k2 1 _ t2 w7 HK2.out).mono ?_
         rintro e w8 ⟨rfl, hb8⟩
         have HR8 := Aside0.mk (Kd.S_below HR7.out hb8)
         have HB8 := Aside0.mk (HB7.out.trans (hb8.mono HB7.out.size))
         clear HR7 HB7 hb8 HK2
         go_upto_if 116 with fail
         go_cut [5] (fun v5 wc => ∃ s4 : ByteArray, v5 = .string s4 ∧ Aside0 (s4 = strOfNums (Lb ++ putBytes kind 1 ++ putBytes (sizeT kind) 1 ++ (if rows = [] then vecL kind true [] else []))) ∧ Aside0 (s4.size ≤ sb.size + 16) ∧ Aside0 (RowsAt w.heap.size wc (fun _ => True) (.slice A7 rows.length c7) rows) ∧ Aside0 (Below w.heap.size w wc))
         case first =>
          by_cases r0 : rows = []
          ·
           have g0 : ((rows.length : Int) == 0) = true := by rw [r0]; rfl
           have g1 : (rows.length == 0) = true := by rw [r0]; rfl
           obtain ⟨kv, hkv⟩ := (rvec_ev kind (by rcases hk with h | h | h <;> rw [h] <;> decide) true [] (by decide) (by intro x hx; simp [evs] at hx)).rounds
           have hvs : (strOfNums (vecL kind true [])).size ≤ 14 := by have := vec_len kind true []; rw [str_size]; simpa using this
           obtain ⟨tv, htv⟩ : ∃ t, t = strOfNums (vecL kind true []) := ⟨_, rfl⟩
           rw [← htv] at hkv hvs
           have HKv := Aside0.mk hkv
           have HTv := Aside0.mk htv
           have hlen := HLen.out
           have HVs := Aside0.mk hvs
           have cda := eq_true (show sb.size + t1.size + t2.size + tv.size ≤ 9223372036854775807 from by omega)
           have cdb : decide (sb.size + t1.size + t2.size + tv.size ≤ 9223372036854775807) = true := decide_eq_true (by omega)
           have cdc : (9223372036854775807 < sb.size + t1.size + t2.size + tv.size) = False := eq_false (by omega)
           have HR0 := Aside0.mk r0
           clear hkv htv hlen hvs r0
           go_wp2_with fail
           go_at_call 30
           refine (kissgateref07_vector.calls kv kind true none 0 [] tv w8 (by exact ⟨rfl, by decide, fun h => absurd h (by decide)⟩) (Nat.le_refl _) HKv.out).mono ?_
           rintro e w9 ⟨rfl, hb9⟩
           go_wp2_with fail
           go_meet
           exact ⟨_, rfl, ⟨by rw [if_pos HR0.out, HHdr.out, HTv.out, str_append]⟩, ⟨by have := HLen.out; have := HVs.out; simp only [ByteArray.size_append]; omega⟩, ⟨Kd.S_below HR8.out hb9⟩, ⟨HB8.out.trans (hb9.mono HB8.out.size)⟩⟩
          ·
           have g0 : ((rows.length : Int) == 0) = false := beq_eq_false_iff_ne.2 (by have := List.length_pos_iff.2 r0; omega)
           have g1 : (rows.length == 0) = false := beq_eq_false_iff_ne.2 (by have := List.length_pos_iff.2 r0; omega)
           go_wp2_with fail
           go_meet
           exact ⟨_, rfl, ⟨by rw [if_neg r0, List.append_nil]; exact HHdr.out⟩, ⟨by have := HLen.out; simp only [ByteArray.size_append]; omega⟩, HR8, HB8⟩
         case rest =>
          obtain ⟨s4, rfl, HS4, HZ4, HR9, HB9⟩ := hcut
          clear HR8 HB8 HT0 HT1 HT2 HHdr HLen caa cab cac cba cbb cbc
          go_wp2_with fail
          go_loopg [5, 123] (rows.length + 1) (fun kq v5 v123 wr' => ∃ (r : Nat) (s5 : ByteArray), r ≤ rows.length ∧ rows.length - r < kq ∧ v123 = .int .i64 (r : Int) ∧ v5 = .string s5 ∧ Aside0 (s5 = s4 ++ strOfNums (vecsD kind true (rows.take r))) ∧ Aside0 (s5.size ≤ sb.size + 16 + 214 * r) ∧ Aside0 (RowsAt w.heap.size wr' (fun _ => True) (.slice A7 rows.length c7) rows) ∧ Aside0 (Below w.heap.size w wr'))
          case atStart => exact ⟨0, s4, Nat.zero_le _, by omega, rfl, rfl, ⟨by rw [List.take_zero]; exact (str_nil_r s4).symm⟩, ⟨by have := HZ4.out; omega⟩, HR9, HB9⟩
          case round =>
           rename World => wq
           obtain ⟨r, s5, hr, hfr, rfl, rfl, HS5, HZ5, HR, HB⟩ := hrel
           cases gk with
           | zero => omega
           | succ q3 =>
            by_cases hrn : r = rows.length
            ·
             subst hrn
             have e1 : decide ((rows.length : Int) < (rows.length : Int)) = false := decide_eq_false (by omega)
             have hsz5 : s5.size ≤ sb.size + 21400016 ∧ sb.size ≤ 90000001 := by have := HZ5.out; have := HRl.out; have := HSq.out; omega
             have cea := eq_true (show s5.size + 2 ≤ 9223372036854775807 from by omega)
             have ceb : decide (s5.size + 2 ≤ 9223372036854775807) = true := decide_eq_true (by omega)
             have cec : (9223372036854775807 < s5.size + 2) = False := eq_false (by omega)
             have hw6 := wrap_one (i + 1) (by omega)
             rw [List.take_length] at HS5
             have HNew : Aside0 (s5 ++ ⟨#[0, 0]⟩ = strOfNums (0 :: bodyTo all words (i + 1))) := ⟨by
              rw [HNext.out, HS5.out, HS4.out, str_append, show (⟨#[0, 0]⟩ : ByteArray) = strOfNums [0, 0] from rfl, str_append]
              congr 1
              simp only [List.append_assoc]
              by_cases r0 : rows = []
              ·
               rw [if_pos r0, r0]; rfl
              ·
               rw [if_neg r0, vecsD_of r0]; rfl⟩
             have HNs : Aside0 ((s5 ++ ⟨#[0, 0]⟩).size ≤ bnd (i + 1)) := ⟨by
              rw [ByteArray.size_append, show (⟨#[0, 0]⟩ : ByteArray).size = 2 from rfl]
              exact Nat.le_trans (size_sum HZ5.out HRl.out HSz.out) (bnd_step hlt3)⟩
             clear HS5 HS4 hsz5
             go_wp2_with fail
             go_roundg q1
             case measure => omega
             case rel => exact ⟨i + 1, _, by omega, by omega, rfl, by rw [HKi.out]; first | rfl | (congr 1; omega), HNew, HNs, HB⟩
            ·
             have hlr : r < rows.length := by omega
             obtain ⟨ado, Ai, ci, eo, hxo, hlo, hCi⟩ := at_L4 (Kd.S_reads' HR.out).2.2 (r : Int) (by omega) (by omega)
             cases eo
             rw [rdL_nat, Int.toNat_natCast] at hxo
             rw [rdL_nat] at hlo hCi
             have hcin : rows.getD r [] ∈ rows := by rw [List.getD_eq_getElem?_getD, List.getElem?_eq_getElem hlr]; exact List.getElem_mem _
             have hcP := (HRin.out _ hcin).2
             have hcl := hcP.len
             have htk : rows.take (r + 1) = rows.take r ++ [rows.getD r []] := by
              rw [List.take_add_one, List.getElem?_eq_getElem hlr, List.getD_eq_getElem?_getD, List.getElem?_eq_getElem hlr]; rfl
             obtain ⟨c, hc⟩ : ∃ c, rows.getD r [] = c := ⟨_, rfl⟩
             rw [hc] at hxo hlo hCi hcin hcP hcl htk
             have hz : decide (rows.take r = []) = ((r : Int) == 0) := by
              rw [Bool.eq_iff_iff, decide_eq_true_eq, beq_iff_eq, ← List.length_eq_zero_iff, List.length_take]
              omega
             obtain ⟨kv, hkv⟩ := (rvec_ev kind (by rcases hk with h | h | h <;> rw [h] <;> decide) ((r : Int) == 0) c (by omega) hcP.fit).rounds
             have hvs : (strOfNums (vecL kind ((r : Int) == 0) c)).size ≤ 214 := by have := vec_len kind ((r : Int) == 0) c; rw [str_size]; omega
             have HNv : Aside0 (strOfNums (vecsD kind true (rows.take (r + 1))) = strOfNums (vecsD kind true (rows.take r)) ++ strOfNums (vecL kind ((r : Int) == 0) c)) := ⟨by
              rw [htk, vecsD_snoc, str_append, hz]; simp⟩
             obtain ⟨tv, htv⟩ : ∃ t, t = strOfNums (vecL kind ((r : Int) == 0) c) := ⟨_, rfl⟩
             rw [← htv] at hkv hvs HNv
             have hsz5 : s5.size ≤ sb.size + 21400016 ∧ sb.size ≤ 90000001 := by have := HZ5.out; have := HRl.out; have := HSq.out; omega
             have cfa := eq_true (show s5.size + tv.size ≤ 9223372036854775807 from by omega)
             have cfb : decide (s5.size + tv.size ≤ 9223372036854775807) = true := decide_eq_true (by omega)
             have cfc : (9223372036854775807 < s5.size + tv.size) = False := eq_false (by omega)
             have HKv := Aside0.mk hkv
             have HVs := Aside0.mk hvs
             have HCi := Aside0.mk hCi
             have HLo := Aside0.mk hlo
             have e1 : decide ((r : Int) < (rows.length : Int)) = true := decide_eq_true (by omega)
             have z0 : (0 : Int) ≤ (r : Int) := by omega
             have z1 : (r : Int) < (rows.length : Int) := by omega
             have hwr := wrap_one r (by have := HRl.out; omega)
             have HZ6 : Aside0 ((s5 ++ tv).size ≤ sb.size + 16 + 214 * (r + 1)) := ⟨by rw [ByteArray.size_append]; exact size_more HZ5.out hvs⟩
             have HM6 := Aside0.mk (show rows.length - (r + 1) < q3 from Nat.lt_of_lt_of_le (Nat.sub_lt_sub_left hlr (Nat.lt_succ_self r)) (Nat.le_of_lt_succ hfr))
             clear hkv hvs hCi hlo htv hz hc htk hcin hcP hcl hsz5
             go_wp2_with fail
             go_at_call 30
             refine (kissgateref07_vector.calls kv kind ((r : Int) == 0) Ai ci c tv wq HCi.out HLo.out HKv.out).mono ?_
             rintro e w9 ⟨rfl, hb9⟩
             go_wp2_with fail
             go_roundg q3
             case measure => omega
             case rel => exact ⟨r + 1, _, hlr, HM6.out, by first | rw [hwr] | rfl, rfl, ⟨by rw [HNv.out, HS5.out, ByteArray.append_assoc]⟩, HZ6, ⟨Kd.S_below HR.out hb9⟩, ⟨HB.out.trans (hb9.mono HB.out.size)⟩⟩
        ·
         subst hm
         clear hgate
         have g0 : ((rows.length : Int) == 0) = false := beq_eq_false_iff_ne.2 (by omega)
         have g1 : (rows.length == 0) = false := beq_eq_false_iff_ne.2 (by omega)
         have HPos := Aside0.mk hp
         clear hp
         go_wp2_with fail
         go_at_call 29
         refine (kissgateref01_Number.calls k1 1 kind t1 w5 HK1.out).mono ?_
         rintro e w6 ⟨rfl, hb6⟩
         have HR6 := Aside0.mk (Kd.S_below HR5.out hb6)
         have HB6 := Aside0.mk (HB5.out.trans (hb6.mono HB5.out.size))
         clear HR5 HB5 hb6 HK1
         go_wp2_with fail
         go_at_call 21
         refine (kissgateref07_Size.calls kind _ w6 (refsize_eq kind)).mono ?_
         rintro e w7 ⟨rfl, ⟨⟨n7, hn7⟩⟩⟩
         subst hn7
         have HR7 := Aside0.mk (Kd.S_drewN HR6.out n7)
         have HB7 := Aside0.mk (pw_below_drewN HB6.out n7)
         clear HR6 HB6
         generalize w6.drewN n7 = w7 at HR7 HB7 ⊢
         go_wp2_with fail
         go_at_call 29
         refine (kissgateref01_Number.calls k2 1 _ t2 w7 HK2.out).mono ?_
         rintro e w8 ⟨rfl, hb8⟩
         have HR8 := Aside0.mk (Kd.S_below HR7.out hb8)
         have HB8 := Aside0.mk (HB7.out.trans (hb8.mono HB7.out.size))
         clear HR7 HB7 hb8 HK2
         go_upto_if 116 with fail
         go_cut [5] (fun v5 wc => ∃ s4 : ByteArray, v5 = .string s4 ∧ Aside0 (s4 = strOfNums (Lb ++ putBytes kind 1 ++ putBytes (sizeT kind) 1 ++ (if rows = [] then vecL kind true [] else []))) ∧ Aside0 (s4.size ≤ sb.size + 16) ∧ Aside0 (RowsAt w.heap.size wc (fun _ => True) (.slice A7 rows.length c7) rows) ∧ Aside0 (Below w.heap.size w wc))
         case first =>
          have r0 : rows ≠ [] := List.length_pos_iff.1 HPos.out
          have g0 : ((rows.length : Int) == 0) = false := beq_eq_false_iff_ne.2 (by have := List.length_pos_iff.2 r0; omega)
          have g1 : (rows.length == 0) = false := beq_eq_false_iff_ne.2 (by have := List.length_pos_iff.2 r0; omega)
          go_wp2_with fail
          go_meet
          exact ⟨_, rfl, ⟨by rw [if_neg r0, List.append_nil]; exact HHdr.out⟩, ⟨by have := HLen.out; simp only [ByteArray.size_append]; omega⟩, HR8, HB8⟩
         case rest =>
          obtain ⟨s4, rfl, HS4, HZ4, HR9, HB9⟩ := hcut
          clear HR8 HB8 HT0 HT1 HT2 HHdr HLen caa cab cac cba cbb cbc
          go_wp2_with fail
          go_loopg [5, 123] (rows.length + 1) (fun kq v5 v123 wr' => ∃ (r : Nat) (s5 : ByteArray), r ≤ rows.length ∧ rows.length - r < kq ∧ v123 = .int .i64 (r : Int) ∧ v5 = .string s5 ∧ Aside0 (s5 = s4 ++ strOfNums (vecsD kind false (rows.take r))) ∧ Aside0 (s5.size ≤ sb.size + 16 + 214 * r) ∧ Aside0 (RowsAt w.heap.size wr' (fun _ => True) (.slice A7 rows.length c7) rows) ∧ Aside0 (Below w.heap.size w wr'))
          case atStart => exact ⟨0, s4, Nat.zero_le _, by omega, rfl, rfl, ⟨by rw [List.take_zero]; exact (str_nil_r s4).symm⟩, ⟨by have := HZ4.out; omega⟩, HR9, HB9⟩
          case round =>
           rename World => wq
           obtain ⟨r, s5, hr, hfr, rfl, rfl, HS5, HZ5, HR, HB⟩ := hrel
           cases gk with
           | zero => omega
           | succ q3 =>
            by_cases hrn : r = rows.length
            ·
             subst hrn
             have e1 : decide ((rows.length : Int) < (rows.length : Int)) = false := decide_eq_false (by omega)
             have hsz5 : s5.size ≤ sb.size + 21400016 ∧ sb.size ≤ 90000001 := by have := HZ5.out; have := HRl.out; have := HSq.out; omega
             have cea := eq_true (show s5.size + 2 ≤ 9223372036854775807 from by omega)
             have ceb : decide (s5.size + 2 ≤ 9223372036854775807) = true := decide_eq_true (by omega)
             have cec : (9223372036854775807 < s5.size + 2) = False := eq_false (by omega)
             have hw6 := wrap_one (i + 1) (by omega)
             rw [List.take_length] at HS5
             have HNew : Aside0 (s5 ++ ⟨#[0, 0]⟩ = strOfNums (0 :: bodyTo all words (i + 1))) := ⟨by
              rw [HNext.out, HS5.out, HS4.out, str_append, show (⟨#[0, 0]⟩ : ByteArray) = strOfNums [0, 0] from rfl, str_append]
              congr 1
              simp only [List.append_assoc]
              have r0 : rows ≠ [] := List.length_pos_iff.1 HPos.out
              rw [if_neg r0, vecsD_of r0]; rfl⟩
             have HNs : Aside0 ((s5 ++ ⟨#[0, 0]⟩).size ≤ bnd (i + 1)) := ⟨by
              rw [ByteArray.size_append, show (⟨#[0, 0]⟩ : ByteArray).size = 2 from rfl]
              exact Nat.le_trans (size_sum HZ5.out HRl.out HSz.out) (bnd_step hlt3)⟩
             clear HS5 HS4 hsz5
             go_wp2_with fail
             go_roundg q1
             case measure => omega
             case rel => exact ⟨i + 1, _, by omega, by omega, rfl, by rw [HKi.out]; first | rfl | (congr 1; omega), HNew, HNs, HB⟩
            ·
             have hlr : r < rows.length := by omega
             obtain ⟨ado, Ai, ci, eo, hxo, hlo, hCi⟩ := at_L4 (Kd.S_reads' HR.out).2.2 (r : Int) (by omega) (by omega)
             cases eo
             rw [rdL_nat, Int.toNat_natCast] at hxo
             rw [rdL_nat] at hlo hCi
             have hcin : rows.getD r [] ∈ rows := by rw [List.getD_eq_getElem?_getD, List.getElem?_eq_getElem hlr]; exact List.getElem_mem _
             have hcP := (HRin.out _ hcin).2
             have hcl := hcP.len
             have htk : rows.take (r + 1) = rows.take r ++ [rows.getD r []] := by
              rw [List.take_add_one, List.getElem?_eq_getElem hlr, List.getD_eq_getElem?_getD, List.getElem?_eq_getElem hlr]; rfl
             obtain ⟨c, hc⟩ : ∃ c, rows.getD r [] = c := ⟨_, rfl⟩
             rw [hc] at hxo hlo hCi hcin hcP hcl htk
             have hz : decide (rows.take r = []) = ((r : Int) == 0) := by
              rw [Bool.eq_iff_iff, decide_eq_true_eq, beq_iff_eq, ← List.length_eq_zero_iff, List.length_take]
              omega
             obtain ⟨kv, hkv⟩ := (rvec_ev kind (by rcases hk with h | h | h <;> rw [h] <;> decide) false c (by omega) hcP.fit).rounds
             have hvs : (strOfNums (vecL kind false c)).size ≤ 214 := by have := vec_len kind false c; rw [str_size]; omega
             have HNv : Aside0 (strOfNums (vecsD kind false (rows.take (r + 1))) = strOfNums (vecsD kind false (rows.take r)) ++ strOfNums (vecL kind false c)) := ⟨by
              rw [htk, vecsD_snoc, str_append, hz]; simp⟩
             obtain ⟨tv, htv⟩ : ∃ t, t = strOfNums (vecL kind false c) := ⟨_, rfl⟩
             rw [← htv] at hkv hvs HNv
             have hsz5 : s5.size ≤ sb.size + 21400016 ∧ sb.size ≤ 90000001 := by have := HZ5.out; have := HRl.out; have := HSq.out; omega
             have cfa := eq_true (show s5.size + tv.size ≤ 9223372036854775807 from by omega)
             have cfb : decide (s5.size + tv.size ≤ 9223372036854775807) = true := decide_eq_true (by omega)
             have cfc : (9223372036854775807 < s5.size + tv.size) = False := eq_false (by omega)
             have HKv := Aside0.mk hkv
             have HVs := Aside0.mk hvs
             have HCi := Aside0.mk hCi
             have HLo := Aside0.mk hlo
             have e1 : decide ((r : Int) < (rows.length : Int)) = true := decide_eq_true (by omega)
             have z0 : (0 : Int) ≤ (r : Int) := by omega
             have z1 : (r : Int) < (rows.length : Int) := by omega
             have hwr := wrap_one r (by have := HRl.out; omega)
             have HZ6 : Aside0 ((s5 ++ tv).size ≤ sb.size + 16 + 214 * (r + 1)) := ⟨by rw [ByteArray.size_append]; exact size_more HZ5.out hvs⟩
             have HM6 := Aside0.mk (show rows.length - (r + 1) < q3 from Nat.lt_of_lt_of_le (Nat.sub_lt_sub_left hlr (Nat.lt_succ_self r)) (Nat.le_of_lt_succ hfr))
             clear hkv hvs hCi hlo htv hz hc htk hcin hcP hcl hsz5
             go_wp2_with fail
             go_at_call 30
             refine (kissgateref07_vector.calls kv kind false Ai ci c tv wq HCi.out HLo.out HKv.out).mono ?_
             rintro e w9 ⟨rfl, hb9⟩
             go_wp2_with fail
             go_roundg q3
             case measure => omega
             case rel => exact ⟨r + 1, _, hlr, HM6.out, by first | rw [hwr] | rfl, rfl, ⟨by rw [HNv.out, HS5.out, ByteArray.append_assoc]⟩, HZ6, ⟨Kd.S_below HR.out hb9⟩, ⟨HB.out.trans (hb9.mono HB.out.size)⟩⟩
      ·
       have hlt : j < words.length := by omega
       obtain ⟨ad, e, hx0, hx1, hx2, hx3⟩ := at_T43 H1.out (j : Int) (by omega) (by omega)
       cases e
       rw [Int.toNat_natCast, rdT_nat] at hx0 hx1 hx2 hx3
       have hlt2 := World.block_lt_of_cell? w _ hx0
       replace hx0 := (HB.out.cell hlt2).trans hx0
       replace hx1 := (HB.out.cell (p := ⟨(ad.add (j * 4)).block, (ad.add (j * 4)).off + 1, none⟩) hlt2).trans hx1
       replace hx2 := (HB.out.cell (p := ⟨(ad.add (j * 4)).block, (ad.add (j * 4)).off + 2, none⟩) hlt2).trans hx2
       replace hx3 := (HB.out.cell (p := ⟨(ad.add (j * 4)).block, (ad.add (j * 4)).off + 3, none⟩) hlt2).trans hx3
       have HT := Aside0.mk (ofKind_take kind words j hlt)
       generalize words.getD j z43 = x at HT hx0 hx1 hx2 hx3
       have d3 : decide ((j : Int) < (words.length : Int)) = true := decide_eq_true (by omega)
       have z0 : (0 : Int) ≤ (j : Int) := by omega
       have z1 : (j : Int) < (words.length : Int) := by omega
       have hw1 := wrap_one j (by have := HWl.out; omega)
       obtain ⟨rows, hrows⟩ : ∃ rows, rowsOf (ofKind kind (words.take j)) = rows := ⟨_, rfl⟩
       rw [hrows] at HR
       have HRows := Aside0.mk hrows
       clear hrows hlt2
       by_cases hE : x.f0.f0 = kind
       ·
        have hEb : (x.f0.f0 != kind) = false := by rw [hE]; simp
        rw [if_pos hE] at HT
        have HE := Aside0.mk hE
        clear hE
        obtain ⟨A7, c7, rfl⟩ := Kd.S_slice HR.out
        have HR1 := Aside0.mk (show RowsAt w.heap.size (wr.alloc (.cells #[.int .i64 x.f0.f0, .int .i64 x.f0.f1, .int .i64 x.f1, .int .i64 x.f2] 43)) (fun k => k ≠ wr.heap.size) (.slice A7 rows.length c7) rows from Kd.S_mono (Kd.S_alloc (Kd.S_elderB HR.out wr.heap.size (Nat.le_refl _)) _) (fun _ h => h.2))
        have HK1 := Aside0.mk (heap_alloc_new wr (.cells #[.int .i64 x.f0.f0, .int .i64 x.f0.f1, .int .i64 x.f1, .int .i64 x.f2] 43))
        have HB1 := Aside0.mk (below_alloc HB.out (.cells #[.int .i64 x.f0.f0, .int .i64 x.f0.f1, .int .i64 x.f1, .int .i64 x.f2] 43))
        have HG1 := Aside0.mk HB.out.size
        go_upto_region 11 with fail
        clear HR HB hx0 hx1 hx2 hx3 hEb d3 z0 z1
        generalize wr.alloc (.cells #[.int .i64 x.f0.f0, .int .i64 x.f0.f1, .int .i64 x.f1, .int .i64 x.f2] 43) = w9 at HR1 HK1 HB1 ⊢
        generalize wr.heap.size = gb at HR1 HK1 HG1 ⊢
        go_cut [77] (fun v77 wc => v77 = .bool (goesOn rows x) ∧ Aside0 (RowsAt w.heap.size wc (fun k => k ≠ gb) (.slice A7 rows.length c7) rows) ∧ Aside0 (wc.heap[gb]? = some (.cells #[.int .i64 x.f0.f0, .int .i64 x.f0.f1, .int .i64 x.f1, .int .i64 x.f2] 43 (0, 0))) ∧ Aside0 (Below w.heap.size w wc))
        case first =>
         by_cases r0 : rows = []
         ·
          have l0 : rows.length = 0 := by rw [r0]; rfl
          have d4 : decide ((rows.length : Int) > 0) = false := decide_eq_false (by omega)
          have d5 : decide (0 < (rows.length : Int)) = false := decide_eq_false (by omega)
          have d6 : decide (0 < rows.length) = false := decide_eq_false (by omega)
          have HV : Aside0 (goesOn rows x = false) := ⟨by unfold goesOn; rw [decide_eq_false (not_not_intro r0), Bool.false_and]⟩
          clear r0 l0
          go_quiet (fail)
          go_wp2_with fail
          go_meet
          exact ⟨by rw [HV.out], ⟨Kd.S_drewN HR1.out nq⟩, ⟨blk_drewN HK1.out nq⟩, ⟨pw_below_drewN HB1.out nq⟩⟩
         ·
          obtain ⟨c, hc⟩ : ∃ c, c = rows.getLastD [] := ⟨_, rfl⟩
          obtain ⟨m, hm⟩ : ∃ m, rows.length = m + 1 := ⟨rows.length - 1, by have := List.length_pos_iff.2 r0; omega⟩
          have hcm : rows.getD m [] = c := by
           rw [hc, List.getLastD_eq_getLast?, List.getLast?_eq_getElem?, List.getD_eq_getElem?_getD, hm]; rfl
          have hcin : c ∈ rowsOf (ofKind kind (words.take j)) := by
           rw [HRows.out, ← hcm, List.getD_eq_getElem?_getD, List.getElem?_eq_getElem (by omega)]
           exact List.getElem_mem _
          obtain ⟨hcne, hcP⟩ := rows_take HGd.out kind j c hcin
          have hlw := word_range (row_words HGd.out kind j hcin (last_mem hcne))
          have hrl := rows_len HGd.out kind j
          rw [HRows.out] at hrl
          have hwl := HWl.out
          have hcl := hcP.len
          have hcpos : 0 < c.length := List.length_pos_iff.2 hcne
          have hgo : goesOn rows x = joins c x := by
           unfold goesOn
           rw [decide_eq_true r0, Bool.true_and, hc]
          obtain ⟨ado, Ai, ci, eo, hxo, hlo, hCi⟩ := at_L4 (Kd.S_reads' HR1.out).2.2 (m : Int) (by omega) (by omega)
          cases eo
          rw [rdL_nat, hcm, Int.toNat_natCast] at hxo
          rw [rdL_nat, hcm] at hlo hCi
          obtain ⟨n1, hn1⟩ : ∃ n1, c.length = n1 + 1 := ⟨c.length - 1, by omega⟩
          obtain ⟨adi, ei, hy0, hy1, hy2, hy3⟩ := at_T43 hCi (n1 : Int) (by omega) (by omega)
          cases ei
          obtain ⟨adi', ei, hu0, hu1, hu2, hu3⟩ := at_T43 hCi (0 : Int) (by omega) (by omega)
          cases ei
          rw [Int.toNat_natCast, rdT_nat] at hy0 hy1 hy2 hy3
          have hlast : c.getD n1 z43 = lastOf c := by
           unfold lastOf
           rw [List.getLastD_eq_getLast?, List.getLast?_eq_getElem?, List.getD_eq_getElem?_getD, hn1]; rfl
          rw [hlast] at hy1
          have hfirst : (rd_T43 c 0).f2 = hb c := by
           rw [show (0 : Int) = ((0 : Nat) : Int) from rfl, rdT_nat]
           cases c with
           | nil => exact absurd rfl hcne
           | cons a b => rfl
          rw [hfirst, show ((0 : Int).toNat * 4) = 0 from rfl, add_z] at hu3
          have HCx := Aside0.mk hCi
          have HV := Aside0.mk hgo
          clear hgo hCi hy0 hy2 hy3 hu0 hu1 hu2 hlast hfirst r0 hc hcm hcne hcin hcP
          have d4 : decide ((rows.length : Int) > 0) = true := decide_eq_true (by omega)
          have d5 : decide (0 < (rows.length : Int)) = true := decide_eq_true (by omega)
          have d6 : decide (0 < rows.length) = true := decide_eq_true (by omega)
          have w1 : wrap64 ((rows.length : Int) - 1) = (m : Int) := by rw [wrap_id (by omega) (by omega)]; omega
          have w2 : IntKind.i64.wrap ((rows.length : Int) - 1) = (m : Int) := (i64_w _).trans w1
          have z2 : (m : Int) < (rows.length : Int) := by omega
          have z3 : (0 : Int) ≤ (m : Int) := by omega
          have w4 : wrap64 ((c.length : Int) - 1) = (n1 : Int) := by rw [wrap_id (by omega) (by omega)]; omega
          have w5 : IntKind.i64.wrap ((c.length : Int) - 1) = (n1 : Int) := (i64_w _).trans w4
          have z4 : (n1 : Int) < (c.length : Int) := by omega
          have z5 : (0 : Int) ≤ (n1 : Int) := by omega
          have z6 : (0 : Int) < (c.length : Int) := by omega
          clear hm hn1 hrl hwl hcl hlo
          have x0 := (blk_cell HK1.out 0).trans rfl
          have x1 := (blk_cell HK1.out 1).trans rfl
          have x2 := (blk_cell HK1.out 2).trans rfl
          have x3 := (blk_cell HK1.out 3).trans rfl
          by_cases l2 : c.length < 200
          ·
           have d7 : decide ((c.length : Int) < 200) = true := decide_eq_true (by omega)
           have d8 : decide (c.length < 200) = true := decide_eq_true (by omega)
           have v1 : wrap64 ((lastOf c).f0.f1 + 1) = (lastOf c).f0.f1 + 1 := by rw [wrap_id (by omega) (by omega)]
           have v2 : IntKind.i64.wrap ((lastOf c).f0.f1 + 1) = (lastOf c).f0.f1 + 1 := (i64_w _).trans v1
           by_cases hval : (lastOf c).f0.f1 + 1 = x.f0.f1
           ·
            have v3 : ((lastOf c).f0.f1 + 1 == x.f0.f1) = true := beq_iff_eq.2 hval
            have HV2 : Aside0 (goesOn rows x = (hb c == x.f2)) := ⟨by
             rw [HV.out]; unfold joins; rw [d8, v3, Bool.true_and, Bool.true_and]⟩
            clear hval hlw HV
            go_quiet (fail)
            go_wp2_with fail
            go_meet
            exact ⟨by rw [HV2.out], ⟨Kd.S_drewN HR1.out nq⟩, ⟨blk_drewN HK1.out nq⟩, ⟨pw_below_drewN HB1.out nq⟩⟩
           ·
            have v3 : ((lastOf c).f0.f1 + 1 == x.f0.f1) = false := beq_eq_false_iff_ne.2 hval
            have HV2 : Aside0 (goesOn rows x = false) := ⟨by
             rw [HV.out]; unfold joins; rw [d8, v3, Bool.true_and, Bool.false_and]⟩
            clear hval hlw HV
            go_quiet (fail)
            go_wp2_with fail
            go_meet
            exact ⟨by rw [HV2.out], ⟨Kd.S_drewN HR1.out nq⟩, ⟨blk_drewN HK1.out nq⟩, ⟨pw_below_drewN HB1.out nq⟩⟩
          ·
           have d7 : decide ((c.length : Int) < 200) = false := decide_eq_false (by omega)
           have d8 : decide (c.length < 200) = false := decide_eq_false (by omega)
           have HV2 : Aside0 (goesOn rows x = false) := ⟨by
            rw [HV.out]; unfold joins; rw [d8, Bool.false_and]⟩
           clear hlw HV l2
           go_quiet (fail)
           go_wp2_with fail
           go_meet
           exact ⟨by rw [HV2.out], ⟨Kd.S_drewN HR1.out nq⟩, ⟨blk_drewN HK1.out nq⟩, ⟨pw_below_drewN HB1.out nq⟩⟩
        case rest =>
         obtain ⟨rfl, HR2, HK2, HB2⟩ := hcut
         clear HR1 HK1 HB1
         cases hgo : goesOn rows x
         ·
          have HAdd := Aside0.mk (addRow_off hgo)
          clear hgo
          have HO_7 : Aside0 (Kd.S (Kd.slice 43 k43) 23 wc w.heap.size (fun k_ => k_ ≠ gb) (.slice A7 rows.length c7) rows) := HR2
          have BK257 := HK2
          have HB := HB2
          have GE257 := HG1
          clear HR2 HK2 HB2
          have hrl := rows_len HGd.out kind j
          rw [HRows.out] at hrl
          have hwl := HWl.out
          obtain ⟨y269, hy269⟩ : ∃ y_ : List (S43), y_ = ([(⟨(⟨x.f0.f0, x.f0.f1⟩ : S37), x.f1, x.f2⟩ : S43)] : List (S43)) := ⟨_, rfl⟩
          have Ny269 := Aside0.mk hy269
          have LMc42 : Aside0 (rows.length < 5864062014805) := ⟨by omega⟩
          obtain ⟨y272, hy272⟩ : ∃ y_ : List (List (S43)), y_ = (rows ++ [y269]) := ⟨_, rfl⟩
          have Ny272 := Aside0.mk hy272
          clear hy269 hy272 hrl hwl
          have hcz43_0 : wc.cell? ⟨gb, 0, none⟩ = some (.int .i64 x.f0.f0) := (blk_cell BK257.out 0).trans rfl
          have hcz43_1 : wc.cell? ⟨gb, 1, none⟩ = some (.int .i64 x.f0.f1) := (blk_cell BK257.out 1).trans rfl
          have hcz43_2 : wc.cell? ⟨gb, 2, none⟩ = some (.int .i64 x.f1) := (blk_cell BK257.out 2).trans rfl
          have hcz43_3 : wc.cell? ⟨gb, 3, none⟩ = some (.int .i64 x.f2) := (blk_cell BK257.out 3).trans rfl
          have hfz43_0 := blk_frozen BK257.out 0
          have hfz43_1 := blk_frozen BK257.out 1
          have hfz43_2 := blk_frozen BK257.out 2
          have hfz43_3 := blk_frozen BK257.out 3
          go_wp2_with (first | ((with_reducible refine gate_dst (N := 92) rfl ?_); (try (refine gate_guard (by rfl) ?_; dsimp only)); refine Kd.R_lit k43 _ 43 ?hg (N := 92) ?hd (xs := ([(⟨(⟨x.f0.f0, x.f0.f1⟩ : S37), x.f1, x.f2⟩ : S43)] : List (S43))) (inner := [.int .i64 x.f0.f0, .int .i64 x.f0.f1, .int .i64 x.f1, .int .i64 x.f2]) (ok := fun _ => True) (okp := fun _ => True) ?hr ?hp (fun _ hk => hk) trivial (Below.refl _ _) (Nat.le_refl _) (by simp) ?_; (case hd => rfl); (case hg => rfl); (case hr => first | (go_simp; done) | (go_simp; rfl)); (case hp => exact (Reps.c4 (show Kd.M k43 _ _ _ (⟨(⟨x.f0.f0, x.f0.f1⟩ : S37), x.f1, x.f2⟩ : S43) [.int .i64 x.f0.f0, .int .i64 x.f0.f1, .int .i64 x.f1, .int .i64 x.f2] from (k43_mkM _ _ _ (⟨(⟨x.f0.f0, x.f0.f1⟩ : S37), x.f1, x.f2⟩ : S43) )) (Reps.none _ _))); intro v270 w44 ho45 hb hg_ hnew_; clear hg_ hnew_; (first | rw [← Ny269.out] at ho45 | (simp only [Int.reduceToNat] at ho45; rw [← Ny269.out] at ho45)); have n0_ := Aside0.mk (Kd.S_elder' (by (with_reducible repeat (first | apply Kd.S_alloc | apply Kd.S_drewN | apply Kd.S_drew)); exact HO_7.out) (Kd.R_base ho45) hb); have n1_ := Aside0.mk (Kd.R_lower (Kd.R_newB ho45 (g := gb) (o := .cells #[.int .i64 x.f0.f0, .int .i64 x.f0.f1, .int .i64 x.f1, .int .i64 x.f2] 43 (0, 0)) (by (with_reducible repeat (first | refine blk_drewN ?_ _ | refine blk_drew ?_ | refine blk_alloc ?_ _)); exact BK257.out)) (below_size (by repeat (first | exact HB.out | apply below_alloc | apply pw_below_drewN | apply below_drew1 | refine below_set ?_ GE257.out)))); have n2_ := Aside0.mk (blk_below (g := gb) (o := .cells #[.int .i64 x.f0.f0, .int .i64 x.f0.f1, .int .i64 x.f1, .int .i64 x.f2] 43 (0, 0)) (by (with_reducible repeat (first | refine blk_drewN ?_ _ | refine blk_drew ?_ | refine blk_alloc ?_ _)); exact BK257.out) hb); have n3_ := Aside0.mk (below_step (by repeat (first | exact HB.out | apply below_alloc | apply pw_below_drewN | apply below_drew1 | refine below_set ?_ GE257.out)) hb); clear HO_7; clear BK257; clear HB; have HO_7 := n0_; have HO271 := n1_; have BK257 := n2_; have HB := n3_; clear n0_ n1_ n2_ n3_; clear hb ho45; obtain ⟨Ao47, co47, eo47⟩ := Kd.R_slice HO271.out; subst eo47) | ((with_reducible refine gate_builtin (b := .append) (xs := #[.tmp 90, .tmp 93]) rfl ?_); (try (refine gate_guard (by rfl) ?_; dsimp only)); at_builtin; refine Kd.S_append (Kd.slice 43 k43) (w0 := w) w.heap.size rfl (.tmp 90) (.tmp 93) 59 23 (.slice none 0 0) 24 rfl Try.underlying59 info23 rfl (by decide) (by omega) (.slice A7 rows.length c7) rows y269 [.slice Ao47 y269.length co47] (fun k_ => k_ ≠ gb) (fun k_ => some k_ = (.slice Ao47 y269.length co47 : Value).ownBlock) rfl rfl ?aP (fun k_ hk_ => ((Kd.R_mono (ok' := fun k_ => ((fun k_ => k_ ≠ gb)) k_ ∧ some k_ ≠ (.slice A7 rows.length c7 : Value).ownBlock) (Kd.R_apart' (HO271.out) (Kd.S_typed HO_7.out) (by decide)) (fun k_ hk => ⟨hk.1.2, hk.2⟩))).1 k_ hk_.symm) ?aF ?aO ?aB ?aS ?aL ?_; (case aP => exact Kd.M_row (Kd.R_mono (Kd.R_tight rfl (Kd.R_mono (ok' := fun k_ => ((fun k_ => k_ ≠ gb)) k_ ∧ some k_ ≠ (.slice A7 rows.length c7 : Value).ownBlock) (Kd.R_apart' (HO271.out) (Kd.S_typed HO_7.out) (by decide)) (fun k_ hk => ⟨hk.1.2, hk.2⟩))) (fun _ h_ => h_))); (case aB => exact (by repeat (first | exact HB.out | apply below_alloc | apply pw_below_drewN | apply below_drew1 | refine below_set ?_ GE257.out))); (case aF => exact (fun k_ hk => Kd.freshB (g := gb) (o := .cells #[.int .i64 x.f0.f0, .int .i64 x.f0.f1, .int .i64 x.f1, .int .i64 x.f2] 43 (0, 0)) (by (with_reducible repeat (first | refine blk_drewN ?_ _ | refine blk_drew ?_ | refine blk_alloc ?_ _)); exact BK257.out) k_ hk)); (case aO => exact (by (with_reducible repeat (first | apply Kd.S_alloc | apply Kd.S_drewN | apply Kd.S_drew)); exact Kd.S_mono HO_7.out (fun k_ hk => ⟨hk.1, fun e_ => hk.2 e_⟩))); (case aS => exact (below_size (by repeat (first | exact HB.out | apply below_alloc | apply pw_below_drewN | apply below_drew1 | refine below_set ?_ GE257.out)))); (case aL => have := LMc42.out; omega); intro v273 w46 ho hb hg hat; rw [← Ny272.out] at ho; have n0_ := Aside0.mk (blk_grown (g := gb) (o := .cells #[.int .i64 x.f0.f0, .int .i64 x.f0.f1, .int .i64 x.f1, .int .i64 x.f2] 43 (0, 0)) (by (with_reducible repeat (first | refine blk_drewN ?_ _ | refine blk_drew ?_ | refine blk_alloc ?_ _)); exact BK257.out) hg (Kd.S_ne HO_7.out BK257.out (by decide))); have n1_ := Aside0.mk (hb); have n2_ := Aside0.mk (ho); clear BK257; clear HB; clear HO_7; clear HO271; have BK257 := n0_; have HB := n1_; have HO274 := n2_; clear n0_ n1_ n2_; clear ho hb hg hat))
          go_roundg q2
          case measure => omega
          case rel => exact ⟨j + 1, by first | rfl | rw [hw1], hlt, by omega, ⟨by
           rw [HT.out, rowsOf_snoc, HRows.out, HAdd.out, show rows ++ [[x]] = y272 from by rw [Ny272.out, Ny269.out]]
           exact (by (with_reducible repeat (first | apply Kd.S_alloc | apply Kd.S_drewN | apply Kd.S_drew)); exact Kd.S_mono HO274.out (fun _ hk => trivial))⟩, ⟨by repeat (first | exact HB.out | apply below_alloc | apply pw_below_drewN | apply below_drew1 | refine below_set ?_ GE257.out)⟩⟩
         ·
          have HAdd := Aside0.mk (addRow_on hgo)
          clear hgo
          have HO_7 : Aside0 (Kd.S (Kd.slice 43 k43) 23 wc w.heap.size (fun k_ => k_ ≠ gb) (.slice A7 rows.length c7) rows) := HR2
          have BK257 := HK2
          have HB := HB2
          have GE257 := HG1
          clear HR2 HK2 HB2
          have hrl := rows_len HGd.out kind j
          rw [HRows.out] at hrl
          have hwl := HWl.out
          have hrpos : 0 < rows.length := List.length_pos_iff.2 HAdd.out.2
          obtain ⟨m, hm⟩ : ∃ m, rows.length = m + 1 := ⟨rows.length - 1, by omega⟩
          obtain ⟨ji31, hji31'⟩ : ∃ ji : Int, ji = (m : Int) := ⟨_, rfl⟩
          have hji31 : wrap64 ((rows.length : Int) - 1) = ji31 := by rw [wrap_id (by omega) (by omega)]; omega
          have hji31w : (IntKind.i64.wrap ((rows.length : Int) - 1)) = ji31 := (i64_w _).trans hji31
          have c32b0 : decide (0 ≤ ji31) = true := decide_eq_true (by omega)
          have c33b0 : decide (ji31 < (rows.length : Int)) = true := decide_eq_true (by omega)
          have hcm : rd_L4 rows ji31 = rows.getLastD [] := by
           rw [hji31', rdL_nat, List.getLastD_eq_getLast?, List.getLast?_eq_getElem?, List.getD_eq_getElem?_getD, hm]; rfl
          have hcin : rd_L4 rows ji31 ∈ rowsOf (ofKind kind (words.take j)) := by
           rw [HRows.out, hji31', rdL_nat, List.getD_eq_getElem?_getD, List.getElem?_eq_getElem (by omega)]
           exact List.getElem_mem _
          have hcl := (rows_take HGd.out kind j _ hcin).2.len
          have LMc34 : Aside0 ((rd_L4 rows ji31).length < 4398046511104) := ⟨by omega⟩
          obtain ⟨y265, hy265⟩ : ∃ y_ : List (S43), y_ = ((rd_L4 rows ji31) ++ [(⟨(⟨x.f0.f0, x.f0.f1⟩ : S37), x.f1, x.f2⟩ : S43)]) := ⟨_, rfl⟩
          have Ny265 := Aside0.mk hy265
          obtain ⟨y268, hy268⟩ : ∃ y_ : List (List (S43)), y_ = (rows.set (ji31 : Int).toNat y265) := ⟨_, rfl⟩
          have Ny268 := Aside0.mk hy268
          have HEnd : Aside0 (rows.dropLast ++ [rows.getLastD [] ++ [x]] = y268) := ⟨by
           rw [hy268, hy265, hcm, hji31', Int.toNat_natCast]
           exact set_last hm _⟩
          clear hy265 hy268 hrl hwl hm hji31' hcm hcin hcl hrpos
          try go_wp2
          have n0_ := Aside0.mk (Kd.S_drew HO_7.out)
          have n1_ := Aside0.mk (blk_drew BK257.out)
          have n2_ := Aside0.mk (below_drew1 HB.out)
          clear HO_7
          clear BK257
          clear HB
          have HO_7 := n0_
          have BK257 := n1_
          have HB := n2_
          clear n0_ n1_ n2_
          have p264 : 0 ≤ ((ji31) : Int) := of_decide_eq_true (by first | (with_reducible assumption) | assumption)
          have q264 : (ji31) < (rows.length : Int) := of_decide_eq_true (by first | (with_reducible assumption) | assumption)
          obtain ⟨ad264, A264_0, c264_0, e264, hx264_0, hl264_0, hi264_0⟩ := at_L4 (Kd.S_reads' HO_7.out).2.2 (ji31) p264 q264
          cases e264
          obtain ⟨ce264, hce264, hMe264, hcc264⟩ := Kd.S_get HO_7.out [] (ji31) p264 (by first | exact q264 | exact of_decide_eq_true (by first | (with_reducible assumption) | assumption) | (have e_ := (Kd.S_reads' HO_7.out).1; omega))
          obtain ⟨ve264_0, rfl, ge264_0⟩ := hMe264
          have hv264_0 := hcc264 0 _ rfl
          rw [Nat.add_zero, show ((Kd.slice 43 k43)).sz = 1 from rfl, Nat.mul_one] at hv264_0
          replace hv264_0 := Option.some.inj (hv264_0.symm.trans hx264_0)
          rw [hv264_0] at ge264_0
          have HL264_0 := Aside0.mk (show Kd.R k43 43 _ _ _ _ (rd_L4 rows (ji31)) from ge264_0)
          clear hv264_0 ge264_0
          have HX264_0 := Aside0.mk hx264_0
          clear hcc264 hce264
          have HR264_0 := Aside0.mk hi264_0
          have HC264_0 := Aside0.mk hl264_0
          clear hi264_0 hl264_0
          replace p264 := eq_true p264
          replace q264 := eq_true q264
          obtain ⟨go37, co37, eo37, gb37, gl37, cl37, HG37⟩ := Kd.S_form HO_7.out (by have h_ : ((ji31) : Int) < ((rows.length : Int) : Int) := of_decide_eq_true (by first | (with_reducible assumption) | assumption); have h2_ : 0 ≤ ((ji31) : Int) := (of_decide_eq_true (by first | (with_reducible assumption) | assumption)); omega)
          (first | cases eo37 | (injection eo37 with ea_ en_ ec_; (first | subst ea_ | (injection ea_ with ea_; subst ea_)); subst ec_; clear en_))
          have GB37 := Aside0.mk gb37
          have GG37 := Aside0.mk HG37
          clear gb37 gl37 HG37
          (first | simp only [add_plain] at hx264_0 | skip)
          obtain ⟨oki37, ce37, hcl37, hM37, hcc37, _, _, hH37⟩ := Kd.S_elem HO_7.out [] ((ji31) : Int) (of_decide_eq_true (by first | (with_reducible assumption) | assumption)) (by have h_ : ((ji31) : Int) < ((rows.length : Int) : Int) := of_decide_eq_true (by first | (with_reducible assumption) | assumption); first | exact h_ | (have e_ := (Kd.S_reads' HO_7.out).1; omega) | simpa using h_)
          obtain ⟨ve37_0, rfl, ge37_0⟩ := hM37
          have hv37 := hcc37 0 _ rfl
          have hX37 := HX264_0.out
          (try simp only [add_plain] at hX37)
          (try simp only [Nat.add_zero] at hv37)
          (try rw [show ((Kd.slice 43 k43)).sz = 1 from rfl, Nat.mul_one] at hv37)
          replace hv37 := Option.some.inj (hv37.symm.trans hX37)
          subst hv37
          clear hX37 hcc37 hcl37
          have UU37 := Aside0.mk (show Kd.R k43 43 _ w.heap.size oki37 (.slice A264_0 (rd_L4 rows (ji31)).length c264_0) (rd_L4 rows (ji31)) from ge37_0)
          have HH37 := Aside0.mk hH37
          have HN37 := Aside0.mk (Kd.S_reads' HO_7.out).1
          clear hH37 ge37_0
          refine start_ (n := 13) (S := fun w' => w'.cell? ⟨gb, 0, none⟩ = some (.int .i64 x.f0.f0) ∧ w'.cell? ⟨gb, 1, none⟩ = some (.int .i64 x.f0.f1) ∧ w'.cell? ⟨gb, 2, none⟩ = some (.int .i64 x.f1) ∧ w'.cell? ⟨gb, 3, none⟩ = some (.int .i64 x.f2) ∧ w'.cell? ⟨go37, ((ji31)).toNat, none⟩ = some (.slice A264_0 (rd_L4 rows (ji31)).length c264_0)) (ds := [12]) #[false, false, false, false, false, false, false, false, false, false, false, false, false] (by kernel_rfl) rfl rfl ⟨(blk_cell BK257.out 0).trans rfl, (blk_cell BK257.out 1).trans rfl, (blk_cell BK257.out 2).trans rfl, (blk_cell BK257.out 3).trans rfl, hx264_0⟩ (fun hHeld => ?_); refine with_tabW refb_tab12 refb_bits12 (fun HT_ HW_ => ?_)
          generalize wc.drew = w36 at HO_7 BK257 HB GG37 HH37 HL264_0 HR264_0 HX264_0 UU37 hx264_0 hHeld ⊢
          refine pure_ (i := 0) (N := some 78) (v := ?_) (a' := ?_) #[true, false, false, false, false, false, false, false, false, false, false, false, false] rfl rfl (any_of HT_.out (by kernel_rfl)) (fun _ _ _ h => h) (Or.inl ⟨by rfl, ?_⟩) ?_ ?_
          rotate_left
          ·
           intro w'
           go_simp
           with_reducible rfl
          rotate_left
          ·
           simp only [Act.put, List.setIfInBounds_toArray, List.set_cons_zero, List.set_cons_succ, i64_w, i32_w]
           rfl
          refine pure_ (i := 1) (N := some 79) (v := ?_) (a' := ?_) #[true, true, false, false, false, false, false, false, false, false, false, false, false] rfl rfl (any_of HT_.out (by kernel_rfl)) (fun _ _ _ h => h) (Or.inl ⟨by rfl, ?_⟩) ?_ ?_
          rotate_left
          ·
           intro w'
           go_simp
           with_reducible rfl
          rotate_left
          ·
           simp only [Act.put, List.setIfInBounds_toArray, List.set_cons_zero, List.set_cons_succ, i64_w, i32_w]
           rfl
          refine pure_ (i := 2) (N := some 80) (v := ?_) (a' := ?_) #[true, true, true, false, false, false, false, false, false, false, false, false, false] rfl rfl (any_of HT_.out (by kernel_rfl)) (fun _ _ _ h => h) (Or.inl ⟨by rfl, ?_⟩) ?_ ?_
          rotate_left
          ·
           intro w'
           go_simp
           with_reducible rfl
          rotate_left
          ·
           simp only [Act.put, List.setIfInBounds_toArray, List.set_cons_zero, List.set_cons_succ, i64_w, i32_w]
           rfl
          refine pure_ (i := 3) (N := some 81) (v := ?_) (a' := ?_) #[true, true, true, true, false, false, false, false, false, false, false, false, false] rfl rfl (any_of HT_.out (by kernel_rfl)) (fun _ _ _ h => h) (Or.inl ⟨by rfl, ?_⟩) ?_ ?_
          rotate_left
          ·
           intro w'
           go_simp
           with_reducible rfl
          rotate_left
          ·
           simp only [Act.put, List.setIfInBounds_toArray, List.set_cons_zero, List.set_cons_succ, i64_w, i32_w]
           rfl
          refine pure_ (i := 4) (N := some 82) (v := ?_) (a' := ?_) #[true, true, true, true, true, false, false, false, false, false, false, false, false] rfl rfl (any_of HT_.out (by kernel_rfl)) (fun _ _ _ h => h) (Or.inl ⟨by rfl, ?_⟩) ?_ ?_
          rotate_left
          ·
           intro w'
           go_simp
           with_reducible rfl
          rotate_left
          ·
           simp only [Act.put, List.setIfInBounds_toArray, List.set_cons_zero, List.set_cons_succ, i64_w, i32_w]
           rfl
          refine pure_ (i := 5) (N := some 83) (v := ?_) (a' := ?_) #[true, true, true, true, true, true, false, false, false, false, false, false, false] rfl rfl (any_of HT_.out (by kernel_rfl)) (fun _ _ _ h => h) (Or.inl ⟨by rfl, ?_⟩) ?_ ?_
          rotate_left
          ·
           intro w'
           go_simp
           with_reducible rfl
          rotate_left
          ·
           simp only [Act.put, List.setIfInBounds_toArray, List.set_cons_zero, List.set_cons_succ, i64_w, i32_w]
           rfl
          refine pure_ (i := 6) (N := some 84) (v := ?_) (a' := ?_) #[true, true, true, true, true, true, true, false, false, false, false, false, false] rfl rfl (any_of HT_.out (by kernel_rfl)) (fun _ _ _ h => h) (Or.inl ⟨by rfl, ?_⟩) ?_ ?_
          rotate_left
          ·
           intro w'
           go_simp
           with_reducible rfl
          rotate_left
          ·
           simp only [Act.put, List.setIfInBounds_toArray, List.set_cons_zero, List.set_cons_succ, i64_w, i32_w]
           rfl
          refine take_ (i := 7) (N := some 85) (v := ?_) (a' := ?_) #[true, true, true, true, true, true, true, true, false, false, false, false, false] rfl rfl (take_ofW HT_.out HW_.out (by kernel_rfl)) (fun _ _ _ h => h) (Or.inl ⟨by rfl, ?_⟩) hHeld ?_ ?_
          rotate_left
          ·
           rintro w' ⟨s0, s1, s2, s3, s4⟩
           go_simp
           with_reducible rfl
          rotate_left
          ·
           simp only [Act.put, List.setIfInBounds_toArray, List.set_cons_zero, List.set_cons_succ, i64_w, i32_w]
           rfl
          refine take_ (i := 8) (N := some 86) (v := ?_) (a' := ?_) #[true, true, true, true, true, true, true, true, true, false, false, false, false] rfl rfl (take_ofW HT_.out HW_.out (by kernel_rfl)) (fun _ _ _ h => h) (Or.inl ⟨by rfl, ?_⟩) hHeld ?_ ?_
          rotate_left
          ·
           rintro w' ⟨s0, s1, s2, s3, s4⟩
           go_simp
           with_reducible rfl
          rotate_left
          ·
           simp only [Act.put, List.setIfInBounds_toArray, List.set_cons_zero, List.set_cons_succ, i64_w, i32_w]
           rfl
          refine one_ (i := 9) (N := some 87) #[true, true, true, true, true, true, true, true, true, true, false, false, false] rfl rfl (one_of HT_.out (by kernel_rfl)) (by decide) (fun K hK => ?_)
          refine value_ (w1 := ?_) (v := ?_) (by rfl) rfl ?_ ?_
          rotate_left 2
          ·
           go_simp
           constructor
           ·
            rfl
           ·
            rfl
          refine hK.out _ _ ⟨(blk_cell (blk_alloc BK257.out _) 0).trans rfl, (blk_cell (blk_alloc BK257.out _) 1).trans rfl, (blk_cell (blk_alloc BK257.out _) 2).trans rfl, (blk_cell (blk_alloc BK257.out _) 3).trans rfl, (World.cell?_alloc_lt _ _ _ (World.block_lt_of_cell? _ _ (hHeld.2.2.2.2))).trans (hHeld.2.2.2.2)⟩ (fun hHeld => ?_)
          clear hK K
          refine norm_ (a' := ?_) ?_ ?_
          rotate_left
          ·
           show Act.put _ (some 87) _ = _
           simp only [Act.put, List.setIfInBounds_toArray, List.set_cons_zero, List.set_cons_succ, i64_w, i32_w]
           rfl
          refine one_ (i := 10) (N := some 88) #[true, true, true, true, true, true, true, true, true, true, true, false, false] rfl rfl (one_of HT_.out (by kernel_rfl)) (by decide) (fun K hK => ?_)
          refine Kd.R_append_step k43 (w0 := w) w.heap.size (by rfl) (.tmp 85) (.tmp 87) 23 43 (.agg #[(.int .i64 0), (.int .i64 0), (.int .i64 0), (.int .i64 0)]) 32 rfl Try.underlying23 info43 rfl (by decide) (by omega) (.slice A264_0 (rd_L4 rows (ji31)).length c264_0) (rd_L4 rows (ji31)) (⟨(⟨x.f0.f0, x.f0.f1⟩ : S37), x.f1, x.f2⟩ : S43) [.int .i64 x.f0.f0, .int .i64 x.f0.f1, .int .i64 x.f1, .int .i64 x.f2] (fun k_ => oki37 k_ ∨ ((fun k_ => k_ ≠ gb)) k_ ∧ w36.heap.size ≤ k_) (fun _ => False) rfl rfl ?aP (fun _ hk => hk.elim) ?aF ?aO ?aB ?aS ?aL ?_
          (case aP => exact k43_mkM _ _ _ (⟨(⟨x.f0.f0, x.f0.f1⟩ : S37), x.f1, x.f2⟩ : S43))
          (case aB => exact (by repeat (first | exact HB.out | apply below_alloc | apply pw_below_drewN | apply below_drew1 | refine below_set ?_ GE257.out)))
          (case aF => exact (fun k_ hk => .inr ⟨Kd.freshB (g := gb) (o := .cells #[.int .i64 x.f0.f0, .int .i64 x.f0.f1, .int .i64 x.f1, .int .i64 x.f2] 43 (0, 0)) (by (with_reducible repeat (first | refine blk_drewN ?_ _ | refine blk_drew ?_ | refine blk_alloc ?_ _)); exact BK257.out) k_ hk, hk⟩))
          (case aO => exact (by (with_reducible repeat (first | apply Kd.R_alloc | apply Kd.R_drewN | apply Kd.R_drew)); exact Kd.R_mono UU37.out (fun _ hk => .inl hk)))
          (case aS => exact (below_size (by repeat (first | exact HB.out | apply below_alloc | apply pw_below_drewN | apply below_drew1 | refine below_set ?_ GE257.out))))
          (case aL => have := LMc34.out; omega)
          intro v266 w38 ho hb hg hat
          (first | have HS4_ := cell_grown hg (hHeld.2.2.2.2) (by first | (rw [add_block]; exact (fun e_ => ((HL264_0.out.1 _ e_.symm).2) rfl)) | (show some (Addr.add _ _).block ≠ _; rw [add_block]; exact (fun e_ => ((HL264_0.out.1 _ e_.symm).2) rfl)) | exact (fun e_ => ((HL264_0.out.1 _ e_.symm).2) rfl)) | have HS4_ := cell_grown hg (cell_unalloc (hHeld.2.2.2.2) (by first | (rw [add_block]; exact Kd.S_lt HO_7.out _ rfl) | (show (Addr.add _ _).block < _; rw [add_block]; exact Kd.S_lt HO_7.out _ rfl) | exact Kd.S_lt HO_7.out _ rfl)) (by first | (rw [add_block]; exact (fun e_ => ((HL264_0.out.1 _ e_.symm).2) rfl)) | (show some (Addr.add _ _).block ≠ _; rw [add_block]; exact (fun e_ => ((HL264_0.out.1 _ e_.symm).2) rfl)) | exact (fun e_ => ((HL264_0.out.1 _ e_.symm).2) rfl)))
          rw [← Ny265.out] at ho
          have n0_ := Aside0.mk (blk_grown (g := gb) (o := .cells #[.int .i64 x.f0.f0, .int .i64 x.f0.f1, .int .i64 x.f1, .int .i64 x.f2] 43 (0, 0)) (by (with_reducible repeat (first | refine blk_drewN ?_ _ | refine blk_drew ?_ | refine blk_alloc ?_ _)); exact BK257.out) hg (Kd.R_away HL264_0.out (fun _ hk => hk.1)))
          have n1_ := Aside0.mk (hb)
          have n2_ := Aside0.mk (Kd.H_grown (Kd.H_widen (by repeat (first | exact HH37.out | refine Kd.H_alloc ?_ _ | refine Kd.H_drewN ?_ _ | refine Kd.H_drew ?_))) hg (fun k_ e_ => .inl (UU37.out.1 k_ e_)))
          have n3_ := Aside0.mk (ho)
          clear BK257
          clear HB
          clear HH37
          clear HO_7
          clear UU37
          clear HL264_0
          have BK257 := n0_
          have HB := n1_
          have HH37 := n2_
          have HO267 := n3_
          clear n0_ n1_ n2_ n3_
          clear ho hb hg hat
          have p35 : 0 ≤ ((ji31) : Int) := of_decide_eq_true (by first | (with_reducible assumption) | assumption)
          have q35 : ((ji31) : Int) < ((rows.length : Int) : Int) := of_decide_eq_true (by first | (with_reducible assumption) | assumption)
          replace p35 := eq_true p35
          replace q35 := eq_true q35
          obtain ⟨Ao41, co41, eo41⟩ := Kd.R_slice HO267.out
          (first | subst eo41 | (injection eo41 with f1_ f2_ f3_; have f4_ := f1_.symm; have f5_ := f3_.symm; clear f1_ f2_ f3_; subst f4_; subst f5_))
          obtain ⟨_, _, hraw39, _, _, hcc39, _⟩ := Kd.H_raw HH37.out (of_decide_eq_true (by first | (with_reducible assumption) | assumption)) (by have h_ : ((ji31) : Int) < ((rows.length : Int) : Int) := of_decide_eq_true (by first | (with_reducible assumption) | assumption); first | exact h_ | (have e_ := (HN37.out); omega) | simpa using h_)
          obtain ⟨_, hfr39⟩ := Kd.H_at HH37.out (of_decide_eq_true (by first | (with_reducible assumption) | assumption)) (by have h_ : ((ji31) : Int) < ((rows.length : Int) : Int) := of_decide_eq_true (by first | (with_reducible assumption) | assumption); first | exact h_ | (have e_ := (HN37.out); omega) | simpa using h_)
          have hx39_0 := hcc39 0 _ rfl
          have hf39_0 := hfr39 0
          (try simp only [Nat.add_zero] at hx39_0 hf39_0)
          (try rw [show ((Kd.slice 43 k43)).sz = 1 from rfl, Nat.mul_one] at hx39_0)
          (try rw [show ((Kd.slice 43 k43)).sz = 1 from rfl, Nat.mul_one] at hf39_0)
          have HP39 := Kd.S_seg0 HH37.out (of_decide_eq_true (by first | (with_reducible assumption) | assumption)) (by have h_ : ((ji31) : Int) < ((rows.length : Int) : Int) := of_decide_eq_true (by first | (with_reducible assumption) | assumption); first | exact h_ | (have e_ := (HN37.out); omega) | simpa using h_) (seg := [.slice Ao41 y265.length co41]) (j := 0) (show 1 ≤ 1 from by decide) (x' := y265) (Kd.M_row HO267.out) (fun _ hk => hk)
          (try simp only [show ((Kd.slice 43 k43)).sz = 1 from rfl, Nat.mul_one, Nat.add_zero] at HP39)
          clear hcc39 hfr39
          have HNB257_go37 := Aside0.mk (show gb ≠ go37 from by have h_ := Kd.R_ne hraw39 BK257.out (by decide); intro e_; exact h_ (by rw [e_]; rfl))
          have HS39 := HP39.1
          rw [← Ny268.out] at HS39
          have HQ39 := Aside0.mk HS39
          obtain ⟨_, hgg39⟩ := Kd.R_typed hraw39 go37 rfl
          have GG39_ := Aside0.mk hgg39
          clear HP39 HS39 hgg39
          refine hK.out _ _ ⟨(blk_cell BK257.out 0).trans rfl, (blk_cell BK257.out 1).trans rfl, (blk_cell BK257.out 2).trans rfl, (blk_cell BK257.out 3).trans rfl, HS4_⟩ (fun hHeld => ?_)
          clear hK K
          refine norm_ (a' := ?_) ?_ ?_
          rotate_left
          ·
           show Act.put _ (some 88) _ = _
           simp only [Act.put, List.setIfInBounds_toArray, List.set_cons_zero, List.set_cons_succ, i64_w, i32_w]
           rfl
          refine pure_ (i := 11) (N := some 89) (v := ?_) (a' := ?_) #[true, true, true, true, true, true, true, true, true, true, true, true, false] rfl rfl (any_of HT_.out (by kernel_rfl)) (fun _ _ _ h => h) (Or.inl ⟨by rfl, ?_⟩) ?_ ?_
          rotate_left
          ·
           intro w'
           go_simp
           with_reducible rfl
          rotate_left
          ·
           simp only [Act.put, List.setIfInBounds_toArray, List.set_cons_zero, List.set_cons_succ, i64_w, i32_w]
           rfl
          refine last_ (i := 12) (N := none) #[true, true, true, true, true, true, true, true, true, true, true, true, true] rfl rfl (one_of HT_.out (by kernel_rfl)) (by decide) (fun K hK => ?_)
          refine skip_ (w1 := ?_) (by rfl) rfl ?_ ?_
          rotate_left
          ·
           go_simp
           rfl
          refine hK.out _ _ ?_
          clear hK K
          refine done_ (done_of HT_.out (by kernel_rfl)) ?_
          try go_wp2
          go_roundg q2
          case measure => omega
          case rel => exact ⟨j + 1, by first | rfl | rw [hw1], hlt, by omega, ⟨by
           rw [HT.out, rowsOf_snoc, HRows.out, HAdd.out.1, HEnd.out]
           exact (by (with_reducible repeat (first | apply Kd.S_alloc | apply Kd.S_drewN | apply Kd.S_drew)); exact Kd.S_mono HQ39.out (fun _ hk => trivial))⟩, ⟨by repeat (first | exact HB.out | apply below_alloc | apply pw_below_drewN | apply below_drew1 | refine below_set ?_ GB37.out | refine below_set ?_ GE257.out)⟩⟩
       ·
        have hEb : (x.f0.f0 != kind) = true := bne_iff_ne.2 hE
        rw [if_neg hE] at HT
        clear hE
        go_wp2_with fail
        go_roundg q2
        case measure => omega
        case rel => exact ⟨j + 1, by rw [← hw1], hlt, by omega, ⟨by rw [HT.out, HRows.out]; exact Kd.S_alloc HR.out _⟩, ⟨below_alloc HB.out _⟩⟩
end Go.Proofs.Ytlfcpobnkojcbaa.Pm
namespace Go.Proofs.Ytlfcpobnkojcbaa.Pm
open Go.RowKit Go.Proofs.Ytlfcpobnkojcbaa.PMrpduBytes Go.Proofs.YtlfcpobnkojcbaaW.PrintWords Go.Proofs.YtlfcpobnkojcbaaW.PrintLast Go.Proofs.YtlfcpobnkojcbaaW.PrintMore
open Wr (putBytes)
set_option linter.unusedVariables false
set_option linter.unusedSimpArgs false
theorem rest_len (kind : Int) : ∀ rows : List (List S43), (restL kind rows).length ≤ rows.flatten.length + 14 * rows.length
 | [] => by simp [restL]
 | r :: rs => by
  have h1 := rest_len kind rs
  have h2 := vec_len kind false r
  have e : restL kind (r :: rs) = vecL kind false r ++ restL kind rs := by simp [restL]
  rw [e, List.length_append, List.flatten_cons, List.length_append, List.length_cons]
  omega
theorem vecs_len (kind : Int) (more : Bool) (rows : List (List S43)) : (vecsOf kind more rows).length ≤ 14 + (rows.flatten.length + 14 * rows.length) := by
 cases rows with
 | nil =>
  unfold vecsOf
  cases more
  ·
   simp
  ·
   have := vec_len kind true []
   simpa using this
 | cons r rs =>
  have h1 := rest_len kind rs
  have h2 := vec_len kind more r
  show (vecL kind more r ++ restL kind rs).length ≤ _
  rw [List.length_append, List.flatten_cons, List.length_append, List.length_cons]
  omega
theorem part_len {all : List Int} {words : List S43} (h : GoodP all words) (kind : Int) : (partOf all kind words).length ≤ 18 + 15 * (ofKind kind words).length := by
 obtain ⟨h1, h2⟩ := rows_ok (good_kind h kind)
 have h3 := flat_len _ fun r hr => (h1 r hr).1
 have h4 := vecs_len kind (moreOf all kind) (rowsOf (ofKind kind words))
 rw [h2] at h3 h4
 unfold partOf
 split
 ·
  simp
 ·
  simp only [List.length_append, putBytes_length, List.length_cons, List.length_nil]
  omega
theorem kinds_len : ∀ words : List S43, (ofKind 1 words).length + (ofKind 2 words).length + (ofKind 3 words).length ≤ words.length
 | [] => Nat.le_refl _
 | x :: xs => by
  have h := kinds_len xs
  unfold ofKind at h ⊢
  simp only [List.filter_cons, List.length_cons]
  by_cases h1 : x.f0.f0 = 1
  ·
   rw [h1]; simp; omega
  ·
   by_cases h2 : x.f0.f0 = 2
   ·
    rw [h2]; simp; omega
   ·
    by_cases h3 : x.f0.f0 = 3
    ·
     rw [h3]; simp; omega
    ·
     simp [h1, h2, h3]; omega
theorem bytes_len {all : List Int} {words : List S43} (h : GoodP all words) : (bytesL all words).length ≤ 57 + 15 * words.length := by
 have h1 := part_len h 1
 have h2 := part_len h 2
 have h3 := part_len h 3
 have hk := kinds_len words
 unfold bytesL bodyOf
 simp only [List.length_cons, List.length_append, List.length_nil]
 omega
end Go.Proofs.Ytlfcpobnkojcbaa.Pm
namespace Go.Proofs.Ytlfcpobnkojcbaa.Pm
open Go.RowKit Go.Proofs.Ytlfcpobnkojcbaa.PMrpduBytes Go.Proofs.YtlfcpobnkojcbaaW.PrintWords Go.Proofs.YtlfcpobnkojcbaaW.PrintLast Go.Proofs.YtlfcpobnkojcbaaW.PrintMore
open Wr (putBytes numOf WS IsW KeepW)
set_option linter.unusedVariables false
set_option linter.unusedSimpArgs false
def ltA (kind : Int) (l : List Int) : List Int := l.filter fun x => decide (x < kind)
def ltW (kind : Int) (l : List S43) : List S43 := l.filter fun x => decide (x.f0.f0 < kind)
theorem ltA_take (kind : Int) (l : List Int) (k : Nat) (h : k < l.length) : ltA kind (l.take (k + 1)) = if l.getD k 0 < kind then ltA kind (l.take k) ++ [l.getD k 0] else ltA kind (l.take k) := by
 unfold ltA
 rw [List.take_add_one, List.getElem?_eq_getElem h, List.filter_append, List.getD_eq_getElem?_getD, List.getElem?_eq_getElem h]
 by_cases hc : l[k] < kind
 ·
  rw [if_pos (by simpa using hc)]; simp [hc]
 ·
  rw [if_neg (by simpa using hc)]; simp [hc]
theorem ltW_take (kind : Int) (l : List S43) (k : Nat) (h : k < l.length) : ltW kind (l.take (k + 1)) = if (l.getD k z43).f0.f0 < kind then ltW kind (l.take k) ++ [l.getD k z43] else ltW kind (l.take k) := by
 unfold ltW
 rw [List.take_add_one, List.getElem?_eq_getElem h, List.filter_append, List.getD_eq_getElem?_getD, List.getElem?_eq_getElem h]
 by_cases hc : l[k].f0.f0 < kind
 ·
  rw [if_pos (by simpa using hc)]; simp [hc]
 ·
  rw [if_neg (by simpa using hc)]; simp [hc]
theorem ltA_up (kind : Int) (l : List Int) : ltA kind l = upA (kind - 1) l := by
 unfold ltA upA
 congr 1; funext x; apply decide_eq_decide.2; omega
theorem ltW_up (kind : Int) (l : List S43) : ltW kind l = upTo (kind - 1) l := by
 unfold ltW upTo
 congr 1; funext x; apply decide_eq_decide.2; omega
theorem put_two {N b : Nat} {w9 w14 : World} {vi vw v14 : Value} {all : List Int} {ws : List S43} (hbk : w14.heap[b]? = some (.cells #[vi, vw] 25 (0, 0))) (h1 : RowI N w14 vi all) (h2 : RowW N w14 v14 ws) (hb : N ≤ b) (hB : Below N w9 w14) :
  PduAt N (w14.setCell ⟨b, 1, none⟩ v14) b vi v14 all ws ∧ Below N w9 (w14.setCell ⟨b, 1, none⟩ v14) := by
 have s1 := blk_set hbk 1 v14
 have e1 : ∀ q, q ∈ 3 :: (Kd.int .i64).E → q ≠ 25 := fun q hq => by
  have : q = 3 := by simpa [Kd.int, Kd.scalar] using hq
  rw [this]; decide
 have e2 : ∀ q, q ∈ 43 :: k43.E → q ≠ 25 := fun q hq => by
  have : q = 43 := by simpa [k43, k37, Kd.iso, Kd.pair, Kd.int, Kd.scalar] using hq
  rw [this]; decide
 exact ⟨⟨by simpa using s1, Kd.R_set h1 hbk e1 1 v14, Kd.R_set h2 hbk e2 1 v14, hb⟩, hB.setCell hb _⟩
theorem wrong_read {la : List Int} {lw : List S43} (h : GoodP la lw) {kind : Int} (hk : kind = 1 ∨ kind = 2 ∨ kind = 3) {sb sx tk : ByteArray} {n : Nat} (hb : bytesOf sb = bytesL la lw) (hx : sb.extract 0 n = sx) (ht : tk = strOfNums [kind, 9]) (hn : (bytesL la lw).length = n + 2) :
  readR (sx ++ tk ++ ⟨#[0, 0, 0, 0]⟩) = ((la, lw), true, 0) := by
 have e1 : bytesOf sx = 0 :: bodyOf la lw := by
  have := bytesOf_cut sb 0 n
  rw [Nat.zero_add, hx] at this
  rw [this]
  unfold seg
  rw [hb, List.drop_zero, show bytesL la lw = (0 :: bodyOf la lw) ++ [0, 0] from rfl]
  rw [show bytesL la lw = (0 :: bodyOf la lw) ++ [0, 0] from rfl, List.length_append] at hn
  rw [List.take_append_of_le_length (by simp at hn ⊢; omega), List.take_of_length_le (by simp at hn ⊢; omega)]
 have e2 : bytesOf tk = [kind, 9] := by
  rw [ht]
  exact Wr.bytesOf_str _ (fun x hx => by
   simp only [List.mem_cons, List.not_mem_nil, or_false] at hx
   omega)
 have e3 : bytesOf (⟨#[0, 0, 0, 0]⟩ : ByteArray) = [0, 0, 0, 0] := rfl
 have e : bytesOf (sx ++ tk ++ ⟨#[0, 0, 0, 0]⟩) = 0 :: (bodyOf la lw ++ (kind :: 9 :: [0, 0, 0, 0])) := by
  rw [Wr.bytesOf_append, Wr.bytesOf_append, e1, e2, e3]; simp
 rw [readR_of e, read_wrong h hk]
theorem nil_facts {W : World} {b : Nat} (bk : W.heap[b]? = some (.cells #[.slice none 0 0, .slice none 0 0] 25 (0, 0))) : (W.cell? ⟨b, 0, none⟩ = some (.slice none 0 0) ∧ W.cell? ⟨b, 1, none⟩ = some (.slice none 0 0) ∧ W.frozen? ⟨b, 0, none⟩ = false ∧ W.frozen? ⟨b, 1, none⟩ = false) ∧
  (W.drew.cell? ⟨b, 0, none⟩ = some (.slice none 0 0) ∧ W.drew.cell? ⟨b, 1, none⟩ = some (.slice none 0 0) ∧ W.drew.frozen? ⟨b, 0, none⟩ = false ∧ W.drew.frozen? ⟨b, 1, none⟩ = false) ∧
  (W.drew.drew.cell? ⟨b, 0, none⟩ = some (.slice none 0 0) ∧ W.drew.drew.cell? ⟨b, 1, none⟩ = some (.slice none 0 0) ∧ W.drew.drew.frozen? ⟨b, 0, none⟩ = false ∧ W.drew.drew.frozen? ⟨b, 1, none⟩ = false) := by
 have bd := blk_drew bk
 have be := blk_drew bd
 exact ⟨⟨(blk_cell bk 0).trans rfl, (blk_cell bk 1).trans rfl, blk_frozen bk 0, blk_frozen bk 1⟩, ⟨(blk_cell bd 0).trans rfl, (blk_cell bd 1).trans rfl, blk_frozen bd 0, blk_frozen bd 1⟩, (blk_cell be 0).trans rfl, (blk_cell be 1).trans rfl, blk_frozen be 0, blk_frozen be 1⟩
theorem conv_two {W : World} {b : Nat} {kind : Int} (hbk : W.heap[b]? = some (.cells #[.int .u8 kind, .int .u8 9] 5 (0, 0))) : (convert 44 9 (.slice (some ⟨b, 0, none⟩) 2 2)).run Try.prog W = .ok (.string (strOfNums [kind, 9])) W := by
 refine run_convert_bytes_arg _ 44 5 Try.underlying44 Try.underlying5 b 0 2 2 [kind, 9] rfl (fun i hi => ?_) 9 Try.underlying9
 have h2 : i = 0 ∨ i = 1 := by
  have : i < 2 := hi
  omega
 rcases h2 with rfl | rfl
 ·
  exact (blk_cell hbk 0).trans rfl
 ·
  exact (blk_cell hbk 1).trans rfl
theorem new_at (w : World) (o o' : Obj) : ((w.alloc o).alloc o').heap[w.heap.size + 1]? = some o' := by
 have := heap_alloc_new (w.alloc o) o'
 simpa using this
theorem PduAt.at_ {N : Nat} {W : World} {g : Nat} {A : Option Addr} {c : Nat} {all : List Int} {A' : Option Addr} {c' : Nat} {words : List S43} (h : PduAt N W g (.slice A all.length c) (.slice A' words.length c') all words) : At W g A c all A' c' words := by
 obtain ⟨a, b, e, hc, hC⟩ := h.ri.reads
 obtain ⟨a', b', e', hc', hC'⟩ := h.rw_.reads
 injection e with e1 _ e2
 injection e' with e1' _ e2'
 subst e1 e2 e1' e2'
 exact ⟨h.obj, hC, hc, hC', hc'⟩
theorem at_put {w7 Wc w9 : World} {b : Nat} {B : Option Addr} {cb : Nat} {la : List Int} {Bw : Option Addr} {cx : Nat} {lw : List S43} (hc : Below w7.heap.size w7 Wc) (hb9 : Below Wc.heap.size Wc w9) (bk : w9.heap[b]? = some (.cells #[.slice none 0 0, .slice none 0 0] 25 (0, 0))) (hb : w7.heap.size ≤ b) (hri : RowI Wc.heap.size w9 (.slice B la.length cb) la) (hrw : RowW Wc.heap.size w9 (.slice Bw lw.length cx) lw) :
  At ((w9.setCell ⟨b, 0, none⟩ (.slice B la.length cb)).setCell ⟨b, 1, none⟩ (.slice Bw lw.length cx)) b B cb la Bw cx lw ∧ Below w7.heap.size w7 ((w9.setCell ⟨b, 0, none⟩ (.slice B la.length cb)).setCell ⟨b, 1, none⟩ (.slice Bw lw.length cx)) := by
 have h := put_set bk hri hrw hc.size hb (hc.trans (hb9.mono hc.size))
 exact ⟨h.1.at_, h.2⟩
theorem at_new {w7 Wc w9 : World} {B : Option Addr} {cb : Nat} {la : List Int} {Bw : Option Addr} {cx : Nat} {lw : List S43} (hc : Below w7.heap.size w7 Wc) (hb9 : Below Wc.heap.size Wc w9) (hri : RowI Wc.heap.size w9 (.slice B la.length cb) la) (hrw : RowW Wc.heap.size w9 (.slice Bw lw.length cx) lw) :
  At (w9.alloc (.cells #[.slice B la.length cb, .slice Bw lw.length cx] 25)) w9.heap.size B cb la Bw cx lw ∧ Below w7.heap.size w7 (w9.alloc (.cells #[.slice B la.length cb, .slice Bw lw.length cx] 25)) :=
 ⟨At.row hri hrw, (hc.trans (hb9.mono hc.size)).alloc (Nat.le_trans hc.size hb9.size) _⟩
theorem e43_3 : ∀ q, q ∈ 3 :: (Kd.int .i64).E → q ≠ 43 := fun q hq => by
 have : q = 3 := by simpa [Kd.int, Kd.scalar] using hq
 rw [this]; decide
theorem wrong_holds (A0 : Option Addr) (c0 : Nat) (l0 : List Int) (A1 : Option Addr) (c1 : Nat) (l1 : List S43) (kind : Int) (w : World)
  (hr0 : (Kd.int .i64).C w A0 l0.length l0) (hc0 : l0.length ≤ c0) (hr1 : k43.C w A1 l1.length l1) (hc1 : l1.length ≤ c1) (wk : (Lit.int .i64 kind).wf = true) :
  Calls Try.prog 6 #[.agg #[.slice A0 l0.length c0, .slice A1 l1.length c1], .int .i64 kind] w fun e w' => e = .returned (.bool true) ∧ Below w.heap.size w w' := by
 have hu := Try.underlying25
 have HP1 := Aside0.mk (At.boxed hr0 hc0 hr1 hc1)
 have HB1 := Aside0.mk (show Below w.heap.size w (w.alloc (.cells #[.slice A0 l0.length c0, .slice A1 l1.length c1] 25)) from (Below.refl _ _).alloc (Nat.le_refl _) _)
 clear hr0 hr1 hc0 hc1
 go_enter Try.func6, Try.ntmps6
 go_wp2_with fail
 generalize w.alloc (.cells #[.slice A0 l0.length c0, .slice A1 l1.length c1] 25) = w1 at HP1 HB1 ⊢
 go_at_call 9
 refine (alive_calls _).mono ?_
 rintro e w2 ⟨rfl, hb2⟩
 have HP2 := Aside0.mk (HP1.out.below hb2)
 have HB2 := Aside0.mk (HB1.out.trans (hb2.mono HB1.out.size))
 clear HP1 HB1 hb2
 obtain ⟨p0, p1⟩ := HP2.out.cells
 go_wp2_with fail
 by_cases g1 : greatB l0 l1 = true
 ·
  go_at_call 10
  refine (kissgatelaw07_great.calls A0 c0 l0 A1 c1 l1 true w2 HP2.out.ri HP2.out.ci HP2.out.rw_ HP2.out.cw (by rw [great_eq, g1])).mono ?_
  rintro e w3 ⟨rfl, hb3⟩
  go_wp2_with fail
  go_ret
  exact ⟨rfl, HB2.out.trans (hb3.mono HB2.out.size)⟩
 ·
  have g1' : greatB l0 l1 = false := by simpa using g1
  have hl : l0.length ≤ 20 ∧ l1.length ≤ 500 := by unfold greatB at g1'; simp at g1'; omega
  have HL := Aside0.mk hl
  clear g1 hl
  go_at_call 10
  refine (kissgatelaw07_great.calls A0 c0 l0 A1 c1 l1 false w2 HP2.out.ri HP2.out.ci HP2.out.rw_ HP2.out.cw (by rw [great_eq, g1'])).mono ?_
  clear g1'
  rintro e w3 ⟨rfl, hb3⟩
  have HP3 := Aside0.mk (HP2.out.below hb3)
  have HB3 := Aside0.mk (HB2.out.trans (hb3.mono HB2.out.size))
  clear HP2 HB2 hb3 p0 p1
  obtain ⟨p0, p1⟩ := HP3.out.cells
  obtain ⟨kr, hkr⟩ := (rgood_ev l0 l1 (by have := HL.out; omega) (by have := HL.out; omega)).rounds
  have HKr := Aside0.mk hkr
  clear hkr
  go_wp2_with fail
  go_at_call 11
  refine (kissgateref07_Good.calls kr A0 c0 l0 A1 c1 l1 _ w3 HP3.out.ri HP3.out.ci HP3.out.rw_ HP3.out.cw HKr.out).mono ?_
  rintro e w4 ⟨rfl, hb4⟩
  have HP4 := Aside0.mk (HP3.out.below hb4)
  have HB4 := Aside0.mk (HB3.out.trans (hb4.mono HB3.out.size))
  clear HP3 HB3 hb4 p0 p1 HKr
  obtain ⟨p0, p1⟩ := HP4.out.cells
  cases hgd : goodB l0 l1
  ·
   clear hgd
   go_wp2_with fail
   go_ret
   exact ⟨rfl, HB4.out⟩
  ·
   have HG := Aside0.mk (goodB_iff.1 hgd)
   clear hgd
   by_cases hk : kind = 1 ∨ kind = 2 ∨ kind = 3
   ·
    have d1 : decide (kind < 1) = false := decide_eq_false (by omega)
    have d2 : decide (kind > 3) = false := decide_eq_false (by omega)
    have d3 : decide (3 < kind) = false := decide_eq_false (by omega)
    have HK := Aside0.mk hk
    clear hk
    have HA0 := Aside0.mk (show PduAt w4.heap.size (w4.alloc (.cells #[.slice none 0 0, .slice none 0 0] 25)) w4.heap.size (.slice none 0 0) (.slice none 0 0) [] [] from ⟨heap_alloc_new w4 _, RowI.nil _ _, RowW.nil _ _, Nat.le_refl _⟩)
    have HN0 := Aside0.mk (show Below w4.heap.size w4 (w4.alloc (.cells #[.slice none 0 0, .slice none 0 0] 25)) from (Below.refl _ _).alloc (Nat.le_refl _) _)
    have HG0 := Aside0.mk (blk_lt HP4.out.obj)
    have p0' := (HN0.out.cell (p := ⟨w.heap.size, 0, none⟩) HG0.out).trans p0
    have p1' := (HN0.out.cell (p := ⟨w.heap.size, 1, none⟩) HG0.out).trans p1
    clear p0 p1
    go_wp2_with fail
    generalize w4.alloc (.cells #[.slice none 0 0, .slice none 0 0] 25) = w5 at HA0 HN0 p0' p1' ⊢
    generalize hg : w4.heap.size = g at HA0 ⊢
    have HGe := Aside0.mk hg
    clear d1 d2 d3 hg
    go_loopg [38] (l0.length + 1) (fun kq v38 wr => ∃ (k : Nat) (va : Value), v38 = .int .i64 (k : Int) ∧ k ≤ l0.length ∧ l0.length - k < kq ∧ Aside0 (PduAt w4.heap.size wr g va (.slice none 0 0) (ltA kind (l0.take k)) []) ∧ Aside0 (Below w4.heap.size w4 wr))
    case atStart => exact ⟨0, _, rfl, Nat.zero_le _, by omega, ⟨by rw [List.take_zero]; rw [HGe.out] at *; exact HA0.out⟩, HN0⟩
    case round =>
     rename World => wr
     obtain ⟨k, va, rfl, hk, hfk, HA, HN⟩ := hrel
     clear HA0 HN0 p0' p1'
     cases gk with
     | zero => omega
     | succ q1 =>
      have p0 := ((HP4.out.below HN.out).cells).1
      have p1 := ((HP4.out.below HN.out).cells).2
      by_cases hkn : k = l0.length
      ·
       subst hkn
       have d2 : decide ((l0.length : Int) < (l0.length : Int)) = false := decide_eq_false (by omega)
       rw [List.take_length] at HA
       go_wp2_with fail
       go_loopg [55] (l1.length + 1) (fun kq v55 wq => ∃ (m : Nat) (vw : Value), v55 = .int .i64 (m : Int) ∧ m ≤ l1.length ∧ l1.length - m < kq ∧ Aside0 (PduAt w4.heap.size wq g va vw (ltA kind l0) (ltW kind (l1.take m))) ∧ Aside0 (Below w4.heap.size w4 wq))
       case atStart => exact ⟨0, _, rfl, Nat.zero_le _, by omega, ⟨by rw [List.take_zero]; exact HA.out⟩, HN⟩
       case round =>
        rename World => wq
        clear HA HN p0 p1 d2
        obtain ⟨m, vw, rfl, hm, hfm, HA, HN⟩ := hrel
        cases gk with
        | zero => omega
        | succ q2 =>
         have p0 := ((HP4.out.below HN.out).cells).1
         have p1 := ((HP4.out.below HN.out).cells).2
         by_cases hmn : m = l1.length
         ·
          subst hmn
          have d2 : decide ((l1.length : Int) < (l1.length : Int)) = false := decide_eq_false (by omega)
          rw [List.take_length] at HA
          obtain ⟨Ai, ci, rfl, hci, hCi⟩ := HA.out.ri.reads
          obtain ⟨Aw, cw, rfl, hcw, hCw⟩ := HA.out.rw_.reads
          have HQ := Aside0.mk (show At wq g Ai ci (ltA kind l0) Aw cw (ltW kind l1) from ⟨HA.out.obj, hCi, hci, hCw, hcw⟩)
          have HLa := Aside0.mk (show (ltA kind l0).length ≤ 20 ∧ (ltW kind l1).length ≤ 500 from ⟨Nat.le_trans (List.length_filter_le _ _) HL.out.1, Nat.le_trans (List.length_filter_le _ _) HL.out.2⟩)
          have HGa := Aside0.mk (show GoodP (ltA kind l0) (ltW kind l1) from by rw [ltA_up, ltW_up]; exact good_up HG.out _ _)
          have HB6 := Aside0.mk (HB4.out.trans (HN.out.mono HB4.out.size))
          clear hCi hCw hci hcw HN HP4 HB4 p0 p1
          generalize ltA kind l0 = la at HA HQ HLa HGa ⊢
          generalize ltW kind l1 = lw at HA HQ HLa HGa ⊢
          obtain ⟨q0, q1'⟩ := HQ.out.cells
          go_wp2_with fail
          go_at_call 14
          refine (refbytes_calls wq Ai ci la Aw cw lw HQ.out.ri HQ.out.ci HQ.out.rw_ HQ.out.cw (by have := HLa.out; omega) (by have := HLa.out; omega) HGa.out).mono ?_
          rintro e w7 ⟨rfl, hb7⟩
          have HQ7 := Aside0.mk (HQ.out.below hb7)
          have HB7 := Aside0.mk (HB6.out.trans (hb7.mono HB6.out.size))
          clear HQ HB6 hb7 q0 q1' HA
          obtain ⟨q0, q1'⟩ := HQ7.out.cells
          have hS := str_size (bytesL la lw)
          have hGb := good_bytes HGa.out
          have h3 : 3 ≤ (bytesL la lw).length := by simp [bytesL]
          rw [← hS] at h3
          generalize hsb : strOfNums (bytesL la lw) = sb at hS hGb h3 ⊢
          have HGb := Aside0.mk hGb
          have HS := Aside0.mk hS
          clear hS hGb hsb
          have hsz : sb.size ≤ 19000 := by have := bytes_len HGa.out; have := HLa.out; have := HS.out; omega
          obtain ⟨n, hn⟩ : ∃ n, sb.size = n + 2 := ⟨sb.size - 2, by omega⟩
          have wa : wrap64 ((sb.size : Int) - 2) = (n : Int) := by rw [wrap_id (by omega) (by omega)]; omega
          have wb : IntKind.i64.wrap ((sb.size : Int) - 2) = (n : Int) := (i64_w _).trans wa
          have z0 : (0 : Int) ≤ (n : Int) := by omega
          have z1 : (n : Int) ≤ (sb.size : Int) := by omega
          have HNn := Aside0.mk hn
          have HSz := Aside0.mk hsz
          have kw : IntKind.u8.wrap kind = kind := by rcases HK.out with rfl | rfl | rfl <;> rfl
          obtain ⟨tk, htk⟩ : ∃ tk, tk = strOfNums [kind, 9] := ⟨_, rfl⟩
          have hcA := conv_two (blk_drew (heap_alloc_new w7 (.cells #[.int .u8 kind, .int .u8 9] 5)))
          have hcB := conv_two (blk_drew (blk_alloc (heap_alloc_new w7 (.cells #[.int .u8 kind, .int .u8 9] 5)) (.cells #[.slice none 0 0, .slice none 0 0] 25)))
          have hcC := conv_two (blk_drew (new_at w7 (.cells #[.slice none 0 0, .slice none 0 0] 25) (.cells #[.int .u8 kind, .int .u8 9] 5)))
          have hcD := conv_two (blk_drew (blk_drew (blk_alloc (heap_alloc_new w7 (.cells #[.int .u8 kind, .int .u8 9] 5)) (.cells #[.slice none 0 0, .slice none 0 0] 25))))
          have hcE := conv_two (blk_drew (blk_drew (new_at w7 (.cells #[.slice none 0 0, .slice none 0 0] 25) (.cells #[.int .u8 kind, .int .u8 9] 5))))
          rw [← htk] at hcA hcB hcC hcD hcE
          have HTk := Aside0.mk htk
          obtain ⟨sx, hsx⟩ : ∃ sx, sb.extract 0 n = sx := ⟨_, rfl⟩
          have HSx := Aside0.mk hsx
          have hxs : sx.size = n := by rw [← hsx, ByteArray.size_extract]; omega
          have hts : tk.size = 2 := by rw [htk, str_size]; rfl
          have caa := eq_true (show sx.size + tk.size ≤ 9223372036854775807 from by omega)
          have cab : decide (sx.size + tk.size ≤ 9223372036854775807) = true := decide_eq_true (by omega)
          have cac : (9223372036854775807 < sx.size + tk.size) = False := eq_false (by omega)
          have cba := eq_true (show sx.size + tk.size + 4 ≤ 9223372036854775807 from by omega)
          have cbb : decide (sx.size + tk.size + 4 ≤ 9223372036854775807) = true := decide_eq_true (by omega)
          have cbc : (9223372036854775807 < sx.size + tk.size + 4) = False := eq_false (by omega)
          have HXs := Aside0.mk hxs
          clear hxs hts
          have hrd : readR (sx ++ tk ++ ⟨#[0, 0, 0, 0]⟩) = ((la, lw), true, 0) := wrong_read HGa.out HK.out HGb.out HSx.out HTk.out (by have := HS.out; have := HNn.out; omega)
          have HCl : Aside0 (∀ W, Calls Try.prog 15 #[.string (sx ++ tk ++ ⟨#[0, 0, 0, 0]⟩)] W (ReadQ W ((la, lw), true, 0))) := ⟨fun W => by
           have := read_calls W (sx ++ tk ++ ⟨#[0, 0, 0, 0]⟩) (by rw [ByteArray.size_append, ByteArray.size_append, show (⟨#[0, 0, 0, 0]⟩ : ByteArray).size = 4 from rfl]; have := HXs.out; have := HSz.out; have := HNn.out; have : tk.size = 2 := (by rw [HTk.out, str_size]; rfl); omega)
           rwa [hrd] at this⟩
          clear hrd
          clear hn h3 hsz htk
          go_upto_region 19 with fail
          go_cut [11, 12, 13] (fun v11 v12 v13 wc => ∃ (b : Nat) (B : Option Addr) (cb : Nat) (Bw : Option Addr) (cx : Nat), v11 = .pointer (some ⟨b, 0, none⟩) ∧ v12 = .bool true ∧ v13 = .int .i64 0 ∧ Aside0 (At wc b B cb la Bw cx lw) ∧ Aside0 (At wc g Ai ci la Aw cw lw) ∧ Aside0 (Below w.heap.size w wc))
          case first =>
           go_region_with
            (first
             | (go_at_call 15; refine (HCl.out _).mono ?_; rintro e w9 ⟨B, cb, Bw, cx, rfl, hri, hrw, hb9⟩; simp only at hri hrw ⊢; first
               | (refine (fun (bk : w9.heap[w7.heap.size]? = some (.cells #[.slice none 0 0, .slice none 0 0] 25 (0, 0))) => ?_) ?_; rotate_left; refine (hb9.block _ ?_).trans ?_; (focus (first | (simp; done) | (simp; omega))); (focus ((repeat (first | with_reducible exact heap_alloc_new w7 (.cells #[.slice none 0 0, .slice none 0 0] 25) | with_reducible refine blk_drew ?_ | with_reducible refine blk_alloc ?_ _)); done)); obtain ⟨⟨bz0, bz1, bf0, bf1⟩, ⟨by0, by1, bg0, bg1⟩, bx0, bx1, bh0, bh1⟩ := nil_facts bk)
               | (refine (fun (bk : w9.heap[w7.heap.size + 1]? = some (.cells #[.slice none 0 0, .slice none 0 0] 25 (0, 0))) => ?_) ?_; rotate_left; refine (hb9.block _ ?_).trans ?_; (focus (first | (simp; done) | (simp; omega))); (focus ((repeat (first | with_reducible exact new_at w7 (.cells #[.int .u8 kind, .int .u8 9] 5) (.cells #[.slice none 0 0, .slice none 0 0] 25) | with_reducible refine blk_drew ?_ | with_reducible refine blk_alloc ?_ _)); done)); obtain ⟨⟨bz0, bz1, bf0, bf1⟩, ⟨by0, by1, bg0, bg1⟩, bx0, bx1, bh0, bh1⟩ := nil_facts bk)
               | (obtain ⟨⟨bz0, bz1, bf0, bf1⟩, ⟨by0, by1, bg0, bg1⟩, bx0, bx1, bh0, bh1⟩ := nil_facts (heap_alloc_new w9 (.cells #[.slice none 0 0, .slice none 0 0] 25)); obtain ⟨⟨cz0, cz1, cf0, cf1⟩, ⟨cy0, cy1, cg0, cg1⟩, ck0, ck1, ch0, ch1⟩ := nil_facts (show (w9.drew.alloc (.cells #[.slice none 0 0, .slice none 0 0] 25)).heap[w9.heap.size]? = some (.cells #[.slice none 0 0, .slice none 0 0] 25 (0, 0)) from heap_alloc_new w9.drew _))))
           all_goals
            first
             | (have HFin := Aside0.mk (at_put (w7 := w7) (by repeat (first | exact Below.refl _ _ | apply pw_below_drewN | apply below_drew1 | apply below_drew | apply below_alloc)) hb9 bk (by omega) hri hrw); clear hri hrw hb9 bk; go_wp2_with fail; go_meet; exact ⟨_, _, _, _, _, rfl, rfl, rfl, ⟨HFin.out.1⟩, ⟨HQ7.out.below HFin.out.2⟩, ⟨HB7.out.trans (HFin.out.2.mono HB7.out.size)⟩⟩)
             | (have HFin := Aside0.mk (at_new (w7 := w7) (by repeat (first | exact Below.refl _ _ | apply pw_below_drewN | apply below_drew1 | apply below_drew | apply below_alloc)) hb9 hri hrw); clear hri hrw hb9; go_wp2_with fail; go_meet; exact ⟨_, _, _, _, _, rfl, rfl, rfl, ⟨HFin.out.1⟩, ⟨HQ7.out.below HFin.out.2⟩, ⟨HB7.out.trans (HFin.out.2.mono HB7.out.size)⟩⟩)
          case rest =>
           obtain ⟨b, B, cb, Bw, cx, rfl, rfl, rfl, HR9, HQ9, HB9⟩ := hcut
           clear HQ7 HB7 q0 q1'
           obtain ⟨q0, q1'⟩ := HQ9.out.cells
           obtain ⟨r0, r1⟩ := HR9.out.cells
           obtain ⟨ks, hks⟩ := (wsame_ev la lw la lw (by have := HLa.out; omega) (by have := HLa.out; omega)).rounds
           rw [same_iff.2 ⟨rfl, rfl⟩] at hks
           have HSm := Aside0.mk hks
           clear hks
           go_wp2_with fail
           go_at_call 16
           refine (kissgateref07_Same.calls ks B cb la Bw cx lw Ai ci la Aw cw lw _ _ HR9.out.ri HR9.out.ci HR9.out.rw_ HR9.out.cw HQ9.out.ri HQ9.out.ci HQ9.out.rw_ HQ9.out.cw HSm.out).mono ?_
           rintro e w10 ⟨rfl, ⟨⟨nd, hnd⟩⟩⟩
           subst hnd
           go_wp2_with fail
           go_ret
           exact ⟨rfl, pw_below_drewN HB9.out nd⟩
         ·
          have hlt : m < l1.length := by omega
          obtain ⟨ad, e, hx0, hx1, hx2, hx3⟩ := at_T43 HP4.out.rw_ (m : Int) (by omega) (by omega)
          cases e
          rw [Int.toNat_natCast, rdT_nat] at hx0 hx1 hx2 hx3
          have hlt2 := World.block_lt_of_cell? w4 _ hx0
          replace hx0 := (HN.out.cell hlt2).trans hx0
          replace hx1 := (HN.out.cell (p := ⟨(ad.add (m * 4)).block, (ad.add (m * 4)).off + 1, none⟩) hlt2).trans hx1
          replace hx2 := (HN.out.cell (p := ⟨(ad.add (m * 4)).block, (ad.add (m * 4)).off + 2, none⟩) hlt2).trans hx2
          replace hx3 := (HN.out.cell (p := ⟨(ad.add (m * 4)).block, (ad.add (m * 4)).off + 3, none⟩) hlt2).trans hx3
          have HT := Aside0.mk (ltW_take kind l1 m hlt)
          generalize l1.getD m z43 = x at HT hx0 hx1 hx2 hx3
          have d3 : decide ((m : Int) < (l1.length : Int)) = true := decide_eq_true (by omega)
          have z0 : (0 : Int) ≤ (m : Int) := by omega
          have z1 : (m : Int) < (l1.length : Int) := by omega
          have hw1 := wrap_one m (by have := HL.out; omega)
          obtain ⟨Av, cv, rfl, hcv, _⟩ := HA.out.rw_.reads
          have HA2 := Aside0.mk (HA.out.below (below_alloc (Below.refl _ _) (.cells #[.int .i64 x.f0.f0, .int .i64 x.f0.f1, .int .i64 x.f1, .int .i64 x.f2] 43)))
          have HN2 := Aside0.mk (HN.out.alloc HN.out.size (.cells #[.int .i64 x.f0.f0, .int .i64 x.f0.f1, .int .i64 x.f1, .int .i64 x.f2] 43))
          by_cases hx : x.f0.f0 < kind
          ·
           have d4 : decide (x.f0.f0 < kind) = true := decide_eq_true hx
           rw [if_pos hx] at HT
           have y0 := (blk_cell HA2.out.obj 1).trans rfl
           clear hx hlt2
           go_wp2_with (at_builtin; go_loud (refine Kd.R_append k43 (w0 := w4) w4.heap.size rfl _ _ 23 43 (.agg #[(.int .i64 0), (.int .i64 0), (.int .i64 0), (.int .i64 0)]) 32 rfl Try.underlying23 info43 rfl (by decide) (by decide) (.slice Av (ltW kind (l1.take m)).length cv) (ltW kind (l1.take m)) x [.int .i64 x.f0.f0, .int .i64 x.f0.f1, .int .i64 x.f1, .int .i64 x.f2] (fun _ => True) (fun _ => False) rfl (by simp [Act.eval]) (k43_mkM _ _ _ x) (fun k hk => hk.elim) (fun _ _ => trivial) ?_ ?_ ?_ ?_ ?_))
           ·
            exact HA2.out.rw_
           ·
            exact HN2.out
           ·
            exact HN2.out.size
           ·
            have h1 : (ltW kind (l1.take m)).length ≤ (l1.take m).length := List.length_filter_le _ _
            rw [List.length_take] at h1
            have := HL.out
            omega
           ·
            intro v7 w7 hR7 hb7 hg7 hat7
            obtain ⟨Aw, cw, rfl, hcw, _⟩ := Kd.R_reads hR7
            have hob := blk_grown HA2.out.obj hg7 (Kd.R_ne HA2.out.rw_ HA2.out.obj (by decide))
            have hri7 : RowI w4.heap.size w7 va (ltA kind l0) := Kd.R_over HA2.out.ri HA2.out.rw_ e43_3 hg7
            have zf := blk_frozen hob 1
            have z2 := (blk_cell hob 1).trans rfl
            have HF := Aside0.mk (put_two hob hri7 (show RowW w4.heap.size w7 (.slice Aw (ltW kind (l1.take m) ++ [x]).length cw) (ltW kind (l1.take m) ++ [x]) from hR7) HA2.out.ge hb7)
            rw [List.length_append, List.length_singleton] at HF
            clear hR7 hb7 hg7 hat7 hob hri7
            go_wp2_with fail
            go_roundg q2
            case measure => omega
            case rel => exact ⟨m + 1, _, by first | rw [hw1] | rfl, hlt, by omega, ⟨by rw [HT.out]; exact HF.out.1⟩, ⟨HF.out.2⟩⟩
          ·
           have d4 : decide (x.f0.f0 < kind) = false := decide_eq_false hx
           rw [if_neg hx] at HT
           clear hx hlt2
           go_wp2_with fail
           go_roundg q2
           case measure => omega
           case rel => exact ⟨m + 1, _, by first | rw [hw1] | rfl, hlt, by omega, ⟨by rw [HT.out]; exact HA2.out⟩, HN2⟩
      ·
       have hlt : k < l0.length := by omega
       obtain ⟨ad, e, hx0⟩ := Kd.at_int HP4.out.ri (k : Int) (by omega) (by omega)
       cases e
       rw [Int.toNat_natCast, rd_nat] at hx0
       replace hx0 := (HN.out.cell (World.block_lt_of_cell? w4 _ hx0)).trans hx0
       have HT := Aside0.mk (ltA_take kind l0 k hlt)
       generalize l0.getD k 0 = x at HT hx0
       have d3 : decide ((k : Int) < (l0.length : Int)) = true := decide_eq_true (by omega)
       have z0 : (0 : Int) ≤ (k : Int) := by omega
       have z1 : (k : Int) < (l0.length : Int) := by omega
       have hw1 := wrap_one k (by have := HL.out; omega)
       obtain ⟨Av, cv, rfl, hcv, _⟩ := HA.out.ri.reads
       by_cases hx : x < kind
       ·
        have d4 : decide (x < kind) = true := decide_eq_true hx
        rw [if_pos hx] at HT
        have y0 := (blk_cell HA.out.obj 0).trans rfl
        clear hx
        go_wp2_with (at_builtin; go_loud (refine Kd.R_append (Kd.int .i64) (w0 := w4) w4.heap.size rfl _ _ 22 3 (.int .i64 0) 8 rfl Try.underlying22 info3 rfl (by decide) (by decide) (.slice Av (ltA kind (l0.take k)).length cv) (ltA kind (l0.take k)) x [.int .i64 x] (fun _ => True) (fun _ => False) rfl (by simp [Act.eval]) rfl (fun k hk => hk.elim) (fun _ _ => trivial) ?_ ?_ ?_ ?_ ?_))
        ·
         exact HA.out.ri
        ·
         exact HN.out
        ·
         exact HN.out.size
        ·
         have h1 : (ltA kind (l0.take k)).length ≤ (l0.take k).length := List.length_filter_le _ _
         rw [List.length_take] at h1
         have := HL.out
         omega
        ·
         intro v7 w7 hR7 hb7 hg7 hat7
         obtain ⟨Aw, cw, rfl, hcw, _⟩ := Kd.R_reads hR7
         have hob := blk_grown HA.out.obj hg7 (Kd.R_ne HA.out.ri HA.out.obj (by decide))
         have zf := blk_frozen hob 0
         have z2 := (blk_cell hob 0).trans rfl
         have HF := Aside0.mk (put_one hob (show RowI w4.heap.size w7 (.slice Aw (ltA kind (l0.take k) ++ [x]).length cw) (ltA kind (l0.take k) ++ [x]) from hR7) (RowW.nil _ _) HA.out.ge hb7)
         rw [List.length_append, List.length_singleton] at HF
         clear hR7 hb7 hg7 hat7 hob
         go_wp2_with fail
         go_roundg q1
         case measure => omega
         case rel => exact ⟨k + 1, _, by first | rw [hw1] | rfl, hlt, by omega, ⟨by rw [HT.out]; exact HF.out.1⟩, ⟨HF.out.2⟩⟩
       ·
        have d4 : decide (x < kind) = false := decide_eq_false hx
        rw [if_neg hx] at HT
        clear hx
        go_wp2_with fail
        go_roundg q1
        case measure => omega
        case rel => exact ⟨k + 1, _, by first | rw [hw1] | rfl, hlt, by omega, ⟨by rw [HT.out]; exact HA.out⟩, HN⟩
   ·
    by_cases h1 : kind < 1
    ·
     have d1 : decide (kind < 1) = true := decide_eq_true h1
     go_wp2_with fail
     go_ret
     exact ⟨rfl, HB4.out⟩
    ·
     have d1 : decide (kind < 1) = false := decide_eq_false h1
     have d2 : decide (kind > 3) = true := decide_eq_true (by omega)
     have d3 : decide (3 < kind) = true := decide_eq_true (by omega)
     go_wp2_with fail
     go_ret
     exact ⟨rfl, HB4.out⟩
end Go.Proofs.Ytlfcpobnkojcbaa.Pm
