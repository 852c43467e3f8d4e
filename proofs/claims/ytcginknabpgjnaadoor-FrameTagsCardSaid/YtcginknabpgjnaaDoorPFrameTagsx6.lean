-- Written by a program of this session (see NOTES.md), which reads the translation's print; Lean checks it.
import Derived.Test.YtcginknabpgjnaaDoorPFrameTagsx0
import Derived.Test.YtcginknabpgjnaaDoorPFrameTagsx1
import Derived.Test.YtcginknabpgjnaaDoorPFrameTagsx3
import Derived.Test.YtcginknabpgjnaaDoorPFrameTagsx4
import Derived.Test.YtcginknabpgjnaaDoorPFrameTagsx5
namespace Go.Proofs.YtcginknabpgjnaaDoor.PFrameTags
open Go.RowKit Go.Proofs.YtcginknabpgjnaaDoorW.PrintWords Go.Proofs.YtcginknabpgjnaaDoorW.PrintLast Go.Proofs.YtcginknabpgjnaaDoorW.PrintMore
attribute [local go_sem] max2_int min2_int max_two min_two max_three min_three max_four min_four   -- for this text's walks alone
set_option linter.unusedVariables false
set_option linter.unusedSimpArgs false

attribute [local go_sem high] eqA23
/-! ### frame_Read: function 12 -/
/-- What stands behind a frame's head. -/
def frame_Read.rest (k : Nat) (s : RS) (dst src : Int) (o : Option Int) (type : Int) : Option (Int × Int × Bool × Int × Int × Int × ByteArray × Int) :=
  (octet_Reader_Left.f s.1 s.2.1 s.2.2).bind fun l => (octet_Reader_Raw.f l.2.1 l.2.2.1 l.2.2.2 l.1).bind fun d => (octet_Reader_End.f d.2.1 d.2.2.1 d.2.2.2).bind fun e =>
  if (e.1 != 0) = true then some (0, 0, false, 0, 0, 0, ⟨#[]⟩, 4) else
  (frame_Good.f k dst src (tgOf false o) (vidOf 0 o) (prioOf 0 o) type d.1).bind fun gd =>
  if gd = true then some (dst, src, (tgOf false o), (vidOf 0 o), (prioOf 0 o), type, d.1, 0) else some (0, 0, false, 0, 0, 0, ⟨#[]⟩, 4)
def frame_Read.f (k : Nat) (a0 : ByteArray) : Option (Int × Int × Bool × Int × Int × Int × ByteArray × Int) :=
  (check_Strip.f a0).bind fun b => if b.2 = true then
    (octet_Open.f b.1).bind fun r => (octet_Reader_Get.f k r.1 r.2.1 r.2.2 6).bind fun d => (octet_Reader_Get.f k d.2.1 d.2.2.1 d.2.2.2 6).bind fun s => (frame_tag.g k s.2).bind fun t => (addr_Length.f t.1).bind fun ln =>
    if ln = true then
      (octet_Reader_Left.f t.2.1.1 t.2.1.2.1 t.2.1.2.2).bind fun l => if (t.1 != l.1) = true then (octet_Reader_Fail.f l.2.1 l.2.2.1 l.2.2.2).bind fun q => frame_Read.rest k q d.1 s.1 t.2.2 0 else
      (octet_Reader_Raw.f l.2.1 l.2.2.1 l.2.2.2 3).bind fun x => if (x.1.toList != [66, 66, 3]) = true then (octet_Reader_Fail.f x.2.1 x.2.2.1 x.2.2.2).bind fun q => frame_Read.rest k q d.1 s.1 t.2.2 0 else frame_Read.rest k x.2 d.1 s.1 t.2.2 0
    else frame_Read.rest k t.2.1 d.1 s.1 t.2.2 t.1
  else some (0, 0, false, 0, 0, 0, ⟨#[]⟩, 4)
theorem frame_tag.mono (s : RS) (k : Nat) : LeO (frame_tag.g k s) (frame_tag.g (k + 1) s) := by
  unfold frame_tag.g
  repeat' first | (with_reducible exact LeO.refl _) | (with_reducible exact octet_Reader_Get.mono _ _ _ _ _) | (with_reducible refine LeO.ite ?_ ?_) | (with_reducible refine LeO.bind ?_ (fun _ => ?_))
theorem frame_Read.rest_mono (s : RS) (dst src : Int) (o : Option Int) (type : Int) (k : Nat) : LeO (frame_Read.rest k s dst src o type) (frame_Read.rest (k + 1) s dst src o type) := by
  unfold frame_Read.rest
  repeat' first | (with_reducible exact LeO.refl _) | (with_reducible exact frame_Good.mono _ _ _ _ _ _ _ _) | (with_reducible refine LeO.ite ?_ ?_) | (with_reducible refine LeO.bind ?_ (fun _ => ?_))
theorem frame_Read.mono : ∀ a0 k, LeO (frame_Read.f k a0) (frame_Read.f (k + 1) a0) := by
  intro a0 k
  unfold frame_Read.f
  repeat' first | (with_reducible exact LeO.refl _) | (with_reducible exact octet_Reader_Get.mono _ _ _ _ _) | (with_reducible exact frame_tag.mono _ _) | (with_reducible exact frame_Read.rest_mono _ _ _ _ _ _) | (with_reducible refine LeO.ite ?_ ?_) | (with_reducible refine LeO.bind ?_ (fun _ => ?_))
theorem FB.new (w : World) : FB (w.alloc (.cells #[.int .i64 0, .int .i64 0, .bool false, .int .i64 0, .int .i64 0, .int .i64 0, .string ⟨#[]⟩] 23)) w.heap.size 0 0 false 0 0 0 ⟨#[]⟩ := by unfold FB; simpa using heap_alloc_new w _
theorem FB.alloc {w : World} {g : Nat} {dst src : Int} {tg : Bool} {vid prio type : Int} {data : ByteArray} (h : FB w g dst src tg vid prio type data) (o : Obj) : FB (w.alloc o) g dst src tg vid prio type data := blk_alloc h o
theorem FB.lt {w : World} {g : Nat} {dst src : Int} {tg : Bool} {vid prio type : Int} {data : ByteArray} (h : FB w g dst src tg vid prio type data) : g < w.heap.size := blk_lt h
theorem FB.keep2 {w w' : World} {g gf gr : Nat} {dst src : Int} {tg : Bool} {vid prio type : Int} {data : ByteArray} (h : FB w gr dst src tg vid prio type data) (hk : Keep2 w w' g gf) (h1 : gr ≠ g) (h2 : gr ≠ gf) : FB w' gr dst src tg vid prio type data := (hk.2 gr h.lt h1 h2).trans h
theorem FB.put {w : World} {g : Nat} {dst src : Int} {tg : Bool} {vid prio type : Int} {data : ByteArray} (h : FB w g dst src tg vid prio type data) (dst' src' : Int) (tg' : Bool) (vid' prio' type' : Int) (data' : ByteArray) :
    FB (((((((w.setCell ⟨g, 0, none⟩ (.int .i64 dst')).setCell ⟨g, 1, none⟩ (.int .i64 src')).setCell ⟨g, 2, none⟩ (.bool tg')).setCell ⟨g, 3, none⟩ (.int .i64 vid')).setCell ⟨g, 4, none⟩ (.int .i64 prio')).setCell ⟨g, 5, none⟩ (.int .i64 type')).setCell ⟨g, 6, none⟩ (.string data')) g dst' src' tg' vid' prio' type' data' :=
  ((((((h.set0 dst').set1 src').set2 tg').set3 vid').set4 prio').set5 type').set6 data'
theorem FB.put_below {B : Nat} {w0 w : World} {g : Nat} (h : Below B w0 w) (hg : B ≤ g) (v0 v1 v2 v3 v4 v5 v6 : Value) :
    Below B w0 (((((((w.setCell ⟨g, 0, none⟩ v0).setCell ⟨g, 1, none⟩ v1).setCell ⟨g, 2, none⟩ v2).setCell ⟨g, 3, none⟩ v3).setCell ⟨g, 4, none⟩ v4).setCell ⟨g, 5, none⟩ v5).setCell ⟨g, 6, none⟩ v6) :=
  ((((((h.setCell hg v0).setCell hg v1).setCell hg v2).setCell hg v3).setCell hg v4).setCell hg v5).setCell hg v6
set_option maxHeartbeats 16000000 in
set_option maxRecDepth 100000 in
theorem frame_Read.calls (k : Nat) (a0 : ByteArray) (r1 : Int) (r2 : Int) (r3 : Bool) (r4 : Int) (r5 : Int) (r6 : Int) (r7 : ByteArray) (r8 : Int) (w : World) (hG : LaidG w) (h : frame_Read.f k a0 = some (r1, r2, r3, r4, r5, r6, r7, r8)) :
    Calls Tryd.prog 12 #[.string a0] w fun e w' => e = .returned (.tuple #[.agg #[.int .i64 r1, .int .i64 r2, .bool r3, .int .i64 r4, .int .i64 r5, .int .i64 r6, .string r7], .int .i64 r8]) ∧ Below w.heap.size w w' := by
  have hu := Tryd.underlying23
  have HG := Aside0.mk hG
  clear hG
  unfold frame_Read.f at h
  obtain ⟨⟨b1, b2⟩, hs, h⟩ := Option.bind_eq_some_iff.mp h
  have HS := Aside0.mk hs
  clear hs
  simp only at h
  have H := Aside0.mk h
  clear h
  go_enter Tryd.func12, Tryd.ntmps12
  go_wp2_with fail
  refine (check_Strip.calls a0 b1 b2 _ (LaidG.far HG.out (below_alloc (Below.refl _ _) _)) HS.out).mono ?_
  rintro e w1 ⟨rfl, hb⟩
  have HB1 := Aside0.mk (below_step (below_alloc (Below.refl w.heap.size w) _) hb)
  have HR1 := Aside0.mk (FB.below (FB.new w) hb)
  obtain ⟨gr, hgr⟩ : ∃ gr, gr = w.heap.size := ⟨_, rfl⟩
  have HGR := Aside0.mk (Nat.le_of_eq hgr.symm)
  rw [← hgr] at HR1 ⊢
  clear hb hgr
  cases b2 with
  | false =>
    have h := H.out
    rw [if_neg (by decide)] at h
    obtain ⟨rfl, rfl, rfl, rfl, rfl, rfl, rfl, rfl⟩ : 0 = r1 ∧ 0 = r2 ∧ false = r3 ∧ 0 = r4 ∧ 0 = r5 ∧ 0 = r6 ∧ (⟨#[]⟩ : ByteArray) = r7 ∧ 4 = r8 := by simpa using h
    clear h H
    obtain ⟨q0, q1, q2, q3, q4, q5, q6⟩ := HR1.out.cells
    have fr := fun i => blk_frozen HR1.out i
    go_wp2
    refine bodyPost_ret (results_ct rfl _ _ gr 23 #[.int .i64 0, .int .i64 0, .bool false, .int .i64 0, .int .i64 0, .int .i64 0, .string ⟨#[]⟩] (0, 0) _ rfl (HR1.out.put 0 0 false 0 0 0 ⟨#[]⟩) hu rfl (by kernel_rfl)) rfl ⟨rfl, FB.put_below HB1.out HGR.out _ _ _ _ _ _ _⟩
  | true =>
    have h := H.out
    rw [if_pos rfl] at h
    obtain ⟨⟨o1, o2, o3⟩, ho, h⟩ := Option.bind_eq_some_iff.mp h
    obtain ⟨⟨d, s1⟩, hd, h⟩ := Option.bind_eq_some_iff.mp h
    obtain ⟨⟨s, s2⟩, hs, h⟩ := Option.bind_eq_some_iff.mp h
    obtain ⟨⟨t, s3, o⟩, ht, h⟩ := Option.bind_eq_some_iff.mp h
    obtain ⟨ln, hl, h⟩ := Option.bind_eq_some_iff.mp h
    have HO := Aside0.mk ho
    have HD := Aside0.mk hd
    have HSs := Aside0.mk hs
    have HT := Aside0.mk ht
    have HL := Aside0.mk hl
    have HH := Aside0.mk h
    clear ho hd hs ht hl h H
    go_wp2_with fail
    refine (octet_Open.calls b1 o1 o2 o3 w _ HB1.out HO.out).mono ?_
    rintro e w2 ⟨g, rfl, hi, hb, hb'⟩
    have HI2 := Aside0.mk hi
    have HB2 := Aside0.mk hb
    have HR2 := Aside0.mk (FB.below HR1.out hb')
    have HN1 := Aside0.mk (Ne.symm (IsS62.ne_blk hi HR2.out (by decide)))
    clear hi hb hb'
    go_wp2_with fail
    have HI3 := Aside0.mk (IsS62.alloc HI2.out (.cells #[.int .i64 0, .int .i64 0, .bool false, .int .i64 0, .int .i64 0, .int .i64 0, .string ⟨#[]⟩] 23))
    have HB3 := Aside0.mk (below_alloc HB2.out (.cells #[.int .i64 0, .int .i64 0, .bool false, .int .i64 0, .int .i64 0, .int .i64 0, .string ⟨#[]⟩] 23))
    have HR3 := Aside0.mk (FB.alloc HR2.out (.cells #[.int .i64 0, .int .i64 0, .bool false, .int .i64 0, .int .i64 0, .int .i64 0, .string ⟨#[]⟩] 23))
    have HF3 := Aside0.mk (FB.new w2)
    have HN2 := Aside0.mk (show w2.heap.size ≠ g from Nat.ne_of_gt (IsS62.lt HI2.out))
    have HN3 := Aside0.mk (show gr ≠ w2.heap.size from Nat.ne_of_lt HR2.out.lt)
    have HGF := Aside0.mk (show w.heap.size ≤ w2.heap.size from HB2.out.size)
    obtain ⟨gf, hgf⟩ : ∃ gf, gf = w2.heap.size := ⟨_, rfl⟩
    obtain ⟨w3, hw3⟩ : ∃ w3, w3 = w2.alloc (.cells #[.int .i64 0, .int .i64 0, .bool false, .int .i64 0, .int .i64 0, .int .i64 0, .string ⟨#[]⟩] 23) := ⟨_, rfl⟩
    rw [← hgf] at HF3 HN2 HN3 HGF
    rw [← hw3] at HI3 HB3 HR3 HF3
    rw [← hw3, ← hgf]
    clear hgf hw3 HI2 HB2 HR2
    refine (octet_Reader_Get.calls k g _ _ _ _ _ _ _ _ w _ HI3.out HB3.out HD.out).mono ?_
    rintro e w4 ⟨rfl, hi, hb, hk⟩
    have HI4 := Aside0.mk hi
    have HB4 := Aside0.mk hb
    have HF4 := Aside0.mk (FB.keep HF3.out hk HN2.out)
    have HR4 := Aside0.mk (FB.keep HR3.out hk HN1.out)
    clear hi hb hk
    have q0 := HF4.out.cells
    obtain ⟨c0, c1, c2, c3, c4, c5, c6⟩ := q0
    have fr := blk_frozen HF4.out 0
    go_wp2_with fail
    clear c0 c1 c2 c3 c4 c5 c6 fr
    have HI5 := Aside0.mk (HI4.out.far (p := ⟨gf, 0, none⟩) (Ne.symm HN2.out) (.int .i64 d))
    have HB5 := Aside0.mk (HB4.out.setCell HGF.out (p := ⟨gf, 0, none⟩) (.int .i64 d))
    have HF5 := Aside0.mk (HF4.out.set0 d)
    have HR5 := Aside0.mk (HR4.out.far (p := ⟨gf, 0, none⟩) HN3.out (.int .i64 d))
    refine (octet_Reader_Get.calls k g _ _ _ _ _ _ _ _ w _ HI5.out HB5.out HSs.out).mono ?_
    rintro e w6 ⟨rfl, hi, hb, hk⟩
    have HI6 := Aside0.mk hi
    have HB6 := Aside0.mk hb
    have HF6 := Aside0.mk (FB.keep HF5.out hk HN2.out)
    have HR6 := Aside0.mk (FB.keep HR5.out hk HN1.out)
    clear hi hb hk
    have q0 := HF6.out.cells
    obtain ⟨c0, c1, c2, c3, c4, c5, c6⟩ := q0
    have fr := blk_frozen HF6.out 1
    go_wp2_with fail
    clear c0 c1 c2 c3 c4 c5 c6 fr
    have HI7 := Aside0.mk (HI6.out.far (p := ⟨gf, 1, none⟩) (Ne.symm HN2.out) (.int .i64 s))
    have HB7 := Aside0.mk (HB6.out.setCell HGF.out (p := ⟨gf, 1, none⟩) (.int .i64 s))
    have HF7 := Aside0.mk (HF6.out.set1 s)
    have HR7 := Aside0.mk (HR6.out.far (p := ⟨gf, 1, none⟩) HN3.out (.int .i64 s))
    refine (frame_tag.walk2 k g gf _ _ _ _ _ _ _ _ _ _ _ w _ HI7.out HB7.out HF7.out HGF.out HN2.out HT.out).mono ?_
    rintro e w8 ⟨rfl, HI8, HB8, HF8, hk⟩
    have HR8 := Aside0.mk (FB.keep2 HR7.out hk.out HN1.out HN3.out)
    clear hk
    go_wp2_with fail
    refine (addr_Length.calls t ln _ HL.out).mono ?_
    rintro e w' ⟨rfl, ⟨nd, rfl⟩⟩
    have HI9 := Aside0.mk (HI8.out.drewN nd)
    have HB9 := Aside0.mk (pw_below_drewN HB8.out nd)
    have HF9 : Aside0 (FB (w8.drewN nd) gf _ _ _ _ _ _ _) := ⟨HF8.out⟩
    have HR9 : Aside0 (FB (w8.drewN nd) gr _ _ _ _ _ _ _) := ⟨HR8.out⟩
    have h := HH.out
    cases ln with
    | false =>
      rw [if_neg (by decide)] at h
      have q0 := HF9.out.cells
      obtain ⟨c0, c1, c2, c3, c4, c5, c6⟩ := q0
      have fr := blk_frozen HF9.out 5
      go_wp2_with fail
      clear c0 c1 c2 c3 c4 c5 c6 fr
      have HI10 := Aside0.mk (HI9.out.far (p := ⟨gf, 5, none⟩) (Ne.symm HN2.out) (.int .i64 t))
      have HB10 := Aside0.mk (HB9.out.setCell HGF.out (p := ⟨gf, 5, none⟩) (.int .i64 t))
      have HF10 := Aside0.mk (HF9.out.set5 t)
      have HR10 := Aside0.mk (HR9.out.far (p := ⟨gf, 5, none⟩) HN3.out (.int .i64 t))
      unfold frame_Read.rest at h
      obtain ⟨⟨l2, u1⟩, hu1, h⟩ := Option.bind_eq_some_iff.mp h
      obtain ⟨⟨da, u2⟩, hu2, h⟩ := Option.bind_eq_some_iff.mp h
      obtain ⟨⟨en, u3⟩, hu3, h⟩ := Option.bind_eq_some_iff.mp h
      have HU1 := Aside0.mk hu1
      have HU2 := Aside0.mk hu2
      have HU3 := Aside0.mk hu3
      clear hu1 hu2 hu3
      refine (octet_Reader_Left.calls g _ _ _ _ _ _ _ w _ HI10.out HB10.out HU1.out).mono ?_
      rintro e w11 ⟨rfl, hi, hb, hk⟩
      have HI11 := Aside0.mk hi
      have HB11 := Aside0.mk hb
      have HF11 := Aside0.mk (FB.keep HF10.out hk HN2.out)
      have HR11 := Aside0.mk (FB.keep HR10.out hk HN1.out)
      clear hi hb hk
      go_wp2_with fail
      refine (octet_Reader_Raw.calls g _ _ _ _ _ _ _ _ w _ HI11.out HB11.out HU2.out).mono ?_
      rintro e w12 ⟨rfl, hi, hb, hk⟩
      have HI12 := Aside0.mk hi
      have HB12 := Aside0.mk hb
      have HF12 := Aside0.mk (FB.keep HF11.out hk HN2.out)
      have HR12 := Aside0.mk (FB.keep HR11.out hk HN1.out)
      clear hi hb hk
      have q0 := HF12.out.cells
      obtain ⟨c0, c1, c2, c3, c4, c5, c6⟩ := q0
      have fr := blk_frozen HF12.out 6
      go_wp2_with fail
      clear c0 c1 c2 c3 c4 c5 c6 fr
      have HI13 := Aside0.mk (HI12.out.far (p := ⟨gf, 6, none⟩) (Ne.symm HN2.out) (.string da))
      have HB13 := Aside0.mk (HB12.out.setCell HGF.out (p := ⟨gf, 6, none⟩) (.string da))
      have HF13 := Aside0.mk (HF12.out.set6 da)
      have HR13 := Aside0.mk (HR12.out.far (p := ⟨gf, 6, none⟩) HN3.out (.string da))
      by_cases ce : (en != 0) = true
      · rw [if_pos ce] at h
        obtain ⟨rfl, rfl, rfl, rfl, rfl, rfl, rfl, rfl⟩ : 0 = r1 ∧ 0 = r2 ∧ false = r3 ∧ 0 = r4 ∧ 0 = r5 ∧ 0 = r6 ∧ (⟨#[]⟩ : ByteArray) = r7 ∧ 4 = r8 := by simpa using h
        clear h
        refine (octet_Reader_End.calls g _ _ _ _ _ _ _ w _ HI13.out HB13.out HU3.out).mono ?_
        rintro e w14 ⟨rfl, hi, hb, hk⟩
        have HI14 := Aside0.mk hi
        have HB14 := Aside0.mk hb
        have HF14 := Aside0.mk (FB.keep HF13.out hk HN2.out)
        have HR14 := Aside0.mk (FB.keep HR13.out hk HN1.out)
        clear hi hb hk
        obtain ⟨q0, q1, q2, q3, q4, q5, q6⟩ := HR14.out.cells
        have fr := fun i => blk_frozen HR14.out i
        go_wp2
        refine bodyPost_ret (results_ct rfl _ _ gr 23 #[.int .i64 0, .int .i64 0, .bool false, .int .i64 0, .int .i64 0, .int .i64 0, .string ⟨#[]⟩] (0, 0) _ rfl (HR14.out.put 0 0 false 0 0 0 ⟨#[]⟩) hu rfl (by kernel_rfl)) rfl ⟨rfl, FB.put_below HB14.out HGR.out _ _ _ _ _ _ _⟩
      · rw [if_neg ce] at h
        have ce : (en != 0) = false := Bool.eq_false_iff.mpr ce
        obtain ⟨gd, hgd, h⟩ := Option.bind_eq_some_iff.mp h
        have HGD := Aside0.mk hgd
        clear hgd
        refine (octet_Reader_End.calls g _ _ _ _ _ _ _ w _ HI13.out HB13.out HU3.out).mono ?_
        rintro e w14 ⟨rfl, hi, hb, hk⟩
        have HI14 := Aside0.mk hi
        have HB14 := Aside0.mk hb
        have HF14 := Aside0.mk (FB.keep HF13.out hk HN2.out)
        have HR14 := Aside0.mk (FB.keep HR13.out hk HN1.out)
        clear hi hb hk
        obtain ⟨c0, c1, c2, c3, c4, c5, c6⟩ := HF14.out.cells
        go_wp2_with fail
        clear c0 c1 c2 c3 c4 c5 c6
        refine (frame_Good.calls k _ _ _ _ _ _ _ gd _ HGD.out).mono ?_
        rintro e w15 ⟨rfl, hb⟩
        have HB15 := Aside0.mk (below_step HB14.out hb)
        have HF15 := Aside0.mk (FB.below HF14.out hb)
        have HR15 := Aside0.mk (FB.below HR14.out hb)
        clear hb
        cases gd with
        | false =>
          rw [if_neg (by decide)] at h
          obtain ⟨rfl, rfl, rfl, rfl, rfl, rfl, rfl, rfl⟩ : 0 = r1 ∧ 0 = r2 ∧ false = r3 ∧ 0 = r4 ∧ 0 = r5 ∧ 0 = r6 ∧ (⟨#[]⟩ : ByteArray) = r7 ∧ 4 = r8 := by simpa using h
          clear h
          obtain ⟨q0, q1, q2, q3, q4, q5, q6⟩ := HR15.out.cells
          have fr := fun i => blk_frozen HR15.out i
          go_wp2
          refine bodyPost_ret (results_ct rfl _ _ gr 23 #[.int .i64 0, .int .i64 0, .bool false, .int .i64 0, .int .i64 0, .int .i64 0, .string ⟨#[]⟩] (0, 0) _ rfl (HR15.out.put 0 0 false 0 0 0 ⟨#[]⟩) hu rfl (by kernel_rfl)) rfl ⟨rfl, FB.put_below HB15.out HGR.out _ _ _ _ _ _ _⟩
        | true =>
          rw [if_pos rfl] at h
          simp only [Option.some.injEq, Prod.mk.injEq] at h
          obtain ⟨rfl, rfl, rfl, rfl, rfl, rfl, rfl, rfl⟩ := h
          obtain ⟨q0, q1, q2, q3, q4, q5, q6⟩ := HR15.out.cells
          obtain ⟨c0, c1, c2, c3, c4, c5, c6⟩ := HF15.out.cells
          have fr := fun i => blk_frozen HR15.out i
          go_wp2
          refine bodyPost_ret (results_ct rfl _ _ gr 23 _ (0, 0) _ rfl (HR15.out.put _ _ _ _ _ _ _) hu rfl (by kernel_rfl)) rfl ⟨rfl, FB.put_below HB15.out HGR.out _ _ _ _ _ _ _⟩
    | true =>
      rw [if_pos rfl] at h
      obtain ⟨⟨l, v1⟩, hv1, h⟩ := Option.bind_eq_some_iff.mp h
      have HV1 := Aside0.mk hv1
      clear hv1
      go_wp2_with fail
      refine (octet_Reader_Left.calls g _ _ _ _ _ _ _ w _ HI9.out HB9.out HV1.out).mono ?_
      rintro e w10 ⟨rfl, hi, hb, hk⟩
      have HI10 := Aside0.mk hi
      have HB10 := Aside0.mk hb
      have HF10 := Aside0.mk (FB.keep HF9.out hk HN2.out)
      have HR10 := Aside0.mk (FB.keep HR9.out hk HN1.out)
      clear hi hb hk
      by_cases cl : (t != l) = true
      · rw [if_pos cl] at h
        obtain ⟨v2, hv2, h⟩ := Option.bind_eq_some_iff.mp h
        have HV2 := Aside0.mk hv2
        clear hv2
        go_wp2_with fail
        refine (octet_Reader_Fail.calls g _ _ _ _ _ _ w _ HI10.out HB10.out HV2.out).mono ?_
        rintro e w11 ⟨rfl, hi, hb, hk⟩
        have HI11 := Aside0.mk hi
        have HB11 := Aside0.mk hb
        have HF11 := Aside0.mk (FB.keep HF10.out hk HN2.out)
        have HR11 := Aside0.mk (FB.keep HR10.out hk HN1.out)
        clear hi hb hk
        go_wp2_with fail
        unfold frame_Read.rest at h
        obtain ⟨⟨l2, u1⟩, hu1, h⟩ := Option.bind_eq_some_iff.mp h
        obtain ⟨⟨da, u2⟩, hu2, h⟩ := Option.bind_eq_some_iff.mp h
        obtain ⟨⟨en, u3⟩, hu3, h⟩ := Option.bind_eq_some_iff.mp h
        have HU1 := Aside0.mk hu1
        have HU2 := Aside0.mk hu2
        have HU3 := Aside0.mk hu3
        clear hu1 hu2 hu3
        refine (octet_Reader_Left.calls g _ _ _ _ _ _ _ w _ HI11.out HB11.out HU1.out).mono ?_
        rintro e w12 ⟨rfl, hi, hb, hk⟩
        have HI12 := Aside0.mk hi
        have HB12 := Aside0.mk hb
        have HF12 := Aside0.mk (FB.keep HF11.out hk HN2.out)
        have HR12 := Aside0.mk (FB.keep HR11.out hk HN1.out)
        clear hi hb hk
        go_wp2_with fail
        refine (octet_Reader_Raw.calls g _ _ _ _ _ _ _ _ w _ HI12.out HB12.out HU2.out).mono ?_
        rintro e w13 ⟨rfl, hi, hb, hk⟩
        have HI13 := Aside0.mk hi
        have HB13 := Aside0.mk hb
        have HF13 := Aside0.mk (FB.keep HF12.out hk HN2.out)
        have HR13 := Aside0.mk (FB.keep HR12.out hk HN1.out)
        clear hi hb hk
        have q0 := HF13.out.cells
        obtain ⟨c0, c1, c2, c3, c4, c5, c6⟩ := q0
        have fr := blk_frozen HF13.out 6
        go_wp2_with fail
        clear c0 c1 c2 c3 c4 c5 c6 fr
        have HI14 := Aside0.mk (HI13.out.far (p := ⟨gf, 6, none⟩) (Ne.symm HN2.out) (.string da))
        have HB14 := Aside0.mk (HB13.out.setCell HGF.out (p := ⟨gf, 6, none⟩) (.string da))
        have HF14 := Aside0.mk (HF13.out.set6 da)
        have HR14 := Aside0.mk (HR13.out.far (p := ⟨gf, 6, none⟩) HN3.out (.string da))
        by_cases ce : (en != 0) = true
        · rw [if_pos ce] at h
          obtain ⟨rfl, rfl, rfl, rfl, rfl, rfl, rfl, rfl⟩ : 0 = r1 ∧ 0 = r2 ∧ false = r3 ∧ 0 = r4 ∧ 0 = r5 ∧ 0 = r6 ∧ (⟨#[]⟩ : ByteArray) = r7 ∧ 4 = r8 := by simpa using h
          clear h
          refine (octet_Reader_End.calls g _ _ _ _ _ _ _ w _ HI14.out HB14.out HU3.out).mono ?_
          rintro e w15 ⟨rfl, hi, hb, hk⟩
          have HI15 := Aside0.mk hi
          have HB15 := Aside0.mk hb
          have HF15 := Aside0.mk (FB.keep HF14.out hk HN2.out)
          have HR15 := Aside0.mk (FB.keep HR14.out hk HN1.out)
          clear hi hb hk
          obtain ⟨q0, q1, q2, q3, q4, q5, q6⟩ := HR15.out.cells
          have fr := fun i => blk_frozen HR15.out i
          go_wp2
          refine bodyPost_ret (results_ct rfl _ _ gr 23 #[.int .i64 0, .int .i64 0, .bool false, .int .i64 0, .int .i64 0, .int .i64 0, .string ⟨#[]⟩] (0, 0) _ rfl (HR15.out.put 0 0 false 0 0 0 ⟨#[]⟩) hu rfl (by kernel_rfl)) rfl ⟨rfl, FB.put_below HB15.out HGR.out _ _ _ _ _ _ _⟩
        · rw [if_neg ce] at h
          have ce : (en != 0) = false := Bool.eq_false_iff.mpr ce
          obtain ⟨gd, hgd, h⟩ := Option.bind_eq_some_iff.mp h
          have HGD := Aside0.mk hgd
          clear hgd
          refine (octet_Reader_End.calls g _ _ _ _ _ _ _ w _ HI14.out HB14.out HU3.out).mono ?_
          rintro e w15 ⟨rfl, hi, hb, hk⟩
          have HI15 := Aside0.mk hi
          have HB15 := Aside0.mk hb
          have HF15 := Aside0.mk (FB.keep HF14.out hk HN2.out)
          have HR15 := Aside0.mk (FB.keep HR14.out hk HN1.out)
          clear hi hb hk
          obtain ⟨c0, c1, c2, c3, c4, c5, c6⟩ := HF15.out.cells
          go_wp2_with fail
          clear c0 c1 c2 c3 c4 c5 c6
          refine (frame_Good.calls k _ _ _ _ _ _ _ gd _ HGD.out).mono ?_
          rintro e w16 ⟨rfl, hb⟩
          have HB16 := Aside0.mk (below_step HB15.out hb)
          have HF16 := Aside0.mk (FB.below HF15.out hb)
          have HR16 := Aside0.mk (FB.below HR15.out hb)
          clear hb
          cases gd with
          | false =>
            rw [if_neg (by decide)] at h
            obtain ⟨rfl, rfl, rfl, rfl, rfl, rfl, rfl, rfl⟩ : 0 = r1 ∧ 0 = r2 ∧ false = r3 ∧ 0 = r4 ∧ 0 = r5 ∧ 0 = r6 ∧ (⟨#[]⟩ : ByteArray) = r7 ∧ 4 = r8 := by simpa using h
            clear h
            obtain ⟨q0, q1, q2, q3, q4, q5, q6⟩ := HR16.out.cells
            have fr := fun i => blk_frozen HR16.out i
            go_wp2
            refine bodyPost_ret (results_ct rfl _ _ gr 23 #[.int .i64 0, .int .i64 0, .bool false, .int .i64 0, .int .i64 0, .int .i64 0, .string ⟨#[]⟩] (0, 0) _ rfl (HR16.out.put 0 0 false 0 0 0 ⟨#[]⟩) hu rfl (by kernel_rfl)) rfl ⟨rfl, FB.put_below HB16.out HGR.out _ _ _ _ _ _ _⟩
          | true =>
            rw [if_pos rfl] at h
            simp only [Option.some.injEq, Prod.mk.injEq] at h
            obtain ⟨rfl, rfl, rfl, rfl, rfl, rfl, rfl, rfl⟩ := h
            obtain ⟨q0, q1, q2, q3, q4, q5, q6⟩ := HR16.out.cells
            obtain ⟨c0, c1, c2, c3, c4, c5, c6⟩ := HF16.out.cells
            have fr := fun i => blk_frozen HR16.out i
            go_wp2
            refine bodyPost_ret (results_ct rfl _ _ gr 23 _ (0, 0) _ rfl (HR16.out.put _ _ _ _ _ _ _) hu rfl (by kernel_rfl)) rfl ⟨rfl, FB.put_below HB16.out HGR.out _ _ _ _ _ _ _⟩
      · rw [if_neg cl] at h
        have cl : (t != l) = false := Bool.eq_false_iff.mpr cl
        obtain ⟨⟨x, v2⟩, hv2, h⟩ := Option.bind_eq_some_iff.mp h
        have HV2 := Aside0.mk hv2
        clear hv2
        go_wp2_with fail
        refine (octet_Reader_Raw.calls g _ _ _ _ _ _ _ _ w _ HI10.out HB10.out HV2.out).mono ?_
        rintro e w11 ⟨rfl, hi, hb, hk⟩
        have HI11 := Aside0.mk hi
        have HB11 := Aside0.mk hb
        have HF11 := Aside0.mk (FB.keep HF10.out hk HN2.out)
        have HR11 := Aside0.mk (FB.keep HR10.out hk HN1.out)
        clear hi hb hk
        by_cases cx : (x.toList != [66, 66, 3]) = true
        · rw [if_pos cx] at h
          have cx2 : (x.toList == [66, 66, 3]) = false := by simpa using cx
          obtain ⟨v3, hv3, h⟩ := Option.bind_eq_some_iff.mp h
          have HV3 := Aside0.mk hv3
          clear hv3
          go_wp2_with fail
          refine (octet_Reader_Fail.calls g _ _ _ _ _ _ w _ HI11.out HB11.out HV3.out).mono ?_
          rintro e w12 ⟨rfl, hi, hb, hk⟩
          have HI12 := Aside0.mk hi
          have HB12 := Aside0.mk hb
          have HF12 := Aside0.mk (FB.keep HF11.out hk HN2.out)
          have HR12 := Aside0.mk (FB.keep HR11.out hk HN1.out)
          clear hi hb hk
          go_wp2_with fail
          unfold frame_Read.rest at h
          obtain ⟨⟨l2, u1⟩, hu1, h⟩ := Option.bind_eq_some_iff.mp h
          obtain ⟨⟨da, u2⟩, hu2, h⟩ := Option.bind_eq_some_iff.mp h
          obtain ⟨⟨en, u3⟩, hu3, h⟩ := Option.bind_eq_some_iff.mp h
          have HU1 := Aside0.mk hu1
          have HU2 := Aside0.mk hu2
          have HU3 := Aside0.mk hu3
          clear hu1 hu2 hu3
          refine (octet_Reader_Left.calls g _ _ _ _ _ _ _ w _ HI12.out HB12.out HU1.out).mono ?_
          rintro e w13 ⟨rfl, hi, hb, hk⟩
          have HI13 := Aside0.mk hi
          have HB13 := Aside0.mk hb
          have HF13 := Aside0.mk (FB.keep HF12.out hk HN2.out)
          have HR13 := Aside0.mk (FB.keep HR12.out hk HN1.out)
          clear hi hb hk
          go_wp2_with fail
          refine (octet_Reader_Raw.calls g _ _ _ _ _ _ _ _ w _ HI13.out HB13.out HU2.out).mono ?_
          rintro e w14 ⟨rfl, hi, hb, hk⟩
          have HI14 := Aside0.mk hi
          have HB14 := Aside0.mk hb
          have HF14 := Aside0.mk (FB.keep HF13.out hk HN2.out)
          have HR14 := Aside0.mk (FB.keep HR13.out hk HN1.out)
          clear hi hb hk
          have q0 := HF14.out.cells
          obtain ⟨c0, c1, c2, c3, c4, c5, c6⟩ := q0
          have fr := blk_frozen HF14.out 6
          go_wp2_with fail
          clear c0 c1 c2 c3 c4 c5 c6 fr
          have HI15 := Aside0.mk (HI14.out.far (p := ⟨gf, 6, none⟩) (Ne.symm HN2.out) (.string da))
          have HB15 := Aside0.mk (HB14.out.setCell HGF.out (p := ⟨gf, 6, none⟩) (.string da))
          have HF15 := Aside0.mk (HF14.out.set6 da)
          have HR15 := Aside0.mk (HR14.out.far (p := ⟨gf, 6, none⟩) HN3.out (.string da))
          by_cases ce : (en != 0) = true
          · rw [if_pos ce] at h
            obtain ⟨rfl, rfl, rfl, rfl, rfl, rfl, rfl, rfl⟩ : 0 = r1 ∧ 0 = r2 ∧ false = r3 ∧ 0 = r4 ∧ 0 = r5 ∧ 0 = r6 ∧ (⟨#[]⟩ : ByteArray) = r7 ∧ 4 = r8 := by simpa using h
            clear h
            refine (octet_Reader_End.calls g _ _ _ _ _ _ _ w _ HI15.out HB15.out HU3.out).mono ?_
            rintro e w16 ⟨rfl, hi, hb, hk⟩
            have HI16 := Aside0.mk hi
            have HB16 := Aside0.mk hb
            have HF16 := Aside0.mk (FB.keep HF15.out hk HN2.out)
            have HR16 := Aside0.mk (FB.keep HR15.out hk HN1.out)
            clear hi hb hk
            obtain ⟨q0, q1, q2, q3, q4, q5, q6⟩ := HR16.out.cells
            have fr := fun i => blk_frozen HR16.out i
            go_wp2
            refine bodyPost_ret (results_ct rfl _ _ gr 23 #[.int .i64 0, .int .i64 0, .bool false, .int .i64 0, .int .i64 0, .int .i64 0, .string ⟨#[]⟩] (0, 0) _ rfl (HR16.out.put 0 0 false 0 0 0 ⟨#[]⟩) hu rfl (by kernel_rfl)) rfl ⟨rfl, FB.put_below HB16.out HGR.out _ _ _ _ _ _ _⟩
          · rw [if_neg ce] at h
            have ce : (en != 0) = false := Bool.eq_false_iff.mpr ce
            obtain ⟨gd, hgd, h⟩ := Option.bind_eq_some_iff.mp h
            have HGD := Aside0.mk hgd
            clear hgd
            refine (octet_Reader_End.calls g _ _ _ _ _ _ _ w _ HI15.out HB15.out HU3.out).mono ?_
            rintro e w16 ⟨rfl, hi, hb, hk⟩
            have HI16 := Aside0.mk hi
            have HB16 := Aside0.mk hb
            have HF16 := Aside0.mk (FB.keep HF15.out hk HN2.out)
            have HR16 := Aside0.mk (FB.keep HR15.out hk HN1.out)
            clear hi hb hk
            obtain ⟨c0, c1, c2, c3, c4, c5, c6⟩ := HF16.out.cells
            go_wp2_with fail
            clear c0 c1 c2 c3 c4 c5 c6
            refine (frame_Good.calls k _ _ _ _ _ _ _ gd _ HGD.out).mono ?_
            rintro e w17 ⟨rfl, hb⟩
            have HB17 := Aside0.mk (below_step HB16.out hb)
            have HF17 := Aside0.mk (FB.below HF16.out hb)
            have HR17 := Aside0.mk (FB.below HR16.out hb)
            clear hb
            cases gd with
            | false =>
              rw [if_neg (by decide)] at h
              obtain ⟨rfl, rfl, rfl, rfl, rfl, rfl, rfl, rfl⟩ : 0 = r1 ∧ 0 = r2 ∧ false = r3 ∧ 0 = r4 ∧ 0 = r5 ∧ 0 = r6 ∧ (⟨#[]⟩ : ByteArray) = r7 ∧ 4 = r8 := by simpa using h
              clear h
              obtain ⟨q0, q1, q2, q3, q4, q5, q6⟩ := HR17.out.cells
              have fr := fun i => blk_frozen HR17.out i
              go_wp2
              refine bodyPost_ret (results_ct rfl _ _ gr 23 #[.int .i64 0, .int .i64 0, .bool false, .int .i64 0, .int .i64 0, .int .i64 0, .string ⟨#[]⟩] (0, 0) _ rfl (HR17.out.put 0 0 false 0 0 0 ⟨#[]⟩) hu rfl (by kernel_rfl)) rfl ⟨rfl, FB.put_below HB17.out HGR.out _ _ _ _ _ _ _⟩
            | true =>
              rw [if_pos rfl] at h
              simp only [Option.some.injEq, Prod.mk.injEq] at h
              obtain ⟨rfl, rfl, rfl, rfl, rfl, rfl, rfl, rfl⟩ := h
              obtain ⟨q0, q1, q2, q3, q4, q5, q6⟩ := HR17.out.cells
              obtain ⟨c0, c1, c2, c3, c4, c5, c6⟩ := HF17.out.cells
              have fr := fun i => blk_frozen HR17.out i
              go_wp2
              refine bodyPost_ret (results_ct rfl _ _ gr 23 _ (0, 0) _ rfl (HR17.out.put _ _ _ _ _ _ _) hu rfl (by kernel_rfl)) rfl ⟨rfl, FB.put_below HB17.out HGR.out _ _ _ _ _ _ _⟩
        · rw [if_neg cx] at h
          have cx : (x.toList != [66, 66, 3]) = false := Bool.eq_false_iff.mpr cx
          have cx2 : (x.toList == [66, 66, 3]) = true := by simpa using cx
          go_wp2_with fail
          unfold frame_Read.rest at h
          obtain ⟨⟨l2, u1⟩, hu1, h⟩ := Option.bind_eq_some_iff.mp h
          obtain ⟨⟨da, u2⟩, hu2, h⟩ := Option.bind_eq_some_iff.mp h
          obtain ⟨⟨en, u3⟩, hu3, h⟩ := Option.bind_eq_some_iff.mp h
          have HU1 := Aside0.mk hu1
          have HU2 := Aside0.mk hu2
          have HU3 := Aside0.mk hu3
          clear hu1 hu2 hu3
          refine (octet_Reader_Left.calls g _ _ _ _ _ _ _ w _ HI11.out HB11.out HU1.out).mono ?_
          rintro e w12 ⟨rfl, hi, hb, hk⟩
          have HI12 := Aside0.mk hi
          have HB12 := Aside0.mk hb
          have HF12 := Aside0.mk (FB.keep HF11.out hk HN2.out)
          have HR12 := Aside0.mk (FB.keep HR11.out hk HN1.out)
          clear hi hb hk
          go_wp2_with fail
          refine (octet_Reader_Raw.calls g _ _ _ _ _ _ _ _ w _ HI12.out HB12.out HU2.out).mono ?_
          rintro e w13 ⟨rfl, hi, hb, hk⟩
          have HI13 := Aside0.mk hi
          have HB13 := Aside0.mk hb
          have HF13 := Aside0.mk (FB.keep HF12.out hk HN2.out)
          have HR13 := Aside0.mk (FB.keep HR12.out hk HN1.out)
          clear hi hb hk
          have q0 := HF13.out.cells
          obtain ⟨c0, c1, c2, c3, c4, c5, c6⟩ := q0
          have fr := blk_frozen HF13.out 6
          go_wp2_with fail
          clear c0 c1 c2 c3 c4 c5 c6 fr
          have HI14 := Aside0.mk (HI13.out.far (p := ⟨gf, 6, none⟩) (Ne.symm HN2.out) (.string da))
          have HB14 := Aside0.mk (HB13.out.setCell HGF.out (p := ⟨gf, 6, none⟩) (.string da))
          have HF14 := Aside0.mk (HF13.out.set6 da)
          have HR14 := Aside0.mk (HR13.out.far (p := ⟨gf, 6, none⟩) HN3.out (.string da))
          by_cases ce : (en != 0) = true
          · rw [if_pos ce] at h
            obtain ⟨rfl, rfl, rfl, rfl, rfl, rfl, rfl, rfl⟩ : 0 = r1 ∧ 0 = r2 ∧ false = r3 ∧ 0 = r4 ∧ 0 = r5 ∧ 0 = r6 ∧ (⟨#[]⟩ : ByteArray) = r7 ∧ 4 = r8 := by simpa using h
            clear h
            refine (octet_Reader_End.calls g _ _ _ _ _ _ _ w _ HI14.out HB14.out HU3.out).mono ?_
            rintro e w15 ⟨rfl, hi, hb, hk⟩
            have HI15 := Aside0.mk hi
            have HB15 := Aside0.mk hb
            have HF15 := Aside0.mk (FB.keep HF14.out hk HN2.out)
            have HR15 := Aside0.mk (FB.keep HR14.out hk HN1.out)
            clear hi hb hk
            obtain ⟨q0, q1, q2, q3, q4, q5, q6⟩ := HR15.out.cells
            have fr := fun i => blk_frozen HR15.out i
            go_wp2
            refine bodyPost_ret (results_ct rfl _ _ gr 23 #[.int .i64 0, .int .i64 0, .bool false, .int .i64 0, .int .i64 0, .int .i64 0, .string ⟨#[]⟩] (0, 0) _ rfl (HR15.out.put 0 0 false 0 0 0 ⟨#[]⟩) hu rfl (by kernel_rfl)) rfl ⟨rfl, FB.put_below HB15.out HGR.out _ _ _ _ _ _ _⟩
          · rw [if_neg ce] at h
            have ce : (en != 0) = false := Bool.eq_false_iff.mpr ce
            obtain ⟨gd, hgd, h⟩ := Option.bind_eq_some_iff.mp h
            have HGD := Aside0.mk hgd
            clear hgd
            refine (octet_Reader_End.calls g _ _ _ _ _ _ _ w _ HI14.out HB14.out HU3.out).mono ?_
            rintro e w15 ⟨rfl, hi, hb, hk⟩
            have HI15 := Aside0.mk hi
            have HB15 := Aside0.mk hb
            have HF15 := Aside0.mk (FB.keep HF14.out hk HN2.out)
            have HR15 := Aside0.mk (FB.keep HR14.out hk HN1.out)
            clear hi hb hk
            obtain ⟨c0, c1, c2, c3, c4, c5, c6⟩ := HF15.out.cells
            go_wp2_with fail
            clear c0 c1 c2 c3 c4 c5 c6
            refine (frame_Good.calls k _ _ _ _ _ _ _ gd _ HGD.out).mono ?_
            rintro e w16 ⟨rfl, hb⟩
            have HB16 := Aside0.mk (below_step HB15.out hb)
            have HF16 := Aside0.mk (FB.below HF15.out hb)
            have HR16 := Aside0.mk (FB.below HR15.out hb)
            clear hb
            cases gd with
            | false =>
              rw [if_neg (by decide)] at h
              obtain ⟨rfl, rfl, rfl, rfl, rfl, rfl, rfl, rfl⟩ : 0 = r1 ∧ 0 = r2 ∧ false = r3 ∧ 0 = r4 ∧ 0 = r5 ∧ 0 = r6 ∧ (⟨#[]⟩ : ByteArray) = r7 ∧ 4 = r8 := by simpa using h
              clear h
              obtain ⟨q0, q1, q2, q3, q4, q5, q6⟩ := HR16.out.cells
              have fr := fun i => blk_frozen HR16.out i
              go_wp2
              refine bodyPost_ret (results_ct rfl _ _ gr 23 #[.int .i64 0, .int .i64 0, .bool false, .int .i64 0, .int .i64 0, .int .i64 0, .string ⟨#[]⟩] (0, 0) _ rfl (HR16.out.put 0 0 false 0 0 0 ⟨#[]⟩) hu rfl (by kernel_rfl)) rfl ⟨rfl, FB.put_below HB16.out HGR.out _ _ _ _ _ _ _⟩
            | true =>
              rw [if_pos rfl] at h
              simp only [Option.some.injEq, Prod.mk.injEq] at h
              obtain ⟨rfl, rfl, rfl, rfl, rfl, rfl, rfl, rfl⟩ := h
              obtain ⟨q0, q1, q2, q3, q4, q5, q6⟩ := HR16.out.cells
              obtain ⟨c0, c1, c2, c3, c4, c5, c6⟩ := HF16.out.cells
              have fr := fun i => blk_frozen HR16.out i
              go_wp2
              refine bodyPost_ret (results_ct rfl _ _ gr 23 _ (0, 0) _ rfl (HR16.out.put _ _ _ _ _ _ _) hu rfl (by kernel_rfl)) rfl ⟨rfl, FB.put_below HB16.out HGR.out _ _ _ _ _ _ _⟩


/-! ### kissgatelaw05_alive: function 8 -/
def kissgatelaw05_alive.f (k : Nat)  : Option (Bool) := (frame_Bytes.f k 0 0 false 0 0 2048 (⟨#[]⟩ : ByteArray)).bind fun bt124 => ((frame_Read.f k bt124.1).bind fun bt126 => (if bt124.2 = 0 then (if (bt124.1.size : Int) = 16 then (if bt126.2.2.2.2.2.2.2 = 0 then (some (bt126.1 == 0 && (bt126.2.1 == 0 && (!bt126.2.2.1 && (bt126.2.2.2.1 == 0 && (bt126.2.2.2.2.1 == 0 && (bt126.2.2.2.2.2.1 == 2048 && (bt126.2.2.2.2.2.2.1.toList == ([] : List UInt8))))))))) else (some false)) else (some false)) else (some false)))
theorem kissgatelaw05_alive.mono : ∀ k, LeO (kissgatelaw05_alive.f k ) (kissgatelaw05_alive.f (k + 1) ) := by
  intro  k
  unfold kissgatelaw05_alive.f
  repeat' first
      | (with_reducible exact frame_Bytes.mono _ _ _ _ _ _ _ _)
      | (with_reducible exact frame_Read.mono _ _)
      | (with_reducible exact LeO.refl _)
      | (with_reducible exact LeO.none _)
      | (with_reducible refine LeO.ite ?_ ?_)
      | (with_reducible refine LeO.bind ?_ (fun _ => ?_))
      | exact frame_Bytes.mono _ _ _ _ _ _ _ _
      | exact frame_Read.mono _ _
      | exact LeO.none _
      | refine LeO.ite ?_ ?_
      | refine LeO.bind ?_ (fun _ => ?_)
set_option maxHeartbeats 8000000 in
set_option maxRecDepth 100000 in
theorem kissgatelaw05_alive.calls (k : Nat)  (r : Bool) (w : World) (hG : LaidG w) (h : kissgatelaw05_alive.f k  = some r) :
    Calls Tryd.prog 8 #[] w fun e w' => e = .returned (.bool r) ∧ Below w.heap.size w w' := by
  have hu23 := Tryd.underlying23
  have HB := Aside0.mk (Below.refl w.heap.size w)
  have HG := Aside0.mk hG
  clear hG
  have H : ((frame_Bytes.f k 0 0 false 0 0 2048 (⟨#[]⟩ : ByteArray)).bind fun bt124 => ((frame_Read.f k bt124.1).bind fun bt126 => (if bt124.2 = 0 then (if (bt124.1.size : Int) = 16 then (if bt126.2.2.2.2.2.2.2 = 0 then (some (bt126.1 == 0 && (bt126.2.1 == 0 && (!bt126.2.2.1 && (bt126.2.2.2.1 == 0 && (bt126.2.2.2.2.1 == 0 && (bt126.2.2.2.2.2.1 == 2048 && (bt126.2.2.2.2.2.2.1.toList == ([] : List UInt8))))))))) else (some false)) else (some false)) else (some false)))) = some r := h
  clear h
  replace H := Option.bind_eq_some_iff.mp H
  obtain ⟨⟨t124, t125⟩, A10, H⟩ := H
  replace H : ((frame_Read.f k t124).bind fun bt126 => (if t125 = 0 then (if (t124.size : Int) = 16 then (if bt126.2.2.2.2.2.2.2 = 0 then (some (bt126.1 == 0 && (bt126.2.1 == 0 && (!bt126.2.2.1 && (bt126.2.2.2.1 == 0 && (bt126.2.2.2.2.1 == 0 && (bt126.2.2.2.2.2.1 == 2048 && (bt126.2.2.2.2.2.2.1.toList == ([] : List UInt8))))))))) else (some false)) else (some false)) else (some false))) = some r := H
  have A1 := Aside0.mk A10
  clear A10
  replace H := Option.bind_eq_some_iff.mp H
  obtain ⟨⟨t126, t127, t128, t129, t130, t131, t132, t133⟩, A20, H⟩ := H
  replace H : (if t125 = 0 then (if (t124.size : Int) = 16 then (if t133 = 0 then (some (t126 == 0 && (t127 == 0 && (!t128 && (t129 == 0 && (t130 == 0 && (t131 == 2048 && (t132.toList == ([] : List UInt8))))))))) else (some false)) else (some false)) else (some false)) = some r := H
  have A2 := Aside0.mk A20
  clear A20
  by_cases c3 : t125 = 0
  · rw [if_pos c3] at H
    have c3b0 : (t125 == 0) = true := beq_iff_eq.mpr c3
    have c3b1 : (t125 != 0) = false := bne_eq_false_iff_eq.mpr c3
    clear c3
    by_cases c4 : (t124.size : Int) = 16
    · rw [if_pos c4] at H
      have c4b0 : ((t124.size : Int) == 16) = true := beq_iff_eq.mpr c4
      have c4b1 : ((t124.size : Int) != 16) = false := bne_eq_false_iff_eq.mpr c4
      clear c4
      by_cases c5 : t133 = 0
      · rw [if_pos c5] at H
        have c5b0 : (t133 == 0) = true := beq_iff_eq.mpr c5
        have c5b1 : (t133 != 0) = false := bne_eq_false_iff_eq.mpr c5
        clear c5
        obtain rfl := Option.some.inj H
        go_enter Tryd.func8, Tryd.ntmps8
        go_wp2_with (first | ((with_reducible refine gate_callee (f := 10) rfl ?_); refine goesL_ (some 7) rfl rfl Tryd.func10 (by kernel_rfl) rfl #[.agg #[.int .i64 0, .int .i64 0, .bool false, .int .i64 0, .int .i64 0, .int .i64 2048, .string (⟨#[]⟩ : ByteArray)]] rfl (by (try simp only [List.map_toArray, List.map_cons, List.map_nil]); first | done | rfl | (simp only [List.length_drop, List.length_take]; rfl)) ?_; (with_reducible refine (frame_Bytes.calls k 0 0 false 0 0 2048 (⟨#[]⟩ : ByteArray) t124 t125 _ (LaidG.far HG.out ?side1) A1.out).mono ?_); (case side1 => first | ((repeat (first | (with_reducible first | exact HB.out | apply below_alloc | apply pw_below_drewN | apply below_drew1) | exact HB.out)); done) | ((repeat (first | exact HB.out | exact Below.refl _ _ | apply below_alloc | apply pw_below_drewN | apply below_drew1)); done)); rintro e w6 ⟨rfl, hb⟩; refine ⟨_, rfl, ?_⟩; have n0_ := Aside0.mk (below_step (by repeat (first | (with_reducible first | exact HB.out | apply below_alloc | apply pw_below_drewN | apply below_drew1) | exact HB.out)) hb); clear HB; have HB := n0_; clear n0_; (try clear hb); (try clear hb2); (try clear hk); (try clear hi)) | ((with_reducible refine gate_callee (f := 12) rfl ?_); refine goesL_ (some 12) rfl rfl Tryd.func12 (by kernel_rfl) rfl #[.string t124] rfl (by (try simp only [List.map_toArray, List.map_cons, List.map_nil]); first | done | rfl | (simp only [List.length_drop, List.length_take]; rfl)) ?_; (with_reducible refine (frame_Read.calls k t124 t126 t127 t128 t129 t130 t131 t132 t133 _ (LaidG.far HG.out ?side1) A2.out).mono ?_); (case side1 => first | ((repeat (first | (with_reducible first | exact HB.out | apply below_alloc | apply pw_below_drewN | apply below_drew1) | exact HB.out)); done) | ((repeat (first | exact HB.out | exact Below.refl _ _ | apply below_alloc | apply pw_below_drewN | apply below_drew1)); done)); rintro e w7 ⟨rfl, hb⟩; refine ⟨_, rfl, ?_⟩; have n0_ := Aside0.mk (below_step (by repeat (first | (with_reducible first | exact HB.out | apply below_alloc | apply pw_below_drewN | apply below_drew1) | exact HB.out)) hb); clear HB; have HB := n0_; clear n0_; (try clear hb); (try clear hb2); (try clear hk); (try clear hi)) | ((with_reducible refine gate_dst (N := 3) rfl ?_); (try (refine gate_guard (by rfl) ?_; dsimp only)); refine box_event ?hg (N := 3) ?hd (cs := #[.int .i64 0, .int .i64 0, .bool false, .int .i64 0, .int .i64 0, .int .i64 0, .string (⟨#[]⟩ : ByteArray)]) (t := 23) ?hr ?_; (case hd => rfl); (case hg => rfl); (case hr => first | (go_simp; done) | (go_simp; rfl)); intro gb134 hg w8 hbox hb; have n0_ := Aside0.mk (below_step (by repeat (first | (with_reducible first | exact HB.out | apply below_alloc | apply pw_below_drewN | apply below_drew1) | exact HB.out)) hb); have n1_ := Aside0.mk (hbox); have n2_ := Aside0.mk ((by rw [hg]; exact (below_size (by repeat (first | (with_reducible first | exact HB.out | apply below_alloc | apply pw_below_drewN | apply below_drew1) | exact HB.out))) : w.heap.size ≤ gb134)); have n3_ := Aside0.mk ((by rw [hg]; exact (below_size (by repeat (first | (with_reducible first | exact HB.out | apply below_alloc | apply pw_below_drewN | apply below_drew1) | exact HB.out))) : w.heap.size ≤ gb134)); clear HB; have HB := n0_; have BK134 := n1_; have GW134 := n2_; have GE134 := n3_; clear n0_ n1_ n2_ n3_; clear hb hbox hg; have hcz9_0 : w8.cell? ⟨gb134, 0, none⟩ = some (.int .i64 0) := (blk_cell BK134.out 0).trans rfl; have hcz9_1 : w8.cell? ⟨gb134, 1, none⟩ = some (.int .i64 0) := (blk_cell BK134.out 1).trans rfl; have hcz9_2 : w8.cell? ⟨gb134, 2, none⟩ = some (.bool false) := (blk_cell BK134.out 2).trans rfl; have hcz9_3 : w8.cell? ⟨gb134, 3, none⟩ = some (.int .i64 0) := (blk_cell BK134.out 3).trans rfl; have hcz9_4 : w8.cell? ⟨gb134, 4, none⟩ = some (.int .i64 0) := (blk_cell BK134.out 4).trans rfl; have hcz9_5 : w8.cell? ⟨gb134, 5, none⟩ = some (.int .i64 0) := (blk_cell BK134.out 5).trans rfl; have hcz9_6 : w8.cell? ⟨gb134, 6, none⟩ = some (.string (⟨#[]⟩ : ByteArray)) := (blk_cell BK134.out 6).trans rfl; have hfz9_0 := blk_frozen BK134.out 0; have hfz9_1 := blk_frozen BK134.out 1; have hfz9_2 := blk_frozen BK134.out 2; have hfz9_3 := blk_frozen BK134.out 3; have hfz9_4 := blk_frozen BK134.out 4; have hfz9_5 := blk_frozen BK134.out 5; have hfz9_6 := blk_frozen BK134.out 6))
        go_ret
        exact ⟨by first | rfl | (simp [show ∀ l_ : List UInt8, (l_ == []) = l_.isEmpty from fun l_ => by cases l_ <;> rfl]; done) | (simp [errW_none, errW_some] <;> rfl) | ((repeat rw [Int.tdiv_eq_ediv_of_nonneg (by omega)]); (repeat rw [Int.tmod_eq_emod_of_nonneg (by omega)]); first | rfl | (simp [errW_none, errW_some] <;> rfl)) | (simp [*, errW_none, errW_some] <;> rfl), by repeat (first | (with_reducible first | exact HB.out | apply below_alloc | apply pw_below_drewN | apply below_drew1 | refine below_set ?_ GE134.out) | exact HB.out)⟩
      · rw [if_neg c5] at H
        have c5b0 : (t133 == 0) = false := beq_eq_false_iff_ne.mpr c5
        have c5b1 : (t133 != 0) = true := bne_iff_ne.mpr c5
        obtain rfl := Option.some.inj H
        go_enter Tryd.func8, Tryd.ntmps8
        go_wp2_with (first | ((with_reducible refine gate_callee (f := 10) rfl ?_); refine goesL_ (some 7) rfl rfl Tryd.func10 (by kernel_rfl) rfl #[.agg #[.int .i64 0, .int .i64 0, .bool false, .int .i64 0, .int .i64 0, .int .i64 2048, .string (⟨#[]⟩ : ByteArray)]] rfl (by (try simp only [List.map_toArray, List.map_cons, List.map_nil]); first | done | rfl | (simp only [List.length_drop, List.length_take]; rfl)) ?_; (with_reducible refine (frame_Bytes.calls k 0 0 false 0 0 2048 (⟨#[]⟩ : ByteArray) t124 t125 _ (LaidG.far HG.out ?side1) A1.out).mono ?_); (case side1 => first | ((repeat (first | (with_reducible first | exact HB.out | apply below_alloc | apply pw_below_drewN | apply below_drew1) | exact HB.out)); done) | ((repeat (first | exact HB.out | exact Below.refl _ _ | apply below_alloc | apply pw_below_drewN | apply below_drew1)); done)); rintro e w10 ⟨rfl, hb⟩; refine ⟨_, rfl, ?_⟩; have n0_ := Aside0.mk (below_step (by repeat (first | (with_reducible first | exact HB.out | apply below_alloc | apply pw_below_drewN | apply below_drew1) | exact HB.out)) hb); clear HB; have HB := n0_; clear n0_; (try clear hb); (try clear hb2); (try clear hk); (try clear hi)) | ((with_reducible refine gate_callee (f := 12) rfl ?_); refine goesL_ (some 12) rfl rfl Tryd.func12 (by kernel_rfl) rfl #[.string t124] rfl (by (try simp only [List.map_toArray, List.map_cons, List.map_nil]); first | done | rfl | (simp only [List.length_drop, List.length_take]; rfl)) ?_; (with_reducible refine (frame_Read.calls k t124 t126 t127 t128 t129 t130 t131 t132 t133 _ (LaidG.far HG.out ?side1) A2.out).mono ?_); (case side1 => first | ((repeat (first | (with_reducible first | exact HB.out | apply below_alloc | apply pw_below_drewN | apply below_drew1) | exact HB.out)); done) | ((repeat (first | exact HB.out | exact Below.refl _ _ | apply below_alloc | apply pw_below_drewN | apply below_drew1)); done)); rintro e w11 ⟨rfl, hb⟩; refine ⟨_, rfl, ?_⟩; have n0_ := Aside0.mk (below_step (by repeat (first | (with_reducible first | exact HB.out | apply below_alloc | apply pw_below_drewN | apply below_drew1) | exact HB.out)) hb); clear HB; have HB := n0_; clear n0_; (try clear hb); (try clear hb2); (try clear hk); (try clear hi)) | ((with_reducible refine gate_dst (N := 3) rfl ?_); (try (refine gate_guard (by rfl) ?_; dsimp only)); refine box_event ?hg (N := 3) ?hd (cs := #[.int .i64 0, .int .i64 0, .bool false, .int .i64 0, .int .i64 0, .int .i64 0, .string (⟨#[]⟩ : ByteArray)]) (t := 23) ?hr ?_; (case hd => rfl); (case hg => rfl); (case hr => first | (go_simp; done) | (go_simp; rfl)); intro gb134 hg w12 hbox hb; have n0_ := Aside0.mk (below_step (by repeat (first | (with_reducible first | exact HB.out | apply below_alloc | apply pw_below_drewN | apply below_drew1) | exact HB.out)) hb); have n1_ := Aside0.mk (hbox); have n2_ := Aside0.mk ((by rw [hg]; exact (below_size (by repeat (first | (with_reducible first | exact HB.out | apply below_alloc | apply pw_below_drewN | apply below_drew1) | exact HB.out))) : w.heap.size ≤ gb134)); have n3_ := Aside0.mk ((by rw [hg]; exact (below_size (by repeat (first | (with_reducible first | exact HB.out | apply below_alloc | apply pw_below_drewN | apply below_drew1) | exact HB.out))) : w.heap.size ≤ gb134)); clear HB; have HB := n0_; have BK134 := n1_; have GW134 := n2_; have GE134 := n3_; clear n0_ n1_ n2_ n3_; clear hb hbox hg; have hcz13_0 : w12.cell? ⟨gb134, 0, none⟩ = some (.int .i64 0) := (blk_cell BK134.out 0).trans rfl; have hcz13_1 : w12.cell? ⟨gb134, 1, none⟩ = some (.int .i64 0) := (blk_cell BK134.out 1).trans rfl; have hcz13_2 : w12.cell? ⟨gb134, 2, none⟩ = some (.bool false) := (blk_cell BK134.out 2).trans rfl; have hcz13_3 : w12.cell? ⟨gb134, 3, none⟩ = some (.int .i64 0) := (blk_cell BK134.out 3).trans rfl; have hcz13_4 : w12.cell? ⟨gb134, 4, none⟩ = some (.int .i64 0) := (blk_cell BK134.out 4).trans rfl; have hcz13_5 : w12.cell? ⟨gb134, 5, none⟩ = some (.int .i64 0) := (blk_cell BK134.out 5).trans rfl; have hcz13_6 : w12.cell? ⟨gb134, 6, none⟩ = some (.string (⟨#[]⟩ : ByteArray)) := (blk_cell BK134.out 6).trans rfl; have hfz13_0 := blk_frozen BK134.out 0; have hfz13_1 := blk_frozen BK134.out 1; have hfz13_2 := blk_frozen BK134.out 2; have hfz13_3 := blk_frozen BK134.out 3; have hfz13_4 := blk_frozen BK134.out 4; have hfz13_5 := blk_frozen BK134.out 5; have hfz13_6 := blk_frozen BK134.out 6))
        go_ret
        exact ⟨by first | rfl | (simp [show ∀ l_ : List UInt8, (l_ == []) = l_.isEmpty from fun l_ => by cases l_ <;> rfl]; done) | (simp [errW_none, errW_some] <;> rfl) | ((repeat rw [Int.tdiv_eq_ediv_of_nonneg (by omega)]); (repeat rw [Int.tmod_eq_emod_of_nonneg (by omega)]); first | rfl | (simp [errW_none, errW_some] <;> rfl)) | (simp [*, errW_none, errW_some] <;> rfl), by repeat (first | (with_reducible first | exact HB.out | apply below_alloc | apply pw_below_drewN | apply below_drew1 | refine below_set ?_ GE134.out) | exact HB.out)⟩
    · rw [if_neg c4] at H
      have c4b0 : ((t124.size : Int) == 16) = false := beq_eq_false_iff_ne.mpr c4
      have c4b1 : ((t124.size : Int) != 16) = true := bne_iff_ne.mpr c4
      obtain rfl := Option.some.inj H
      go_enter Tryd.func8, Tryd.ntmps8
      go_wp2_with (first | ((with_reducible refine gate_callee (f := 10) rfl ?_); refine goesL_ (some 7) rfl rfl Tryd.func10 (by kernel_rfl) rfl #[.agg #[.int .i64 0, .int .i64 0, .bool false, .int .i64 0, .int .i64 0, .int .i64 2048, .string (⟨#[]⟩ : ByteArray)]] rfl (by (try simp only [List.map_toArray, List.map_cons, List.map_nil]); first | done | rfl | (simp only [List.length_drop, List.length_take]; rfl)) ?_; (with_reducible refine (frame_Bytes.calls k 0 0 false 0 0 2048 (⟨#[]⟩ : ByteArray) t124 t125 _ (LaidG.far HG.out ?side1) A1.out).mono ?_); (case side1 => first | ((repeat (first | (with_reducible first | exact HB.out | apply below_alloc | apply pw_below_drewN | apply below_drew1) | exact HB.out)); done) | ((repeat (first | exact HB.out | exact Below.refl _ _ | apply below_alloc | apply pw_below_drewN | apply below_drew1)); done)); rintro e w14 ⟨rfl, hb⟩; refine ⟨_, rfl, ?_⟩; have n0_ := Aside0.mk (below_step (by repeat (first | (with_reducible first | exact HB.out | apply below_alloc | apply pw_below_drewN | apply below_drew1) | exact HB.out)) hb); clear HB; have HB := n0_; clear n0_; (try clear hb); (try clear hb2); (try clear hk); (try clear hi)) | ((with_reducible refine gate_callee (f := 12) rfl ?_); refine goesL_ (some 12) rfl rfl Tryd.func12 (by kernel_rfl) rfl #[.string t124] rfl (by (try simp only [List.map_toArray, List.map_cons, List.map_nil]); first | done | rfl | (simp only [List.length_drop, List.length_take]; rfl)) ?_; (with_reducible refine (frame_Read.calls k t124 t126 t127 t128 t129 t130 t131 t132 t133 _ (LaidG.far HG.out ?side1) A2.out).mono ?_); (case side1 => first | ((repeat (first | (with_reducible first | exact HB.out | apply below_alloc | apply pw_below_drewN | apply below_drew1) | exact HB.out)); done) | ((repeat (first | exact HB.out | exact Below.refl _ _ | apply below_alloc | apply pw_below_drewN | apply below_drew1)); done)); rintro e w15 ⟨rfl, hb⟩; refine ⟨_, rfl, ?_⟩; have n0_ := Aside0.mk (below_step (by repeat (first | (with_reducible first | exact HB.out | apply below_alloc | apply pw_below_drewN | apply below_drew1) | exact HB.out)) hb); clear HB; have HB := n0_; clear n0_; (try clear hb); (try clear hb2); (try clear hk); (try clear hi)) | ((with_reducible refine gate_dst (N := 3) rfl ?_); (try (refine gate_guard (by rfl) ?_; dsimp only)); refine box_event ?hg (N := 3) ?hd (cs := #[.int .i64 0, .int .i64 0, .bool false, .int .i64 0, .int .i64 0, .int .i64 0, .string (⟨#[]⟩ : ByteArray)]) (t := 23) ?hr ?_; (case hd => rfl); (case hg => rfl); (case hr => first | (go_simp; done) | (go_simp; rfl)); intro gb134 hg w16 hbox hb; have n0_ := Aside0.mk (below_step (by repeat (first | (with_reducible first | exact HB.out | apply below_alloc | apply pw_below_drewN | apply below_drew1) | exact HB.out)) hb); have n1_ := Aside0.mk (hbox); have n2_ := Aside0.mk ((by rw [hg]; exact (below_size (by repeat (first | (with_reducible first | exact HB.out | apply below_alloc | apply pw_below_drewN | apply below_drew1) | exact HB.out))) : w.heap.size ≤ gb134)); have n3_ := Aside0.mk ((by rw [hg]; exact (below_size (by repeat (first | (with_reducible first | exact HB.out | apply below_alloc | apply pw_below_drewN | apply below_drew1) | exact HB.out))) : w.heap.size ≤ gb134)); clear HB; have HB := n0_; have BK134 := n1_; have GW134 := n2_; have GE134 := n3_; clear n0_ n1_ n2_ n3_; clear hb hbox hg; have hcz17_0 : w16.cell? ⟨gb134, 0, none⟩ = some (.int .i64 0) := (blk_cell BK134.out 0).trans rfl; have hcz17_1 : w16.cell? ⟨gb134, 1, none⟩ = some (.int .i64 0) := (blk_cell BK134.out 1).trans rfl; have hcz17_2 : w16.cell? ⟨gb134, 2, none⟩ = some (.bool false) := (blk_cell BK134.out 2).trans rfl; have hcz17_3 : w16.cell? ⟨gb134, 3, none⟩ = some (.int .i64 0) := (blk_cell BK134.out 3).trans rfl; have hcz17_4 : w16.cell? ⟨gb134, 4, none⟩ = some (.int .i64 0) := (blk_cell BK134.out 4).trans rfl; have hcz17_5 : w16.cell? ⟨gb134, 5, none⟩ = some (.int .i64 0) := (blk_cell BK134.out 5).trans rfl; have hcz17_6 : w16.cell? ⟨gb134, 6, none⟩ = some (.string (⟨#[]⟩ : ByteArray)) := (blk_cell BK134.out 6).trans rfl; have hfz17_0 := blk_frozen BK134.out 0; have hfz17_1 := blk_frozen BK134.out 1; have hfz17_2 := blk_frozen BK134.out 2; have hfz17_3 := blk_frozen BK134.out 3; have hfz17_4 := blk_frozen BK134.out 4; have hfz17_5 := blk_frozen BK134.out 5; have hfz17_6 := blk_frozen BK134.out 6))
      go_ret
      exact ⟨by first | rfl | (simp [show ∀ l_ : List UInt8, (l_ == []) = l_.isEmpty from fun l_ => by cases l_ <;> rfl]; done) | (simp [errW_none, errW_some] <;> rfl) | ((repeat rw [Int.tdiv_eq_ediv_of_nonneg (by omega)]); (repeat rw [Int.tmod_eq_emod_of_nonneg (by omega)]); first | rfl | (simp [errW_none, errW_some] <;> rfl)) | (simp [*, errW_none, errW_some] <;> rfl), by repeat (first | (with_reducible first | exact HB.out | apply below_alloc | apply pw_below_drewN | apply below_drew1 | refine below_set ?_ GE134.out) | exact HB.out)⟩
  · rw [if_neg c3] at H
    have c3b0 : (t125 == 0) = false := beq_eq_false_iff_ne.mpr c3
    have c3b1 : (t125 != 0) = true := bne_iff_ne.mpr c3
    obtain rfl := Option.some.inj H
    go_enter Tryd.func8, Tryd.ntmps8
    go_wp2_with (first | ((with_reducible refine gate_callee (f := 10) rfl ?_); refine goesL_ (some 7) rfl rfl Tryd.func10 (by kernel_rfl) rfl #[.agg #[.int .i64 0, .int .i64 0, .bool false, .int .i64 0, .int .i64 0, .int .i64 2048, .string (⟨#[]⟩ : ByteArray)]] rfl (by (try simp only [List.map_toArray, List.map_cons, List.map_nil]); first | done | rfl | (simp only [List.length_drop, List.length_take]; rfl)) ?_; (with_reducible refine (frame_Bytes.calls k 0 0 false 0 0 2048 (⟨#[]⟩ : ByteArray) t124 t125 _ (LaidG.far HG.out ?side1) A1.out).mono ?_); (case side1 => first | ((repeat (first | (with_reducible first | exact HB.out | apply below_alloc | apply pw_below_drewN | apply below_drew1) | exact HB.out)); done) | ((repeat (first | exact HB.out | exact Below.refl _ _ | apply below_alloc | apply pw_below_drewN | apply below_drew1)); done)); rintro e w18 ⟨rfl, hb⟩; refine ⟨_, rfl, ?_⟩; have n0_ := Aside0.mk (below_step (by repeat (first | (with_reducible first | exact HB.out | apply below_alloc | apply pw_below_drewN | apply below_drew1) | exact HB.out)) hb); clear HB; have HB := n0_; clear n0_; (try clear hb); (try clear hb2); (try clear hk); (try clear hi)) | ((with_reducible refine gate_callee (f := 12) rfl ?_); refine goesL_ (some 12) rfl rfl Tryd.func12 (by kernel_rfl) rfl #[.string t124] rfl (by (try simp only [List.map_toArray, List.map_cons, List.map_nil]); first | done | rfl | (simp only [List.length_drop, List.length_take]; rfl)) ?_; (with_reducible refine (frame_Read.calls k t124 t126 t127 t128 t129 t130 t131 t132 t133 _ (LaidG.far HG.out ?side1) A2.out).mono ?_); (case side1 => first | ((repeat (first | (with_reducible first | exact HB.out | apply below_alloc | apply pw_below_drewN | apply below_drew1) | exact HB.out)); done) | ((repeat (first | exact HB.out | exact Below.refl _ _ | apply below_alloc | apply pw_below_drewN | apply below_drew1)); done)); rintro e w19 ⟨rfl, hb⟩; refine ⟨_, rfl, ?_⟩; have n0_ := Aside0.mk (below_step (by repeat (first | (with_reducible first | exact HB.out | apply below_alloc | apply pw_below_drewN | apply below_drew1) | exact HB.out)) hb); clear HB; have HB := n0_; clear n0_; (try clear hb); (try clear hb2); (try clear hk); (try clear hi)) | ((with_reducible refine gate_dst (N := 3) rfl ?_); (try (refine gate_guard (by rfl) ?_; dsimp only)); refine box_event ?hg (N := 3) ?hd (cs := #[.int .i64 0, .int .i64 0, .bool false, .int .i64 0, .int .i64 0, .int .i64 0, .string (⟨#[]⟩ : ByteArray)]) (t := 23) ?hr ?_; (case hd => rfl); (case hg => rfl); (case hr => first | (go_simp; done) | (go_simp; rfl)); intro gb134 hg w20 hbox hb; have n0_ := Aside0.mk (below_step (by repeat (first | (with_reducible first | exact HB.out | apply below_alloc | apply pw_below_drewN | apply below_drew1) | exact HB.out)) hb); have n1_ := Aside0.mk (hbox); have n2_ := Aside0.mk ((by rw [hg]; exact (below_size (by repeat (first | (with_reducible first | exact HB.out | apply below_alloc | apply pw_below_drewN | apply below_drew1) | exact HB.out))) : w.heap.size ≤ gb134)); have n3_ := Aside0.mk ((by rw [hg]; exact (below_size (by repeat (first | (with_reducible first | exact HB.out | apply below_alloc | apply pw_below_drewN | apply below_drew1) | exact HB.out))) : w.heap.size ≤ gb134)); clear HB; have HB := n0_; have BK134 := n1_; have GW134 := n2_; have GE134 := n3_; clear n0_ n1_ n2_ n3_; clear hb hbox hg; have hcz21_0 : w20.cell? ⟨gb134, 0, none⟩ = some (.int .i64 0) := (blk_cell BK134.out 0).trans rfl; have hcz21_1 : w20.cell? ⟨gb134, 1, none⟩ = some (.int .i64 0) := (blk_cell BK134.out 1).trans rfl; have hcz21_2 : w20.cell? ⟨gb134, 2, none⟩ = some (.bool false) := (blk_cell BK134.out 2).trans rfl; have hcz21_3 : w20.cell? ⟨gb134, 3, none⟩ = some (.int .i64 0) := (blk_cell BK134.out 3).trans rfl; have hcz21_4 : w20.cell? ⟨gb134, 4, none⟩ = some (.int .i64 0) := (blk_cell BK134.out 4).trans rfl; have hcz21_5 : w20.cell? ⟨gb134, 5, none⟩ = some (.int .i64 0) := (blk_cell BK134.out 5).trans rfl; have hcz21_6 : w20.cell? ⟨gb134, 6, none⟩ = some (.string (⟨#[]⟩ : ByteArray)) := (blk_cell BK134.out 6).trans rfl; have hfz21_0 := blk_frozen BK134.out 0; have hfz21_1 := blk_frozen BK134.out 1; have hfz21_2 := blk_frozen BK134.out 2; have hfz21_3 := blk_frozen BK134.out 3; have hfz21_4 := blk_frozen BK134.out 4; have hfz21_5 := blk_frozen BK134.out 5; have hfz21_6 := blk_frozen BK134.out 6))
    go_ret
    exact ⟨by first | rfl | (simp [show ∀ l_ : List UInt8, (l_ == []) = l_.isEmpty from fun l_ => by cases l_ <;> rfl]; done) | (simp [errW_none, errW_some] <;> rfl) | ((repeat rw [Int.tdiv_eq_ediv_of_nonneg (by omega)]); (repeat rw [Int.tmod_eq_emod_of_nonneg (by omega)]); first | rfl | (simp [errW_none, errW_some] <;> rfl)) | (simp [*, errW_none, errW_some] <;> rfl), by repeat (first | (with_reducible first | exact HB.out | apply below_alloc | apply pw_below_drewN | apply below_drew1 | refine below_set ?_ GE134.out) | exact HB.out)⟩

/-! ### kissgateref02_Good: function 16 -/
def kissgateref02_Good.f (a0 : Int) : Option (Bool) := if a0 ≥ 0 then (some (decide (a0 < 281474976710656))) else (some false)
set_option maxHeartbeats 8000000 in
set_option maxRecDepth 100000 in
theorem kissgateref02_Good.calls (a0 : Int) (r : Bool) (w : World) (h : kissgateref02_Good.f a0 = some r) :
    Calls Tryd.prog 16 #[.int .i64 a0] w fun e w' => e = .returned (.bool r) ∧ Drawn0 w w' := by
  have H : (if a0 ≥ 0 then (some (decide (a0 < 281474976710656))) else (some false)) = some r := h
  clear h
  by_cases c2 : a0 ≥ 0
  · rw [if_pos c2] at H
    have c2b0 : decide (0 ≤ a0) = true := decide_eq_true c2
    clear c2
    obtain rfl := Option.some.inj H
    go_enter Tryd.func16, Tryd.ntmps16
    go_wp2
    go_ret
    exact ⟨by first | rfl | (simp; done) | (simp [show ∀ l_ : List UInt8, (l_ != []) = !l_.isEmpty from fun l_ => by cases l_ <;> rfl]; done) | (simp [*]; done), by repeat (first | exact Drawn0.refl _ | apply Drawn0.step)⟩
  · rw [if_neg c2] at H
    have c2b0 : decide (0 ≤ a0) = false := decide_eq_false c2
    clear c2
    obtain rfl := Option.some.inj H
    go_enter Tryd.func16, Tryd.ntmps16
    go_wp2
    go_ret
    exact ⟨by first | rfl | (simp; done) | (simp [show ∀ l_ : List UInt8, (l_ != []) = !l_.isEmpty from fun l_ => by cases l_ <;> rfl]; done) | (simp [*]; done), by repeat (first | exact Drawn0.refl _ | apply Drawn0.step)⟩

/-! ### kissgateref02_Many: function 17 -/
def kissgateref02_Many.f (a0 : Int) : Option (Bool) := (kissgateref02_Good.f a0).bind fun t135 => (if t135 = true then (some ((Int.tmod (wrap64 (Int.tdiv a0 1099511627776)) 2) == 1)) else (some false))
set_option maxHeartbeats 8000000 in
set_option maxRecDepth 100000 in
theorem kissgateref02_Many.calls (a0 : Int) (r : Bool) (w : World) (h : kissgateref02_Many.f a0 = some r) :
    Calls Tryd.prog 17 #[.int .i64 a0] w fun e w' => e = .returned (.bool r) ∧ Drawn0 w w' := by
  have H : ((kissgateref02_Good.f a0).bind fun t135 => (if t135 = true then (some ((Int.tmod (wrap64 (Int.tdiv a0 1099511627776)) 2) == 1)) else (some false))) = some r := h
  clear h
  replace H := Option.bind_eq_some_iff.mp H
  obtain ⟨t135, A20, H⟩ := H
  replace H : (if t135 = true then (some ((Int.tmod (wrap64 (Int.tdiv a0 1099511627776)) 2) == 1)) else (some false)) = some r := H
  have A2 := Aside0.mk A20
  clear A20
  by_cases c3 : t135 = true
  · subst c3
    have H1 : (some ((Int.tmod (wrap64 (Int.tdiv a0 1099511627776)) 2) == 1)) = some r := by rw [if_pos rfl] at H; exact H
    clear H
    have H := H1
    clear H1
    obtain rfl := Option.some.inj H
    go_enter Tryd.func17, Tryd.ntmps17
    go_wp2_with (first | ((with_reducible refine gate_callee (f := 16) rfl ?_); refine goesL_ (some 4) rfl rfl Tryd.func16 (by kernel_rfl) rfl #[.int .i64 a0] rfl (by (try simp only [List.map_toArray, List.map_cons, List.map_nil]); first | done | rfl | (simp only [List.length_drop, List.length_take]; rfl)) ?_; (with_reducible refine (kissgateref02_Good.calls a0 true _ A2.out).mono ?_); rintro e w' ⟨rfl, ⟨nd, rfl⟩⟩; refine ⟨_, rfl, ?_⟩))
    go_ret
    exact ⟨by first | rfl | (simp; done) | (simp [show ∀ l_ : List UInt8, (l_ != []) = !l_.isEmpty from fun l_ => by cases l_ <;> rfl]; done) | (simp [*]; done), by repeat (first | exact Drawn0.refl _ | apply Drawn0.step)⟩
  · replace c3 := Bool.eq_false_iff.mpr c3
    subst c3
    have H1 : (some false) = some r := by rw [if_neg (show ¬ (false = true) by decide)] at H; exact H
    clear H
    have H := H1
    clear H1
    obtain rfl := Option.some.inj H
    go_enter Tryd.func17, Tryd.ntmps17
    go_wp2_with (first | ((with_reducible refine gate_callee (f := 16) rfl ?_); refine goesL_ (some 4) rfl rfl Tryd.func16 (by kernel_rfl) rfl #[.int .i64 a0] rfl (by (try simp only [List.map_toArray, List.map_cons, List.map_nil]); first | done | rfl | (simp only [List.length_drop, List.length_take]; rfl)) ?_; (with_reducible refine (kissgateref02_Good.calls a0 false _ A2.out).mono ?_); rintro e w' ⟨rfl, ⟨nd, rfl⟩⟩; refine ⟨_, rfl, ?_⟩))
    go_ret
    exact ⟨by first | rfl | (simp; done) | (simp [show ∀ l_ : List UInt8, (l_ != []) = !l_.isEmpty from fun l_ => by cases l_ <;> rfl]; done) | (simp [*]; done), by repeat (first | exact Drawn0.refl _ | apply Drawn0.step)⟩

end Go.Proofs.YtcginknabpgjnaaDoor.PFrameTags
