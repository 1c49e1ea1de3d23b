import Derived.Test.YtpeidnkbliafkaaPrint1
import Derived.Test.YtpeidnkbliafkaaPrint2
import Derived.Test.YtpeidnkbliafkaaPrint3
import Derived.Test.YtpeidnkbliafkaaHBnd0
import Derived.Test.YtpeidnkbliafkaaHBnd1
namespace Go.Proofs.Ytpeidnkbliafkaa.Print
open Go.RowKit Go.Proofs.YtpeidnkbliafkaaW.PrintWords Go.Proofs.YtpeidnkbliafkaaW.PrintLast Go.Proofs.YtpeidnkbliafkaaW.PrintMore
attribute [local go_sem] max2_int min2_int max_two min_two max_three min_three max_four min_four
set_option linter.unusedVariables false
set_option linter.unusedSimpArgs false

theorem bound_told.calls (k : Nat) (g : Nat) (s0_0 : ByteArray) (s0_1 : Int) (s0_2 : Bool) (s0_3 : Bool) (a0 a1 b0 b1 at_ r1 r2 r3 r4 r5 r6 : Int) (w0 w : World) (hI : IsS53 w0 w g s0_0 s0_1 s0_2 s0_3) (h : bound_told.f k s0_1 s0_2 a0 a1 b0 b1 at_ = some (r1, r2, r3, r4, r5, r6)) :
    Calls Try.prog 41 #[.pointer (some ⟨g, 0, none⟩), .agg #[.int .i64 a0, .int .i64 a1], .agg #[.int .i64 b0, .int .i64 b1], .int .i64 at_] w fun e w' => e = .returned (.tuple #[.agg #[.int .i64 r1, .int .i64 r2, .int .i64 r3, .int .i64 r4], .int .i64 r5, .int .i64 r6]) ∧ Below w.heap.size w w' := by
  unfold bound_told.f at h
  by_cases c : s0_2 = true
  · rw [if_pos c] at h
    subst c
    simp only [Option.some.injEq, Prod.mk.injEq] at h
    obtain ⟨rfl, rfl, rfl, rfl, rfl, rfl⟩ := h
    exact bound_told_amiss k g s0_0 s0_1 s0_3 a0 a1 b0 b1 at_ w0 w hI
  · rw [if_neg c] at h
    replace c := Bool.eq_false_iff.mpr c
    subst c
    obtain ⟨⟨t1, t2, t3, t4, t5⟩, h0, h⟩ := Option.bind_eq_some_iff.mp h
    by_cases c5 : t5 = 0
    · rw [if_pos c5] at h
      simp only [Option.some.injEq, Prod.mk.injEq] at h
      obtain ⟨rfl, rfl, rfl, rfl, rfl, rfl⟩ := h
      exact bound_told_ok k g s0_0 s0_1 s0_3 a0 a1 b0 b1 at_ _ _ _ _ _ w0 w hI h0 c5
    · rw [if_neg c5] at h
      simp only [Option.some.injEq, Prod.mk.injEq] at h
      obtain ⟨rfl, rfl, rfl, rfl, rfl, rfl⟩ := h
      exact bound_told_err k g s0_0 s0_1 s0_3 a0 a1 b0 b1 at_ _ _ _ _ _ w0 w hI h0 c5

def bound_Read.j1 (k : Nat) (l1 l2 h1 h2 sec : Int) (s : ByteArray) (a : Int) (m o : Bool) : Option (Int × Int × Int × Int × Int × Int) :=
  (bound_reader_sign.f k s a m o (⟨#[41]⟩ : ByteArray)).bind fun t => bound_told.f k t.2.2.1 t.2.2.2.1 l1 l2 h1 h2 sec
def bound_Read.j0 (k : Nat) (l1 l2 : Int) (s : ByteArray) (a : Int) (m o : Bool) : Option (Int × Int × Int × Int × Int × Int) :=
  (bound_reader_sign.f k s a m o (⟨#[44]⟩ : ByteArray)).bind fun t => (bound_reader_word.f t.2.1 t.2.2.1 t.2.2.2.1 t.2.2.2.2 (⟨#[43, 105, 110, 102]⟩ : ByteArray)).bind fun u =>
    if u.1 = true then bound_Read.j1 k l1 l2 0 0 t.2.2.1 u.2.1 u.2.2.1 u.2.2.2.1 u.2.2.2.2
    else (bound_num.f (bound_plain.f k) u.2.1 u.2.2.1 u.2.2.2.1 u.2.2.2.2).bind fun v => bound_Read.j1 k l1 l2 1 v.1 t.2.2.1 v.2.1 v.2.2.1 v.2.2.2.1 v.2.2.2.2
def bound_Read.f (k : Nat) (a0 : ByteArray) : Option (Int × Int × Int × Int × Int × Int) :=
  (bound_reader_sign.f k a0 0 false false (⟨#[40, 91]⟩ : ByteArray)).bind fun t =>
    if t.1 = 40 then (bound_reader_word.f t.2.1 t.2.2.1 t.2.2.2.1 t.2.2.2.2 (⟨#[45, 105, 110, 102]⟩ : ByteArray)).bind fun u => bound_Read.j0 k 0 0 u.2.1 u.2.2.1 (!u.1) u.2.2.2.2
    else (bound_num.f (bound_plain.f k) t.2.1 t.2.2.1 t.2.2.2.1 t.2.2.2.2).bind fun u => bound_Read.j0 k 2 u.1 u.2.1 u.2.2.1 u.2.2.2.1 u.2.2.2.2
set_option maxHeartbeats 8000000 in
set_option maxRecDepth 100000 in
theorem bound_Read_pi (k : Nat) (s : ByteArray) (c1 : Int) (s1 : ByteArray) (a1 : Int) (m1 o1 : Bool) (b2 : Bool) (s2 : ByteArray) (a2 : Int) (m2 o2 : Bool) (c3 : Int) (s3 : ByteArray) (a3 : Int) (m3 o3 : Bool) (s4 : ByteArray) (a4 : Int) (m4 o4 : Bool) (c6 : Int) (s6 : ByteArray) (a6 : Int) (m6 o6 : Bool) (r1 r2 r3 r4 r5 r6 : Int) (w : World) (e1 : bound_reader_sign.f k s 0 false false (⟨#[40, 91]⟩ : ByteArray) = some (c1, s1, a1, m1, o1)) (d1 : c1 = 40) (e2 : bound_reader_word.f s1 a1 m1 o1 (⟨#[45, 105, 110, 102]⟩ : ByteArray) = some (b2, s2, a2, m2, o2)) (e3 : bound_reader_sign.f k s2 a2 (!b2) o2 (⟨#[44]⟩ : ByteArray) = some (c3, s3, a3, m3, o3)) (e4 : bound_reader_word.f s3 a3 m3 o3 (⟨#[43, 105, 110, 102]⟩ : ByteArray) = some (true, s4, a4, m4, o4)) (e6 : bound_reader_sign.f k s4 a4 m4 o4 (⟨#[41]⟩ : ByteArray) = some (c6, s6, a6, m6, o6)) (e7 : bound_told.f k a6 m6 0 0 0 0 a3 = some (r1, r2, r3, r4, r5, r6)) :
    Calls Try.prog 12 #[.string s] w fun e w' => e = .returned (.tuple #[.agg #[.int .i64 r1, .int .i64 r2, .int .i64 r3, .int .i64 r4], .int .i64 r5, .int .i64 r6]) ∧ Below w.heap.size w w' := by
  have E1 := Aside0.mk e1
  have E2 := Aside0.mk e2
  have E3 := Aside0.mk e3
  have E4 := Aside0.mk e4
  have E6 := Aside0.mk e6
  have E7 := Aside0.mk e7
  clear e1 e2 e3 e4 e6 e7
  have d1' : (c1 == 40) = true := beq_iff_eq.2 d1
  clear d1
  have HB := Aside0.mk (Below.refl w.heap.size w)
  have hu23 := Try.underlying23
  have hu27 := Try.underlying27
  have hu53 := Try.underlying53
  go_enter Try.func12, Try.ntmps12
  go_upto_region 4 with (first | ((with_reducible refine gate_dst (N := 2) rfl ?_); refine box_event ?hg (N := 2) ?hd (cs := #[.int .i64 0, .int .i64 0, .int .i64 0, .int .i64 0]) (t := 27) ?hr ?_; (case hd => rfl); (case hg => rfl); (case hr => first | (go_simp; done) | (go_simp; rfl)); intro gr hg w1 hbox hb; have n0_ := Aside0.mk (below_step (by repeat (first | (with_reducible first | exact HB.out | apply below_alloc | apply pw_below_drewN | apply below_drew1) | exact HB.out)) hb); have n1_ := Aside0.mk hbox; have n2_ : Aside0 (w.heap.size ≤ gr) := Aside0.mk (by rw [hg]; exact (below_size (by repeat (first | (with_reducible first | exact HB.out | apply below_alloc | apply pw_below_drewN | apply below_drew1) | exact HB.out)))); clear HB; have HB := n0_; have BKgr := n1_; have GEgr := n2_; clear n0_ n1_ n2_; clear hbox hb hg) | ((with_reducible refine gate_dst (N := 13) rfl ?_); refine box_event ?hg (N := 13) ?hd (cs := #[.string s, .int .i64 0, .bool false, .bool false]) (t := 53) ?hr ?_; (case hd => rfl); (case hg => rfl); (case hr => first | (go_simp; done) | (go_simp; rfl)); intro g hg w2 hbox hb; have n0_ := Aside0.mk (below_step (by repeat (first | (with_reducible first | exact HB.out | apply below_alloc | apply pw_below_drewN | apply below_drew1) | exact HB.out)) hb); have n1_ := Aside0.mk hbox; have n2_ : Aside0 (w.heap.size ≤ g) := Aside0.mk (by rw [hg]; exact (below_size (by repeat (first | (with_reducible first | exact HB.out | apply below_alloc | apply pw_below_drewN | apply below_drew1) | exact HB.out)))); have m0_ := Aside0.mk (blk_below BKgr.out hb); have NE_gr_g : gr ≠ g := (by rw [hg]; exact (Nat.ne_of_lt (blk_lt BKgr.out))); clear HB; have HB := n0_; have BKg := n1_; have GEg := n2_; clear n0_ n1_ n2_; clear BKgr; have BKgr := m0_; clear m0_; clear hbox hb hg) | ((with_reducible refine gate_dst (N := 6) rfl ?_); refine box_event ?hg (N := 6) ?hd (cs := #[.int .i64 0, .int .i64 0]) (t := 23) ?hr ?_; (case hd => rfl); (case hg => rfl); (case hr => first | (go_simp; done) | (go_simp; rfl)); intro gl hg w3 hbox hb; have n0_ := Aside0.mk (below_step (by repeat (first | (with_reducible first | exact HB.out | apply below_alloc | apply pw_below_drewN | apply below_drew1) | exact HB.out)) hb); have n1_ := Aside0.mk hbox; have n2_ : Aside0 (w.heap.size ≤ gl) := Aside0.mk (by rw [hg]; exact (below_size (by repeat (first | (with_reducible first | exact HB.out | apply below_alloc | apply pw_below_drewN | apply below_drew1) | exact HB.out)))); have m0_ := Aside0.mk (blk_below BKgr.out hb); have NE_gr_gl : gr ≠ gl := (by rw [hg]; exact (Nat.ne_of_lt (blk_lt BKgr.out))); have m1_ := Aside0.mk (blk_below BKg.out hb); have NE_g_gl : g ≠ gl := (by rw [hg]; exact (Nat.ne_of_lt (blk_lt BKg.out))); clear HB; have HB := n0_; have BKgl := n1_; have GEgl := n2_; clear n0_ n1_ n2_; clear BKgr; have BKgr := m0_; clear m0_; clear BKg; have BKg := m1_; clear m1_; clear hbox hb hg) | ((with_reducible refine gate_dst (N := 7) rfl ?_); refine box_event ?hg (N := 7) ?hd (cs := #[.int .i64 0, .int .i64 0]) (t := 23) ?hr ?_; (case hd => rfl); (case hg => rfl); (case hr => first | (go_simp; done) | (go_simp; rfl)); intro gh hg w4 hbox hb; have n0_ := Aside0.mk (below_step (by repeat (first | (with_reducible first | exact HB.out | apply below_alloc | apply pw_below_drewN | apply below_drew1) | exact HB.out)) hb); have n1_ := Aside0.mk hbox; have n2_ : Aside0 (w.heap.size ≤ gh) := Aside0.mk (by rw [hg]; exact (below_size (by repeat (first | (with_reducible first | exact HB.out | apply below_alloc | apply pw_below_drewN | apply below_drew1) | exact HB.out)))); have m0_ := Aside0.mk (blk_below BKgr.out hb); have NE_gr_gh : gr ≠ gh := (by rw [hg]; exact (Nat.ne_of_lt (blk_lt BKgr.out))); have m1_ := Aside0.mk (blk_below BKg.out hb); have NE_g_gh : g ≠ gh := (by rw [hg]; exact (Nat.ne_of_lt (blk_lt BKg.out))); have m2_ := Aside0.mk (blk_below BKgl.out hb); have NE_gl_gh : gl ≠ gh := (by rw [hg]; exact (Nat.ne_of_lt (blk_lt BKgl.out))); clear HB; have HB := n0_; have BKgh := n1_; have GEgh := n2_; clear n0_ n1_ n2_; clear BKgr; have BKgr := m0_; clear m0_; clear BKg; have BKg := m1_; clear m1_; clear BKgl; have BKgl := m2_; clear m2_; clear hbox hb hg))
  have HI : Aside0 (IsS53 w w4 g s 0 false false) := Aside0.mk ⟨BKg.out, GEg.out⟩
  have NE_g_gr := NE_gr_g.symm
  clear BKg NE_gr_g
  have hcz_0 := cellS53_0 HI.out.1
  have hcz_1 := cellS53_1 HI.out.1
  have hcz_2 := cellS53_2 HI.out.1
  have hcz_3 := cellS53_3 HI.out.1
  have hfz_0 := blk_frozen HI.out.1 0
  have hfz_1 := blk_frozen HI.out.1 1
  have hfz_2 := blk_frozen HI.out.1 2
  have hfz_3 := blk_frozen HI.out.1 3
  go_upto_region 5 with (first | (go_at_call 37; (with_reducible refine (bound_reader_sign.calls k g s 0 false false (⟨#[40, 91]⟩ : ByteArray) c1 s1 a1 m1 o1 w _ HI.out HB.out E1.out).mono ?_); rintro e w5 ⟨rfl, hi, hb, hk⟩; have m_ := Aside0.mk hi; have n_ := Aside0.mk hb; have bgr_ := Aside0.mk (KeepBut.blk hk BKgr.out NE_g_gr.symm (by simp)); have bgl_ := Aside0.mk (KeepBut.blk hk BKgl.out NE_g_gl.symm (by simp)); have bgh_ := Aside0.mk (KeepBut.blk hk BKgh.out NE_g_gh.symm (by simp)); clear HI HB BKgr BKgl BKgh hcz_0 hcz_1 hcz_2 hcz_3 hfz_0 hfz_1 hfz_2 hfz_3 hi hb hk; have HI := m_; have HB := n_; have BKgr := bgr_; have BKgl := bgl_; have BKgh := bgh_; clear m_ n_ bgr_ bgl_ bgh_))
  have hcz_0 := cellS53_0 HI.out.1
  have hcz_1 := cellS53_1 HI.out.1
  have hcz_2 := cellS53_2 HI.out.1
  have hcz_3 := cellS53_3 HI.out.1
  have hfz_0 := blk_frozen HI.out.1 0
  have hfz_1 := blk_frozen HI.out.1 1
  have hfz_2 := blk_frozen HI.out.1 2
  have hfz_3 := blk_frozen HI.out.1 3
  go_upto_region 7 with (first | (go_at_call 38; (with_reducible refine (bound_reader_word.calls g s1 a1 m1 o1 (⟨#[45, 105, 110, 102]⟩ : ByteArray) b2 s2 a2 m2 o2 w _ HI.out HB.out E2.out).mono ?_); rintro e w6 ⟨rfl, hi, hb, hk⟩; have m_ := Aside0.mk hi; have n_ := Aside0.mk hb; have bgr_ := Aside0.mk (KeepBut.blk hk BKgr.out NE_g_gr.symm (by simp)); have bgl_ := Aside0.mk (KeepBut.blk hk BKgl.out NE_g_gl.symm (by simp)); have bgh_ := Aside0.mk (KeepBut.blk hk BKgh.out NE_g_gh.symm (by simp)); clear HI HB BKgr BKgl BKgh hcz_0 hcz_1 hcz_2 hcz_3 hfz_0 hfz_1 hfz_2 hfz_3 hi hb hk; have HI := m_; have HB := n_; have BKgr := bgr_; have BKgl := bgl_; have BKgh := bgh_; clear m_ n_ bgr_ bgl_ bgh_; have hcz_0 := cellS53_0 HI.out.1; have hcz_1 := cellS53_1 HI.out.1; have hcz_2 := cellS53_2 HI.out.1; have hcz_3 := cellS53_3 HI.out.1; have hfz_0 := blk_frozen HI.out.1 0; have hfz_1 := blk_frozen HI.out.1 1; have hfz_2 := blk_frozen HI.out.1 2; have hfz_3 := blk_frozen HI.out.1 3))
  have m_ := Aside0.mk (IsS53.set_2 HI.out (!b2))
  have n_ := Aside0.mk (below_set (j := 2) (v := .bool (!b2)) HB.out HI.out.2)
  have bgr_ := Aside0.mk (blk_far (p := ⟨g, 2, none⟩) BKgr.out NE_g_gr.symm (.bool (!b2)))
  have bgl_ := Aside0.mk (blk_far (p := ⟨g, 2, none⟩) BKgl.out NE_g_gl.symm (.bool (!b2)))
  have bgh_ := Aside0.mk (blk_far (p := ⟨g, 2, none⟩) BKgh.out NE_g_gh.symm (.bool (!b2)))
  clear HI HB BKgr BKgl BKgh hcz_0 hcz_1 hcz_2 hcz_3 hfz_0 hfz_1 hfz_2 hfz_3
  have HI := m_
  have HB := n_
  have BKgr := bgr_
  have BKgl := bgl_
  have BKgh := bgh_
  clear m_ n_ bgr_ bgl_ bgh_
  generalize w6.setCell ⟨g, 2, none⟩ (.bool (!b2)) = w6' at *
  have hcz_0 := cellS53_0 HI.out.1
  have hcz_1 := cellS53_1 HI.out.1
  have hcz_2 := cellS53_2 HI.out.1
  have hcz_3 := cellS53_3 HI.out.1
  have hfz_0 := blk_frozen HI.out.1 0
  have hfz_1 := blk_frozen HI.out.1 1
  have hfz_2 := blk_frozen HI.out.1 2
  have hfz_3 := blk_frozen HI.out.1 3
  go_upto_region 8 with (first | (go_at_call 37; (with_reducible refine (bound_reader_sign.calls k g s2 a2 (!b2) o2 (⟨#[44]⟩ : ByteArray) c3 s3 a3 m3 o3 w _ HI.out HB.out E3.out).mono ?_); rintro e w7 ⟨rfl, hi, hb, hk⟩; have m_ := Aside0.mk hi; have n_ := Aside0.mk hb; have bgr_ := Aside0.mk (KeepBut.blk hk BKgr.out NE_g_gr.symm (by simp)); have bgl_ := Aside0.mk (KeepBut.blk hk BKgl.out NE_g_gl.symm (by simp)); have bgh_ := Aside0.mk (KeepBut.blk hk BKgh.out NE_g_gh.symm (by simp)); clear HI HB BKgr BKgl BKgh hcz_0 hcz_1 hcz_2 hcz_3 hfz_0 hfz_1 hfz_2 hfz_3 hi hb hk; have HI := m_; have HB := n_; have BKgr := bgr_; have BKgl := bgl_; have BKgh := bgh_; clear m_ n_ bgr_ bgl_ bgh_))
  have hcz_0 := cellS53_0 HI.out.1
  have hcz_1 := cellS53_1 HI.out.1
  have hcz_2 := cellS53_2 HI.out.1
  have hcz_3 := cellS53_3 HI.out.1
  have hfz_0 := blk_frozen HI.out.1 0
  have hfz_1 := blk_frozen HI.out.1 1
  have hfz_2 := blk_frozen HI.out.1 2
  have hfz_3 := blk_frozen HI.out.1 3
  go_upto_region 9 with fail
  go_upto_region 11 with (first | (go_at_call 38; (with_reducible refine (bound_reader_word.calls g s3 a3 m3 o3 (⟨#[43, 105, 110, 102]⟩ : ByteArray) true s4 a4 m4 o4 w _ HI.out HB.out E4.out).mono ?_); rintro e w8 ⟨rfl, hi, hb, hk⟩; have m_ := Aside0.mk hi; have n_ := Aside0.mk hb; have bgr_ := Aside0.mk (KeepBut.blk hk BKgr.out NE_g_gr.symm (by simp)); have bgl_ := Aside0.mk (KeepBut.blk hk BKgl.out NE_g_gl.symm (by simp)); have bgh_ := Aside0.mk (KeepBut.blk hk BKgh.out NE_g_gh.symm (by simp)); clear HI HB BKgr BKgl BKgh hcz_0 hcz_1 hcz_2 hcz_3 hfz_0 hfz_1 hfz_2 hfz_3 hi hb hk; have HI := m_; have HB := n_; have BKgr := bgr_; have BKgl := bgl_; have BKgh := bgh_; clear m_ n_ bgr_ bgl_ bgh_))
  have hcz_0 := cellS53_0 HI.out.1
  have hcz_1 := cellS53_1 HI.out.1
  have hcz_2 := cellS53_2 HI.out.1
  have hcz_3 := cellS53_3 HI.out.1
  have hfz_0 := blk_frozen HI.out.1 0
  have hfz_1 := blk_frozen HI.out.1 1
  have hfz_2 := blk_frozen HI.out.1 2
  have hfz_3 := blk_frozen HI.out.1 3
  go_upto_region 12 with (first | (go_at_call 37; (with_reducible refine (bound_reader_sign.calls k g s4 a4 m4 o4 (⟨#[41]⟩ : ByteArray) c6 s6 a6 m6 o6 w _ HI.out HB.out E6.out).mono ?_); rintro e w10 ⟨rfl, hi, hb, hk⟩; have m_ := Aside0.mk hi; have n_ := Aside0.mk hb; have bgr_ := Aside0.mk (KeepBut.blk hk BKgr.out NE_g_gr.symm (by simp)); have bgl_ := Aside0.mk (KeepBut.blk hk BKgl.out NE_g_gl.symm (by simp)); have bgh_ := Aside0.mk (KeepBut.blk hk BKgh.out NE_g_gh.symm (by simp)); clear HI HB BKgr BKgl BKgh hcz_0 hcz_1 hcz_2 hcz_3 hfz_0 hfz_1 hfz_2 hfz_3 hi hb hk; have HI := m_; have HB := n_; have BKgr := bgr_; have BKgl := bgl_; have BKgh := bgh_; clear m_ n_ bgr_ bgl_ bgh_))
  have hc_gl_0 := (blk_cell BKgl.out 0).trans rfl
  have hc_gl_1 := (blk_cell BKgl.out 1).trans rfl
  have hf_gl_0 := blk_frozen BKgl.out 0
  have hf_gl_1 := blk_frozen BKgl.out 1
  have hc_gh_0 := (blk_cell BKgh.out 0).trans rfl
  have hc_gh_1 := (blk_cell BKgh.out 1).trans rfl
  have hf_gh_0 := blk_frozen BKgh.out 0
  have hf_gh_1 := blk_frozen BKgh.out 1
  go_wp2_with (go_at_call 41; (with_reducible refine (bound_told.calls k g s6 a6 m6 o6 0 0 0 0 a3 r1 r2 r3 r4 r5 r6 w _ HI.out E7.out).mono ?_); rintro e w11 ⟨rfl, hb⟩; have n_ := Aside0.mk (below_step HB.out hb); have b_ := Aside0.mk (blk_below BKgr.out hb); clear HB HI BKgr BKgl BKgh hc_gl_0 hc_gl_1 hc_gh_0 hc_gh_1 hf_gl_0 hf_gl_1 hf_gh_0 hf_gh_1 hb; have HB := n_; have BKgr := b_; clear n_ b_; have hc_gr_0 := (blk_cell BKgr.out 0).trans rfl; have hf_gr_0 := blk_frozen BKgr.out 0; have hc_gr_1 := (blk_cell BKgr.out 1).trans rfl; have hf_gr_1 := blk_frozen BKgr.out 1; have hc_gr_2 := (blk_cell BKgr.out 2).trans rfl; have hf_gr_2 := blk_frozen BKgr.out 2; have hc_gr_3 := (blk_cell BKgr.out 3).trans rfl; have hf_gr_3 := blk_frozen BKgr.out 3)
  refine bodyPost_ret (results_ctt rfl _ _ gr 27 #[.int .i64 r1, .int .i64 r2, .int .i64 r3, .int .i64 r4] (0, 0) _ rfl (by (with_reducible repeat (first | refine blk_drewN ?_ _ | refine blk_drew ?_ | refine blk_alloc ?_ _)); refine blk_put (cs := #[.int .i64 r1, .int .i64 r2, .int .i64 r3, .int .i64 0]) ?_ 3 _ rfl; (with_reducible repeat (first | refine blk_drewN ?_ _ | refine blk_drew ?_ | refine blk_alloc ?_ _)); refine blk_put (cs := #[.int .i64 r1, .int .i64 r2, .int .i64 0, .int .i64 0]) ?_ 2 _ rfl; (with_reducible repeat (first | refine blk_drewN ?_ _ | refine blk_drew ?_ | refine blk_alloc ?_ _)); refine blk_put (cs := #[.int .i64 r1, .int .i64 0, .int .i64 0, .int .i64 0]) ?_ 1 _ rfl; (with_reducible repeat (first | refine blk_drewN ?_ _ | refine blk_drew ?_ | refine blk_alloc ?_ _)); refine blk_put (cs := #[.int .i64 0, .int .i64 0, .int .i64 0, .int .i64 0]) ?_ 0 _ rfl; (with_reducible repeat (first | refine blk_drewN ?_ _ | refine blk_drew ?_ | refine blk_alloc ?_ _)); exact BKgr.out) Try.underlying27 rfl (by kernel_rfl)) rfl ?_
  exact ⟨rfl, by repeat (first | (with_reducible first | exact HB.out | apply below_alloc | apply pw_below_drewN | apply below_drew1 | refine below_set ?_ GEgr.out) | exact HB.out)⟩
set_option maxHeartbeats 8000000 in
set_option maxRecDepth 100000 in
theorem bound_Read_pn (k : Nat) (s : ByteArray) (c1 : Int) (s1 : ByteArray) (a1 : Int) (m1 o1 : Bool) (b2 : Bool) (s2 : ByteArray) (a2 : Int) (m2 o2 : Bool) (c3 : Int) (s3 : ByteArray) (a3 : Int) (m3 o3 : Bool) (s4 : ByteArray) (a4 : Int) (m4 o4 : Bool) (n5 : Int) (s5 : ByteArray) (a5 : Int) (m5 o5 : Bool) (c6 : Int) (s6 : ByteArray) (a6 : Int) (m6 o6 : Bool) (r1 r2 r3 r4 r5 r6 : Int) (w : World) (e1 : bound_reader_sign.f k s 0 false false (⟨#[40, 91]⟩ : ByteArray) = some (c1, s1, a1, m1, o1)) (d1 : c1 = 40) (e2 : bound_reader_word.f s1 a1 m1 o1 (⟨#[45, 105, 110, 102]⟩ : ByteArray) = some (b2, s2, a2, m2, o2)) (e3 : bound_reader_sign.f k s2 a2 (!b2) o2 (⟨#[44]⟩ : ByteArray) = some (c3, s3, a3, m3, o3)) (e4 : bound_reader_word.f s3 a3 m3 o3 (⟨#[43, 105, 110, 102]⟩ : ByteArray) = some (false, s4, a4, m4, o4)) (e5 : bound_num.f (bound_plain.f k) s4 a4 m4 o4 = some (n5, s5, a5, m5, o5)) (e6 : bound_reader_sign.f k s5 a5 m5 o5 (⟨#[41]⟩ : ByteArray) = some (c6, s6, a6, m6, o6)) (e7 : bound_told.f k a6 m6 0 0 1 n5 a3 = some (r1, r2, r3, r4, r5, r6)) :
    Calls Try.prog 12 #[.string s] w fun e w' => e = .returned (.tuple #[.agg #[.int .i64 r1, .int .i64 r2, .int .i64 r3, .int .i64 r4], .int .i64 r5, .int .i64 r6]) ∧ Below w.heap.size w w' := by
  have E1 := Aside0.mk e1
  have E2 := Aside0.mk e2
  have E3 := Aside0.mk e3
  have E4 := Aside0.mk e4
  have E5 := Aside0.mk e5
  have E6 := Aside0.mk e6
  have E7 := Aside0.mk e7
  clear e1 e2 e3 e4 e5 e6 e7
  have d1' : (c1 == 40) = true := beq_iff_eq.2 d1
  clear d1
  have HB := Aside0.mk (Below.refl w.heap.size w)
  have hu23 := Try.underlying23
  have hu27 := Try.underlying27
  have hu53 := Try.underlying53
  go_enter Try.func12, Try.ntmps12
  go_upto_region 4 with (first | ((with_reducible refine gate_dst (N := 2) rfl ?_); refine box_event ?hg (N := 2) ?hd (cs := #[.int .i64 0, .int .i64 0, .int .i64 0, .int .i64 0]) (t := 27) ?hr ?_; (case hd => rfl); (case hg => rfl); (case hr => first | (go_simp; done) | (go_simp; rfl)); intro gr hg w1 hbox hb; have n0_ := Aside0.mk (below_step (by repeat (first | (with_reducible first | exact HB.out | apply below_alloc | apply pw_below_drewN | apply below_drew1) | exact HB.out)) hb); have n1_ := Aside0.mk hbox; have n2_ : Aside0 (w.heap.size ≤ gr) := Aside0.mk (by rw [hg]; exact (below_size (by repeat (first | (with_reducible first | exact HB.out | apply below_alloc | apply pw_below_drewN | apply below_drew1) | exact HB.out)))); clear HB; have HB := n0_; have BKgr := n1_; have GEgr := n2_; clear n0_ n1_ n2_; clear hbox hb hg) | ((with_reducible refine gate_dst (N := 13) rfl ?_); refine box_event ?hg (N := 13) ?hd (cs := #[.string s, .int .i64 0, .bool false, .bool false]) (t := 53) ?hr ?_; (case hd => rfl); (case hg => rfl); (case hr => first | (go_simp; done) | (go_simp; rfl)); intro g hg w2 hbox hb; have n0_ := Aside0.mk (below_step (by repeat (first | (with_reducible first | exact HB.out | apply below_alloc | apply pw_below_drewN | apply below_drew1) | exact HB.out)) hb); have n1_ := Aside0.mk hbox; have n2_ : Aside0 (w.heap.size ≤ g) := Aside0.mk (by rw [hg]; exact (below_size (by repeat (first | (with_reducible first | exact HB.out | apply below_alloc | apply pw_below_drewN | apply below_drew1) | exact HB.out)))); have m0_ := Aside0.mk (blk_below BKgr.out hb); have NE_gr_g : gr ≠ g := (by rw [hg]; exact (Nat.ne_of_lt (blk_lt BKgr.out))); clear HB; have HB := n0_; have BKg := n1_; have GEg := n2_; clear n0_ n1_ n2_; clear BKgr; have BKgr := m0_; clear m0_; clear hbox hb hg) | ((with_reducible refine gate_dst (N := 6) rfl ?_); refine box_event ?hg (N := 6) ?hd (cs := #[.int .i64 0, .int .i64 0]) (t := 23) ?hr ?_; (case hd => rfl); (case hg => rfl); (case hr => first | (go_simp; done) | (go_simp; rfl)); intro gl hg w3 hbox hb; have n0_ := Aside0.mk (below_step (by repeat (first | (with_reducible first | exact HB.out | apply below_alloc | apply pw_below_drewN | apply below_drew1) | exact HB.out)) hb); have n1_ := Aside0.mk hbox; have n2_ : Aside0 (w.heap.size ≤ gl) := Aside0.mk (by rw [hg]; exact (below_size (by repeat (first | (with_reducible first | exact HB.out | apply below_alloc | apply pw_below_drewN | apply below_drew1) | exact HB.out)))); have m0_ := Aside0.mk (blk_below BKgr.out hb); have NE_gr_gl : gr ≠ gl := (by rw [hg]; exact (Nat.ne_of_lt (blk_lt BKgr.out))); have m1_ := Aside0.mk (blk_below BKg.out hb); have NE_g_gl : g ≠ gl := (by rw [hg]; exact (Nat.ne_of_lt (blk_lt BKg.out))); clear HB; have HB := n0_; have BKgl := n1_; have GEgl := n2_; clear n0_ n1_ n2_; clear BKgr; have BKgr := m0_; clear m0_; clear BKg; have BKg := m1_; clear m1_; clear hbox hb hg) | ((with_reducible refine gate_dst (N := 7) rfl ?_); refine box_event ?hg (N := 7) ?hd (cs := #[.int .i64 0, .int .i64 0]) (t := 23) ?hr ?_; (case hd => rfl); (case hg => rfl); (case hr => first | (go_simp; done) | (go_simp; rfl)); intro gh hg w4 hbox hb; have n0_ := Aside0.mk (below_step (by repeat (first | (with_reducible first | exact HB.out | apply below_alloc | apply pw_below_drewN | apply below_drew1) | exact HB.out)) hb); have n1_ := Aside0.mk hbox; have n2_ : Aside0 (w.heap.size ≤ gh) := Aside0.mk (by rw [hg]; exact (below_size (by repeat (first | (with_reducible first | exact HB.out | apply below_alloc | apply pw_below_drewN | apply below_drew1) | exact HB.out)))); have m0_ := Aside0.mk (blk_below BKgr.out hb); have NE_gr_gh : gr ≠ gh := (by rw [hg]; exact (Nat.ne_of_lt (blk_lt BKgr.out))); have m1_ := Aside0.mk (blk_below BKg.out hb); have NE_g_gh : g ≠ gh := (by rw [hg]; exact (Nat.ne_of_lt (blk_lt BKg.out))); have m2_ := Aside0.mk (blk_below BKgl.out hb); have NE_gl_gh : gl ≠ gh := (by rw [hg]; exact (Nat.ne_of_lt (blk_lt BKgl.out))); clear HB; have HB := n0_; have BKgh := n1_; have GEgh := n2_; clear n0_ n1_ n2_; clear BKgr; have BKgr := m0_; clear m0_; clear BKg; have BKg := m1_; clear m1_; clear BKgl; have BKgl := m2_; clear m2_; clear hbox hb hg))
  have HI : Aside0 (IsS53 w w4 g s 0 false false) := Aside0.mk ⟨BKg.out, GEg.out⟩
  have NE_g_gr := NE_gr_g.symm
  clear BKg NE_gr_g
  have hcz_0 := cellS53_0 HI.out.1
  have hcz_1 := cellS53_1 HI.out.1
  have hcz_2 := cellS53_2 HI.out.1
  have hcz_3 := cellS53_3 HI.out.1
  have hfz_0 := blk_frozen HI.out.1 0
  have hfz_1 := blk_frozen HI.out.1 1
  have hfz_2 := blk_frozen HI.out.1 2
  have hfz_3 := blk_frozen HI.out.1 3
  go_upto_region 5 with (first | (go_at_call 37; (with_reducible refine (bound_reader_sign.calls k g s 0 false false (⟨#[40, 91]⟩ : ByteArray) c1 s1 a1 m1 o1 w _ HI.out HB.out E1.out).mono ?_); rintro e w5 ⟨rfl, hi, hb, hk⟩; have m_ := Aside0.mk hi; have n_ := Aside0.mk hb; have bgr_ := Aside0.mk (KeepBut.blk hk BKgr.out NE_g_gr.symm (by simp)); have bgl_ := Aside0.mk (KeepBut.blk hk BKgl.out NE_g_gl.symm (by simp)); have bgh_ := Aside0.mk (KeepBut.blk hk BKgh.out NE_g_gh.symm (by simp)); clear HI HB BKgr BKgl BKgh hcz_0 hcz_1 hcz_2 hcz_3 hfz_0 hfz_1 hfz_2 hfz_3 hi hb hk; have HI := m_; have HB := n_; have BKgr := bgr_; have BKgl := bgl_; have BKgh := bgh_; clear m_ n_ bgr_ bgl_ bgh_))
  have hcz_0 := cellS53_0 HI.out.1
  have hcz_1 := cellS53_1 HI.out.1
  have hcz_2 := cellS53_2 HI.out.1
  have hcz_3 := cellS53_3 HI.out.1
  have hfz_0 := blk_frozen HI.out.1 0
  have hfz_1 := blk_frozen HI.out.1 1
  have hfz_2 := blk_frozen HI.out.1 2
  have hfz_3 := blk_frozen HI.out.1 3
  go_upto_region 7 with (first | (go_at_call 38; (with_reducible refine (bound_reader_word.calls g s1 a1 m1 o1 (⟨#[45, 105, 110, 102]⟩ : ByteArray) b2 s2 a2 m2 o2 w _ HI.out HB.out E2.out).mono ?_); rintro e w6 ⟨rfl, hi, hb, hk⟩; have m_ := Aside0.mk hi; have n_ := Aside0.mk hb; have bgr_ := Aside0.mk (KeepBut.blk hk BKgr.out NE_g_gr.symm (by simp)); have bgl_ := Aside0.mk (KeepBut.blk hk BKgl.out NE_g_gl.symm (by simp)); have bgh_ := Aside0.mk (KeepBut.blk hk BKgh.out NE_g_gh.symm (by simp)); clear HI HB BKgr BKgl BKgh hcz_0 hcz_1 hcz_2 hcz_3 hfz_0 hfz_1 hfz_2 hfz_3 hi hb hk; have HI := m_; have HB := n_; have BKgr := bgr_; have BKgl := bgl_; have BKgh := bgh_; clear m_ n_ bgr_ bgl_ bgh_; have hcz_0 := cellS53_0 HI.out.1; have hcz_1 := cellS53_1 HI.out.1; have hcz_2 := cellS53_2 HI.out.1; have hcz_3 := cellS53_3 HI.out.1; have hfz_0 := blk_frozen HI.out.1 0; have hfz_1 := blk_frozen HI.out.1 1; have hfz_2 := blk_frozen HI.out.1 2; have hfz_3 := blk_frozen HI.out.1 3))
  have m_ := Aside0.mk (IsS53.set_2 HI.out (!b2))
  have n_ := Aside0.mk (below_set (j := 2) (v := .bool (!b2)) HB.out HI.out.2)
  have bgr_ := Aside0.mk (blk_far (p := ⟨g, 2, none⟩) BKgr.out NE_g_gr.symm (.bool (!b2)))
  have bgl_ := Aside0.mk (blk_far (p := ⟨g, 2, none⟩) BKgl.out NE_g_gl.symm (.bool (!b2)))
  have bgh_ := Aside0.mk (blk_far (p := ⟨g, 2, none⟩) BKgh.out NE_g_gh.symm (.bool (!b2)))
  clear HI HB BKgr BKgl BKgh hcz_0 hcz_1 hcz_2 hcz_3 hfz_0 hfz_1 hfz_2 hfz_3
  have HI := m_
  have HB := n_
  have BKgr := bgr_
  have BKgl := bgl_
  have BKgh := bgh_
  clear m_ n_ bgr_ bgl_ bgh_
  generalize w6.setCell ⟨g, 2, none⟩ (.bool (!b2)) = w6' at *
  have hcz_0 := cellS53_0 HI.out.1
  have hcz_1 := cellS53_1 HI.out.1
  have hcz_2 := cellS53_2 HI.out.1
  have hcz_3 := cellS53_3 HI.out.1
  have hfz_0 := blk_frozen HI.out.1 0
  have hfz_1 := blk_frozen HI.out.1 1
  have hfz_2 := blk_frozen HI.out.1 2
  have hfz_3 := blk_frozen HI.out.1 3
  go_upto_region 8 with (first | (go_at_call 37; (with_reducible refine (bound_reader_sign.calls k g s2 a2 (!b2) o2 (⟨#[44]⟩ : ByteArray) c3 s3 a3 m3 o3 w _ HI.out HB.out E3.out).mono ?_); rintro e w7 ⟨rfl, hi, hb, hk⟩; have m_ := Aside0.mk hi; have n_ := Aside0.mk hb; have bgr_ := Aside0.mk (KeepBut.blk hk BKgr.out NE_g_gr.symm (by simp)); have bgl_ := Aside0.mk (KeepBut.blk hk BKgl.out NE_g_gl.symm (by simp)); have bgh_ := Aside0.mk (KeepBut.blk hk BKgh.out NE_g_gh.symm (by simp)); clear HI HB BKgr BKgl BKgh hcz_0 hcz_1 hcz_2 hcz_3 hfz_0 hfz_1 hfz_2 hfz_3 hi hb hk; have HI := m_; have HB := n_; have BKgr := bgr_; have BKgl := bgl_; have BKgh := bgh_; clear m_ n_ bgr_ bgl_ bgh_))
  have hcz_0 := cellS53_0 HI.out.1
  have hcz_1 := cellS53_1 HI.out.1
  have hcz_2 := cellS53_2 HI.out.1
  have hcz_3 := cellS53_3 HI.out.1
  have hfz_0 := blk_frozen HI.out.1 0
  have hfz_1 := blk_frozen HI.out.1 1
  have hfz_2 := blk_frozen HI.out.1 2
  have hfz_3 := blk_frozen HI.out.1 3
  go_upto_region 9 with fail
  go_upto_region 10 with (first | (go_at_call 38; (with_reducible refine (bound_reader_word.calls g s3 a3 m3 o3 (⟨#[43, 105, 110, 102]⟩ : ByteArray) false s4 a4 m4 o4 w _ HI.out HB.out E4.out).mono ?_); rintro e w8 ⟨rfl, hi, hb, hk⟩; have m_ := Aside0.mk hi; have n_ := Aside0.mk hb; have bgr_ := Aside0.mk (KeepBut.blk hk BKgr.out NE_g_gr.symm (by simp)); have bgl_ := Aside0.mk (KeepBut.blk hk BKgl.out NE_g_gl.symm (by simp)); have bgh_ := Aside0.mk (KeepBut.blk hk BKgh.out NE_g_gh.symm (by simp)); clear HI HB BKgr BKgl BKgh hcz_0 hcz_1 hcz_2 hcz_3 hfz_0 hfz_1 hfz_2 hfz_3 hi hb hk; have HI := m_; have HB := n_; have BKgr := bgr_; have BKgl := bgl_; have BKgh := bgh_; clear m_ n_ bgr_ bgl_ bgh_))
  have hcz_0 := cellS53_0 HI.out.1
  have hcz_1 := cellS53_1 HI.out.1
  have hcz_2 := cellS53_2 HI.out.1
  have hcz_3 := cellS53_3 HI.out.1
  have hfz_0 := blk_frozen HI.out.1 0
  have hfz_1 := blk_frozen HI.out.1 1
  have hfz_2 := blk_frozen HI.out.1 2
  have hfz_3 := blk_frozen HI.out.1 3
  go_upto_region 11 with (first | (go_at_call 39; (with_reducible refine (bound_num_plain.calls k g s4 a4 m4 o4 n5 s5 a5 m5 o5 w _ HI.out HB.out E5.out).mono ?_); rintro e w9 ⟨rfl, hi, hb, hk⟩; have m_ := Aside0.mk hi; have n_ := Aside0.mk hb; have bgr_ := Aside0.mk (KeepBut.blk hk BKgr.out NE_g_gr.symm (by simp)); have bgl_ := Aside0.mk (KeepBut.blk hk BKgl.out NE_g_gl.symm (by simp)); have bgh_ := Aside0.mk (KeepBut.blk hk BKgh.out NE_g_gh.symm (by simp)); clear HI HB BKgr BKgl BKgh hcz_0 hcz_1 hcz_2 hcz_3 hfz_0 hfz_1 hfz_2 hfz_3 hi hb hk; have HI := m_; have HB := n_; have BKgr := bgr_; have BKgl := bgl_; have BKgh := bgh_; clear m_ n_ bgr_ bgl_ bgh_; have hc_gh_0 := (blk_cell BKgh.out 0).trans rfl; have hc_gh_1 := (blk_cell BKgh.out 1).trans rfl; have hf_gh_0 := blk_frozen BKgh.out 0; have hf_gh_1 := blk_frozen BKgh.out 1))
  have m_ := Aside0.mk (IsS53.far (p := ⟨gh, 1, none⟩) (IsS53.far (p := ⟨gh, 0, none⟩) HI.out NE_g_gh (.int .i64 1)) NE_g_gh (.int .i64 n5))
  have n_ := Aside0.mk (below_set (j := 1) (v := .int .i64 n5) (below_set (j := 0) (v := .int .i64 1) HB.out GEgh.out) GEgh.out)
  have bgr_ := Aside0.mk (blk_far (p := ⟨gh, 1, none⟩) (blk_far (p := ⟨gh, 0, none⟩) BKgr.out NE_gr_gh (.int .i64 1)) NE_gr_gh (.int .i64 n5))
  have bgl_ := Aside0.mk (blk_far (p := ⟨gh, 1, none⟩) (blk_far (p := ⟨gh, 0, none⟩) BKgl.out NE_gl_gh (.int .i64 1)) NE_gl_gh (.int .i64 n5))
  have bgh_ : Aside0 (((w9.setCell ⟨gh, 0, none⟩ (.int .i64 1)).setCell ⟨gh, 1, none⟩ (.int .i64 n5)).heap[gh]? = some (.cells #[.int .i64 1, .int .i64 n5] 23 (0, 0))) := Aside0.mk (blk_put (blk_put BKgh.out 0 _ rfl) 1 _ rfl)
  clear HI HB BKgr BKgl BKgh
  have HI := m_
  have HB := n_
  have BKgr := bgr_
  have BKgl := bgl_
  have BKgh := bgh_
  clear m_ n_ bgr_ bgl_ bgh_
  clear hc_gh_0 hc_gh_1 hf_gh_0 hf_gh_1
  generalize (w9.setCell ⟨gh, 0, none⟩ (.int .i64 1)).setCell ⟨gh, 1, none⟩ (.int .i64 n5) = w9' at *
  have hcz_0 := cellS53_0 HI.out.1
  have hcz_1 := cellS53_1 HI.out.1
  have hcz_2 := cellS53_2 HI.out.1
  have hcz_3 := cellS53_3 HI.out.1
  have hfz_0 := blk_frozen HI.out.1 0
  have hfz_1 := blk_frozen HI.out.1 1
  have hfz_2 := blk_frozen HI.out.1 2
  have hfz_3 := blk_frozen HI.out.1 3
  go_upto_region 12 with (first | (go_at_call 37; (with_reducible refine (bound_reader_sign.calls k g s5 a5 m5 o5 (⟨#[41]⟩ : ByteArray) c6 s6 a6 m6 o6 w _ HI.out HB.out E6.out).mono ?_); rintro e w10 ⟨rfl, hi, hb, hk⟩; have m_ := Aside0.mk hi; have n_ := Aside0.mk hb; have bgr_ := Aside0.mk (KeepBut.blk hk BKgr.out NE_g_gr.symm (by simp)); have bgl_ := Aside0.mk (KeepBut.blk hk BKgl.out NE_g_gl.symm (by simp)); have bgh_ := Aside0.mk (KeepBut.blk hk BKgh.out NE_g_gh.symm (by simp)); clear HI HB BKgr BKgl BKgh hcz_0 hcz_1 hcz_2 hcz_3 hfz_0 hfz_1 hfz_2 hfz_3 hi hb hk; have HI := m_; have HB := n_; have BKgr := bgr_; have BKgl := bgl_; have BKgh := bgh_; clear m_ n_ bgr_ bgl_ bgh_))
  have hc_gl_0 := (blk_cell BKgl.out 0).trans rfl
  have hc_gl_1 := (blk_cell BKgl.out 1).trans rfl
  have hf_gl_0 := blk_frozen BKgl.out 0
  have hf_gl_1 := blk_frozen BKgl.out 1
  have hc_gh_0 := (blk_cell BKgh.out 0).trans rfl
  have hc_gh_1 := (blk_cell BKgh.out 1).trans rfl
  have hf_gh_0 := blk_frozen BKgh.out 0
  have hf_gh_1 := blk_frozen BKgh.out 1
  go_wp2_with (go_at_call 41; (with_reducible refine (bound_told.calls k g s6 a6 m6 o6 0 0 1 n5 a3 r1 r2 r3 r4 r5 r6 w _ HI.out E7.out).mono ?_); rintro e w11 ⟨rfl, hb⟩; have n_ := Aside0.mk (below_step HB.out hb); have b_ := Aside0.mk (blk_below BKgr.out hb); clear HB HI BKgr BKgl BKgh hc_gl_0 hc_gl_1 hc_gh_0 hc_gh_1 hf_gl_0 hf_gl_1 hf_gh_0 hf_gh_1 hb; have HB := n_; have BKgr := b_; clear n_ b_; have hc_gr_0 := (blk_cell BKgr.out 0).trans rfl; have hf_gr_0 := blk_frozen BKgr.out 0; have hc_gr_1 := (blk_cell BKgr.out 1).trans rfl; have hf_gr_1 := blk_frozen BKgr.out 1; have hc_gr_2 := (blk_cell BKgr.out 2).trans rfl; have hf_gr_2 := blk_frozen BKgr.out 2; have hc_gr_3 := (blk_cell BKgr.out 3).trans rfl; have hf_gr_3 := blk_frozen BKgr.out 3)
  refine bodyPost_ret (results_ctt rfl _ _ gr 27 #[.int .i64 r1, .int .i64 r2, .int .i64 r3, .int .i64 r4] (0, 0) _ rfl (by (with_reducible repeat (first | refine blk_drewN ?_ _ | refine blk_drew ?_ | refine blk_alloc ?_ _)); refine blk_put (cs := #[.int .i64 r1, .int .i64 r2, .int .i64 r3, .int .i64 0]) ?_ 3 _ rfl; (with_reducible repeat (first | refine blk_drewN ?_ _ | refine blk_drew ?_ | refine blk_alloc ?_ _)); refine blk_put (cs := #[.int .i64 r1, .int .i64 r2, .int .i64 0, .int .i64 0]) ?_ 2 _ rfl; (with_reducible repeat (first | refine blk_drewN ?_ _ | refine blk_drew ?_ | refine blk_alloc ?_ _)); refine blk_put (cs := #[.int .i64 r1, .int .i64 0, .int .i64 0, .int .i64 0]) ?_ 1 _ rfl; (with_reducible repeat (first | refine blk_drewN ?_ _ | refine blk_drew ?_ | refine blk_alloc ?_ _)); refine blk_put (cs := #[.int .i64 0, .int .i64 0, .int .i64 0, .int .i64 0]) ?_ 0 _ rfl; (with_reducible repeat (first | refine blk_drewN ?_ _ | refine blk_drew ?_ | refine blk_alloc ?_ _)); exact BKgr.out) Try.underlying27 rfl (by kernel_rfl)) rfl ?_
  exact ⟨rfl, by repeat (first | (with_reducible first | exact HB.out | apply below_alloc | apply pw_below_drewN | apply below_drew1 | refine below_set ?_ GEgr.out) | exact HB.out)⟩
set_option maxHeartbeats 8000000 in
set_option maxRecDepth 100000 in
theorem bound_Read_ni (k : Nat) (s : ByteArray) (c1 : Int) (s1 : ByteArray) (a1 : Int) (m1 o1 : Bool) (n2 : Int) (s2 : ByteArray) (a2 : Int) (m2 o2 : Bool) (c3 : Int) (s3 : ByteArray) (a3 : Int) (m3 o3 : Bool) (s4 : ByteArray) (a4 : Int) (m4 o4 : Bool) (c6 : Int) (s6 : ByteArray) (a6 : Int) (m6 o6 : Bool) (r1 r2 r3 r4 r5 r6 : Int) (w : World) (e1 : bound_reader_sign.f k s 0 false false (⟨#[40, 91]⟩ : ByteArray) = some (c1, s1, a1, m1, o1)) (d1 : c1 ≠ 40) (e2 : bound_num.f (bound_plain.f k) s1 a1 m1 o1 = some (n2, s2, a2, m2, o2)) (e3 : bound_reader_sign.f k s2 a2 m2 o2 (⟨#[44]⟩ : ByteArray) = some (c3, s3, a3, m3, o3)) (e4 : bound_reader_word.f s3 a3 m3 o3 (⟨#[43, 105, 110, 102]⟩ : ByteArray) = some (true, s4, a4, m4, o4)) (e6 : bound_reader_sign.f k s4 a4 m4 o4 (⟨#[41]⟩ : ByteArray) = some (c6, s6, a6, m6, o6)) (e7 : bound_told.f k a6 m6 2 n2 0 0 a3 = some (r1, r2, r3, r4, r5, r6)) :
    Calls Try.prog 12 #[.string s] w fun e w' => e = .returned (.tuple #[.agg #[.int .i64 r1, .int .i64 r2, .int .i64 r3, .int .i64 r4], .int .i64 r5, .int .i64 r6]) ∧ Below w.heap.size w w' := by
  have E1 := Aside0.mk e1
  have E2 := Aside0.mk e2
  have E3 := Aside0.mk e3
  have E4 := Aside0.mk e4
  have E6 := Aside0.mk e6
  have E7 := Aside0.mk e7
  clear e1 e2 e3 e4 e6 e7
  have d1' : (c1 == 40) = false := beq_eq_false_iff_ne.2 d1
  clear d1
  have HB := Aside0.mk (Below.refl w.heap.size w)
  have hu23 := Try.underlying23
  have hu27 := Try.underlying27
  have hu53 := Try.underlying53
  go_enter Try.func12, Try.ntmps12
  go_upto_region 4 with (first | ((with_reducible refine gate_dst (N := 2) rfl ?_); refine box_event ?hg (N := 2) ?hd (cs := #[.int .i64 0, .int .i64 0, .int .i64 0, .int .i64 0]) (t := 27) ?hr ?_; (case hd => rfl); (case hg => rfl); (case hr => first | (go_simp; done) | (go_simp; rfl)); intro gr hg w1 hbox hb; have n0_ := Aside0.mk (below_step (by repeat (first | (with_reducible first | exact HB.out | apply below_alloc | apply pw_below_drewN | apply below_drew1) | exact HB.out)) hb); have n1_ := Aside0.mk hbox; have n2_ : Aside0 (w.heap.size ≤ gr) := Aside0.mk (by rw [hg]; exact (below_size (by repeat (first | (with_reducible first | exact HB.out | apply below_alloc | apply pw_below_drewN | apply below_drew1) | exact HB.out)))); clear HB; have HB := n0_; have BKgr := n1_; have GEgr := n2_; clear n0_ n1_ n2_; clear hbox hb hg) | ((with_reducible refine gate_dst (N := 13) rfl ?_); refine box_event ?hg (N := 13) ?hd (cs := #[.string s, .int .i64 0, .bool false, .bool false]) (t := 53) ?hr ?_; (case hd => rfl); (case hg => rfl); (case hr => first | (go_simp; done) | (go_simp; rfl)); intro g hg w2 hbox hb; have n0_ := Aside0.mk (below_step (by repeat (first | (with_reducible first | exact HB.out | apply below_alloc | apply pw_below_drewN | apply below_drew1) | exact HB.out)) hb); have n1_ := Aside0.mk hbox; have n2_ : Aside0 (w.heap.size ≤ g) := Aside0.mk (by rw [hg]; exact (below_size (by repeat (first | (with_reducible first | exact HB.out | apply below_alloc | apply pw_below_drewN | apply below_drew1) | exact HB.out)))); have m0_ := Aside0.mk (blk_below BKgr.out hb); have NE_gr_g : gr ≠ g := (by rw [hg]; exact (Nat.ne_of_lt (blk_lt BKgr.out))); clear HB; have HB := n0_; have BKg := n1_; have GEg := n2_; clear n0_ n1_ n2_; clear BKgr; have BKgr := m0_; clear m0_; clear hbox hb hg) | ((with_reducible refine gate_dst (N := 6) rfl ?_); refine box_event ?hg (N := 6) ?hd (cs := #[.int .i64 0, .int .i64 0]) (t := 23) ?hr ?_; (case hd => rfl); (case hg => rfl); (case hr => first | (go_simp; done) | (go_simp; rfl)); intro gl hg w3 hbox hb; have n0_ := Aside0.mk (below_step (by repeat (first | (with_reducible first | exact HB.out | apply below_alloc | apply pw_below_drewN | apply below_drew1) | exact HB.out)) hb); have n1_ := Aside0.mk hbox; have n2_ : Aside0 (w.heap.size ≤ gl) := Aside0.mk (by rw [hg]; exact (below_size (by repeat (first | (with_reducible first | exact HB.out | apply below_alloc | apply pw_below_drewN | apply below_drew1) | exact HB.out)))); have m0_ := Aside0.mk (blk_below BKgr.out hb); have NE_gr_gl : gr ≠ gl := (by rw [hg]; exact (Nat.ne_of_lt (blk_lt BKgr.out))); have m1_ := Aside0.mk (blk_below BKg.out hb); have NE_g_gl : g ≠ gl := (by rw [hg]; exact (Nat.ne_of_lt (blk_lt BKg.out))); clear HB; have HB := n0_; have BKgl := n1_; have GEgl := n2_; clear n0_ n1_ n2_; clear BKgr; have BKgr := m0_; clear m0_; clear BKg; have BKg := m1_; clear m1_; clear hbox hb hg) | ((with_reducible refine gate_dst (N := 7) rfl ?_); refine box_event ?hg (N := 7) ?hd (cs := #[.int .i64 0, .int .i64 0]) (t := 23) ?hr ?_; (case hd => rfl); (case hg => rfl); (case hr => first | (go_simp; done) | (go_simp; rfl)); intro gh hg w4 hbox hb; have n0_ := Aside0.mk (below_step (by repeat (first | (with_reducible first | exact HB.out | apply below_alloc | apply pw_below_drewN | apply below_drew1) | exact HB.out)) hb); have n1_ := Aside0.mk hbox; have n2_ : Aside0 (w.heap.size ≤ gh) := Aside0.mk (by rw [hg]; exact (below_size (by repeat (first | (with_reducible first | exact HB.out | apply below_alloc | apply pw_below_drewN | apply below_drew1) | exact HB.out)))); have m0_ := Aside0.mk (blk_below BKgr.out hb); have NE_gr_gh : gr ≠ gh := (by rw [hg]; exact (Nat.ne_of_lt (blk_lt BKgr.out))); have m1_ := Aside0.mk (blk_below BKg.out hb); have NE_g_gh : g ≠ gh := (by rw [hg]; exact (Nat.ne_of_lt (blk_lt BKg.out))); have m2_ := Aside0.mk (blk_below BKgl.out hb); have NE_gl_gh : gl ≠ gh := (by rw [hg]; exact (Nat.ne_of_lt (blk_lt BKgl.out))); clear HB; have HB := n0_; have BKgh := n1_; have GEgh := n2_; clear n0_ n1_ n2_; clear BKgr; have BKgr := m0_; clear m0_; clear BKg; have BKg := m1_; clear m1_; clear BKgl; have BKgl := m2_; clear m2_; clear hbox hb hg))
  have HI : Aside0 (IsS53 w w4 g s 0 false false) := Aside0.mk ⟨BKg.out, GEg.out⟩
  have NE_g_gr := NE_gr_g.symm
  clear BKg NE_gr_g
  have hcz_0 := cellS53_0 HI.out.1
  have hcz_1 := cellS53_1 HI.out.1
  have hcz_2 := cellS53_2 HI.out.1
  have hcz_3 := cellS53_3 HI.out.1
  have hfz_0 := blk_frozen HI.out.1 0
  have hfz_1 := blk_frozen HI.out.1 1
  have hfz_2 := blk_frozen HI.out.1 2
  have hfz_3 := blk_frozen HI.out.1 3
  go_upto_region 6 with (first | (go_at_call 37; (with_reducible refine (bound_reader_sign.calls k g s 0 false false (⟨#[40, 91]⟩ : ByteArray) c1 s1 a1 m1 o1 w _ HI.out HB.out E1.out).mono ?_); rintro e w5 ⟨rfl, hi, hb, hk⟩; have m_ := Aside0.mk hi; have n_ := Aside0.mk hb; have bgr_ := Aside0.mk (KeepBut.blk hk BKgr.out NE_g_gr.symm (by simp)); have bgl_ := Aside0.mk (KeepBut.blk hk BKgl.out NE_g_gl.symm (by simp)); have bgh_ := Aside0.mk (KeepBut.blk hk BKgh.out NE_g_gh.symm (by simp)); clear HI HB BKgr BKgl BKgh hcz_0 hcz_1 hcz_2 hcz_3 hfz_0 hfz_1 hfz_2 hfz_3 hi hb hk; have HI := m_; have HB := n_; have BKgr := bgr_; have BKgl := bgl_; have BKgh := bgh_; clear m_ n_ bgr_ bgl_ bgh_))
  have hcz_0 := cellS53_0 HI.out.1
  have hcz_1 := cellS53_1 HI.out.1
  have hcz_2 := cellS53_2 HI.out.1
  have hcz_3 := cellS53_3 HI.out.1
  have hfz_0 := blk_frozen HI.out.1 0
  have hfz_1 := blk_frozen HI.out.1 1
  have hfz_2 := blk_frozen HI.out.1 2
  have hfz_3 := blk_frozen HI.out.1 3
  go_upto_region 7 with (first | (go_at_call 39; (with_reducible refine (bound_num_plain.calls k g s1 a1 m1 o1 n2 s2 a2 m2 o2 w _ HI.out HB.out E2.out).mono ?_); rintro e w6 ⟨rfl, hi, hb, hk⟩; have m_ := Aside0.mk hi; have n_ := Aside0.mk hb; have bgr_ := Aside0.mk (KeepBut.blk hk BKgr.out NE_g_gr.symm (by simp)); have bgl_ := Aside0.mk (KeepBut.blk hk BKgl.out NE_g_gl.symm (by simp)); have bgh_ := Aside0.mk (KeepBut.blk hk BKgh.out NE_g_gh.symm (by simp)); clear HI HB BKgr BKgl BKgh hcz_0 hcz_1 hcz_2 hcz_3 hfz_0 hfz_1 hfz_2 hfz_3 hi hb hk; have HI := m_; have HB := n_; have BKgr := bgr_; have BKgl := bgl_; have BKgh := bgh_; clear m_ n_ bgr_ bgl_ bgh_; have hc_gl_0 := (blk_cell BKgl.out 0).trans rfl; have hc_gl_1 := (blk_cell BKgl.out 1).trans rfl; have hf_gl_0 := blk_frozen BKgl.out 0; have hf_gl_1 := blk_frozen BKgl.out 1))
  have m_ := Aside0.mk (IsS53.far (p := ⟨gl, 1, none⟩) (IsS53.far (p := ⟨gl, 0, none⟩) HI.out NE_g_gl (.int .i64 2)) NE_g_gl (.int .i64 n2))
  have n_ := Aside0.mk (below_set (j := 1) (v := .int .i64 n2) (below_set (j := 0) (v := .int .i64 2) HB.out GEgl.out) GEgl.out)
  have bgr_ := Aside0.mk (blk_far (p := ⟨gl, 1, none⟩) (blk_far (p := ⟨gl, 0, none⟩) BKgr.out NE_gr_gl (.int .i64 2)) NE_gr_gl (.int .i64 n2))
  have bgh_ := Aside0.mk (blk_far (p := ⟨gl, 1, none⟩) (blk_far (p := ⟨gl, 0, none⟩) BKgh.out NE_gl_gh.symm (.int .i64 2)) NE_gl_gh.symm (.int .i64 n2))
  have bgl_ : Aside0 (((w6.setCell ⟨gl, 0, none⟩ (.int .i64 2)).setCell ⟨gl, 1, none⟩ (.int .i64 n2)).heap[gl]? = some (.cells #[.int .i64 2, .int .i64 n2] 23 (0, 0))) := Aside0.mk (blk_put (blk_put BKgl.out 0 _ rfl) 1 _ rfl)
  clear HI HB BKgr BKgl BKgh
  have HI := m_
  have HB := n_
  have BKgr := bgr_
  have BKgl := bgl_
  have BKgh := bgh_
  clear m_ n_ bgr_ bgl_ bgh_
  clear hc_gl_0 hc_gl_1 hf_gl_0 hf_gl_1
  generalize (w6.setCell ⟨gl, 0, none⟩ (.int .i64 2)).setCell ⟨gl, 1, none⟩ (.int .i64 n2) = w6' at *
  have hcz_0 := cellS53_0 HI.out.1
  have hcz_1 := cellS53_1 HI.out.1
  have hcz_2 := cellS53_2 HI.out.1
  have hcz_3 := cellS53_3 HI.out.1
  have hfz_0 := blk_frozen HI.out.1 0
  have hfz_1 := blk_frozen HI.out.1 1
  have hfz_2 := blk_frozen HI.out.1 2
  have hfz_3 := blk_frozen HI.out.1 3
  go_upto_region 8 with (first | (go_at_call 37; (with_reducible refine (bound_reader_sign.calls k g s2 a2 m2 o2 (⟨#[44]⟩ : ByteArray) c3 s3 a3 m3 o3 w _ HI.out HB.out E3.out).mono ?_); rintro e w7 ⟨rfl, hi, hb, hk⟩; have m_ := Aside0.mk hi; have n_ := Aside0.mk hb; have bgr_ := Aside0.mk (KeepBut.blk hk BKgr.out NE_g_gr.symm (by simp)); have bgl_ := Aside0.mk (KeepBut.blk hk BKgl.out NE_g_gl.symm (by simp)); have bgh_ := Aside0.mk (KeepBut.blk hk BKgh.out NE_g_gh.symm (by simp)); clear HI HB BKgr BKgl BKgh hcz_0 hcz_1 hcz_2 hcz_3 hfz_0 hfz_1 hfz_2 hfz_3 hi hb hk; have HI := m_; have HB := n_; have BKgr := bgr_; have BKgl := bgl_; have BKgh := bgh_; clear m_ n_ bgr_ bgl_ bgh_))
  have hcz_0 := cellS53_0 HI.out.1
  have hcz_1 := cellS53_1 HI.out.1
  have hcz_2 := cellS53_2 HI.out.1
  have hcz_3 := cellS53_3 HI.out.1
  have hfz_0 := blk_frozen HI.out.1 0
  have hfz_1 := blk_frozen HI.out.1 1
  have hfz_2 := blk_frozen HI.out.1 2
  have hfz_3 := blk_frozen HI.out.1 3
  go_upto_region 9 with fail
  go_upto_region 11 with (first | (go_at_call 38; (with_reducible refine (bound_reader_word.calls g s3 a3 m3 o3 (⟨#[43, 105, 110, 102]⟩ : ByteArray) true s4 a4 m4 o4 w _ HI.out HB.out E4.out).mono ?_); rintro e w8 ⟨rfl, hi, hb, hk⟩; have m_ := Aside0.mk hi; have n_ := Aside0.mk hb; have bgr_ := Aside0.mk (KeepBut.blk hk BKgr.out NE_g_gr.symm (by simp)); have bgl_ := Aside0.mk (KeepBut.blk hk BKgl.out NE_g_gl.symm (by simp)); have bgh_ := Aside0.mk (KeepBut.blk hk BKgh.out NE_g_gh.symm (by simp)); clear HI HB BKgr BKgl BKgh hcz_0 hcz_1 hcz_2 hcz_3 hfz_0 hfz_1 hfz_2 hfz_3 hi hb hk; have HI := m_; have HB := n_; have BKgr := bgr_; have BKgl := bgl_; have BKgh := bgh_; clear m_ n_ bgr_ bgl_ bgh_))
  have hcz_0 := cellS53_0 HI.out.1
  have hcz_1 := cellS53_1 HI.out.1
  have hcz_2 := cellS53_2 HI.out.1
  have hcz_3 := cellS53_3 HI.out.1
  have hfz_0 := blk_frozen HI.out.1 0
  have hfz_1 := blk_frozen HI.out.1 1
  have hfz_2 := blk_frozen HI.out.1 2
  have hfz_3 := blk_frozen HI.out.1 3
  go_upto_region 12 with (first | (go_at_call 37; (with_reducible refine (bound_reader_sign.calls k g s4 a4 m4 o4 (⟨#[41]⟩ : ByteArray) c6 s6 a6 m6 o6 w _ HI.out HB.out E6.out).mono ?_); rintro e w10 ⟨rfl, hi, hb, hk⟩; have m_ := Aside0.mk hi; have n_ := Aside0.mk hb; have bgr_ := Aside0.mk (KeepBut.blk hk BKgr.out NE_g_gr.symm (by simp)); have bgl_ := Aside0.mk (KeepBut.blk hk BKgl.out NE_g_gl.symm (by simp)); have bgh_ := Aside0.mk (KeepBut.blk hk BKgh.out NE_g_gh.symm (by simp)); clear HI HB BKgr BKgl BKgh hcz_0 hcz_1 hcz_2 hcz_3 hfz_0 hfz_1 hfz_2 hfz_3 hi hb hk; have HI := m_; have HB := n_; have BKgr := bgr_; have BKgl := bgl_; have BKgh := bgh_; clear m_ n_ bgr_ bgl_ bgh_))
  have hc_gl_0 := (blk_cell BKgl.out 0).trans rfl
  have hc_gl_1 := (blk_cell BKgl.out 1).trans rfl
  have hf_gl_0 := blk_frozen BKgl.out 0
  have hf_gl_1 := blk_frozen BKgl.out 1
  have hc_gh_0 := (blk_cell BKgh.out 0).trans rfl
  have hc_gh_1 := (blk_cell BKgh.out 1).trans rfl
  have hf_gh_0 := blk_frozen BKgh.out 0
  have hf_gh_1 := blk_frozen BKgh.out 1
  go_wp2_with (go_at_call 41; (with_reducible refine (bound_told.calls k g s6 a6 m6 o6 2 n2 0 0 a3 r1 r2 r3 r4 r5 r6 w _ HI.out E7.out).mono ?_); rintro e w11 ⟨rfl, hb⟩; have n_ := Aside0.mk (below_step HB.out hb); have b_ := Aside0.mk (blk_below BKgr.out hb); clear HB HI BKgr BKgl BKgh hc_gl_0 hc_gl_1 hc_gh_0 hc_gh_1 hf_gl_0 hf_gl_1 hf_gh_0 hf_gh_1 hb; have HB := n_; have BKgr := b_; clear n_ b_; have hc_gr_0 := (blk_cell BKgr.out 0).trans rfl; have hf_gr_0 := blk_frozen BKgr.out 0; have hc_gr_1 := (blk_cell BKgr.out 1).trans rfl; have hf_gr_1 := blk_frozen BKgr.out 1; have hc_gr_2 := (blk_cell BKgr.out 2).trans rfl; have hf_gr_2 := blk_frozen BKgr.out 2; have hc_gr_3 := (blk_cell BKgr.out 3).trans rfl; have hf_gr_3 := blk_frozen BKgr.out 3)
  refine bodyPost_ret (results_ctt rfl _ _ gr 27 #[.int .i64 r1, .int .i64 r2, .int .i64 r3, .int .i64 r4] (0, 0) _ rfl (by (with_reducible repeat (first | refine blk_drewN ?_ _ | refine blk_drew ?_ | refine blk_alloc ?_ _)); refine blk_put (cs := #[.int .i64 r1, .int .i64 r2, .int .i64 r3, .int .i64 0]) ?_ 3 _ rfl; (with_reducible repeat (first | refine blk_drewN ?_ _ | refine blk_drew ?_ | refine blk_alloc ?_ _)); refine blk_put (cs := #[.int .i64 r1, .int .i64 r2, .int .i64 0, .int .i64 0]) ?_ 2 _ rfl; (with_reducible repeat (first | refine blk_drewN ?_ _ | refine blk_drew ?_ | refine blk_alloc ?_ _)); refine blk_put (cs := #[.int .i64 r1, .int .i64 0, .int .i64 0, .int .i64 0]) ?_ 1 _ rfl; (with_reducible repeat (first | refine blk_drewN ?_ _ | refine blk_drew ?_ | refine blk_alloc ?_ _)); refine blk_put (cs := #[.int .i64 0, .int .i64 0, .int .i64 0, .int .i64 0]) ?_ 0 _ rfl; (with_reducible repeat (first | refine blk_drewN ?_ _ | refine blk_drew ?_ | refine blk_alloc ?_ _)); exact BKgr.out) Try.underlying27 rfl (by kernel_rfl)) rfl ?_
  exact ⟨rfl, by repeat (first | (with_reducible first | exact HB.out | apply below_alloc | apply pw_below_drewN | apply below_drew1 | refine below_set ?_ GEgr.out) | exact HB.out)⟩
set_option maxHeartbeats 8000000 in
set_option maxRecDepth 100000 in
theorem bound_Read_nn (k : Nat) (s : ByteArray) (c1 : Int) (s1 : ByteArray) (a1 : Int) (m1 o1 : Bool) (n2 : Int) (s2 : ByteArray) (a2 : Int) (m2 o2 : Bool) (c3 : Int) (s3 : ByteArray) (a3 : Int) (m3 o3 : Bool) (s4 : ByteArray) (a4 : Int) (m4 o4 : Bool) (n5 : Int) (s5 : ByteArray) (a5 : Int) (m5 o5 : Bool) (c6 : Int) (s6 : ByteArray) (a6 : Int) (m6 o6 : Bool) (r1 r2 r3 r4 r5 r6 : Int) (w : World) (e1 : bound_reader_sign.f k s 0 false false (⟨#[40, 91]⟩ : ByteArray) = some (c1, s1, a1, m1, o1)) (d1 : c1 ≠ 40) (e2 : bound_num.f (bound_plain.f k) s1 a1 m1 o1 = some (n2, s2, a2, m2, o2)) (e3 : bound_reader_sign.f k s2 a2 m2 o2 (⟨#[44]⟩ : ByteArray) = some (c3, s3, a3, m3, o3)) (e4 : bound_reader_word.f s3 a3 m3 o3 (⟨#[43, 105, 110, 102]⟩ : ByteArray) = some (false, s4, a4, m4, o4)) (e5 : bound_num.f (bound_plain.f k) s4 a4 m4 o4 = some (n5, s5, a5, m5, o5)) (e6 : bound_reader_sign.f k s5 a5 m5 o5 (⟨#[41]⟩ : ByteArray) = some (c6, s6, a6, m6, o6)) (e7 : bound_told.f k a6 m6 2 n2 1 n5 a3 = some (r1, r2, r3, r4, r5, r6)) :
    Calls Try.prog 12 #[.string s] w fun e w' => e = .returned (.tuple #[.agg #[.int .i64 r1, .int .i64 r2, .int .i64 r3, .int .i64 r4], .int .i64 r5, .int .i64 r6]) ∧ Below w.heap.size w w' := by
  have E1 := Aside0.mk e1
  have E2 := Aside0.mk e2
  have E3 := Aside0.mk e3
  have E4 := Aside0.mk e4
  have E5 := Aside0.mk e5
  have E6 := Aside0.mk e6
  have E7 := Aside0.mk e7
  clear e1 e2 e3 e4 e5 e6 e7
  have d1' : (c1 == 40) = false := beq_eq_false_iff_ne.2 d1
  clear d1
  have HB := Aside0.mk (Below.refl w.heap.size w)
  have hu23 := Try.underlying23
  have hu27 := Try.underlying27
  have hu53 := Try.underlying53
  go_enter Try.func12, Try.ntmps12
  go_upto_region 4 with (first | ((with_reducible refine gate_dst (N := 2) rfl ?_); refine box_event ?hg (N := 2) ?hd (cs := #[.int .i64 0, .int .i64 0, .int .i64 0, .int .i64 0]) (t := 27) ?hr ?_; (case hd => rfl); (case hg => rfl); (case hr => first | (go_simp; done) | (go_simp; rfl)); intro gr hg w1 hbox hb; have n0_ := Aside0.mk (below_step (by repeat (first | (with_reducible first | exact HB.out | apply below_alloc | apply pw_below_drewN | apply below_drew1) | exact HB.out)) hb); have n1_ := Aside0.mk hbox; have n2_ : Aside0 (w.heap.size ≤ gr) := Aside0.mk (by rw [hg]; exact (below_size (by repeat (first | (with_reducible first | exact HB.out | apply below_alloc | apply pw_below_drewN | apply below_drew1) | exact HB.out)))); clear HB; have HB := n0_; have BKgr := n1_; have GEgr := n2_; clear n0_ n1_ n2_; clear hbox hb hg) | ((with_reducible refine gate_dst (N := 13) rfl ?_); refine box_event ?hg (N := 13) ?hd (cs := #[.string s, .int .i64 0, .bool false, .bool false]) (t := 53) ?hr ?_; (case hd => rfl); (case hg => rfl); (case hr => first | (go_simp; done) | (go_simp; rfl)); intro g hg w2 hbox hb; have n0_ := Aside0.mk (below_step (by repeat (first | (with_reducible first | exact HB.out | apply below_alloc | apply pw_below_drewN | apply below_drew1) | exact HB.out)) hb); have n1_ := Aside0.mk hbox; have n2_ : Aside0 (w.heap.size ≤ g) := Aside0.mk (by rw [hg]; exact (below_size (by repeat (first | (with_reducible first | exact HB.out | apply below_alloc | apply pw_below_drewN | apply below_drew1) | exact HB.out)))); have m0_ := Aside0.mk (blk_below BKgr.out hb); have NE_gr_g : gr ≠ g := (by rw [hg]; exact (Nat.ne_of_lt (blk_lt BKgr.out))); clear HB; have HB := n0_; have BKg := n1_; have GEg := n2_; clear n0_ n1_ n2_; clear BKgr; have BKgr := m0_; clear m0_; clear hbox hb hg) | ((with_reducible refine gate_dst (N := 6) rfl ?_); refine box_event ?hg (N := 6) ?hd (cs := #[.int .i64 0, .int .i64 0]) (t := 23) ?hr ?_; (case hd => rfl); (case hg => rfl); (case hr => first | (go_simp; done) | (go_simp; rfl)); intro gl hg w3 hbox hb; have n0_ := Aside0.mk (below_step (by repeat (first | (with_reducible first | exact HB.out | apply below_alloc | apply pw_below_drewN | apply below_drew1) | exact HB.out)) hb); have n1_ := Aside0.mk hbox; have n2_ : Aside0 (w.heap.size ≤ gl) := Aside0.mk (by rw [hg]; exact (below_size (by repeat (first | (with_reducible first | exact HB.out | apply below_alloc | apply pw_below_drewN | apply below_drew1) | exact HB.out)))); have m0_ := Aside0.mk (blk_below BKgr.out hb); have NE_gr_gl : gr ≠ gl := (by rw [hg]; exact (Nat.ne_of_lt (blk_lt BKgr.out))); have m1_ := Aside0.mk (blk_below BKg.out hb); have NE_g_gl : g ≠ gl := (by rw [hg]; exact (Nat.ne_of_lt (blk_lt BKg.out))); clear HB; have HB := n0_; have BKgl := n1_; have GEgl := n2_; clear n0_ n1_ n2_; clear BKgr; have BKgr := m0_; clear m0_; clear BKg; have BKg := m1_; clear m1_; clear hbox hb hg) | ((with_reducible refine gate_dst (N := 7) rfl ?_); refine box_event ?hg (N := 7) ?hd (cs := #[.int .i64 0, .int .i64 0]) (t := 23) ?hr ?_; (case hd => rfl); (case hg => rfl); (case hr => first | (go_simp; done) | (go_simp; rfl)); intro gh hg w4 hbox hb; have n0_ := Aside0.mk (below_step (by repeat (first | (with_reducible first | exact HB.out | apply below_alloc | apply pw_below_drewN | apply below_drew1) | exact HB.out)) hb); have n1_ := Aside0.mk hbox; have n2_ : Aside0 (w.heap.size ≤ gh) := Aside0.mk (by rw [hg]; exact (below_size (by repeat (first | (with_reducible first | exact HB.out | apply below_alloc | apply pw_below_drewN | apply below_drew1) | exact HB.out)))); have m0_ := Aside0.mk (blk_below BKgr.out hb); have NE_gr_gh : gr ≠ gh := (by rw [hg]; exact (Nat.ne_of_lt (blk_lt BKgr.out))); have m1_ := Aside0.mk (blk_below BKg.out hb); have NE_g_gh : g ≠ gh := (by rw [hg]; exact (Nat.ne_of_lt (blk_lt BKg.out))); have m2_ := Aside0.mk (blk_below BKgl.out hb); have NE_gl_gh : gl ≠ gh := (by rw [hg]; exact (Nat.ne_of_lt (blk_lt BKgl.out))); clear HB; have HB := n0_; have BKgh := n1_; have GEgh := n2_; clear n0_ n1_ n2_; clear BKgr; have BKgr := m0_; clear m0_; clear BKg; have BKg := m1_; clear m1_; clear BKgl; have BKgl := m2_; clear m2_; clear hbox hb hg))
  have HI : Aside0 (IsS53 w w4 g s 0 false false) := Aside0.mk ⟨BKg.out, GEg.out⟩
  have NE_g_gr := NE_gr_g.symm
  clear BKg NE_gr_g
  have hcz_0 := cellS53_0 HI.out.1
  have hcz_1 := cellS53_1 HI.out.1
  have hcz_2 := cellS53_2 HI.out.1
  have hcz_3 := cellS53_3 HI.out.1
  have hfz_0 := blk_frozen HI.out.1 0
  have hfz_1 := blk_frozen HI.out.1 1
  have hfz_2 := blk_frozen HI.out.1 2
  have hfz_3 := blk_frozen HI.out.1 3
  go_upto_region 6 with (first | (go_at_call 37; (with_reducible refine (bound_reader_sign.calls k g s 0 false false (⟨#[40, 91]⟩ : ByteArray) c1 s1 a1 m1 o1 w _ HI.out HB.out E1.out).mono ?_); rintro e w5 ⟨rfl, hi, hb, hk⟩; have m_ := Aside0.mk hi; have n_ := Aside0.mk hb; have bgr_ := Aside0.mk (KeepBut.blk hk BKgr.out NE_g_gr.symm (by simp)); have bgl_ := Aside0.mk (KeepBut.blk hk BKgl.out NE_g_gl.symm (by simp)); have bgh_ := Aside0.mk (KeepBut.blk hk BKgh.out NE_g_gh.symm (by simp)); clear HI HB BKgr BKgl BKgh hcz_0 hcz_1 hcz_2 hcz_3 hfz_0 hfz_1 hfz_2 hfz_3 hi hb hk; have HI := m_; have HB := n_; have BKgr := bgr_; have BKgl := bgl_; have BKgh := bgh_; clear m_ n_ bgr_ bgl_ bgh_))
  have hcz_0 := cellS53_0 HI.out.1
  have hcz_1 := cellS53_1 HI.out.1
  have hcz_2 := cellS53_2 HI.out.1
  have hcz_3 := cellS53_3 HI.out.1
  have hfz_0 := blk_frozen HI.out.1 0
  have hfz_1 := blk_frozen HI.out.1 1
  have hfz_2 := blk_frozen HI.out.1 2
  have hfz_3 := blk_frozen HI.out.1 3
  go_upto_region 7 with (first | (go_at_call 39; (with_reducible refine (bound_num_plain.calls k g s1 a1 m1 o1 n2 s2 a2 m2 o2 w _ HI.out HB.out E2.out).mono ?_); rintro e w6 ⟨rfl, hi, hb, hk⟩; have m_ := Aside0.mk hi; have n_ := Aside0.mk hb; have bgr_ := Aside0.mk (KeepBut.blk hk BKgr.out NE_g_gr.symm (by simp)); have bgl_ := Aside0.mk (KeepBut.blk hk BKgl.out NE_g_gl.symm (by simp)); have bgh_ := Aside0.mk (KeepBut.blk hk BKgh.out NE_g_gh.symm (by simp)); clear HI HB BKgr BKgl BKgh hcz_0 hcz_1 hcz_2 hcz_3 hfz_0 hfz_1 hfz_2 hfz_3 hi hb hk; have HI := m_; have HB := n_; have BKgr := bgr_; have BKgl := bgl_; have BKgh := bgh_; clear m_ n_ bgr_ bgl_ bgh_; have hc_gl_0 := (blk_cell BKgl.out 0).trans rfl; have hc_gl_1 := (blk_cell BKgl.out 1).trans rfl; have hf_gl_0 := blk_frozen BKgl.out 0; have hf_gl_1 := blk_frozen BKgl.out 1))
  have m_ := Aside0.mk (IsS53.far (p := ⟨gl, 1, none⟩) (IsS53.far (p := ⟨gl, 0, none⟩) HI.out NE_g_gl (.int .i64 2)) NE_g_gl (.int .i64 n2))
  have n_ := Aside0.mk (below_set (j := 1) (v := .int .i64 n2) (below_set (j := 0) (v := .int .i64 2) HB.out GEgl.out) GEgl.out)
  have bgr_ := Aside0.mk (blk_far (p := ⟨gl, 1, none⟩) (blk_far (p := ⟨gl, 0, none⟩) BKgr.out NE_gr_gl (.int .i64 2)) NE_gr_gl (.int .i64 n2))
  have bgh_ := Aside0.mk (blk_far (p := ⟨gl, 1, none⟩) (blk_far (p := ⟨gl, 0, none⟩) BKgh.out NE_gl_gh.symm (.int .i64 2)) NE_gl_gh.symm (.int .i64 n2))
  have bgl_ : Aside0 (((w6.setCell ⟨gl, 0, none⟩ (.int .i64 2)).setCell ⟨gl, 1, none⟩ (.int .i64 n2)).heap[gl]? = some (.cells #[.int .i64 2, .int .i64 n2] 23 (0, 0))) := Aside0.mk (blk_put (blk_put BKgl.out 0 _ rfl) 1 _ rfl)
  clear HI HB BKgr BKgl BKgh
  have HI := m_
  have HB := n_
  have BKgr := bgr_
  have BKgl := bgl_
  have BKgh := bgh_
  clear m_ n_ bgr_ bgl_ bgh_
  clear hc_gl_0 hc_gl_1 hf_gl_0 hf_gl_1
  generalize (w6.setCell ⟨gl, 0, none⟩ (.int .i64 2)).setCell ⟨gl, 1, none⟩ (.int .i64 n2) = w6' at *
  have hcz_0 := cellS53_0 HI.out.1
  have hcz_1 := cellS53_1 HI.out.1
  have hcz_2 := cellS53_2 HI.out.1
  have hcz_3 := cellS53_3 HI.out.1
  have hfz_0 := blk_frozen HI.out.1 0
  have hfz_1 := blk_frozen HI.out.1 1
  have hfz_2 := blk_frozen HI.out.1 2
  have hfz_3 := blk_frozen HI.out.1 3
  go_upto_region 8 with (first | (go_at_call 37; (with_reducible refine (bound_reader_sign.calls k g s2 a2 m2 o2 (⟨#[44]⟩ : ByteArray) c3 s3 a3 m3 o3 w _ HI.out HB.out E3.out).mono ?_); rintro e w7 ⟨rfl, hi, hb, hk⟩; have m_ := Aside0.mk hi; have n_ := Aside0.mk hb; have bgr_ := Aside0.mk (KeepBut.blk hk BKgr.out NE_g_gr.symm (by simp)); have bgl_ := Aside0.mk (KeepBut.blk hk BKgl.out NE_g_gl.symm (by simp)); have bgh_ := Aside0.mk (KeepBut.blk hk BKgh.out NE_g_gh.symm (by simp)); clear HI HB BKgr BKgl BKgh hcz_0 hcz_1 hcz_2 hcz_3 hfz_0 hfz_1 hfz_2 hfz_3 hi hb hk; have HI := m_; have HB := n_; have BKgr := bgr_; have BKgl := bgl_; have BKgh := bgh_; clear m_ n_ bgr_ bgl_ bgh_))
  have hcz_0 := cellS53_0 HI.out.1
  have hcz_1 := cellS53_1 HI.out.1
  have hcz_2 := cellS53_2 HI.out.1
  have hcz_3 := cellS53_3 HI.out.1
  have hfz_0 := blk_frozen HI.out.1 0
  have hfz_1 := blk_frozen HI.out.1 1
  have hfz_2 := blk_frozen HI.out.1 2
  have hfz_3 := blk_frozen HI.out.1 3
  go_upto_region 9 with fail
  go_upto_region 10 with (first | (go_at_call 38; (with_reducible refine (bound_reader_word.calls g s3 a3 m3 o3 (⟨#[43, 105, 110, 102]⟩ : ByteArray) false s4 a4 m4 o4 w _ HI.out HB.out E4.out).mono ?_); rintro e w8 ⟨rfl, hi, hb, hk⟩; have m_ := Aside0.mk hi; have n_ := Aside0.mk hb; have bgr_ := Aside0.mk (KeepBut.blk hk BKgr.out NE_g_gr.symm (by simp)); have bgl_ := Aside0.mk (KeepBut.blk hk BKgl.out NE_g_gl.symm (by simp)); have bgh_ := Aside0.mk (KeepBut.blk hk BKgh.out NE_g_gh.symm (by simp)); clear HI HB BKgr BKgl BKgh hcz_0 hcz_1 hcz_2 hcz_3 hfz_0 hfz_1 hfz_2 hfz_3 hi hb hk; have HI := m_; have HB := n_; have BKgr := bgr_; have BKgl := bgl_; have BKgh := bgh_; clear m_ n_ bgr_ bgl_ bgh_))
  have hcz_0 := cellS53_0 HI.out.1
  have hcz_1 := cellS53_1 HI.out.1
  have hcz_2 := cellS53_2 HI.out.1
  have hcz_3 := cellS53_3 HI.out.1
  have hfz_0 := blk_frozen HI.out.1 0
  have hfz_1 := blk_frozen HI.out.1 1
  have hfz_2 := blk_frozen HI.out.1 2
  have hfz_3 := blk_frozen HI.out.1 3
  go_upto_region 11 with (first | (go_at_call 39; (with_reducible refine (bound_num_plain.calls k g s4 a4 m4 o4 n5 s5 a5 m5 o5 w _ HI.out HB.out E5.out).mono ?_); rintro e w9 ⟨rfl, hi, hb, hk⟩; have m_ := Aside0.mk hi; have n_ := Aside0.mk hb; have bgr_ := Aside0.mk (KeepBut.blk hk BKgr.out NE_g_gr.symm (by simp)); have bgl_ := Aside0.mk (KeepBut.blk hk BKgl.out NE_g_gl.symm (by simp)); have bgh_ := Aside0.mk (KeepBut.blk hk BKgh.out NE_g_gh.symm (by simp)); clear HI HB BKgr BKgl BKgh hcz_0 hcz_1 hcz_2 hcz_3 hfz_0 hfz_1 hfz_2 hfz_3 hi hb hk; have HI := m_; have HB := n_; have BKgr := bgr_; have BKgl := bgl_; have BKgh := bgh_; clear m_ n_ bgr_ bgl_ bgh_; have hc_gh_0 := (blk_cell BKgh.out 0).trans rfl; have hc_gh_1 := (blk_cell BKgh.out 1).trans rfl; have hf_gh_0 := blk_frozen BKgh.out 0; have hf_gh_1 := blk_frozen BKgh.out 1))
  have m_ := Aside0.mk (IsS53.far (p := ⟨gh, 1, none⟩) (IsS53.far (p := ⟨gh, 0, none⟩) HI.out NE_g_gh (.int .i64 1)) NE_g_gh (.int .i64 n5))
  have n_ := Aside0.mk (below_set (j := 1) (v := .int .i64 n5) (below_set (j := 0) (v := .int .i64 1) HB.out GEgh.out) GEgh.out)
  have bgr_ := Aside0.mk (blk_far (p := ⟨gh, 1, none⟩) (blk_far (p := ⟨gh, 0, none⟩) BKgr.out NE_gr_gh (.int .i64 1)) NE_gr_gh (.int .i64 n5))
  have bgl_ := Aside0.mk (blk_far (p := ⟨gh, 1, none⟩) (blk_far (p := ⟨gh, 0, none⟩) BKgl.out NE_gl_gh (.int .i64 1)) NE_gl_gh (.int .i64 n5))
  have bgh_ : Aside0 (((w9.setCell ⟨gh, 0, none⟩ (.int .i64 1)).setCell ⟨gh, 1, none⟩ (.int .i64 n5)).heap[gh]? = some (.cells #[.int .i64 1, .int .i64 n5] 23 (0, 0))) := Aside0.mk (blk_put (blk_put BKgh.out 0 _ rfl) 1 _ rfl)
  clear HI HB BKgr BKgl BKgh
  have HI := m_
  have HB := n_
  have BKgr := bgr_
  have BKgl := bgl_
  have BKgh := bgh_
  clear m_ n_ bgr_ bgl_ bgh_
  clear hc_gh_0 hc_gh_1 hf_gh_0 hf_gh_1
  generalize (w9.setCell ⟨gh, 0, none⟩ (.int .i64 1)).setCell ⟨gh, 1, none⟩ (.int .i64 n5) = w9' at *
  have hcz_0 := cellS53_0 HI.out.1
  have hcz_1 := cellS53_1 HI.out.1
  have hcz_2 := cellS53_2 HI.out.1
  have hcz_3 := cellS53_3 HI.out.1
  have hfz_0 := blk_frozen HI.out.1 0
  have hfz_1 := blk_frozen HI.out.1 1
  have hfz_2 := blk_frozen HI.out.1 2
  have hfz_3 := blk_frozen HI.out.1 3
  go_upto_region 12 with (first | (go_at_call 37; (with_reducible refine (bound_reader_sign.calls k g s5 a5 m5 o5 (⟨#[41]⟩ : ByteArray) c6 s6 a6 m6 o6 w _ HI.out HB.out E6.out).mono ?_); rintro e w10 ⟨rfl, hi, hb, hk⟩; have m_ := Aside0.mk hi; have n_ := Aside0.mk hb; have bgr_ := Aside0.mk (KeepBut.blk hk BKgr.out NE_g_gr.symm (by simp)); have bgl_ := Aside0.mk (KeepBut.blk hk BKgl.out NE_g_gl.symm (by simp)); have bgh_ := Aside0.mk (KeepBut.blk hk BKgh.out NE_g_gh.symm (by simp)); clear HI HB BKgr BKgl BKgh hcz_0 hcz_1 hcz_2 hcz_3 hfz_0 hfz_1 hfz_2 hfz_3 hi hb hk; have HI := m_; have HB := n_; have BKgr := bgr_; have BKgl := bgl_; have BKgh := bgh_; clear m_ n_ bgr_ bgl_ bgh_))
  have hc_gl_0 := (blk_cell BKgl.out 0).trans rfl
  have hc_gl_1 := (blk_cell BKgl.out 1).trans rfl
  have hf_gl_0 := blk_frozen BKgl.out 0
  have hf_gl_1 := blk_frozen BKgl.out 1
  have hc_gh_0 := (blk_cell BKgh.out 0).trans rfl
  have hc_gh_1 := (blk_cell BKgh.out 1).trans rfl
  have hf_gh_0 := blk_frozen BKgh.out 0
  have hf_gh_1 := blk_frozen BKgh.out 1
  go_wp2_with (go_at_call 41; (with_reducible refine (bound_told.calls k g s6 a6 m6 o6 2 n2 1 n5 a3 r1 r2 r3 r4 r5 r6 w _ HI.out E7.out).mono ?_); rintro e w11 ⟨rfl, hb⟩; have n_ := Aside0.mk (below_step HB.out hb); have b_ := Aside0.mk (blk_below BKgr.out hb); clear HB HI BKgr BKgl BKgh hc_gl_0 hc_gl_1 hc_gh_0 hc_gh_1 hf_gl_0 hf_gl_1 hf_gh_0 hf_gh_1 hb; have HB := n_; have BKgr := b_; clear n_ b_; have hc_gr_0 := (blk_cell BKgr.out 0).trans rfl; have hf_gr_0 := blk_frozen BKgr.out 0; have hc_gr_1 := (blk_cell BKgr.out 1).trans rfl; have hf_gr_1 := blk_frozen BKgr.out 1; have hc_gr_2 := (blk_cell BKgr.out 2).trans rfl; have hf_gr_2 := blk_frozen BKgr.out 2; have hc_gr_3 := (blk_cell BKgr.out 3).trans rfl; have hf_gr_3 := blk_frozen BKgr.out 3)
  refine bodyPost_ret (results_ctt rfl _ _ gr 27 #[.int .i64 r1, .int .i64 r2, .int .i64 r3, .int .i64 r4] (0, 0) _ rfl (by (with_reducible repeat (first | refine blk_drewN ?_ _ | refine blk_drew ?_ | refine blk_alloc ?_ _)); refine blk_put (cs := #[.int .i64 r1, .int .i64 r2, .int .i64 r3, .int .i64 0]) ?_ 3 _ rfl; (with_reducible repeat (first | refine blk_drewN ?_ _ | refine blk_drew ?_ | refine blk_alloc ?_ _)); refine blk_put (cs := #[.int .i64 r1, .int .i64 r2, .int .i64 0, .int .i64 0]) ?_ 2 _ rfl; (with_reducible repeat (first | refine blk_drewN ?_ _ | refine blk_drew ?_ | refine blk_alloc ?_ _)); refine blk_put (cs := #[.int .i64 r1, .int .i64 0, .int .i64 0, .int .i64 0]) ?_ 1 _ rfl; (with_reducible repeat (first | refine blk_drewN ?_ _ | refine blk_drew ?_ | refine blk_alloc ?_ _)); refine blk_put (cs := #[.int .i64 0, .int .i64 0, .int .i64 0, .int .i64 0]) ?_ 0 _ rfl; (with_reducible repeat (first | refine blk_drewN ?_ _ | refine blk_drew ?_ | refine blk_alloc ?_ _)); exact BKgr.out) Try.underlying27 rfl (by kernel_rfl)) rfl ?_
  exact ⟨rfl, by repeat (first | (with_reducible first | exact HB.out | apply below_alloc | apply pw_below_drewN | apply below_drew1 | refine below_set ?_ GEgr.out) | exact HB.out)⟩
theorem bound_num_mono (q : Nat → ByteArray → Option (Int × Int)) (hq : ∀ s k, LeO (q k s) (q (k + 1) s)) (s : ByteArray) (a : Int) (m o : Bool) (k : Nat) : LeO (bound_num.f (q k) s a m o) (bound_num.f (q (k + 1)) s a m o) := by
  unfold bound_num.f
  exact LeO.ite (LeO.refl _) (LeO.ite (LeO.ite (LeO.bind (hq _ _) (fun _ => LeO.refl _)) (LeO.refl _)) (LeO.refl _))
theorem bound_told_mono (s1 : Int) (s2 : Bool) (a0 a1 b0 b1 at_ : Int) (k : Nat) : LeO (bound_told.f k s1 s2 a0 a1 b0 b1 at_) (bound_told.f (k + 1) s1 s2 a0 a1 b0 b1 at_) := by
  unfold bound_told.f
  exact LeO.ite (LeO.refl _) (LeO.bind (bound_Span.mono _ _ _ _ _) (fun _ => LeO.refl _))
theorem bound_Read.mono : ∀ a0 k, LeO (bound_Read.f k a0) (bound_Read.f (k + 1) a0) := by
  intro a0 k
  unfold bound_Read.f bound_Read.j0 bound_Read.j1
  repeat' first
      | (with_reducible exact bound_reader_sign.mono _ _ _ _ _ _)
      | (with_reducible exact bound_num_mono _ bound_plain.mono _ _ _ _ _)
      | (with_reducible exact bound_told_mono _ _ _ _ _ _ _ _)
      | (with_reducible exact LeO.refl _)
      | (with_reducible exact LeO.none _)
      | (with_reducible refine LeO.ite ?_ ?_)
      | (with_reducible refine LeO.bind ?_ (fun _ => ?_))
      | exact bound_reader_sign.mono _ _ _ _ _ _
      | exact bound_num_mono _ bound_plain.mono _ _ _ _ _
      | exact bound_told_mono _ _ _ _ _ _ _ _
      | exact LeO.refl _
      | exact LeO.none _
      | refine LeO.ite ?_ ?_
      | refine LeO.bind ?_ (fun _ => ?_)
theorem bound_Read.calls (k : Nat) (a0 : ByteArray) (r1 r2 r3 r4 r5 r6 : Int) (w : World) (h : bound_Read.f k a0 = some (r1, r2, r3, r4, r5, r6)) :
    Calls Try.prog 12 #[.string a0] w fun e w' => e = .returned (.tuple #[.agg #[.int .i64 r1, .int .i64 r2, .int .i64 r3, .int .i64 r4], .int .i64 r5, .int .i64 r6]) ∧ Below w.heap.size w w' := by
  obtain ⟨⟨c1, s1, a1, m1, o1⟩, e1, h⟩ := Option.bind_eq_some_iff.mp h
  by_cases d1 : c1 = 40
  · replace h := (if_pos d1).symm.trans h
    obtain ⟨⟨b2, s2, a2, m2, o2⟩, e2, h⟩ := Option.bind_eq_some_iff.mp h
    obtain ⟨⟨c3, s3, a3, m3, o3⟩, e3, h⟩ := Option.bind_eq_some_iff.mp h
    obtain ⟨⟨b4, s4, a4, m4, o4⟩, e4, h⟩ := Option.bind_eq_some_iff.mp h
    by_cases d4 : b4 = true
    · replace h := (if_pos d4).symm.trans h
      obtain ⟨⟨c6, s6, a6, m6, o6⟩, e6, e7⟩ := Option.bind_eq_some_iff.mp h
      subst d4
      exact bound_Read_pi k a0 c1 s1 a1 m1 o1 b2 s2 a2 m2 o2 c3 s3 a3 m3 o3 s4 a4 m4 o4 c6 s6 a6 m6 o6 r1 r2 r3 r4 r5 r6 w e1 d1 e2 e3 e4 e6 e7
    · replace h := (if_neg d4).symm.trans h
      obtain ⟨⟨n5, s5, a5, m5, o5⟩, e5, h⟩ := Option.bind_eq_some_iff.mp h
      obtain ⟨⟨c6, s6, a6, m6, o6⟩, e6, e7⟩ := Option.bind_eq_some_iff.mp h
      replace d4 := Bool.eq_false_iff.mpr d4
      subst d4
      exact bound_Read_pn k a0 c1 s1 a1 m1 o1 b2 s2 a2 m2 o2 c3 s3 a3 m3 o3 s4 a4 m4 o4 n5 s5 a5 m5 o5 c6 s6 a6 m6 o6 r1 r2 r3 r4 r5 r6 w e1 d1 e2 e3 e4 e5 e6 e7
  · replace h := (if_neg d1).symm.trans h
    obtain ⟨⟨n2, s2, a2, m2, o2⟩, e2, h⟩ := Option.bind_eq_some_iff.mp h
    obtain ⟨⟨c3, s3, a3, m3, o3⟩, e3, h⟩ := Option.bind_eq_some_iff.mp h
    obtain ⟨⟨b4, s4, a4, m4, o4⟩, e4, h⟩ := Option.bind_eq_some_iff.mp h
    by_cases d4 : b4 = true
    · replace h := (if_pos d4).symm.trans h
      obtain ⟨⟨c6, s6, a6, m6, o6⟩, e6, e7⟩ := Option.bind_eq_some_iff.mp h
      subst d4
      exact bound_Read_ni k a0 c1 s1 a1 m1 o1 n2 s2 a2 m2 o2 c3 s3 a3 m3 o3 s4 a4 m4 o4 c6 s6 a6 m6 o6 r1 r2 r3 r4 r5 r6 w e1 d1 e2 e3 e4 e6 e7
    · replace h := (if_neg d4).symm.trans h
      obtain ⟨⟨n5, s5, a5, m5, o5⟩, e5, h⟩ := Option.bind_eq_some_iff.mp h
      obtain ⟨⟨c6, s6, a6, m6, o6⟩, e6, e7⟩ := Option.bind_eq_some_iff.mp h
      replace d4 := Bool.eq_false_iff.mpr d4
      subst d4
      exact bound_Read_nn k a0 c1 s1 a1 m1 o1 n2 s2 a2 m2 o2 c3 s3 a3 m3 o3 s4 a4 m4 o4 n5 s5 a5 m5 o5 c6 s6 a6 m6 o6 r1 r2 r3 r4 r5 r6 w e1 d1 e2 e3 e4 e5 e6 e7
end Go.Proofs.Ytpeidnkbliafkaa.Print
