import Derived.Test.YtpeidnkbliafkaaPrint1
import Derived.Test.YtpeidnkbliafkaaPrint2
import Derived.Test.YtpeidnkbliafkaaHBnd3
namespace Go.Proofs.Ytpeidnkbliafkaa.Print
open Go.RowKit Go.Proofs.YtpeidnkbliafkaaW.PrintWords Go.Proofs.YtpeidnkbliafkaaW.PrintLast Go.Proofs.YtpeidnkbliafkaaW.PrintMore
attribute [local go_sem] max2_int min2_int max_two min_two max_three min_three max_four min_four
set_option linter.unusedVariables false
set_option linter.unusedSimpArgs false
set_option maxHeartbeats 8000000 in
set_option maxRecDepth 100000 in
theorem bound_Loose_x (k : Nat) (s : ByteArray) (c1 : Int) (c5 : Int) (c9 : Int) (s1 : ByteArray) (a1 : Int) (m1 o1 : Bool) (s2 : ByteArray) (a2 : Int) (m2 o2 : Bool) (s3 : ByteArray) (a3 : Int) (m3 o3 : Bool) (s4 : ByteArray) (a4 : Int) (m4 o4 : Bool) (s5 : ByteArray) (a5 : Int) (m5 o5 : Bool) (s6 : ByteArray) (a6 : Int) (m6 o6 : Bool) (s7 : ByteArray) (a7 : Int) (m7 o7 : Bool) (s8 : ByteArray) (a8 : Int) (m8 o8 : Bool) (s9 : ByteArray) (a9 : Int) (m9 o9 : Bool) (l1 l2 h1 h2 : Int) (r1 r2 r3 r4 r5 r6 : Int) (w : World) (e1 : bound_reader_sign.f k s 0 false true (⟨#[40, 91]⟩ : ByteArray) = some (c1, s1, a1, m1, o1)) (e2 : bound_reader_blanks.f k s1 a1 m1 o1 = some (s2, a2, m2, o2)) (e3 : bound_end.f k s2 a2 m2 o2 (⟨#[45, 105, 110, 102]⟩ : ByteArray) (c1 == 91) = some (l1, l2, s3, a3, m3, o3)) (e4 : bound_reader_blanks.f k s3 a3 m3 o3 = some (s4, a4, m4, o4)) (e5 : bound_reader_sign.f k s4 a4 m4 o4 (⟨#[44]⟩ : ByteArray) = some (c5, s5, a5, m5, o5)) (e6 : bound_reader_blanks.f k s5 a5 m5 o5 = some (s6, a6, m6, o6)) (e7 : bound_end.f k s6 a6 m6 o6 (⟨#[43, 105, 110, 102]⟩ : ByteArray) false = some (h1, h2, s7, a7, m7, o7)) (e8 : bound_reader_blanks.f k s7 a7 m7 o7 = some (s8, a8, m8, o8)) (e9 : bound_reader_sign.f k s8 a8 m8 o8 (⟨#[41, 93]⟩ : ByteArray) = some (c9, s9, a9, m9, o9)) (d9 : c9 ≠ 93) (e10 : bound_told.f k a9 m9 l1 l2 h1 h2 a6 = some (r1, r2, r3, r4, r5, r6)) :
    Calls Try.prog 14 #[.string s] w fun e w' => e = .returned (.tuple #[.agg #[.int .i64 r1, .int .i64 r2, .int .i64 r3, .int .i64 r4], .int .i64 r5, .int .i64 r6]) ∧ Below w.heap.size w w' := by
  have E1 := Aside0.mk e1
  have E2 := Aside0.mk e2
  have E3 := Aside0.mk e3
  have E4 := Aside0.mk e4
  have E5 := Aside0.mk e5
  have E6 := Aside0.mk e6
  have E7 := Aside0.mk e7
  have E8 := Aside0.mk e8
  have E9 := Aside0.mk e9
  have E10 := Aside0.mk e10
  clear e1 e2 e3 e4 e5 e6 e7 e8 e9 e10
  have d9' : (c9 == 93) = false := beq_eq_false_iff_ne.2 d9
  clear d9
  have HB := Aside0.mk (Below.refl w.heap.size w)
  have hu23 := Try.underlying23
  have hu27 := Try.underlying27
  have hu53 := Try.underlying53
  go_enter Try.func14, Try.ntmps14
  go_upto_region 2 with (first | ((with_reducible refine gate_dst (N := 2) rfl ?_); refine box_event ?hg (N := 2) ?hd (cs := #[.int .i64 0, .int .i64 0, .int .i64 0, .int .i64 0]) (t := 27) ?hr ?_; (case hd => rfl); (case hg => rfl); (case hr => first | (go_simp; done) | (go_simp; rfl)); intro gr hg w1 hbox hb; have n0_ := Aside0.mk (below_step (by repeat (first | (with_reducible first | exact HB.out | apply below_alloc | apply pw_below_drewN | apply below_drew1) | exact HB.out)) hb); have n1_ := Aside0.mk hbox; have n2_ : Aside0 (w.heap.size ≤ gr) := Aside0.mk (by rw [hg]; exact (below_size (by repeat (first | (with_reducible first | exact HB.out | apply below_alloc | apply pw_below_drewN | apply below_drew1) | exact HB.out)))); clear HB; have HB := n0_; have BKgr := n1_; have GEgr := n2_; clear n0_ n1_ n2_; clear hbox hb hg) | ((with_reducible refine gate_dst (N := 13) rfl ?_); refine box_event ?hg (N := 13) ?hd (cs := #[.string s, .int .i64 0, .bool false, .bool true]) (t := 53) ?hr ?_; (case hd => rfl); (case hg => rfl); (case hr => first | (go_simp; done) | (go_simp; rfl)); intro g hg w2 hbox hb; have n0_ := Aside0.mk (below_step (by repeat (first | (with_reducible first | exact HB.out | apply below_alloc | apply pw_below_drewN | apply below_drew1) | exact HB.out)) hb); have n1_ := Aside0.mk hbox; have n2_ : Aside0 (w.heap.size ≤ g) := Aside0.mk (by rw [hg]; exact (below_size (by repeat (first | (with_reducible first | exact HB.out | apply below_alloc | apply pw_below_drewN | apply below_drew1) | exact HB.out)))); have m0_ := Aside0.mk (blk_below BKgr.out hb); have NE_gr_g : gr ≠ g := (by rw [hg]; exact (Nat.ne_of_lt (blk_lt BKgr.out))); clear HB; have HB := n0_; have BKg := n1_; have GEg := n2_; clear n0_ n1_ n2_; clear BKgr; have BKgr := m0_; clear m0_; clear hbox hb hg))
  have HI : Aside0 (IsS53 w w2 g s 0 false true) := Aside0.mk ⟨BKg.out, GEg.out⟩
  have NE_g_gr := NE_gr_g.symm
  clear BKg NE_gr_g
  have BKgv := Aside0.mk (blk_new w2 (Obj.cells #[Value.pointer (some ⟨g, 0, none⟩)] 51))
  have m_ := Aside0.mk (IsS53.alloc HI.out (Obj.cells #[Value.pointer (some ⟨g, 0, none⟩)] 51))
  have n_ := Aside0.mk (below_alloc HB.out (Obj.cells #[Value.pointer (some ⟨g, 0, none⟩)] 51))
  have GEgv : Aside0 (w.heap.size ≤ w2.heap.size) := Aside0.mk HB.out.size
  have NE_g_gv : g ≠ w2.heap.size := Nat.ne_of_lt (blk_lt HI.out.1)
  have bgr_ := Aside0.mk (blk_alloc BKgr.out (Obj.cells #[Value.pointer (some ⟨g, 0, none⟩)] 51))
  have NE_gr_gv : gr ≠ w2.heap.size := Nat.ne_of_lt (blk_lt BKgr.out)
  clear HI HB BKgr
  have HI := m_
  have HB := n_
  have BKgr := bgr_
  clear m_ n_ bgr_
  generalize w2.alloc (Obj.cells #[Value.pointer (some ⟨g, 0, none⟩)] 51) = w3 at *
  generalize w2.heap.size = gv at *
  go_upto_region 3 with fail
  have hcz_0 := cellS53_0 HI.out.1
  have hcz_1 := cellS53_1 HI.out.1
  have hcz_2 := cellS53_2 HI.out.1
  have hcz_3 := cellS53_3 HI.out.1
  have hfz_0 := blk_frozen HI.out.1 0
  have hfz_1 := blk_frozen HI.out.1 1
  have hfz_2 := blk_frozen HI.out.1 2
  have hfz_3 := blk_frozen HI.out.1 3
  have hc_gv_0 := (blk_cell BKgv.out 0).trans rfl
  have hf_gv_0 := blk_frozen BKgv.out 0
  go_upto_region 4 with (first | (go_at_call 37; (with_reducible refine (bound_reader_sign.calls k g s 0 false true (⟨#[40, 91]⟩ : ByteArray) c1 s1 a1 m1 o1 w _ HI.out HB.out E1.out).mono ?_); rintro e w4 ⟨rfl, hi, hb, hk⟩; have m_ := Aside0.mk hi; have n_ := Aside0.mk hb; have bgr_ := Aside0.mk (KeepBut.blk hk BKgr.out NE_g_gr.symm (by simp)); have bgv_ := Aside0.mk (KeepBut.blk hk BKgv.out NE_g_gv.symm (by simp)); clear HI HB BKgr BKgv hi hb hk; (try clear hcz_0); (try clear hcz_1); (try clear hcz_2); (try clear hcz_3); (try clear hfz_0); (try clear hfz_1); (try clear hfz_2); (try clear hfz_3); (try clear hc_gv_0); (try clear hf_gv_0); (try clear hc_gh_0); (try clear hc_gh_1); (try clear hf_gh_0); (try clear hf_gh_1); have HI := m_; have HB := n_; have BKgr := bgr_; have BKgv := bgv_; clear m_ n_ bgr_ bgv_))
  have hcz_0 := cellS53_0 HI.out.1
  have hcz_1 := cellS53_1 HI.out.1
  have hcz_2 := cellS53_2 HI.out.1
  have hcz_3 := cellS53_3 HI.out.1
  have hfz_0 := blk_frozen HI.out.1 0
  have hfz_1 := blk_frozen HI.out.1 1
  have hfz_2 := blk_frozen HI.out.1 2
  have hfz_3 := blk_frozen HI.out.1 3
  have hc_gv_0 := (blk_cell BKgv.out 0).trans rfl
  have hf_gv_0 := blk_frozen BKgv.out 0
  go_upto_region 5 with (first | (go_at_call 45; (with_reducible refine (bound_reader_blanks.calls k g s1 a1 m1 o1 s2 a2 m2 o2 w _ HI.out HB.out E2.out).mono ?_); rintro e w5 ⟨rfl, hi, hb, hk⟩; have m_ := Aside0.mk hi; have n_ := Aside0.mk hb; have bgr_ := Aside0.mk (KeepBut.blk hk BKgr.out NE_g_gr.symm (by simp)); have bgv_ := Aside0.mk (KeepBut.blk hk BKgv.out NE_g_gv.symm (by simp)); clear HI HB BKgr BKgv hi hb hk; (try clear hcz_0); (try clear hcz_1); (try clear hcz_2); (try clear hcz_3); (try clear hfz_0); (try clear hfz_1); (try clear hfz_2); (try clear hfz_3); (try clear hc_gv_0); (try clear hf_gv_0); (try clear hc_gh_0); (try clear hc_gh_1); (try clear hf_gh_0); (try clear hf_gh_1); have HI := m_; have HB := n_; have BKgr := bgr_; have BKgv := bgv_; clear m_ n_ bgr_ bgv_))
  have hcz_0 := cellS53_0 HI.out.1
  have hcz_1 := cellS53_1 HI.out.1
  have hcz_2 := cellS53_2 HI.out.1
  have hcz_3 := cellS53_3 HI.out.1
  have hfz_0 := blk_frozen HI.out.1 0
  have hfz_1 := blk_frozen HI.out.1 1
  have hfz_2 := blk_frozen HI.out.1 2
  have hfz_3 := blk_frozen HI.out.1 3
  have hc_gv_0 := (blk_cell BKgv.out 0).trans rfl
  have hf_gv_0 := blk_frozen BKgv.out 0
  go_upto_region 6 with (first | (go_at_call 43; (with_reducible refine (bound_end.calls k g gv s2 a2 m2 o2 (⟨#[45, 105, 110, 102]⟩ : ByteArray) (c1 == 91) l1 l2 s3 a3 m3 o3 w _ HI.out HB.out BKgv.out NE_g_gv.symm E3.out).mono ?_); rintro e w6 ⟨rfl, hi, hb, hk⟩; have m_ := Aside0.mk hi; have n_ := Aside0.mk hb; have bgr_ := Aside0.mk (KeepBut.blk hk BKgr.out NE_g_gr.symm (by simp)); have bgv_ := Aside0.mk (KeepBut.blk hk BKgv.out NE_g_gv.symm (by simp)); clear HI HB BKgr BKgv hi hb hk; (try clear hcz_0); (try clear hcz_1); (try clear hcz_2); (try clear hcz_3); (try clear hfz_0); (try clear hfz_1); (try clear hfz_2); (try clear hfz_3); (try clear hc_gv_0); (try clear hf_gv_0); (try clear hc_gh_0); (try clear hc_gh_1); (try clear hf_gh_0); (try clear hf_gh_1); have HI := m_; have HB := n_; have BKgr := bgr_; have BKgv := bgv_; clear m_ n_ bgr_ bgv_))
  have BKgl := Aside0.mk (blk_new w6 (Obj.cells #[.int .i64 l1, .int .i64 l2] 23))
  have m_ := Aside0.mk (IsS53.alloc HI.out (Obj.cells #[.int .i64 l1, .int .i64 l2] 23))
  have n_ := Aside0.mk (below_alloc HB.out (Obj.cells #[.int .i64 l1, .int .i64 l2] 23))
  have GEgl : Aside0 (w.heap.size ≤ w6.heap.size) := Aside0.mk HB.out.size
  have NE_g_gl : g ≠ w6.heap.size := Nat.ne_of_lt (blk_lt HI.out.1)
  have bgr_ := Aside0.mk (blk_alloc BKgr.out (Obj.cells #[.int .i64 l1, .int .i64 l2] 23))
  have NE_gr_gl : gr ≠ w6.heap.size := Nat.ne_of_lt (blk_lt BKgr.out)
  have bgv_ := Aside0.mk (blk_alloc BKgv.out (Obj.cells #[.int .i64 l1, .int .i64 l2] 23))
  have NE_gv_gl : gv ≠ w6.heap.size := Nat.ne_of_lt (blk_lt BKgv.out)
  clear HI HB BKgr BKgv
  have HI := m_
  have HB := n_
  have BKgr := bgr_
  have BKgv := bgv_
  clear m_ n_ bgr_ bgv_
  generalize w6.alloc (Obj.cells #[.int .i64 l1, .int .i64 l2] 23) = w7 at *
  generalize w6.heap.size = gl at *
  have hcz_0 := cellS53_0 HI.out.1
  have hcz_1 := cellS53_1 HI.out.1
  have hcz_2 := cellS53_2 HI.out.1
  have hcz_3 := cellS53_3 HI.out.1
  have hfz_0 := blk_frozen HI.out.1 0
  have hfz_1 := blk_frozen HI.out.1 1
  have hfz_2 := blk_frozen HI.out.1 2
  have hfz_3 := blk_frozen HI.out.1 3
  have hc_gv_0 := (blk_cell BKgv.out 0).trans rfl
  have hf_gv_0 := blk_frozen BKgv.out 0
  go_upto_region 7 with (first | (go_at_call 45; (with_reducible refine (bound_reader_blanks.calls k g s3 a3 m3 o3 s4 a4 m4 o4 w _ HI.out HB.out E4.out).mono ?_); rintro e w8 ⟨rfl, hi, hb, hk⟩; have m_ := Aside0.mk hi; have n_ := Aside0.mk hb; have bgr_ := Aside0.mk (KeepBut.blk hk BKgr.out NE_g_gr.symm (by simp)); have bgv_ := Aside0.mk (KeepBut.blk hk BKgv.out NE_g_gv.symm (by simp)); have bgl_ := Aside0.mk (KeepBut.blk hk BKgl.out NE_g_gl.symm (by simp)); clear HI HB BKgr BKgv BKgl hi hb hk; (try clear hcz_0); (try clear hcz_1); (try clear hcz_2); (try clear hcz_3); (try clear hfz_0); (try clear hfz_1); (try clear hfz_2); (try clear hfz_3); (try clear hc_gv_0); (try clear hf_gv_0); (try clear hc_gh_0); (try clear hc_gh_1); (try clear hf_gh_0); (try clear hf_gh_1); have HI := m_; have HB := n_; have BKgr := bgr_; have BKgv := bgv_; have BKgl := bgl_; clear m_ n_ bgr_ bgv_ bgl_))
  have hcz_0 := cellS53_0 HI.out.1
  have hcz_1 := cellS53_1 HI.out.1
  have hcz_2 := cellS53_2 HI.out.1
  have hcz_3 := cellS53_3 HI.out.1
  have hfz_0 := blk_frozen HI.out.1 0
  have hfz_1 := blk_frozen HI.out.1 1
  have hfz_2 := blk_frozen HI.out.1 2
  have hfz_3 := blk_frozen HI.out.1 3
  have hc_gv_0 := (blk_cell BKgv.out 0).trans rfl
  have hf_gv_0 := blk_frozen BKgv.out 0
  go_upto_region 8 with (first | (go_at_call 37; (with_reducible refine (bound_reader_sign.calls k g s4 a4 m4 o4 (⟨#[44]⟩ : ByteArray) c5 s5 a5 m5 o5 w _ HI.out HB.out E5.out).mono ?_); rintro e w9 ⟨rfl, hi, hb, hk⟩; have m_ := Aside0.mk hi; have n_ := Aside0.mk hb; have bgr_ := Aside0.mk (KeepBut.blk hk BKgr.out NE_g_gr.symm (by simp)); have bgv_ := Aside0.mk (KeepBut.blk hk BKgv.out NE_g_gv.symm (by simp)); have bgl_ := Aside0.mk (KeepBut.blk hk BKgl.out NE_g_gl.symm (by simp)); clear HI HB BKgr BKgv BKgl hi hb hk; (try clear hcz_0); (try clear hcz_1); (try clear hcz_2); (try clear hcz_3); (try clear hfz_0); (try clear hfz_1); (try clear hfz_2); (try clear hfz_3); (try clear hc_gv_0); (try clear hf_gv_0); (try clear hc_gh_0); (try clear hc_gh_1); (try clear hf_gh_0); (try clear hf_gh_1); have HI := m_; have HB := n_; have BKgr := bgr_; have BKgv := bgv_; have BKgl := bgl_; clear m_ n_ bgr_ bgv_ bgl_))
  have hcz_0 := cellS53_0 HI.out.1
  have hcz_1 := cellS53_1 HI.out.1
  have hcz_2 := cellS53_2 HI.out.1
  have hcz_3 := cellS53_3 HI.out.1
  have hfz_0 := blk_frozen HI.out.1 0
  have hfz_1 := blk_frozen HI.out.1 1
  have hfz_2 := blk_frozen HI.out.1 2
  have hfz_3 := blk_frozen HI.out.1 3
  have hc_gv_0 := (blk_cell BKgv.out 0).trans rfl
  have hf_gv_0 := blk_frozen BKgv.out 0
  go_upto_region 9 with (first | (go_at_call 45; (with_reducible refine (bound_reader_blanks.calls k g s5 a5 m5 o5 s6 a6 m6 o6 w _ HI.out HB.out E6.out).mono ?_); rintro e w10 ⟨rfl, hi, hb, hk⟩; have m_ := Aside0.mk hi; have n_ := Aside0.mk hb; have bgr_ := Aside0.mk (KeepBut.blk hk BKgr.out NE_g_gr.symm (by simp)); have bgv_ := Aside0.mk (KeepBut.blk hk BKgv.out NE_g_gv.symm (by simp)); have bgl_ := Aside0.mk (KeepBut.blk hk BKgl.out NE_g_gl.symm (by simp)); clear HI HB BKgr BKgv BKgl hi hb hk; (try clear hcz_0); (try clear hcz_1); (try clear hcz_2); (try clear hcz_3); (try clear hfz_0); (try clear hfz_1); (try clear hfz_2); (try clear hfz_3); (try clear hc_gv_0); (try clear hf_gv_0); (try clear hc_gh_0); (try clear hc_gh_1); (try clear hf_gh_0); (try clear hf_gh_1); have HI := m_; have HB := n_; have BKgr := bgr_; have BKgv := bgv_; have BKgl := bgl_; clear m_ n_ bgr_ bgv_ bgl_))
  have hcz_0 := cellS53_0 HI.out.1
  have hcz_1 := cellS53_1 HI.out.1
  have hcz_2 := cellS53_2 HI.out.1
  have hcz_3 := cellS53_3 HI.out.1
  have hfz_0 := blk_frozen HI.out.1 0
  have hfz_1 := blk_frozen HI.out.1 1
  have hfz_2 := blk_frozen HI.out.1 2
  have hfz_3 := blk_frozen HI.out.1 3
  have hc_gv_0 := (blk_cell BKgv.out 0).trans rfl
  have hf_gv_0 := blk_frozen BKgv.out 0
  go_upto_region 10 with fail
  go_upto_region 11 with (first | (go_at_call 43; (with_reducible refine (bound_end.calls k g gv s6 a6 m6 o6 (⟨#[43, 105, 110, 102]⟩ : ByteArray) false h1 h2 s7 a7 m7 o7 w _ HI.out HB.out BKgv.out NE_g_gv.symm E7.out).mono ?_); rintro e w11 ⟨rfl, hi, hb, hk⟩; have m_ := Aside0.mk hi; have n_ := Aside0.mk hb; have bgr_ := Aside0.mk (KeepBut.blk hk BKgr.out NE_g_gr.symm (by simp)); have bgv_ := Aside0.mk (KeepBut.blk hk BKgv.out NE_g_gv.symm (by simp)); have bgl_ := Aside0.mk (KeepBut.blk hk BKgl.out NE_g_gl.symm (by simp)); clear HI HB BKgr BKgv BKgl hi hb hk; (try clear hcz_0); (try clear hcz_1); (try clear hcz_2); (try clear hcz_3); (try clear hfz_0); (try clear hfz_1); (try clear hfz_2); (try clear hfz_3); (try clear hc_gv_0); (try clear hf_gv_0); (try clear hc_gh_0); (try clear hc_gh_1); (try clear hf_gh_0); (try clear hf_gh_1); have HI := m_; have HB := n_; have BKgr := bgr_; have BKgv := bgv_; have BKgl := bgl_; clear m_ n_ bgr_ bgv_ bgl_))
  have BKgh := Aside0.mk (blk_new w11 (Obj.cells #[.int .i64 h1, .int .i64 h2] 23))
  have m_ := Aside0.mk (IsS53.alloc HI.out (Obj.cells #[.int .i64 h1, .int .i64 h2] 23))
  have n_ := Aside0.mk (below_alloc HB.out (Obj.cells #[.int .i64 h1, .int .i64 h2] 23))
  have GEgh : Aside0 (w.heap.size ≤ w11.heap.size) := Aside0.mk HB.out.size
  have NE_g_gh : g ≠ w11.heap.size := Nat.ne_of_lt (blk_lt HI.out.1)
  have bgr_ := Aside0.mk (blk_alloc BKgr.out (Obj.cells #[.int .i64 h1, .int .i64 h2] 23))
  have NE_gr_gh : gr ≠ w11.heap.size := Nat.ne_of_lt (blk_lt BKgr.out)
  have bgv_ := Aside0.mk (blk_alloc BKgv.out (Obj.cells #[.int .i64 h1, .int .i64 h2] 23))
  have NE_gv_gh : gv ≠ w11.heap.size := Nat.ne_of_lt (blk_lt BKgv.out)
  have bgl_ := Aside0.mk (blk_alloc BKgl.out (Obj.cells #[.int .i64 h1, .int .i64 h2] 23))
  have NE_gl_gh : gl ≠ w11.heap.size := Nat.ne_of_lt (blk_lt BKgl.out)
  clear HI HB BKgr BKgv BKgl
  have HI := m_
  have HB := n_
  have BKgr := bgr_
  have BKgv := bgv_
  have BKgl := bgl_
  clear m_ n_ bgr_ bgv_ bgl_
  generalize w11.alloc (Obj.cells #[.int .i64 h1, .int .i64 h2] 23) = w12 at *
  generalize w11.heap.size = gh at *
  have hcz_0 := cellS53_0 HI.out.1
  have hcz_1 := cellS53_1 HI.out.1
  have hcz_2 := cellS53_2 HI.out.1
  have hcz_3 := cellS53_3 HI.out.1
  have hfz_0 := blk_frozen HI.out.1 0
  have hfz_1 := blk_frozen HI.out.1 1
  have hfz_2 := blk_frozen HI.out.1 2
  have hfz_3 := blk_frozen HI.out.1 3
  have hc_gv_0 := (blk_cell BKgv.out 0).trans rfl
  have hf_gv_0 := blk_frozen BKgv.out 0
  go_upto_region 12 with (first | (go_at_call 45; (with_reducible refine (bound_reader_blanks.calls k g s7 a7 m7 o7 s8 a8 m8 o8 w _ HI.out HB.out E8.out).mono ?_); rintro e w13 ⟨rfl, hi, hb, hk⟩; have m_ := Aside0.mk hi; have n_ := Aside0.mk hb; have bgr_ := Aside0.mk (KeepBut.blk hk BKgr.out NE_g_gr.symm (by simp)); have bgv_ := Aside0.mk (KeepBut.blk hk BKgv.out NE_g_gv.symm (by simp)); have bgl_ := Aside0.mk (KeepBut.blk hk BKgl.out NE_g_gl.symm (by simp)); have bgh_ := Aside0.mk (KeepBut.blk hk BKgh.out NE_g_gh.symm (by simp)); clear HI HB BKgr BKgv BKgl BKgh hi hb hk; (try clear hcz_0); (try clear hcz_1); (try clear hcz_2); (try clear hcz_3); (try clear hfz_0); (try clear hfz_1); (try clear hfz_2); (try clear hfz_3); (try clear hc_gv_0); (try clear hf_gv_0); (try clear hc_gh_0); (try clear hc_gh_1); (try clear hf_gh_0); (try clear hf_gh_1); have HI := m_; have HB := n_; have BKgr := bgr_; have BKgv := bgv_; have BKgl := bgl_; have BKgh := bgh_; clear m_ n_ bgr_ bgv_ bgl_ bgh_))
  have hcz_0 := cellS53_0 HI.out.1
  have hcz_1 := cellS53_1 HI.out.1
  have hcz_2 := cellS53_2 HI.out.1
  have hcz_3 := cellS53_3 HI.out.1
  have hfz_0 := blk_frozen HI.out.1 0
  have hfz_1 := blk_frozen HI.out.1 1
  have hfz_2 := blk_frozen HI.out.1 2
  have hfz_3 := blk_frozen HI.out.1 3
  have hc_gv_0 := (blk_cell BKgv.out 0).trans rfl
  have hf_gv_0 := blk_frozen BKgv.out 0
  go_upto_region 14 with (first | (go_at_call 37; (with_reducible refine (bound_reader_sign.calls k g s8 a8 m8 o8 (⟨#[41, 93]⟩ : ByteArray) c9 s9 a9 m9 o9 w _ HI.out HB.out E9.out).mono ?_); rintro e w14 ⟨rfl, hi, hb, hk⟩; have m_ := Aside0.mk hi; have n_ := Aside0.mk hb; have bgr_ := Aside0.mk (KeepBut.blk hk BKgr.out NE_g_gr.symm (by simp)); have bgv_ := Aside0.mk (KeepBut.blk hk BKgv.out NE_g_gv.symm (by simp)); have bgl_ := Aside0.mk (KeepBut.blk hk BKgl.out NE_g_gl.symm (by simp)); have bgh_ := Aside0.mk (KeepBut.blk hk BKgh.out NE_g_gh.symm (by simp)); clear HI HB BKgr BKgv BKgl BKgh hi hb hk; (try clear hcz_0); (try clear hcz_1); (try clear hcz_2); (try clear hcz_3); (try clear hfz_0); (try clear hfz_1); (try clear hfz_2); (try clear hfz_3); (try clear hc_gv_0); (try clear hf_gv_0); (try clear hc_gh_0); (try clear hc_gh_1); (try clear hf_gh_0); (try clear hf_gh_1); have HI := m_; have HB := n_; have BKgr := bgr_; have BKgv := bgv_; have BKgl := bgl_; have BKgh := bgh_; clear m_ n_ bgr_ bgv_ bgl_ bgh_; have hc_gh_0 := (blk_cell BKgh.out 0).trans rfl; have hc_gh_1 := (blk_cell BKgh.out 1).trans rfl; have hf_gh_0 := blk_frozen BKgh.out 0; have hf_gh_1 := blk_frozen BKgh.out 1))
  have hc_gl_0 := (blk_cell BKgl.out 0).trans rfl
  have hc_gl_1 := (blk_cell BKgl.out 1).trans rfl
  have hf_gl_0 := blk_frozen BKgl.out 0
  have hf_gl_1 := blk_frozen BKgl.out 1
  have hc_gv_0 := (blk_cell BKgv.out 0).trans rfl
  have hf_gv_0 := blk_frozen BKgv.out 0
  go_wp2_with (go_at_call 41; (with_reducible refine (bound_told.calls k g s9 a9 m9 o9 l1 l2 h1 h2 a6 r1 r2 r3 r4 r5 r6 w _ HI.out E10.out).mono ?_); rintro e w16 ⟨rfl, hb⟩; have n_ := Aside0.mk (below_step HB.out hb); have b_ := Aside0.mk (blk_below BKgr.out hb); clear HB HI BKgr BKgl BKgh BKgv hc_gl_0 hf_gl_0 hc_gl_1 hf_gl_1 hc_gh_0 hf_gh_0 hc_gh_1 hf_gh_1 hc_gv_0 hf_gv_0 hb; have HB := n_; have BKgr := b_; clear n_ b_; have hc_gr_0 := (blk_cell BKgr.out 0).trans rfl; have hf_gr_0 := blk_frozen BKgr.out 0; have hc_gr_1 := (blk_cell BKgr.out 1).trans rfl; have hf_gr_1 := blk_frozen BKgr.out 1; have hc_gr_2 := (blk_cell BKgr.out 2).trans rfl; have hf_gr_2 := blk_frozen BKgr.out 2; have hc_gr_3 := (blk_cell BKgr.out 3).trans rfl; have hf_gr_3 := blk_frozen BKgr.out 3)
  refine bodyPost_ret (results_ctt rfl _ _ gr 27 #[.int .i64 r1, .int .i64 r2, .int .i64 r3, .int .i64 r4] (0, 0) _ rfl (by (with_reducible repeat (first | refine blk_drewN ?_ _ | refine blk_drew ?_ | refine blk_alloc ?_ _)); refine blk_put (cs := #[.int .i64 r1, .int .i64 r2, .int .i64 r3, .int .i64 0]) ?_ 3 _ rfl; (with_reducible repeat (first | refine blk_drewN ?_ _ | refine blk_drew ?_ | refine blk_alloc ?_ _)); refine blk_put (cs := #[.int .i64 r1, .int .i64 r2, .int .i64 0, .int .i64 0]) ?_ 2 _ rfl; (with_reducible repeat (first | refine blk_drewN ?_ _ | refine blk_drew ?_ | refine blk_alloc ?_ _)); refine blk_put (cs := #[.int .i64 r1, .int .i64 0, .int .i64 0, .int .i64 0]) ?_ 1 _ rfl; (with_reducible repeat (first | refine blk_drewN ?_ _ | refine blk_drew ?_ | refine blk_alloc ?_ _)); refine blk_put (cs := #[.int .i64 0, .int .i64 0, .int .i64 0, .int .i64 0]) ?_ 0 _ rfl; (with_reducible repeat (first | refine blk_drewN ?_ _ | refine blk_drew ?_ | refine blk_alloc ?_ _)); exact BKgr.out) Try.underlying27 rfl (by kernel_rfl)) rfl ?_
  exact ⟨rfl, by repeat (first | (with_reducible first | exact HB.out | apply below_alloc | apply pw_below_drewN | apply below_drew1 | refine below_set ?_ GEgr.out) | exact HB.out)⟩
set_option maxHeartbeats 8000000 in
set_option maxRecDepth 100000 in
theorem bound_Loose_y (k : Nat) (s : ByteArray) (c1 : Int) (c5 : Int) (c9 : Int) (s1 : ByteArray) (a1 : Int) (m1 o1 : Bool) (s2 : ByteArray) (a2 : Int) (m2 o2 : Bool) (s3 : ByteArray) (a3 : Int) (m3 o3 : Bool) (s4 : ByteArray) (a4 : Int) (m4 o4 : Bool) (s5 : ByteArray) (a5 : Int) (m5 o5 : Bool) (s6 : ByteArray) (a6 : Int) (m6 o6 : Bool) (s7 : ByteArray) (a7 : Int) (m7 o7 : Bool) (s8 : ByteArray) (a8 : Int) (m8 o8 : Bool) (s9 : ByteArray) (a9 : Int) (m9 o9 : Bool) (l1 l2 h1 h2 : Int) (r1 r2 r3 r4 r5 r6 : Int) (w : World) (e1 : bound_reader_sign.f k s 0 false true (⟨#[40, 91]⟩ : ByteArray) = some (c1, s1, a1, m1, o1)) (e2 : bound_reader_blanks.f k s1 a1 m1 o1 = some (s2, a2, m2, o2)) (e3 : bound_end.f k s2 a2 m2 o2 (⟨#[45, 105, 110, 102]⟩ : ByteArray) (c1 == 91) = some (l1, l2, s3, a3, m3, o3)) (e4 : bound_reader_blanks.f k s3 a3 m3 o3 = some (s4, a4, m4, o4)) (e5 : bound_reader_sign.f k s4 a4 m4 o4 (⟨#[44]⟩ : ByteArray) = some (c5, s5, a5, m5, o5)) (e6 : bound_reader_blanks.f k s5 a5 m5 o5 = some (s6, a6, m6, o6)) (e7 : bound_end.f k s6 a6 m6 o6 (⟨#[43, 105, 110, 102]⟩ : ByteArray) false = some (h1, h2, s7, a7, m7, o7)) (e8 : bound_reader_blanks.f k s7 a7 m7 o7 = some (s8, a8, m8, o8)) (e9 : bound_reader_sign.f k s8 a8 m8 o8 (⟨#[41, 93]⟩ : ByteArray) = some (c9, s9, a9, m9, o9)) (d9 : c9 = 93) (dh : h1 ≠ 1) (e10 : bound_told.f k a9 m9 l1 l2 h1 h2 a6 = some (r1, r2, r3, r4, r5, r6)) :
    Calls Try.prog 14 #[.string s] w fun e w' => e = .returned (.tuple #[.agg #[.int .i64 r1, .int .i64 r2, .int .i64 r3, .int .i64 r4], .int .i64 r5, .int .i64 r6]) ∧ Below w.heap.size w w' := by
  have E1 := Aside0.mk e1
  have E2 := Aside0.mk e2
  have E3 := Aside0.mk e3
  have E4 := Aside0.mk e4
  have E5 := Aside0.mk e5
  have E6 := Aside0.mk e6
  have E7 := Aside0.mk e7
  have E8 := Aside0.mk e8
  have E9 := Aside0.mk e9
  have E10 := Aside0.mk e10
  clear e1 e2 e3 e4 e5 e6 e7 e8 e9 e10
  have d9' : (c9 == 93) = true := beq_iff_eq.2 d9
  clear d9
  have dh' : (h1 == 1) = false := beq_eq_false_iff_ne.2 dh
  clear dh
  have HB := Aside0.mk (Below.refl w.heap.size w)
  have hu23 := Try.underlying23
  have hu27 := Try.underlying27
  have hu53 := Try.underlying53
  go_enter Try.func14, Try.ntmps14
  go_upto_region 2 with (first | ((with_reducible refine gate_dst (N := 2) rfl ?_); refine box_event ?hg (N := 2) ?hd (cs := #[.int .i64 0, .int .i64 0, .int .i64 0, .int .i64 0]) (t := 27) ?hr ?_; (case hd => rfl); (case hg => rfl); (case hr => first | (go_simp; done) | (go_simp; rfl)); intro gr hg w1 hbox hb; have n0_ := Aside0.mk (below_step (by repeat (first | (with_reducible first | exact HB.out | apply below_alloc | apply pw_below_drewN | apply below_drew1) | exact HB.out)) hb); have n1_ := Aside0.mk hbox; have n2_ : Aside0 (w.heap.size ≤ gr) := Aside0.mk (by rw [hg]; exact (below_size (by repeat (first | (with_reducible first | exact HB.out | apply below_alloc | apply pw_below_drewN | apply below_drew1) | exact HB.out)))); clear HB; have HB := n0_; have BKgr := n1_; have GEgr := n2_; clear n0_ n1_ n2_; clear hbox hb hg) | ((with_reducible refine gate_dst (N := 13) rfl ?_); refine box_event ?hg (N := 13) ?hd (cs := #[.string s, .int .i64 0, .bool false, .bool true]) (t := 53) ?hr ?_; (case hd => rfl); (case hg => rfl); (case hr => first | (go_simp; done) | (go_simp; rfl)); intro g hg w2 hbox hb; have n0_ := Aside0.mk (below_step (by repeat (first | (with_reducible first | exact HB.out | apply below_alloc | apply pw_below_drewN | apply below_drew1) | exact HB.out)) hb); have n1_ := Aside0.mk hbox; have n2_ : Aside0 (w.heap.size ≤ g) := Aside0.mk (by rw [hg]; exact (below_size (by repeat (first | (with_reducible first | exact HB.out | apply below_alloc | apply pw_below_drewN | apply below_drew1) | exact HB.out)))); have m0_ := Aside0.mk (blk_below BKgr.out hb); have NE_gr_g : gr ≠ g := (by rw [hg]; exact (Nat.ne_of_lt (blk_lt BKgr.out))); clear HB; have HB := n0_; have BKg := n1_; have GEg := n2_; clear n0_ n1_ n2_; clear BKgr; have BKgr := m0_; clear m0_; clear hbox hb hg))
  have HI : Aside0 (IsS53 w w2 g s 0 false true) := Aside0.mk ⟨BKg.out, GEg.out⟩
  have NE_g_gr := NE_gr_g.symm
  clear BKg NE_gr_g
  have BKgv := Aside0.mk (blk_new w2 (Obj.cells #[Value.pointer (some ⟨g, 0, none⟩)] 51))
  have m_ := Aside0.mk (IsS53.alloc HI.out (Obj.cells #[Value.pointer (some ⟨g, 0, none⟩)] 51))
  have n_ := Aside0.mk (below_alloc HB.out (Obj.cells #[Value.pointer (some ⟨g, 0, none⟩)] 51))
  have GEgv : Aside0 (w.heap.size ≤ w2.heap.size) := Aside0.mk HB.out.size
  have NE_g_gv : g ≠ w2.heap.size := Nat.ne_of_lt (blk_lt HI.out.1)
  have bgr_ := Aside0.mk (blk_alloc BKgr.out (Obj.cells #[Value.pointer (some ⟨g, 0, none⟩)] 51))
  have NE_gr_gv : gr ≠ w2.heap.size := Nat.ne_of_lt (blk_lt BKgr.out)
  clear HI HB BKgr
  have HI := m_
  have HB := n_
  have BKgr := bgr_
  clear m_ n_ bgr_
  generalize w2.alloc (Obj.cells #[Value.pointer (some ⟨g, 0, none⟩)] 51) = w3 at *
  generalize w2.heap.size = gv at *
  go_upto_region 3 with fail
  have hcz_0 := cellS53_0 HI.out.1
  have hcz_1 := cellS53_1 HI.out.1
  have hcz_2 := cellS53_2 HI.out.1
  have hcz_3 := cellS53_3 HI.out.1
  have hfz_0 := blk_frozen HI.out.1 0
  have hfz_1 := blk_frozen HI.out.1 1
  have hfz_2 := blk_frozen HI.out.1 2
  have hfz_3 := blk_frozen HI.out.1 3
  have hc_gv_0 := (blk_cell BKgv.out 0).trans rfl
  have hf_gv_0 := blk_frozen BKgv.out 0
  go_upto_region 4 with (first | (go_at_call 37; (with_reducible refine (bound_reader_sign.calls k g s 0 false true (⟨#[40, 91]⟩ : ByteArray) c1 s1 a1 m1 o1 w _ HI.out HB.out E1.out).mono ?_); rintro e w4 ⟨rfl, hi, hb, hk⟩; have m_ := Aside0.mk hi; have n_ := Aside0.mk hb; have bgr_ := Aside0.mk (KeepBut.blk hk BKgr.out NE_g_gr.symm (by simp)); have bgv_ := Aside0.mk (KeepBut.blk hk BKgv.out NE_g_gv.symm (by simp)); clear HI HB BKgr BKgv hi hb hk; (try clear hcz_0); (try clear hcz_1); (try clear hcz_2); (try clear hcz_3); (try clear hfz_0); (try clear hfz_1); (try clear hfz_2); (try clear hfz_3); (try clear hc_gv_0); (try clear hf_gv_0); (try clear hc_gh_0); (try clear hc_gh_1); (try clear hf_gh_0); (try clear hf_gh_1); have HI := m_; have HB := n_; have BKgr := bgr_; have BKgv := bgv_; clear m_ n_ bgr_ bgv_))
  have hcz_0 := cellS53_0 HI.out.1
  have hcz_1 := cellS53_1 HI.out.1
  have hcz_2 := cellS53_2 HI.out.1
  have hcz_3 := cellS53_3 HI.out.1
  have hfz_0 := blk_frozen HI.out.1 0
  have hfz_1 := blk_frozen HI.out.1 1
  have hfz_2 := blk_frozen HI.out.1 2
  have hfz_3 := blk_frozen HI.out.1 3
  have hc_gv_0 := (blk_cell BKgv.out 0).trans rfl
  have hf_gv_0 := blk_frozen BKgv.out 0
  go_upto_region 5 with (first | (go_at_call 45; (with_reducible refine (bound_reader_blanks.calls k g s1 a1 m1 o1 s2 a2 m2 o2 w _ HI.out HB.out E2.out).mono ?_); rintro e w5 ⟨rfl, hi, hb, hk⟩; have m_ := Aside0.mk hi; have n_ := Aside0.mk hb; have bgr_ := Aside0.mk (KeepBut.blk hk BKgr.out NE_g_gr.symm (by simp)); have bgv_ := Aside0.mk (KeepBut.blk hk BKgv.out NE_g_gv.symm (by simp)); clear HI HB BKgr BKgv hi hb hk; (try clear hcz_0); (try clear hcz_1); (try clear hcz_2); (try clear hcz_3); (try clear hfz_0); (try clear hfz_1); (try clear hfz_2); (try clear hfz_3); (try clear hc_gv_0); (try clear hf_gv_0); (try clear hc_gh_0); (try clear hc_gh_1); (try clear hf_gh_0); (try clear hf_gh_1); have HI := m_; have HB := n_; have BKgr := bgr_; have BKgv := bgv_; clear m_ n_ bgr_ bgv_))
  have hcz_0 := cellS53_0 HI.out.1
  have hcz_1 := cellS53_1 HI.out.1
  have hcz_2 := cellS53_2 HI.out.1
  have hcz_3 := cellS53_3 HI.out.1
  have hfz_0 := blk_frozen HI.out.1 0
  have hfz_1 := blk_frozen HI.out.1 1
  have hfz_2 := blk_frozen HI.out.1 2
  have hfz_3 := blk_frozen HI.out.1 3
  have hc_gv_0 := (blk_cell BKgv.out 0).trans rfl
  have hf_gv_0 := blk_frozen BKgv.out 0
  go_upto_region 6 with (first | (go_at_call 43; (with_reducible refine (bound_end.calls k g gv s2 a2 m2 o2 (⟨#[45, 105, 110, 102]⟩ : ByteArray) (c1 == 91) l1 l2 s3 a3 m3 o3 w _ HI.out HB.out BKgv.out NE_g_gv.symm E3.out).mono ?_); rintro e w6 ⟨rfl, hi, hb, hk⟩; have m_ := Aside0.mk hi; have n_ := Aside0.mk hb; have bgr_ := Aside0.mk (KeepBut.blk hk BKgr.out NE_g_gr.symm (by simp)); have bgv_ := Aside0.mk (KeepBut.blk hk BKgv.out NE_g_gv.symm (by simp)); clear HI HB BKgr BKgv hi hb hk; (try clear hcz_0); (try clear hcz_1); (try clear hcz_2); (try clear hcz_3); (try clear hfz_0); (try clear hfz_1); (try clear hfz_2); (try clear hfz_3); (try clear hc_gv_0); (try clear hf_gv_0); (try clear hc_gh_0); (try clear hc_gh_1); (try clear hf_gh_0); (try clear hf_gh_1); have HI := m_; have HB := n_; have BKgr := bgr_; have BKgv := bgv_; clear m_ n_ bgr_ bgv_))
  have BKgl := Aside0.mk (blk_new w6 (Obj.cells #[.int .i64 l1, .int .i64 l2] 23))
  have m_ := Aside0.mk (IsS53.alloc HI.out (Obj.cells #[.int .i64 l1, .int .i64 l2] 23))
  have n_ := Aside0.mk (below_alloc HB.out (Obj.cells #[.int .i64 l1, .int .i64 l2] 23))
  have GEgl : Aside0 (w.heap.size ≤ w6.heap.size) := Aside0.mk HB.out.size
  have NE_g_gl : g ≠ w6.heap.size := Nat.ne_of_lt (blk_lt HI.out.1)
  have bgr_ := Aside0.mk (blk_alloc BKgr.out (Obj.cells #[.int .i64 l1, .int .i64 l2] 23))
  have NE_gr_gl : gr ≠ w6.heap.size := Nat.ne_of_lt (blk_lt BKgr.out)
  have bgv_ := Aside0.mk (blk_alloc BKgv.out (Obj.cells #[.int .i64 l1, .int .i64 l2] 23))
  have NE_gv_gl : gv ≠ w6.heap.size := Nat.ne_of_lt (blk_lt BKgv.out)
  clear HI HB BKgr BKgv
  have HI := m_
  have HB := n_
  have BKgr := bgr_
  have BKgv := bgv_
  clear m_ n_ bgr_ bgv_
  generalize w6.alloc (Obj.cells #[.int .i64 l1, .int .i64 l2] 23) = w7 at *
  generalize w6.heap.size = gl at *
  have hcz_0 := cellS53_0 HI.out.1
  have hcz_1 := cellS53_1 HI.out.1
  have hcz_2 := cellS53_2 HI.out.1
  have hcz_3 := cellS53_3 HI.out.1
  have hfz_0 := blk_frozen HI.out.1 0
  have hfz_1 := blk_frozen HI.out.1 1
  have hfz_2 := blk_frozen HI.out.1 2
  have hfz_3 := blk_frozen HI.out.1 3
  have hc_gv_0 := (blk_cell BKgv.out 0).trans rfl
  have hf_gv_0 := blk_frozen BKgv.out 0
  go_upto_region 7 with (first | (go_at_call 45; (with_reducible refine (bound_reader_blanks.calls k g s3 a3 m3 o3 s4 a4 m4 o4 w _ HI.out HB.out E4.out).mono ?_); rintro e w8 ⟨rfl, hi, hb, hk⟩; have m_ := Aside0.mk hi; have n_ := Aside0.mk hb; have bgr_ := Aside0.mk (KeepBut.blk hk BKgr.out NE_g_gr.symm (by simp)); have bgv_ := Aside0.mk (KeepBut.blk hk BKgv.out NE_g_gv.symm (by simp)); have bgl_ := Aside0.mk (KeepBut.blk hk BKgl.out NE_g_gl.symm (by simp)); clear HI HB BKgr BKgv BKgl hi hb hk; (try clear hcz_0); (try clear hcz_1); (try clear hcz_2); (try clear hcz_3); (try clear hfz_0); (try clear hfz_1); (try clear hfz_2); (try clear hfz_3); (try clear hc_gv_0); (try clear hf_gv_0); (try clear hc_gh_0); (try clear hc_gh_1); (try clear hf_gh_0); (try clear hf_gh_1); have HI := m_; have HB := n_; have BKgr := bgr_; have BKgv := bgv_; have BKgl := bgl_; clear m_ n_ bgr_ bgv_ bgl_))
  have hcz_0 := cellS53_0 HI.out.1
  have hcz_1 := cellS53_1 HI.out.1
  have hcz_2 := cellS53_2 HI.out.1
  have hcz_3 := cellS53_3 HI.out.1
  have hfz_0 := blk_frozen HI.out.1 0
  have hfz_1 := blk_frozen HI.out.1 1
  have hfz_2 := blk_frozen HI.out.1 2
  have hfz_3 := blk_frozen HI.out.1 3
  have hc_gv_0 := (blk_cell BKgv.out 0).trans rfl
  have hf_gv_0 := blk_frozen BKgv.out 0
  go_upto_region 8 with (first | (go_at_call 37; (with_reducible refine (bound_reader_sign.calls k g s4 a4 m4 o4 (⟨#[44]⟩ : ByteArray) c5 s5 a5 m5 o5 w _ HI.out HB.out E5.out).mono ?_); rintro e w9 ⟨rfl, hi, hb, hk⟩; have m_ := Aside0.mk hi; have n_ := Aside0.mk hb; have bgr_ := Aside0.mk (KeepBut.blk hk BKgr.out NE_g_gr.symm (by simp)); have bgv_ := Aside0.mk (KeepBut.blk hk BKgv.out NE_g_gv.symm (by simp)); have bgl_ := Aside0.mk (KeepBut.blk hk BKgl.out NE_g_gl.symm (by simp)); clear HI HB BKgr BKgv BKgl hi hb hk; (try clear hcz_0); (try clear hcz_1); (try clear hcz_2); (try clear hcz_3); (try clear hfz_0); (try clear hfz_1); (try clear hfz_2); (try clear hfz_3); (try clear hc_gv_0); (try clear hf_gv_0); (try clear hc_gh_0); (try clear hc_gh_1); (try clear hf_gh_0); (try clear hf_gh_1); have HI := m_; have HB := n_; have BKgr := bgr_; have BKgv := bgv_; have BKgl := bgl_; clear m_ n_ bgr_ bgv_ bgl_))
  have hcz_0 := cellS53_0 HI.out.1
  have hcz_1 := cellS53_1 HI.out.1
  have hcz_2 := cellS53_2 HI.out.1
  have hcz_3 := cellS53_3 HI.out.1
  have hfz_0 := blk_frozen HI.out.1 0
  have hfz_1 := blk_frozen HI.out.1 1
  have hfz_2 := blk_frozen HI.out.1 2
  have hfz_3 := blk_frozen HI.out.1 3
  have hc_gv_0 := (blk_cell BKgv.out 0).trans rfl
  have hf_gv_0 := blk_frozen BKgv.out 0
  go_upto_region 9 with (first | (go_at_call 45; (with_reducible refine (bound_reader_blanks.calls k g s5 a5 m5 o5 s6 a6 m6 o6 w _ HI.out HB.out E6.out).mono ?_); rintro e w10 ⟨rfl, hi, hb, hk⟩; have m_ := Aside0.mk hi; have n_ := Aside0.mk hb; have bgr_ := Aside0.mk (KeepBut.blk hk BKgr.out NE_g_gr.symm (by simp)); have bgv_ := Aside0.mk (KeepBut.blk hk BKgv.out NE_g_gv.symm (by simp)); have bgl_ := Aside0.mk (KeepBut.blk hk BKgl.out NE_g_gl.symm (by simp)); clear HI HB BKgr BKgv BKgl hi hb hk; (try clear hcz_0); (try clear hcz_1); (try clear hcz_2); (try clear hcz_3); (try clear hfz_0); (try clear hfz_1); (try clear hfz_2); (try clear hfz_3); (try clear hc_gv_0); (try clear hf_gv_0); (try clear hc_gh_0); (try clear hc_gh_1); (try clear hf_gh_0); (try clear hf_gh_1); have HI := m_; have HB := n_; have BKgr := bgr_; have BKgv := bgv_; have BKgl := bgl_; clear m_ n_ bgr_ bgv_ bgl_))
  have hcz_0 := cellS53_0 HI.out.1
  have hcz_1 := cellS53_1 HI.out.1
  have hcz_2 := cellS53_2 HI.out.1
  have hcz_3 := cellS53_3 HI.out.1
  have hfz_0 := blk_frozen HI.out.1 0
  have hfz_1 := blk_frozen HI.out.1 1
  have hfz_2 := blk_frozen HI.out.1 2
  have hfz_3 := blk_frozen HI.out.1 3
  have hc_gv_0 := (blk_cell BKgv.out 0).trans rfl
  have hf_gv_0 := blk_frozen BKgv.out 0
  go_upto_region 10 with fail
  go_upto_region 11 with (first | (go_at_call 43; (with_reducible refine (bound_end.calls k g gv s6 a6 m6 o6 (⟨#[43, 105, 110, 102]⟩ : ByteArray) false h1 h2 s7 a7 m7 o7 w _ HI.out HB.out BKgv.out NE_g_gv.symm E7.out).mono ?_); rintro e w11 ⟨rfl, hi, hb, hk⟩; have m_ := Aside0.mk hi; have n_ := Aside0.mk hb; have bgr_ := Aside0.mk (KeepBut.blk hk BKgr.out NE_g_gr.symm (by simp)); have bgv_ := Aside0.mk (KeepBut.blk hk BKgv.out NE_g_gv.symm (by simp)); have bgl_ := Aside0.mk (KeepBut.blk hk BKgl.out NE_g_gl.symm (by simp)); clear HI HB BKgr BKgv BKgl hi hb hk; (try clear hcz_0); (try clear hcz_1); (try clear hcz_2); (try clear hcz_3); (try clear hfz_0); (try clear hfz_1); (try clear hfz_2); (try clear hfz_3); (try clear hc_gv_0); (try clear hf_gv_0); (try clear hc_gh_0); (try clear hc_gh_1); (try clear hf_gh_0); (try clear hf_gh_1); have HI := m_; have HB := n_; have BKgr := bgr_; have BKgv := bgv_; have BKgl := bgl_; clear m_ n_ bgr_ bgv_ bgl_))
  have BKgh := Aside0.mk (blk_new w11 (Obj.cells #[.int .i64 h1, .int .i64 h2] 23))
  have m_ := Aside0.mk (IsS53.alloc HI.out (Obj.cells #[.int .i64 h1, .int .i64 h2] 23))
  have n_ := Aside0.mk (below_alloc HB.out (Obj.cells #[.int .i64 h1, .int .i64 h2] 23))
  have GEgh : Aside0 (w.heap.size ≤ w11.heap.size) := Aside0.mk HB.out.size
  have NE_g_gh : g ≠ w11.heap.size := Nat.ne_of_lt (blk_lt HI.out.1)
  have bgr_ := Aside0.mk (blk_alloc BKgr.out (Obj.cells #[.int .i64 h1, .int .i64 h2] 23))
  have NE_gr_gh : gr ≠ w11.heap.size := Nat.ne_of_lt (blk_lt BKgr.out)
  have bgv_ := Aside0.mk (blk_alloc BKgv.out (Obj.cells #[.int .i64 h1, .int .i64 h2] 23))
  have NE_gv_gh : gv ≠ w11.heap.size := Nat.ne_of_lt (blk_lt BKgv.out)
  have bgl_ := Aside0.mk (blk_alloc BKgl.out (Obj.cells #[.int .i64 h1, .int .i64 h2] 23))
  have NE_gl_gh : gl ≠ w11.heap.size := Nat.ne_of_lt (blk_lt BKgl.out)
  clear HI HB BKgr BKgv BKgl
  have HI := m_
  have HB := n_
  have BKgr := bgr_
  have BKgv := bgv_
  have BKgl := bgl_
  clear m_ n_ bgr_ bgv_ bgl_
  generalize w11.alloc (Obj.cells #[.int .i64 h1, .int .i64 h2] 23) = w12 at *
  generalize w11.heap.size = gh at *
  have hcz_0 := cellS53_0 HI.out.1
  have hcz_1 := cellS53_1 HI.out.1
  have hcz_2 := cellS53_2 HI.out.1
  have hcz_3 := cellS53_3 HI.out.1
  have hfz_0 := blk_frozen HI.out.1 0
  have hfz_1 := blk_frozen HI.out.1 1
  have hfz_2 := blk_frozen HI.out.1 2
  have hfz_3 := blk_frozen HI.out.1 3
  have hc_gv_0 := (blk_cell BKgv.out 0).trans rfl
  have hf_gv_0 := blk_frozen BKgv.out 0
  go_upto_region 12 with (first | (go_at_call 45; (with_reducible refine (bound_reader_blanks.calls k g s7 a7 m7 o7 s8 a8 m8 o8 w _ HI.out HB.out E8.out).mono ?_); rintro e w13 ⟨rfl, hi, hb, hk⟩; have m_ := Aside0.mk hi; have n_ := Aside0.mk hb; have bgr_ := Aside0.mk (KeepBut.blk hk BKgr.out NE_g_gr.symm (by simp)); have bgv_ := Aside0.mk (KeepBut.blk hk BKgv.out NE_g_gv.symm (by simp)); have bgl_ := Aside0.mk (KeepBut.blk hk BKgl.out NE_g_gl.symm (by simp)); have bgh_ := Aside0.mk (KeepBut.blk hk BKgh.out NE_g_gh.symm (by simp)); clear HI HB BKgr BKgv BKgl BKgh hi hb hk; (try clear hcz_0); (try clear hcz_1); (try clear hcz_2); (try clear hcz_3); (try clear hfz_0); (try clear hfz_1); (try clear hfz_2); (try clear hfz_3); (try clear hc_gv_0); (try clear hf_gv_0); (try clear hc_gh_0); (try clear hc_gh_1); (try clear hf_gh_0); (try clear hf_gh_1); have HI := m_; have HB := n_; have BKgr := bgr_; have BKgv := bgv_; have BKgl := bgl_; have BKgh := bgh_; clear m_ n_ bgr_ bgv_ bgl_ bgh_))
  have hcz_0 := cellS53_0 HI.out.1
  have hcz_1 := cellS53_1 HI.out.1
  have hcz_2 := cellS53_2 HI.out.1
  have hcz_3 := cellS53_3 HI.out.1
  have hfz_0 := blk_frozen HI.out.1 0
  have hfz_1 := blk_frozen HI.out.1 1
  have hfz_2 := blk_frozen HI.out.1 2
  have hfz_3 := blk_frozen HI.out.1 3
  have hc_gv_0 := (blk_cell BKgv.out 0).trans rfl
  have hf_gv_0 := blk_frozen BKgv.out 0
  go_upto_region 14 with (first | (go_at_call 37; (with_reducible refine (bound_reader_sign.calls k g s8 a8 m8 o8 (⟨#[41, 93]⟩ : ByteArray) c9 s9 a9 m9 o9 w _ HI.out HB.out E9.out).mono ?_); rintro e w14 ⟨rfl, hi, hb, hk⟩; have m_ := Aside0.mk hi; have n_ := Aside0.mk hb; have bgr_ := Aside0.mk (KeepBut.blk hk BKgr.out NE_g_gr.symm (by simp)); have bgv_ := Aside0.mk (KeepBut.blk hk BKgv.out NE_g_gv.symm (by simp)); have bgl_ := Aside0.mk (KeepBut.blk hk BKgl.out NE_g_gl.symm (by simp)); have bgh_ := Aside0.mk (KeepBut.blk hk BKgh.out NE_g_gh.symm (by simp)); clear HI HB BKgr BKgv BKgl BKgh hi hb hk; (try clear hcz_0); (try clear hcz_1); (try clear hcz_2); (try clear hcz_3); (try clear hfz_0); (try clear hfz_1); (try clear hfz_2); (try clear hfz_3); (try clear hc_gv_0); (try clear hf_gv_0); (try clear hc_gh_0); (try clear hc_gh_1); (try clear hf_gh_0); (try clear hf_gh_1); have HI := m_; have HB := n_; have BKgr := bgr_; have BKgv := bgv_; have BKgl := bgl_; have BKgh := bgh_; clear m_ n_ bgr_ bgv_ bgl_ bgh_; have hc_gh_0 := (blk_cell BKgh.out 0).trans rfl; have hc_gh_1 := (blk_cell BKgh.out 1).trans rfl; have hf_gh_0 := blk_frozen BKgh.out 0; have hf_gh_1 := blk_frozen BKgh.out 1))
  have hc_gl_0 := (blk_cell BKgl.out 0).trans rfl
  have hc_gl_1 := (blk_cell BKgl.out 1).trans rfl
  have hf_gl_0 := blk_frozen BKgl.out 0
  have hf_gl_1 := blk_frozen BKgl.out 1
  have hc_gv_0 := (blk_cell BKgv.out 0).trans rfl
  have hf_gv_0 := blk_frozen BKgv.out 0
  go_wp2_with (go_at_call 41; (with_reducible refine (bound_told.calls k g s9 a9 m9 o9 l1 l2 h1 h2 a6 r1 r2 r3 r4 r5 r6 w _ HI.out E10.out).mono ?_); rintro e w16 ⟨rfl, hb⟩; have n_ := Aside0.mk (below_step HB.out hb); have b_ := Aside0.mk (blk_below BKgr.out hb); clear HB HI BKgr BKgl BKgh BKgv hc_gl_0 hf_gl_0 hc_gl_1 hf_gl_1 hc_gh_0 hf_gh_0 hc_gh_1 hf_gh_1 hc_gv_0 hf_gv_0 hb; have HB := n_; have BKgr := b_; clear n_ b_; have hc_gr_0 := (blk_cell BKgr.out 0).trans rfl; have hf_gr_0 := blk_frozen BKgr.out 0; have hc_gr_1 := (blk_cell BKgr.out 1).trans rfl; have hf_gr_1 := blk_frozen BKgr.out 1; have hc_gr_2 := (blk_cell BKgr.out 2).trans rfl; have hf_gr_2 := blk_frozen BKgr.out 2; have hc_gr_3 := (blk_cell BKgr.out 3).trans rfl; have hf_gr_3 := blk_frozen BKgr.out 3)
  refine bodyPost_ret (results_ctt rfl _ _ gr 27 #[.int .i64 r1, .int .i64 r2, .int .i64 r3, .int .i64 r4] (0, 0) _ rfl (by (with_reducible repeat (first | refine blk_drewN ?_ _ | refine blk_drew ?_ | refine blk_alloc ?_ _)); refine blk_put (cs := #[.int .i64 r1, .int .i64 r2, .int .i64 r3, .int .i64 0]) ?_ 3 _ rfl; (with_reducible repeat (first | refine blk_drewN ?_ _ | refine blk_drew ?_ | refine blk_alloc ?_ _)); refine blk_put (cs := #[.int .i64 r1, .int .i64 r2, .int .i64 0, .int .i64 0]) ?_ 2 _ rfl; (with_reducible repeat (first | refine blk_drewN ?_ _ | refine blk_drew ?_ | refine blk_alloc ?_ _)); refine blk_put (cs := #[.int .i64 r1, .int .i64 0, .int .i64 0, .int .i64 0]) ?_ 1 _ rfl; (with_reducible repeat (first | refine blk_drewN ?_ _ | refine blk_drew ?_ | refine blk_alloc ?_ _)); refine blk_put (cs := #[.int .i64 0, .int .i64 0, .int .i64 0, .int .i64 0]) ?_ 0 _ rfl; (with_reducible repeat (first | refine blk_drewN ?_ _ | refine blk_drew ?_ | refine blk_alloc ?_ _)); exact BKgr.out) Try.underlying27 rfl (by kernel_rfl)) rfl ?_
  exact ⟨rfl, by repeat (first | (with_reducible first | exact HB.out | apply below_alloc | apply pw_below_drewN | apply below_drew1 | refine below_set ?_ GEgr.out) | exact HB.out)⟩
set_option maxHeartbeats 8000000 in
set_option maxRecDepth 100000 in
theorem bound_Loose_z (k : Nat) (s : ByteArray) (c1 : Int) (c5 : Int) (c9 : Int) (s1 : ByteArray) (a1 : Int) (m1 o1 : Bool) (s2 : ByteArray) (a2 : Int) (m2 o2 : Bool) (s3 : ByteArray) (a3 : Int) (m3 o3 : Bool) (s4 : ByteArray) (a4 : Int) (m4 o4 : Bool) (s5 : ByteArray) (a5 : Int) (m5 o5 : Bool) (s6 : ByteArray) (a6 : Int) (m6 o6 : Bool) (s7 : ByteArray) (a7 : Int) (m7 o7 : Bool) (s8 : ByteArray) (a8 : Int) (m8 o8 : Bool) (s9 : ByteArray) (a9 : Int) (m9 o9 : Bool) (l1 l2 h1 h2 : Int) (r1 r2 r3 r4 r5 r6 : Int) (w : World) (e1 : bound_reader_sign.f k s 0 false true (⟨#[40, 91]⟩ : ByteArray) = some (c1, s1, a1, m1, o1)) (e2 : bound_reader_blanks.f k s1 a1 m1 o1 = some (s2, a2, m2, o2)) (e3 : bound_end.f k s2 a2 m2 o2 (⟨#[45, 105, 110, 102]⟩ : ByteArray) (c1 == 91) = some (l1, l2, s3, a3, m3, o3)) (e4 : bound_reader_blanks.f k s3 a3 m3 o3 = some (s4, a4, m4, o4)) (e5 : bound_reader_sign.f k s4 a4 m4 o4 (⟨#[44]⟩ : ByteArray) = some (c5, s5, a5, m5, o5)) (e6 : bound_reader_blanks.f k s5 a5 m5 o5 = some (s6, a6, m6, o6)) (e7 : bound_end.f k s6 a6 m6 o6 (⟨#[43, 105, 110, 102]⟩ : ByteArray) false = some (h1, h2, s7, a7, m7, o7)) (e8 : bound_reader_blanks.f k s7 a7 m7 o7 = some (s8, a8, m8, o8)) (e9 : bound_reader_sign.f k s8 a8 m8 o8 (⟨#[41, 93]⟩ : ByteArray) = some (c9, s9, a9, m9, o9)) (d9 : c9 = 93) (dh : h1 = 1) (e10 : bound_told.f k a9 m9 l1 l2 2 h2 a6 = some (r1, r2, r3, r4, r5, r6)) :
    Calls Try.prog 14 #[.string s] w fun e w' => e = .returned (.tuple #[.agg #[.int .i64 r1, .int .i64 r2, .int .i64 r3, .int .i64 r4], .int .i64 r5, .int .i64 r6]) ∧ Below w.heap.size w w' := by
  have E1 := Aside0.mk e1
  have E2 := Aside0.mk e2
  have E3 := Aside0.mk e3
  have E4 := Aside0.mk e4
  have E5 := Aside0.mk e5
  have E6 := Aside0.mk e6
  have E7 := Aside0.mk e7
  have E8 := Aside0.mk e8
  have E9 := Aside0.mk e9
  have E10 := Aside0.mk e10
  clear e1 e2 e3 e4 e5 e6 e7 e8 e9 e10
  have d9' : (c9 == 93) = true := beq_iff_eq.2 d9
  clear d9
  have dh' : (h1 == 1) = true := beq_iff_eq.2 dh
  clear dh
  have HB := Aside0.mk (Below.refl w.heap.size w)
  have hu23 := Try.underlying23
  have hu27 := Try.underlying27
  have hu53 := Try.underlying53
  go_enter Try.func14, Try.ntmps14
  go_upto_region 2 with (first | ((with_reducible refine gate_dst (N := 2) rfl ?_); refine box_event ?hg (N := 2) ?hd (cs := #[.int .i64 0, .int .i64 0, .int .i64 0, .int .i64 0]) (t := 27) ?hr ?_; (case hd => rfl); (case hg => rfl); (case hr => first | (go_simp; done) | (go_simp; rfl)); intro gr hg w1 hbox hb; have n0_ := Aside0.mk (below_step (by repeat (first | (with_reducible first | exact HB.out | apply below_alloc | apply pw_below_drewN | apply below_drew1) | exact HB.out)) hb); have n1_ := Aside0.mk hbox; have n2_ : Aside0 (w.heap.size ≤ gr) := Aside0.mk (by rw [hg]; exact (below_size (by repeat (first | (with_reducible first | exact HB.out | apply below_alloc | apply pw_below_drewN | apply below_drew1) | exact HB.out)))); clear HB; have HB := n0_; have BKgr := n1_; have GEgr := n2_; clear n0_ n1_ n2_; clear hbox hb hg) | ((with_reducible refine gate_dst (N := 13) rfl ?_); refine box_event ?hg (N := 13) ?hd (cs := #[.string s, .int .i64 0, .bool false, .bool true]) (t := 53) ?hr ?_; (case hd => rfl); (case hg => rfl); (case hr => first | (go_simp; done) | (go_simp; rfl)); intro g hg w2 hbox hb; have n0_ := Aside0.mk (below_step (by repeat (first | (with_reducible first | exact HB.out | apply below_alloc | apply pw_below_drewN | apply below_drew1) | exact HB.out)) hb); have n1_ := Aside0.mk hbox; have n2_ : Aside0 (w.heap.size ≤ g) := Aside0.mk (by rw [hg]; exact (below_size (by repeat (first | (with_reducible first | exact HB.out | apply below_alloc | apply pw_below_drewN | apply below_drew1) | exact HB.out)))); have m0_ := Aside0.mk (blk_below BKgr.out hb); have NE_gr_g : gr ≠ g := (by rw [hg]; exact (Nat.ne_of_lt (blk_lt BKgr.out))); clear HB; have HB := n0_; have BKg := n1_; have GEg := n2_; clear n0_ n1_ n2_; clear BKgr; have BKgr := m0_; clear m0_; clear hbox hb hg))
  have HI : Aside0 (IsS53 w w2 g s 0 false true) := Aside0.mk ⟨BKg.out, GEg.out⟩
  have NE_g_gr := NE_gr_g.symm
  clear BKg NE_gr_g
  have BKgv := Aside0.mk (blk_new w2 (Obj.cells #[Value.pointer (some ⟨g, 0, none⟩)] 51))
  have m_ := Aside0.mk (IsS53.alloc HI.out (Obj.cells #[Value.pointer (some ⟨g, 0, none⟩)] 51))
  have n_ := Aside0.mk (below_alloc HB.out (Obj.cells #[Value.pointer (some ⟨g, 0, none⟩)] 51))
  have GEgv : Aside0 (w.heap.size ≤ w2.heap.size) := Aside0.mk HB.out.size
  have NE_g_gv : g ≠ w2.heap.size := Nat.ne_of_lt (blk_lt HI.out.1)
  have bgr_ := Aside0.mk (blk_alloc BKgr.out (Obj.cells #[Value.pointer (some ⟨g, 0, none⟩)] 51))
  have NE_gr_gv : gr ≠ w2.heap.size := Nat.ne_of_lt (blk_lt BKgr.out)
  clear HI HB BKgr
  have HI := m_
  have HB := n_
  have BKgr := bgr_
  clear m_ n_ bgr_
  generalize w2.alloc (Obj.cells #[Value.pointer (some ⟨g, 0, none⟩)] 51) = w3 at *
  generalize w2.heap.size = gv at *
  go_upto_region 3 with fail
  have hcz_0 := cellS53_0 HI.out.1
  have hcz_1 := cellS53_1 HI.out.1
  have hcz_2 := cellS53_2 HI.out.1
  have hcz_3 := cellS53_3 HI.out.1
  have hfz_0 := blk_frozen HI.out.1 0
  have hfz_1 := blk_frozen HI.out.1 1
  have hfz_2 := blk_frozen HI.out.1 2
  have hfz_3 := blk_frozen HI.out.1 3
  have hc_gv_0 := (blk_cell BKgv.out 0).trans rfl
  have hf_gv_0 := blk_frozen BKgv.out 0
  go_upto_region 4 with (first | (go_at_call 37; (with_reducible refine (bound_reader_sign.calls k g s 0 false true (⟨#[40, 91]⟩ : ByteArray) c1 s1 a1 m1 o1 w _ HI.out HB.out E1.out).mono ?_); rintro e w4 ⟨rfl, hi, hb, hk⟩; have m_ := Aside0.mk hi; have n_ := Aside0.mk hb; have bgr_ := Aside0.mk (KeepBut.blk hk BKgr.out NE_g_gr.symm (by simp)); have bgv_ := Aside0.mk (KeepBut.blk hk BKgv.out NE_g_gv.symm (by simp)); clear HI HB BKgr BKgv hi hb hk; (try clear hcz_0); (try clear hcz_1); (try clear hcz_2); (try clear hcz_3); (try clear hfz_0); (try clear hfz_1); (try clear hfz_2); (try clear hfz_3); (try clear hc_gv_0); (try clear hf_gv_0); (try clear hc_gh_0); (try clear hc_gh_1); (try clear hf_gh_0); (try clear hf_gh_1); have HI := m_; have HB := n_; have BKgr := bgr_; have BKgv := bgv_; clear m_ n_ bgr_ bgv_))
  have hcz_0 := cellS53_0 HI.out.1
  have hcz_1 := cellS53_1 HI.out.1
  have hcz_2 := cellS53_2 HI.out.1
  have hcz_3 := cellS53_3 HI.out.1
  have hfz_0 := blk_frozen HI.out.1 0
  have hfz_1 := blk_frozen HI.out.1 1
  have hfz_2 := blk_frozen HI.out.1 2
  have hfz_3 := blk_frozen HI.out.1 3
  have hc_gv_0 := (blk_cell BKgv.out 0).trans rfl
  have hf_gv_0 := blk_frozen BKgv.out 0
  go_upto_region 5 with (first | (go_at_call 45; (with_reducible refine (bound_reader_blanks.calls k g s1 a1 m1 o1 s2 a2 m2 o2 w _ HI.out HB.out E2.out).mono ?_); rintro e w5 ⟨rfl, hi, hb, hk⟩; have m_ := Aside0.mk hi; have n_ := Aside0.mk hb; have bgr_ := Aside0.mk (KeepBut.blk hk BKgr.out NE_g_gr.symm (by simp)); have bgv_ := Aside0.mk (KeepBut.blk hk BKgv.out NE_g_gv.symm (by simp)); clear HI HB BKgr BKgv hi hb hk; (try clear hcz_0); (try clear hcz_1); (try clear hcz_2); (try clear hcz_3); (try clear hfz_0); (try clear hfz_1); (try clear hfz_2); (try clear hfz_3); (try clear hc_gv_0); (try clear hf_gv_0); (try clear hc_gh_0); (try clear hc_gh_1); (try clear hf_gh_0); (try clear hf_gh_1); have HI := m_; have HB := n_; have BKgr := bgr_; have BKgv := bgv_; clear m_ n_ bgr_ bgv_))
  have hcz_0 := cellS53_0 HI.out.1
  have hcz_1 := cellS53_1 HI.out.1
  have hcz_2 := cellS53_2 HI.out.1
  have hcz_3 := cellS53_3 HI.out.1
  have hfz_0 := blk_frozen HI.out.1 0
  have hfz_1 := blk_frozen HI.out.1 1
  have hfz_2 := blk_frozen HI.out.1 2
  have hfz_3 := blk_frozen HI.out.1 3
  have hc_gv_0 := (blk_cell BKgv.out 0).trans rfl
  have hf_gv_0 := blk_frozen BKgv.out 0
  go_upto_region 6 with (first | (go_at_call 43; (with_reducible refine (bound_end.calls k g gv s2 a2 m2 o2 (⟨#[45, 105, 110, 102]⟩ : ByteArray) (c1 == 91) l1 l2 s3 a3 m3 o3 w _ HI.out HB.out BKgv.out NE_g_gv.symm E3.out).mono ?_); rintro e w6 ⟨rfl, hi, hb, hk⟩; have m_ := Aside0.mk hi; have n_ := Aside0.mk hb; have bgr_ := Aside0.mk (KeepBut.blk hk BKgr.out NE_g_gr.symm (by simp)); have bgv_ := Aside0.mk (KeepBut.blk hk BKgv.out NE_g_gv.symm (by simp)); clear HI HB BKgr BKgv hi hb hk; (try clear hcz_0); (try clear hcz_1); (try clear hcz_2); (try clear hcz_3); (try clear hfz_0); (try clear hfz_1); (try clear hfz_2); (try clear hfz_3); (try clear hc_gv_0); (try clear hf_gv_0); (try clear hc_gh_0); (try clear hc_gh_1); (try clear hf_gh_0); (try clear hf_gh_1); have HI := m_; have HB := n_; have BKgr := bgr_; have BKgv := bgv_; clear m_ n_ bgr_ bgv_))
  have BKgl := Aside0.mk (blk_new w6 (Obj.cells #[.int .i64 l1, .int .i64 l2] 23))
  have m_ := Aside0.mk (IsS53.alloc HI.out (Obj.cells #[.int .i64 l1, .int .i64 l2] 23))
  have n_ := Aside0.mk (below_alloc HB.out (Obj.cells #[.int .i64 l1, .int .i64 l2] 23))
  have GEgl : Aside0 (w.heap.size ≤ w6.heap.size) := Aside0.mk HB.out.size
  have NE_g_gl : g ≠ w6.heap.size := Nat.ne_of_lt (blk_lt HI.out.1)
  have bgr_ := Aside0.mk (blk_alloc BKgr.out (Obj.cells #[.int .i64 l1, .int .i64 l2] 23))
  have NE_gr_gl : gr ≠ w6.heap.size := Nat.ne_of_lt (blk_lt BKgr.out)
  have bgv_ := Aside0.mk (blk_alloc BKgv.out (Obj.cells #[.int .i64 l1, .int .i64 l2] 23))
  have NE_gv_gl : gv ≠ w6.heap.size := Nat.ne_of_lt (blk_lt BKgv.out)
  clear HI HB BKgr BKgv
  have HI := m_
  have HB := n_
  have BKgr := bgr_
  have BKgv := bgv_
  clear m_ n_ bgr_ bgv_
  generalize w6.alloc (Obj.cells #[.int .i64 l1, .int .i64 l2] 23) = w7 at *
  generalize w6.heap.size = gl at *
  have hcz_0 := cellS53_0 HI.out.1
  have hcz_1 := cellS53_1 HI.out.1
  have hcz_2 := cellS53_2 HI.out.1
  have hcz_3 := cellS53_3 HI.out.1
  have hfz_0 := blk_frozen HI.out.1 0
  have hfz_1 := blk_frozen HI.out.1 1
  have hfz_2 := blk_frozen HI.out.1 2
  have hfz_3 := blk_frozen HI.out.1 3
  have hc_gv_0 := (blk_cell BKgv.out 0).trans rfl
  have hf_gv_0 := blk_frozen BKgv.out 0
  go_upto_region 7 with (first | (go_at_call 45; (with_reducible refine (bound_reader_blanks.calls k g s3 a3 m3 o3 s4 a4 m4 o4 w _ HI.out HB.out E4.out).mono ?_); rintro e w8 ⟨rfl, hi, hb, hk⟩; have m_ := Aside0.mk hi; have n_ := Aside0.mk hb; have bgr_ := Aside0.mk (KeepBut.blk hk BKgr.out NE_g_gr.symm (by simp)); have bgv_ := Aside0.mk (KeepBut.blk hk BKgv.out NE_g_gv.symm (by simp)); have bgl_ := Aside0.mk (KeepBut.blk hk BKgl.out NE_g_gl.symm (by simp)); clear HI HB BKgr BKgv BKgl hi hb hk; (try clear hcz_0); (try clear hcz_1); (try clear hcz_2); (try clear hcz_3); (try clear hfz_0); (try clear hfz_1); (try clear hfz_2); (try clear hfz_3); (try clear hc_gv_0); (try clear hf_gv_0); (try clear hc_gh_0); (try clear hc_gh_1); (try clear hf_gh_0); (try clear hf_gh_1); have HI := m_; have HB := n_; have BKgr := bgr_; have BKgv := bgv_; have BKgl := bgl_; clear m_ n_ bgr_ bgv_ bgl_))
  have hcz_0 := cellS53_0 HI.out.1
  have hcz_1 := cellS53_1 HI.out.1
  have hcz_2 := cellS53_2 HI.out.1
  have hcz_3 := cellS53_3 HI.out.1
  have hfz_0 := blk_frozen HI.out.1 0
  have hfz_1 := blk_frozen HI.out.1 1
  have hfz_2 := blk_frozen HI.out.1 2
  have hfz_3 := blk_frozen HI.out.1 3
  have hc_gv_0 := (blk_cell BKgv.out 0).trans rfl
  have hf_gv_0 := blk_frozen BKgv.out 0
  go_upto_region 8 with (first | (go_at_call 37; (with_reducible refine (bound_reader_sign.calls k g s4 a4 m4 o4 (⟨#[44]⟩ : ByteArray) c5 s5 a5 m5 o5 w _ HI.out HB.out E5.out).mono ?_); rintro e w9 ⟨rfl, hi, hb, hk⟩; have m_ := Aside0.mk hi; have n_ := Aside0.mk hb; have bgr_ := Aside0.mk (KeepBut.blk hk BKgr.out NE_g_gr.symm (by simp)); have bgv_ := Aside0.mk (KeepBut.blk hk BKgv.out NE_g_gv.symm (by simp)); have bgl_ := Aside0.mk (KeepBut.blk hk BKgl.out NE_g_gl.symm (by simp)); clear HI HB BKgr BKgv BKgl hi hb hk; (try clear hcz_0); (try clear hcz_1); (try clear hcz_2); (try clear hcz_3); (try clear hfz_0); (try clear hfz_1); (try clear hfz_2); (try clear hfz_3); (try clear hc_gv_0); (try clear hf_gv_0); (try clear hc_gh_0); (try clear hc_gh_1); (try clear hf_gh_0); (try clear hf_gh_1); have HI := m_; have HB := n_; have BKgr := bgr_; have BKgv := bgv_; have BKgl := bgl_; clear m_ n_ bgr_ bgv_ bgl_))
  have hcz_0 := cellS53_0 HI.out.1
  have hcz_1 := cellS53_1 HI.out.1
  have hcz_2 := cellS53_2 HI.out.1
  have hcz_3 := cellS53_3 HI.out.1
  have hfz_0 := blk_frozen HI.out.1 0
  have hfz_1 := blk_frozen HI.out.1 1
  have hfz_2 := blk_frozen HI.out.1 2
  have hfz_3 := blk_frozen HI.out.1 3
  have hc_gv_0 := (blk_cell BKgv.out 0).trans rfl
  have hf_gv_0 := blk_frozen BKgv.out 0
  go_upto_region 9 with (first | (go_at_call 45; (with_reducible refine (bound_reader_blanks.calls k g s5 a5 m5 o5 s6 a6 m6 o6 w _ HI.out HB.out E6.out).mono ?_); rintro e w10 ⟨rfl, hi, hb, hk⟩; have m_ := Aside0.mk hi; have n_ := Aside0.mk hb; have bgr_ := Aside0.mk (KeepBut.blk hk BKgr.out NE_g_gr.symm (by simp)); have bgv_ := Aside0.mk (KeepBut.blk hk BKgv.out NE_g_gv.symm (by simp)); have bgl_ := Aside0.mk (KeepBut.blk hk BKgl.out NE_g_gl.symm (by simp)); clear HI HB BKgr BKgv BKgl hi hb hk; (try clear hcz_0); (try clear hcz_1); (try clear hcz_2); (try clear hcz_3); (try clear hfz_0); (try clear hfz_1); (try clear hfz_2); (try clear hfz_3); (try clear hc_gv_0); (try clear hf_gv_0); (try clear hc_gh_0); (try clear hc_gh_1); (try clear hf_gh_0); (try clear hf_gh_1); have HI := m_; have HB := n_; have BKgr := bgr_; have BKgv := bgv_; have BKgl := bgl_; clear m_ n_ bgr_ bgv_ bgl_))
  have hcz_0 := cellS53_0 HI.out.1
  have hcz_1 := cellS53_1 HI.out.1
  have hcz_2 := cellS53_2 HI.out.1
  have hcz_3 := cellS53_3 HI.out.1
  have hfz_0 := blk_frozen HI.out.1 0
  have hfz_1 := blk_frozen HI.out.1 1
  have hfz_2 := blk_frozen HI.out.1 2
  have hfz_3 := blk_frozen HI.out.1 3
  have hc_gv_0 := (blk_cell BKgv.out 0).trans rfl
  have hf_gv_0 := blk_frozen BKgv.out 0
  go_upto_region 10 with fail
  go_upto_region 11 with (first | (go_at_call 43; (with_reducible refine (bound_end.calls k g gv s6 a6 m6 o6 (⟨#[43, 105, 110, 102]⟩ : ByteArray) false h1 h2 s7 a7 m7 o7 w _ HI.out HB.out BKgv.out NE_g_gv.symm E7.out).mono ?_); rintro e w11 ⟨rfl, hi, hb, hk⟩; have m_ := Aside0.mk hi; have n_ := Aside0.mk hb; have bgr_ := Aside0.mk (KeepBut.blk hk BKgr.out NE_g_gr.symm (by simp)); have bgv_ := Aside0.mk (KeepBut.blk hk BKgv.out NE_g_gv.symm (by simp)); have bgl_ := Aside0.mk (KeepBut.blk hk BKgl.out NE_g_gl.symm (by simp)); clear HI HB BKgr BKgv BKgl hi hb hk; (try clear hcz_0); (try clear hcz_1); (try clear hcz_2); (try clear hcz_3); (try clear hfz_0); (try clear hfz_1); (try clear hfz_2); (try clear hfz_3); (try clear hc_gv_0); (try clear hf_gv_0); (try clear hc_gh_0); (try clear hc_gh_1); (try clear hf_gh_0); (try clear hf_gh_1); have HI := m_; have HB := n_; have BKgr := bgr_; have BKgv := bgv_; have BKgl := bgl_; clear m_ n_ bgr_ bgv_ bgl_))
  have BKgh := Aside0.mk (blk_new w11 (Obj.cells #[.int .i64 h1, .int .i64 h2] 23))
  have m_ := Aside0.mk (IsS53.alloc HI.out (Obj.cells #[.int .i64 h1, .int .i64 h2] 23))
  have n_ := Aside0.mk (below_alloc HB.out (Obj.cells #[.int .i64 h1, .int .i64 h2] 23))
  have GEgh : Aside0 (w.heap.size ≤ w11.heap.size) := Aside0.mk HB.out.size
  have NE_g_gh : g ≠ w11.heap.size := Nat.ne_of_lt (blk_lt HI.out.1)
  have bgr_ := Aside0.mk (blk_alloc BKgr.out (Obj.cells #[.int .i64 h1, .int .i64 h2] 23))
  have NE_gr_gh : gr ≠ w11.heap.size := Nat.ne_of_lt (blk_lt BKgr.out)
  have bgv_ := Aside0.mk (blk_alloc BKgv.out (Obj.cells #[.int .i64 h1, .int .i64 h2] 23))
  have NE_gv_gh : gv ≠ w11.heap.size := Nat.ne_of_lt (blk_lt BKgv.out)
  have bgl_ := Aside0.mk (blk_alloc BKgl.out (Obj.cells #[.int .i64 h1, .int .i64 h2] 23))
  have NE_gl_gh : gl ≠ w11.heap.size := Nat.ne_of_lt (blk_lt BKgl.out)
  clear HI HB BKgr BKgv BKgl
  have HI := m_
  have HB := n_
  have BKgr := bgr_
  have BKgv := bgv_
  have BKgl := bgl_
  clear m_ n_ bgr_ bgv_ bgl_
  generalize w11.alloc (Obj.cells #[.int .i64 h1, .int .i64 h2] 23) = w12 at *
  generalize w11.heap.size = gh at *
  have hcz_0 := cellS53_0 HI.out.1
  have hcz_1 := cellS53_1 HI.out.1
  have hcz_2 := cellS53_2 HI.out.1
  have hcz_3 := cellS53_3 HI.out.1
  have hfz_0 := blk_frozen HI.out.1 0
  have hfz_1 := blk_frozen HI.out.1 1
  have hfz_2 := blk_frozen HI.out.1 2
  have hfz_3 := blk_frozen HI.out.1 3
  have hc_gv_0 := (blk_cell BKgv.out 0).trans rfl
  have hf_gv_0 := blk_frozen BKgv.out 0
  go_upto_region 12 with (first | (go_at_call 45; (with_reducible refine (bound_reader_blanks.calls k g s7 a7 m7 o7 s8 a8 m8 o8 w _ HI.out HB.out E8.out).mono ?_); rintro e w13 ⟨rfl, hi, hb, hk⟩; have m_ := Aside0.mk hi; have n_ := Aside0.mk hb; have bgr_ := Aside0.mk (KeepBut.blk hk BKgr.out NE_g_gr.symm (by simp)); have bgv_ := Aside0.mk (KeepBut.blk hk BKgv.out NE_g_gv.symm (by simp)); have bgl_ := Aside0.mk (KeepBut.blk hk BKgl.out NE_g_gl.symm (by simp)); have bgh_ := Aside0.mk (KeepBut.blk hk BKgh.out NE_g_gh.symm (by simp)); clear HI HB BKgr BKgv BKgl BKgh hi hb hk; (try clear hcz_0); (try clear hcz_1); (try clear hcz_2); (try clear hcz_3); (try clear hfz_0); (try clear hfz_1); (try clear hfz_2); (try clear hfz_3); (try clear hc_gv_0); (try clear hf_gv_0); (try clear hc_gh_0); (try clear hc_gh_1); (try clear hf_gh_0); (try clear hf_gh_1); have HI := m_; have HB := n_; have BKgr := bgr_; have BKgv := bgv_; have BKgl := bgl_; have BKgh := bgh_; clear m_ n_ bgr_ bgv_ bgl_ bgh_))
  have hcz_0 := cellS53_0 HI.out.1
  have hcz_1 := cellS53_1 HI.out.1
  have hcz_2 := cellS53_2 HI.out.1
  have hcz_3 := cellS53_3 HI.out.1
  have hfz_0 := blk_frozen HI.out.1 0
  have hfz_1 := blk_frozen HI.out.1 1
  have hfz_2 := blk_frozen HI.out.1 2
  have hfz_3 := blk_frozen HI.out.1 3
  have hc_gv_0 := (blk_cell BKgv.out 0).trans rfl
  have hf_gv_0 := blk_frozen BKgv.out 0
  go_upto_region 13 with (first | (go_at_call 37; (with_reducible refine (bound_reader_sign.calls k g s8 a8 m8 o8 (⟨#[41, 93]⟩ : ByteArray) c9 s9 a9 m9 o9 w _ HI.out HB.out E9.out).mono ?_); rintro e w14 ⟨rfl, hi, hb, hk⟩; have m_ := Aside0.mk hi; have n_ := Aside0.mk hb; have bgr_ := Aside0.mk (KeepBut.blk hk BKgr.out NE_g_gr.symm (by simp)); have bgv_ := Aside0.mk (KeepBut.blk hk BKgv.out NE_g_gv.symm (by simp)); have bgl_ := Aside0.mk (KeepBut.blk hk BKgl.out NE_g_gl.symm (by simp)); have bgh_ := Aside0.mk (KeepBut.blk hk BKgh.out NE_g_gh.symm (by simp)); clear HI HB BKgr BKgv BKgl BKgh hi hb hk; (try clear hcz_0); (try clear hcz_1); (try clear hcz_2); (try clear hcz_3); (try clear hfz_0); (try clear hfz_1); (try clear hfz_2); (try clear hfz_3); (try clear hc_gv_0); (try clear hf_gv_0); (try clear hc_gh_0); (try clear hc_gh_1); (try clear hf_gh_0); (try clear hf_gh_1); have HI := m_; have HB := n_; have BKgr := bgr_; have BKgv := bgv_; have BKgl := bgl_; have BKgh := bgh_; clear m_ n_ bgr_ bgv_ bgl_ bgh_; have hc_gh_0 := (blk_cell BKgh.out 0).trans rfl; have hc_gh_1 := (blk_cell BKgh.out 1).trans rfl; have hf_gh_0 := blk_frozen BKgh.out 0; have hf_gh_1 := blk_frozen BKgh.out 1))
  go_upto_region 14 with fail
  have m_ := Aside0.mk (IsS53.far (p := ⟨gh, 0, none⟩) HI.out NE_g_gh (.int .i64 2))
  have n_ := Aside0.mk (below_set (j := 0) (v := .int .i64 2) HB.out GEgh.out)
  have bgr_ := Aside0.mk (blk_far (p := ⟨gh, 0, none⟩) BKgr.out NE_gr_gh (.int .i64 2))
  have bgv_ := Aside0.mk (blk_far (p := ⟨gh, 0, none⟩) BKgv.out NE_gv_gh (.int .i64 2))
  have bgl_ := Aside0.mk (blk_far (p := ⟨gh, 0, none⟩) BKgl.out NE_gl_gh (.int .i64 2))
  have bgh_ : Aside0 ((w14.setCell ⟨gh, 0, none⟩ (.int .i64 2)).heap[gh]? = some (.cells #[.int .i64 2, .int .i64 h2] 23 (0, 0))) := Aside0.mk (blk_put BKgh.out 0 _ rfl)
  clear HI HB BKgr BKgv BKgl BKgh hc_gh_0 hf_gh_0 hc_gh_1 hf_gh_1
  have HI := m_
  have HB := n_
  have BKgr := bgr_
  have BKgv := bgv_
  have BKgl := bgl_
  have BKgh := bgh_
  clear m_ n_ bgr_ bgv_ bgl_ bgh_
  generalize w14.setCell ⟨gh, 0, none⟩ (.int .i64 2) = w15 at *
  have hc_gh_0 := (blk_cell BKgh.out 0).trans rfl
  have hc_gh_1 := (blk_cell BKgh.out 1).trans rfl
  have hf_gh_0 := blk_frozen BKgh.out 0
  have hf_gh_1 := blk_frozen BKgh.out 1
  have hc_gl_0 := (blk_cell BKgl.out 0).trans rfl
  have hc_gl_1 := (blk_cell BKgl.out 1).trans rfl
  have hf_gl_0 := blk_frozen BKgl.out 0
  have hf_gl_1 := blk_frozen BKgl.out 1
  have hc_gv_0 := (blk_cell BKgv.out 0).trans rfl
  have hf_gv_0 := blk_frozen BKgv.out 0
  go_wp2_with (go_at_call 41; (with_reducible refine (bound_told.calls k g s9 a9 m9 o9 l1 l2 2 h2 a6 r1 r2 r3 r4 r5 r6 w _ HI.out E10.out).mono ?_); rintro e w16 ⟨rfl, hb⟩; have n_ := Aside0.mk (below_step HB.out hb); have b_ := Aside0.mk (blk_below BKgr.out hb); clear HB HI BKgr BKgl BKgh BKgv hc_gl_0 hf_gl_0 hc_gl_1 hf_gl_1 hc_gh_0 hf_gh_0 hc_gh_1 hf_gh_1 hc_gv_0 hf_gv_0 hb; have HB := n_; have BKgr := b_; clear n_ b_; have hc_gr_0 := (blk_cell BKgr.out 0).trans rfl; have hf_gr_0 := blk_frozen BKgr.out 0; have hc_gr_1 := (blk_cell BKgr.out 1).trans rfl; have hf_gr_1 := blk_frozen BKgr.out 1; have hc_gr_2 := (blk_cell BKgr.out 2).trans rfl; have hf_gr_2 := blk_frozen BKgr.out 2; have hc_gr_3 := (blk_cell BKgr.out 3).trans rfl; have hf_gr_3 := blk_frozen BKgr.out 3)
  refine bodyPost_ret (results_ctt rfl _ _ gr 27 #[.int .i64 r1, .int .i64 r2, .int .i64 r3, .int .i64 r4] (0, 0) _ rfl (by (with_reducible repeat (first | refine blk_drewN ?_ _ | refine blk_drew ?_ | refine blk_alloc ?_ _)); refine blk_put (cs := #[.int .i64 r1, .int .i64 r2, .int .i64 r3, .int .i64 0]) ?_ 3 _ rfl; (with_reducible repeat (first | refine blk_drewN ?_ _ | refine blk_drew ?_ | refine blk_alloc ?_ _)); refine blk_put (cs := #[.int .i64 r1, .int .i64 r2, .int .i64 0, .int .i64 0]) ?_ 2 _ rfl; (with_reducible repeat (first | refine blk_drewN ?_ _ | refine blk_drew ?_ | refine blk_alloc ?_ _)); refine blk_put (cs := #[.int .i64 r1, .int .i64 0, .int .i64 0, .int .i64 0]) ?_ 1 _ rfl; (with_reducible repeat (first | refine blk_drewN ?_ _ | refine blk_drew ?_ | refine blk_alloc ?_ _)); refine blk_put (cs := #[.int .i64 0, .int .i64 0, .int .i64 0, .int .i64 0]) ?_ 0 _ rfl; (with_reducible repeat (first | refine blk_drewN ?_ _ | refine blk_drew ?_ | refine blk_alloc ?_ _)); exact BKgr.out) Try.underlying27 rfl (by kernel_rfl)) rfl ?_
  exact ⟨rfl, by repeat (first | (with_reducible first | exact HB.out | apply below_alloc | apply pw_below_drewN | apply below_drew1 | refine below_set ?_ GEgr.out) | exact HB.out)⟩
theorem bound_Loose.mono : ∀ a0 k, LeO (bound_Loose.f k a0) (bound_Loose.f (k + 1) a0) := by
  intro a0 k
  unfold bound_Loose.f bound_Loose.j2 bound_Loose.j1 bound_Loose.j0
  repeat' first
      | (with_reducible exact bound_reader_sign.mono _ _ _ _ _ _)
      | (with_reducible exact bound_reader_blanks.mono _ _ _ _ _)
      | (with_reducible exact bound_end_mono _ _ _ _ _ _ _)
      | (with_reducible exact bound_told_mono _ _ _ _ _ _ _ _)
      | (with_reducible exact LeO.refl _)
      | (with_reducible exact LeO.none _)
      | (with_reducible refine LeO.ite ?_ ?_)
      | (with_reducible refine LeO.bind ?_ (fun _ => ?_))
      | exact bound_reader_sign.mono _ _ _ _ _ _
      | exact bound_reader_blanks.mono _ _ _ _ _
      | exact bound_end_mono _ _ _ _ _ _ _
      | exact bound_told_mono _ _ _ _ _ _ _ _
      | exact LeO.refl _
      | exact LeO.none _
      | refine LeO.ite ?_ ?_
      | refine LeO.bind ?_ (fun _ => ?_)
theorem bound_Loose.calls (k : Nat) (a0 : ByteArray) (r1 r2 r3 r4 r5 r6 : Int) (w : World) (h : bound_Loose.f k a0 = some (r1, r2, r3, r4, r5, r6)) :
    Calls Try.prog 14 #[.string a0] w fun e w' => e = .returned (.tuple #[.agg #[.int .i64 r1, .int .i64 r2, .int .i64 r3, .int .i64 r4], .int .i64 r5, .int .i64 r6]) ∧ Below w.heap.size w w' := by
  obtain ⟨⟨c1, s1, a1, m1, o1⟩, e1, h⟩ := Option.bind_eq_some_iff.mp h
  obtain ⟨⟨s2, a2, m2, o2⟩, e2, h⟩ := Option.bind_eq_some_iff.mp h
  obtain ⟨⟨l1, l2, s3, a3, m3, o3⟩, e3, h⟩ := Option.bind_eq_some_iff.mp h
  obtain ⟨⟨s4, a4, m4, o4⟩, e4, h⟩ := Option.bind_eq_some_iff.mp h
  obtain ⟨⟨c5, s5, a5, m5, o5⟩, e5, h⟩ := Option.bind_eq_some_iff.mp h
  obtain ⟨⟨s6, a6, m6, o6⟩, e6, h⟩ := Option.bind_eq_some_iff.mp h
  obtain ⟨⟨h1, h2, s7, a7, m7, o7⟩, e7, h⟩ := Option.bind_eq_some_iff.mp h
  obtain ⟨⟨s8, a8, m8, o8⟩, e8, h⟩ := Option.bind_eq_some_iff.mp h
  obtain ⟨⟨c9, s9, a9, m9, o9⟩, e9, h⟩ := Option.bind_eq_some_iff.mp h
  by_cases d9 : c9 = 93
  · replace h := (if_pos d9).symm.trans h
    by_cases dh : h1 = 1
    · exact bound_Loose_z k a0 c1 c5 c9 s1 a1 m1 o1 s2 a2 m2 o2 s3 a3 m3 o3 s4 a4 m4 o4 s5 a5 m5 o5 s6 a6 m6 o6 s7 a7 m7 o7 s8 a8 m8 o8 s9 a9 m9 o9 l1 l2 h1 h2 r1 r2 r3 r4 r5 r6 w e1 e2 e3 e4 e5 e6 e7 e8 e9 d9 dh ((if_pos dh).symm.trans h)
    · exact bound_Loose_y k a0 c1 c5 c9 s1 a1 m1 o1 s2 a2 m2 o2 s3 a3 m3 o3 s4 a4 m4 o4 s5 a5 m5 o5 s6 a6 m6 o6 s7 a7 m7 o7 s8 a8 m8 o8 s9 a9 m9 o9 l1 l2 h1 h2 r1 r2 r3 r4 r5 r6 w e1 e2 e3 e4 e5 e6 e7 e8 e9 d9 dh ((if_neg dh).symm.trans h)
  · exact bound_Loose_x k a0 c1 c5 c9 s1 a1 m1 o1 s2 a2 m2 o2 s3 a3 m3 o3 s4 a4 m4 o4 s5 a5 m5 o5 s6 a6 m6 o6 s7 a7 m7 o7 s8 a8 m8 o8 s9 a9 m9 o9 l1 l2 h1 h2 r1 r2 r3 r4 r5 r6 w e1 e2 e3 e4 e5 e6 e7 e8 e9 d9 ((if_neg d9).symm.trans h)
end Go.Proofs.Ytpeidnkbliafkaa.Print
