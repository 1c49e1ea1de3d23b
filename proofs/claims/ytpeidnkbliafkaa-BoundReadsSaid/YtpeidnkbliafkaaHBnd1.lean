import Derived.Test.YtpeidnkbliafkaaPrint1
import Derived.Test.YtpeidnkbliafkaaPrint2
import Derived.RegionTactic
import Derived.BigRegion
namespace Go.Proofs.Ytpeidnkbliafkaa.Print
open Go.RowKit Go.Proofs.YtpeidnkbliafkaaW.PrintWords Go.Proofs.YtpeidnkbliafkaaW.PrintLast Go.Proofs.YtpeidnkbliafkaaW.PrintMore
attribute [local go_sem] max2_int min2_int max_two min_two max_three min_three max_four min_four
set_option linter.unusedVariables false
set_option linter.unusedSimpArgs false

def bound_told.f (k : Nat) (s0_1 : Int) (s0_2 : Bool) (a0 a1 b0 b1 at_ : Int) : Option (Int × Int × Int × Int × Int × Int) :=
  if s0_2 = true then some (0, 0, 0, 0, s0_1, 40) else (bound_Span.f k a0 a1 b0 b1).bind fun t => if t.2.2.2.2 = 0 then some (t.1, t.2.1, t.2.2.1, t.2.2.2.1, s0_1, 0) else some (0, 0, 0, 0, at_, t.2.2.2.2)
set_option maxHeartbeats 8000000 in
set_option maxRecDepth 100000 in
theorem bound_told_amiss (k : Nat) (g : Nat) (s0_0 : ByteArray) (s0_1 : Int) (s0_3 : Bool) (a0 a1 b0 b1 at_ : Int)  (w0 w : World) (hI : IsS53 w0 w g s0_0 s0_1 true s0_3)  :
    Calls Try.prog 41 #[.pointer (some ⟨g, 0, none⟩), .agg #[.int .i64 a0, .int .i64 a1], .agg #[.int .i64 b0, .int .i64 b1], .int .i64 at_] w fun e w' => e = .returned (.tuple #[.agg #[.int .i64 0, .int .i64 0, .int .i64 0, .int .i64 0], .int .i64 s0_1, .int .i64 40]) ∧ Below w.heap.size w w' := by
  have HI := Aside0.mk hI
  have HB := Aside0.mk (Below.refl w.heap.size w)
  have HW := Aside0.mk (blk_lt hI.1)
  have hu23 := Try.underlying23
  have hu27 := Try.underlying27
  clear hI
  go_enter Try.func41, Try.ntmps41
  go_upto_region 1 with (first | ((with_reducible refine gate_dst (N := 5) rfl ?_); refine box_event ?hg (N := 5) ?hd (cs := #[.int .i64 a0, .int .i64 a1]) (t := 23) ?hr ?_; (case hd => rfl); (case hg => rfl); (case hr => first | (go_simp; done) | (go_simp; rfl)); intro gl hg w1 hbox hb; have n0_ := Aside0.mk (below_step (by repeat (first | (with_reducible first | exact HB.out | apply below_alloc | apply pw_below_drewN | apply below_drew1) | exact HB.out)) hb); have n1_ := Aside0.mk hbox; have n2_ : Aside0 (w.heap.size ≤ gl) := Aside0.mk (by rw [hg]; exact (below_size (by repeat (first | (with_reducible first | exact HB.out | apply below_alloc | apply pw_below_drewN | apply below_drew1) | exact HB.out)))); have m0_ := Aside0.mk (IsS53.below HI.out hb); have NE_g_gl : g ≠ gl := (by rw [hg]; exact (Nat.ne_of_lt (blk_lt HI.out.1))); clear HB; have HB := n0_; have BKgl := n1_; have GEgl := n2_; clear n0_ n1_ n2_; clear HI; have HI := m0_; clear m0_; clear hbox hb hg) | ((with_reducible refine gate_dst (N := 6) rfl ?_); refine box_event ?hg (N := 6) ?hd (cs := #[.int .i64 b0, .int .i64 b1]) (t := 23) ?hr ?_; (case hd => rfl); (case hg => rfl); (case hr => first | (go_simp; done) | (go_simp; rfl)); intro gh hg w2 hbox hb; have n0_ := Aside0.mk (below_step (by repeat (first | (with_reducible first | exact HB.out | apply below_alloc | apply pw_below_drewN | apply below_drew1) | exact HB.out)) hb); have n1_ := Aside0.mk hbox; have n2_ : Aside0 (w.heap.size ≤ gh) := Aside0.mk (by rw [hg]; exact (below_size (by repeat (first | (with_reducible first | exact HB.out | apply below_alloc | apply pw_below_drewN | apply below_drew1) | exact HB.out)))); have m0_ := Aside0.mk (IsS53.below HI.out hb); have NE_g_gh : g ≠ gh := (by rw [hg]; exact (Nat.ne_of_lt (blk_lt HI.out.1))); have m1_ := Aside0.mk (blk_below BKgl.out hb); have NE_gl_gh : gl ≠ gh := (by rw [hg]; exact (Nat.ne_of_lt (blk_lt BKgl.out))); clear HB; have HB := n0_; have BKgh := n1_; have GEgh := n2_; clear n0_ n1_ n2_; clear HI; have HI := m0_; clear m0_; clear BKgl; have BKgl := m1_; clear m1_; clear hbox hb hg) | ((with_reducible refine gate_dst (N := 8) rfl ?_); refine box_event ?hg (N := 8) ?hd (cs := #[.int .i64 0, .int .i64 0, .int .i64 0, .int .i64 0]) (t := 27) ?hr ?_; (case hd => rfl); (case hg => rfl); (case hr => first | (go_simp; done) | (go_simp; rfl)); intro gr hg w3 hbox hb; have n0_ := Aside0.mk (below_step (by repeat (first | (with_reducible first | exact HB.out | apply below_alloc | apply pw_below_drewN | apply below_drew1) | exact HB.out)) hb); have n1_ := Aside0.mk hbox; have n2_ : Aside0 (w.heap.size ≤ gr) := Aside0.mk (by rw [hg]; exact (below_size (by repeat (first | (with_reducible first | exact HB.out | apply below_alloc | apply pw_below_drewN | apply below_drew1) | exact HB.out)))); have m0_ := Aside0.mk (IsS53.below HI.out hb); have NE_g_gr : g ≠ gr := (by rw [hg]; exact (Nat.ne_of_lt (blk_lt HI.out.1))); have m1_ := Aside0.mk (blk_below BKgl.out hb); have NE_gl_gr : gl ≠ gr := (by rw [hg]; exact (Nat.ne_of_lt (blk_lt BKgl.out))); have m2_ := Aside0.mk (blk_below BKgh.out hb); have NE_gh_gr : gh ≠ gr := (by rw [hg]; exact (Nat.ne_of_lt (blk_lt BKgh.out))); clear HB; have HB := n0_; have BKgr := n1_; have GEgr := n2_; clear n0_ n1_ n2_; clear HI; have HI := m0_; clear m0_; clear BKgl; have BKgl := m1_; clear m1_; clear BKgh; have BKgh := m2_; clear m2_; clear hbox hb hg))
  have hcz_0 := cellS53_0 HI.out.1
  have hcz_1 := cellS53_1 HI.out.1
  have hcz_2 := cellS53_2 HI.out.1
  have hc_gl_0 := (blk_cell BKgl.out 0).trans rfl
  have hc_gl_1 := (blk_cell BKgl.out 1).trans rfl
  have hc_gh_0 := (blk_cell BKgh.out 0).trans rfl
  have hc_gh_1 := (blk_cell BKgh.out 1).trans rfl
  have hc_gr_0 := (blk_cell BKgr.out 0).trans rfl
  have hc_gr_1 := (blk_cell BKgr.out 1).trans rfl
  have hc_gr_2 := (blk_cell BKgr.out 2).trans rfl
  have hc_gr_3 := (blk_cell BKgr.out 3).trans rfl
  have hf_gr_0 := blk_frozen BKgr.out 0
  have hf_gr_1 := blk_frozen BKgr.out 1
  have hf_gr_2 := blk_frozen BKgr.out 2
  have hf_gr_3 := blk_frozen BKgr.out 3
  go_wp2
  go_region
  all_goals (go_wp2; refine bodyPost_ret (results_ctt rfl _ _ gr 27 #[.int .i64 0, .int .i64 0, .int .i64 0, .int .i64 0] (0, 0) _ rfl (by (with_reducible repeat (first | refine blk_drewN ?_ _ | refine blk_drew ?_ | refine blk_alloc ?_ _)); refine blk_put (cs := #[.int .i64 0, .int .i64 0, .int .i64 0, .int .i64 0]) ?_ 3 _ rfl; (with_reducible repeat (first | refine blk_drewN ?_ _ | refine blk_drew ?_ | refine blk_alloc ?_ _)); refine blk_put (cs := #[.int .i64 0, .int .i64 0, .int .i64 0, .int .i64 0]) ?_ 2 _ rfl; (with_reducible repeat (first | refine blk_drewN ?_ _ | refine blk_drew ?_ | refine blk_alloc ?_ _)); refine blk_put (cs := #[.int .i64 0, .int .i64 0, .int .i64 0, .int .i64 0]) ?_ 1 _ rfl; (with_reducible repeat (first | refine blk_drewN ?_ _ | refine blk_drew ?_ | refine blk_alloc ?_ _)); refine blk_put (cs := #[.int .i64 0, .int .i64 0, .int .i64 0, .int .i64 0]) ?_ 0 _ rfl; (with_reducible repeat (first | refine blk_drewN ?_ _ | refine blk_drew ?_ | refine blk_alloc ?_ _)); exact BKgr.out) Try.underlying27 rfl (by kernel_rfl)) rfl ?_; exact ⟨rfl, by repeat (first | (with_reducible first | exact HB.out | apply below_alloc | apply pw_below_drewN | apply below_drew1 | refine below_set ?_ GEgr.out) | exact HB.out)⟩)
set_option maxHeartbeats 8000000 in
set_option maxRecDepth 100000 in
theorem bound_told_err (k : Nat) (g : Nat) (s0_0 : ByteArray) (s0_1 : Int) (s0_3 : Bool) (a0 a1 b0 b1 at_ : Int) (r1 r2 r3 r4 r5 : Int) (w0 w : World) (hI : IsS53 w0 w g s0_0 s0_1 false s0_3) (h : bound_Span.f k a0 a1 b0 b1 = some (r1, r2, r3, r4, r5)) (h5 : r5 ≠ 0) :
    Calls Try.prog 41 #[.pointer (some ⟨g, 0, none⟩), .agg #[.int .i64 a0, .int .i64 a1], .agg #[.int .i64 b0, .int .i64 b1], .int .i64 at_] w fun e w' => e = .returned (.tuple #[.agg #[.int .i64 0, .int .i64 0, .int .i64 0, .int .i64 0], .int .i64 at_, .int .i64 r5]) ∧ Below w.heap.size w w' := by
  have HI := Aside0.mk hI
  have HB := Aside0.mk (Below.refl w.heap.size w)
  have HW := Aside0.mk (blk_lt hI.1)
  have hu23 := Try.underlying23
  have hu27 := Try.underlying27
  clear hI
  have A1 := Aside0.mk h
  clear h
  have d5 : (r5 != 0) = true := bne_iff_ne.2 h5
  clear h5
  go_enter Try.func41, Try.ntmps41
  go_upto_region 1 with (first | ((with_reducible refine gate_dst (N := 5) rfl ?_); refine box_event ?hg (N := 5) ?hd (cs := #[.int .i64 a0, .int .i64 a1]) (t := 23) ?hr ?_; (case hd => rfl); (case hg => rfl); (case hr => first | (go_simp; done) | (go_simp; rfl)); intro gl hg w1 hbox hb; have n0_ := Aside0.mk (below_step (by repeat (first | (with_reducible first | exact HB.out | apply below_alloc | apply pw_below_drewN | apply below_drew1) | exact HB.out)) hb); have n1_ := Aside0.mk hbox; have n2_ : Aside0 (w.heap.size ≤ gl) := Aside0.mk (by rw [hg]; exact (below_size (by repeat (first | (with_reducible first | exact HB.out | apply below_alloc | apply pw_below_drewN | apply below_drew1) | exact HB.out)))); have m0_ := Aside0.mk (IsS53.below HI.out hb); have NE_g_gl : g ≠ gl := (by rw [hg]; exact (Nat.ne_of_lt (blk_lt HI.out.1))); clear HB; have HB := n0_; have BKgl := n1_; have GEgl := n2_; clear n0_ n1_ n2_; clear HI; have HI := m0_; clear m0_; clear hbox hb hg) | ((with_reducible refine gate_dst (N := 6) rfl ?_); refine box_event ?hg (N := 6) ?hd (cs := #[.int .i64 b0, .int .i64 b1]) (t := 23) ?hr ?_; (case hd => rfl); (case hg => rfl); (case hr => first | (go_simp; done) | (go_simp; rfl)); intro gh hg w2 hbox hb; have n0_ := Aside0.mk (below_step (by repeat (first | (with_reducible first | exact HB.out | apply below_alloc | apply pw_below_drewN | apply below_drew1) | exact HB.out)) hb); have n1_ := Aside0.mk hbox; have n2_ : Aside0 (w.heap.size ≤ gh) := Aside0.mk (by rw [hg]; exact (below_size (by repeat (first | (with_reducible first | exact HB.out | apply below_alloc | apply pw_below_drewN | apply below_drew1) | exact HB.out)))); have m0_ := Aside0.mk (IsS53.below HI.out hb); have NE_g_gh : g ≠ gh := (by rw [hg]; exact (Nat.ne_of_lt (blk_lt HI.out.1))); have m1_ := Aside0.mk (blk_below BKgl.out hb); have NE_gl_gh : gl ≠ gh := (by rw [hg]; exact (Nat.ne_of_lt (blk_lt BKgl.out))); clear HB; have HB := n0_; have BKgh := n1_; have GEgh := n2_; clear n0_ n1_ n2_; clear HI; have HI := m0_; clear m0_; clear BKgl; have BKgl := m1_; clear m1_; clear hbox hb hg) | ((with_reducible refine gate_dst (N := 8) rfl ?_); refine box_event ?hg (N := 8) ?hd (cs := #[.int .i64 0, .int .i64 0, .int .i64 0, .int .i64 0]) (t := 27) ?hr ?_; (case hd => rfl); (case hg => rfl); (case hr => first | (go_simp; done) | (go_simp; rfl)); intro gr hg w3 hbox hb; have n0_ := Aside0.mk (below_step (by repeat (first | (with_reducible first | exact HB.out | apply below_alloc | apply pw_below_drewN | apply below_drew1) | exact HB.out)) hb); have n1_ := Aside0.mk hbox; have n2_ : Aside0 (w.heap.size ≤ gr) := Aside0.mk (by rw [hg]; exact (below_size (by repeat (first | (with_reducible first | exact HB.out | apply below_alloc | apply pw_below_drewN | apply below_drew1) | exact HB.out)))); have m0_ := Aside0.mk (IsS53.below HI.out hb); have NE_g_gr : g ≠ gr := (by rw [hg]; exact (Nat.ne_of_lt (blk_lt HI.out.1))); have m1_ := Aside0.mk (blk_below BKgl.out hb); have NE_gl_gr : gl ≠ gr := (by rw [hg]; exact (Nat.ne_of_lt (blk_lt BKgl.out))); have m2_ := Aside0.mk (blk_below BKgh.out hb); have NE_gh_gr : gh ≠ gr := (by rw [hg]; exact (Nat.ne_of_lt (blk_lt BKgh.out))); clear HB; have HB := n0_; have BKgr := n1_; have GEgr := n2_; clear n0_ n1_ n2_; clear HI; have HI := m0_; clear m0_; clear BKgl; have BKgl := m1_; clear m1_; clear BKgh; have BKgh := m2_; clear m2_; clear hbox hb hg))
  have hcz_0 := cellS53_0 HI.out.1
  have hcz_1 := cellS53_1 HI.out.1
  have hcz_2 := cellS53_2 HI.out.1
  have hc_gl_0 := (blk_cell BKgl.out 0).trans rfl
  have hc_gl_1 := (blk_cell BKgl.out 1).trans rfl
  have hc_gh_0 := (blk_cell BKgh.out 0).trans rfl
  have hc_gh_1 := (blk_cell BKgh.out 1).trans rfl
  have hc_gr_0 := (blk_cell BKgr.out 0).trans rfl
  have hc_gr_1 := (blk_cell BKgr.out 1).trans rfl
  have hc_gr_2 := (blk_cell BKgr.out 2).trans rfl
  have hc_gr_3 := (blk_cell BKgr.out 3).trans rfl
  have hf_gr_0 := blk_frozen BKgr.out 0
  have hf_gr_1 := blk_frozen BKgr.out 1
  have hf_gr_2 := blk_frozen BKgr.out 2
  have hf_gr_3 := blk_frozen BKgr.out 3
  go_upto_region 5 with (first | (go_at_call 9; (with_reducible refine (bound_Span.calls k a0 a1 b0 b1 r1 r2 r3 r4 r5 _ A1.out).mono ?_); rintro e w6 ⟨rfl, hb⟩; have n0_ := Aside0.mk (below_step (by repeat (first | (with_reducible first | exact HB.out | apply below_alloc | apply pw_below_drewN | apply below_drew1) | exact HB.out)) hb); have m0_ := Aside0.mk (IsS53.below HI.out hb); have m1_ := Aside0.mk (blk_below BKgr.out hb); clear HB HI BKgr hc_gr_0 hc_gr_1 hc_gr_2 hc_gr_3 hf_gr_0 hf_gr_1 hf_gr_2 hf_gr_3 hcz_0 hcz_1 hcz_2 BKgl BKgh hc_gl_0 hc_gl_1 hc_gh_0 hc_gh_1; have HB := n0_; have HI := m0_; have BKgr := m1_; clear n0_ m0_ m1_ hb; have hcz_0 := cellS53_0 HI.out.1; have hcz_1 := cellS53_1 HI.out.1; have hcz_2 := cellS53_2 HI.out.1))
  have BKgs := Aside0.mk (blk_new w6 (Obj.cells #[.int .i64 r1, .int .i64 r2, .int .i64 r3, .int .i64 r4] 27))
  have n1_ := Aside0.mk (blk_alloc BKgr.out (Obj.cells #[.int .i64 r1, .int .i64 r2, .int .i64 r3, .int .i64 r4] 27))
  have n2_ := Aside0.mk (IsS53.alloc HI.out (Obj.cells #[.int .i64 r1, .int .i64 r2, .int .i64 r3, .int .i64 r4] 27))
  have n3_ := Aside0.mk (below_alloc HB.out (Obj.cells #[.int .i64 r1, .int .i64 r2, .int .i64 r3, .int .i64 r4] 27))
  have NE_gr_gs : gr ≠ w6.heap.size := Nat.ne_of_lt (blk_lt BKgr.out)
  have NE_g_gs : g ≠ w6.heap.size := Nat.ne_of_lt (blk_lt HI.out.1)
  clear HI HB BKgr hcz_0 hcz_1 hcz_2
  have HI := n2_
  have HB := n3_
  have BKgr := n1_
  clear n1_ n2_ n3_
  generalize w6.alloc (Obj.cells #[.int .i64 r1, .int .i64 r2, .int .i64 r3, .int .i64 r4] 27) = W7 at *
  generalize w6.heap.size = gs at *
  have hcz_0 := cellS53_0 HI.out.1
  have hcz_1 := cellS53_1 HI.out.1
  have hcz_2 := cellS53_2 HI.out.1
  have hc_gs_0 := (blk_cell BKgs.out 0).trans rfl
  have hc_gs_1 := (blk_cell BKgs.out 1).trans rfl
  have hc_gs_2 := (blk_cell BKgs.out 2).trans rfl
  have hc_gs_3 := (blk_cell BKgs.out 3).trans rfl
  have hc_gr_0 := (blk_cell BKgr.out 0).trans rfl
  have hc_gr_1 := (blk_cell BKgr.out 1).trans rfl
  have hc_gr_2 := (blk_cell BKgr.out 2).trans rfl
  have hc_gr_3 := (blk_cell BKgr.out 3).trans rfl
  have hf_gr_0 := blk_frozen BKgr.out 0
  have hf_gr_1 := blk_frozen BKgr.out 1
  have hf_gr_2 := blk_frozen BKgr.out 2
  have hf_gr_3 := blk_frozen BKgr.out 3
  go_wp2
  refine bodyPost_ret (results_ctt rfl _ _ gr 27 #[.int .i64 0, .int .i64 0, .int .i64 0, .int .i64 0] (0, 0) _ rfl (by (with_reducible repeat (first | refine blk_drewN ?_ _ | refine blk_drew ?_ | refine blk_alloc ?_ _)); refine blk_put (cs := #[.int .i64 0, .int .i64 0, .int .i64 0, .int .i64 0]) ?_ 3 _ rfl; (with_reducible repeat (first | refine blk_drewN ?_ _ | refine blk_drew ?_ | refine blk_alloc ?_ _)); refine blk_put (cs := #[.int .i64 0, .int .i64 0, .int .i64 0, .int .i64 0]) ?_ 2 _ rfl; (with_reducible repeat (first | refine blk_drewN ?_ _ | refine blk_drew ?_ | refine blk_alloc ?_ _)); refine blk_put (cs := #[.int .i64 0, .int .i64 0, .int .i64 0, .int .i64 0]) ?_ 1 _ rfl; (with_reducible repeat (first | refine blk_drewN ?_ _ | refine blk_drew ?_ | refine blk_alloc ?_ _)); refine blk_put (cs := #[.int .i64 0, .int .i64 0, .int .i64 0, .int .i64 0]) ?_ 0 _ rfl; (with_reducible repeat (first | refine blk_drewN ?_ _ | refine blk_drew ?_ | refine blk_alloc ?_ _)); exact BKgr.out) Try.underlying27 rfl (by kernel_rfl)) rfl ?_
  exact ⟨rfl, by repeat (first | (with_reducible first | exact HB.out | apply below_alloc | apply pw_below_drewN | apply below_drew1 | refine below_set ?_ GEgr.out) | exact HB.out)⟩
set_option maxHeartbeats 8000000 in
set_option maxRecDepth 100000 in
theorem bound_told_ok (k : Nat) (g : Nat) (s0_0 : ByteArray) (s0_1 : Int) (s0_3 : Bool) (a0 a1 b0 b1 at_ : Int) (r1 r2 r3 r4 r5 : Int) (w0 w : World) (hI : IsS53 w0 w g s0_0 s0_1 false s0_3) (h : bound_Span.f k a0 a1 b0 b1 = some (r1, r2, r3, r4, r5)) (h5 : r5 = 0) :
    Calls Try.prog 41 #[.pointer (some ⟨g, 0, none⟩), .agg #[.int .i64 a0, .int .i64 a1], .agg #[.int .i64 b0, .int .i64 b1], .int .i64 at_] w fun e w' => e = .returned (.tuple #[.agg #[.int .i64 r1, .int .i64 r2, .int .i64 r3, .int .i64 r4], .int .i64 s0_1, .int .i64 0]) ∧ Below w.heap.size w w' := by
  have HI := Aside0.mk hI
  have HB := Aside0.mk (Below.refl w.heap.size w)
  have HW := Aside0.mk (blk_lt hI.1)
  have hu23 := Try.underlying23
  have hu27 := Try.underlying27
  clear hI
  have A1 := Aside0.mk h
  clear h
  have d5 : (r5 != 0) = false := bne_eq_false_iff_eq.2 h5
  clear h5
  go_enter Try.func41, Try.ntmps41
  go_upto_region 1 with (first | ((with_reducible refine gate_dst (N := 5) rfl ?_); refine box_event ?hg (N := 5) ?hd (cs := #[.int .i64 a0, .int .i64 a1]) (t := 23) ?hr ?_; (case hd => rfl); (case hg => rfl); (case hr => first | (go_simp; done) | (go_simp; rfl)); intro gl hg w1 hbox hb; have n0_ := Aside0.mk (below_step (by repeat (first | (with_reducible first | exact HB.out | apply below_alloc | apply pw_below_drewN | apply below_drew1) | exact HB.out)) hb); have n1_ := Aside0.mk hbox; have n2_ : Aside0 (w.heap.size ≤ gl) := Aside0.mk (by rw [hg]; exact (below_size (by repeat (first | (with_reducible first | exact HB.out | apply below_alloc | apply pw_below_drewN | apply below_drew1) | exact HB.out)))); have m0_ := Aside0.mk (IsS53.below HI.out hb); have NE_g_gl : g ≠ gl := (by rw [hg]; exact (Nat.ne_of_lt (blk_lt HI.out.1))); clear HB; have HB := n0_; have BKgl := n1_; have GEgl := n2_; clear n0_ n1_ n2_; clear HI; have HI := m0_; clear m0_; clear hbox hb hg) | ((with_reducible refine gate_dst (N := 6) rfl ?_); refine box_event ?hg (N := 6) ?hd (cs := #[.int .i64 b0, .int .i64 b1]) (t := 23) ?hr ?_; (case hd => rfl); (case hg => rfl); (case hr => first | (go_simp; done) | (go_simp; rfl)); intro gh hg w2 hbox hb; have n0_ := Aside0.mk (below_step (by repeat (first | (with_reducible first | exact HB.out | apply below_alloc | apply pw_below_drewN | apply below_drew1) | exact HB.out)) hb); have n1_ := Aside0.mk hbox; have n2_ : Aside0 (w.heap.size ≤ gh) := Aside0.mk (by rw [hg]; exact (below_size (by repeat (first | (with_reducible first | exact HB.out | apply below_alloc | apply pw_below_drewN | apply below_drew1) | exact HB.out)))); have m0_ := Aside0.mk (IsS53.below HI.out hb); have NE_g_gh : g ≠ gh := (by rw [hg]; exact (Nat.ne_of_lt (blk_lt HI.out.1))); have m1_ := Aside0.mk (blk_below BKgl.out hb); have NE_gl_gh : gl ≠ gh := (by rw [hg]; exact (Nat.ne_of_lt (blk_lt BKgl.out))); clear HB; have HB := n0_; have BKgh := n1_; have GEgh := n2_; clear n0_ n1_ n2_; clear HI; have HI := m0_; clear m0_; clear BKgl; have BKgl := m1_; clear m1_; clear hbox hb hg) | ((with_reducible refine gate_dst (N := 8) rfl ?_); refine box_event ?hg (N := 8) ?hd (cs := #[.int .i64 0, .int .i64 0, .int .i64 0, .int .i64 0]) (t := 27) ?hr ?_; (case hd => rfl); (case hg => rfl); (case hr => first | (go_simp; done) | (go_simp; rfl)); intro gr hg w3 hbox hb; have n0_ := Aside0.mk (below_step (by repeat (first | (with_reducible first | exact HB.out | apply below_alloc | apply pw_below_drewN | apply below_drew1) | exact HB.out)) hb); have n1_ := Aside0.mk hbox; have n2_ : Aside0 (w.heap.size ≤ gr) := Aside0.mk (by rw [hg]; exact (below_size (by repeat (first | (with_reducible first | exact HB.out | apply below_alloc | apply pw_below_drewN | apply below_drew1) | exact HB.out)))); have m0_ := Aside0.mk (IsS53.below HI.out hb); have NE_g_gr : g ≠ gr := (by rw [hg]; exact (Nat.ne_of_lt (blk_lt HI.out.1))); have m1_ := Aside0.mk (blk_below BKgl.out hb); have NE_gl_gr : gl ≠ gr := (by rw [hg]; exact (Nat.ne_of_lt (blk_lt BKgl.out))); have m2_ := Aside0.mk (blk_below BKgh.out hb); have NE_gh_gr : gh ≠ gr := (by rw [hg]; exact (Nat.ne_of_lt (blk_lt BKgh.out))); clear HB; have HB := n0_; have BKgr := n1_; have GEgr := n2_; clear n0_ n1_ n2_; clear HI; have HI := m0_; clear m0_; clear BKgl; have BKgl := m1_; clear m1_; clear BKgh; have BKgh := m2_; clear m2_; clear hbox hb hg))
  have hcz_0 := cellS53_0 HI.out.1
  have hcz_1 := cellS53_1 HI.out.1
  have hcz_2 := cellS53_2 HI.out.1
  have hc_gl_0 := (blk_cell BKgl.out 0).trans rfl
  have hc_gl_1 := (blk_cell BKgl.out 1).trans rfl
  have hc_gh_0 := (blk_cell BKgh.out 0).trans rfl
  have hc_gh_1 := (blk_cell BKgh.out 1).trans rfl
  have hc_gr_0 := (blk_cell BKgr.out 0).trans rfl
  have hc_gr_1 := (blk_cell BKgr.out 1).trans rfl
  have hc_gr_2 := (blk_cell BKgr.out 2).trans rfl
  have hc_gr_3 := (blk_cell BKgr.out 3).trans rfl
  have hf_gr_0 := blk_frozen BKgr.out 0
  have hf_gr_1 := blk_frozen BKgr.out 1
  have hf_gr_2 := blk_frozen BKgr.out 2
  have hf_gr_3 := blk_frozen BKgr.out 3
  go_upto_region 6 with (first | (go_at_call 9; (with_reducible refine (bound_Span.calls k a0 a1 b0 b1 r1 r2 r3 r4 r5 _ A1.out).mono ?_); rintro e w6 ⟨rfl, hb⟩; have n0_ := Aside0.mk (below_step (by repeat (first | (with_reducible first | exact HB.out | apply below_alloc | apply pw_below_drewN | apply below_drew1) | exact HB.out)) hb); have m0_ := Aside0.mk (IsS53.below HI.out hb); have m1_ := Aside0.mk (blk_below BKgr.out hb); clear HB HI BKgr hc_gr_0 hc_gr_1 hc_gr_2 hc_gr_3 hf_gr_0 hf_gr_1 hf_gr_2 hf_gr_3 hcz_0 hcz_1 hcz_2 BKgl BKgh hc_gl_0 hc_gl_1 hc_gh_0 hc_gh_1; have HB := n0_; have HI := m0_; have BKgr := m1_; clear n0_ m0_ m1_ hb; have hcz_0 := cellS53_0 HI.out.1; have hcz_1 := cellS53_1 HI.out.1; have hcz_2 := cellS53_2 HI.out.1))
  have BKgs := Aside0.mk (blk_new w6 (Obj.cells #[.int .i64 r1, .int .i64 r2, .int .i64 r3, .int .i64 r4] 27))
  have n1_ := Aside0.mk (blk_alloc BKgr.out (Obj.cells #[.int .i64 r1, .int .i64 r2, .int .i64 r3, .int .i64 r4] 27))
  have n2_ := Aside0.mk (IsS53.alloc HI.out (Obj.cells #[.int .i64 r1, .int .i64 r2, .int .i64 r3, .int .i64 r4] 27))
  have n3_ := Aside0.mk (below_alloc HB.out (Obj.cells #[.int .i64 r1, .int .i64 r2, .int .i64 r3, .int .i64 r4] 27))
  have NE_gr_gs : gr ≠ w6.heap.size := Nat.ne_of_lt (blk_lt BKgr.out)
  have NE_g_gs : g ≠ w6.heap.size := Nat.ne_of_lt (blk_lt HI.out.1)
  clear HI HB BKgr hcz_0 hcz_1 hcz_2
  have HI := n2_
  have HB := n3_
  have BKgr := n1_
  clear n1_ n2_ n3_
  generalize w6.alloc (Obj.cells #[.int .i64 r1, .int .i64 r2, .int .i64 r3, .int .i64 r4] 27) = W7 at *
  generalize w6.heap.size = gs at *
  have hcz_0 := cellS53_0 HI.out.1
  have hcz_1 := cellS53_1 HI.out.1
  have hcz_2 := cellS53_2 HI.out.1
  have hc_gs_0 := (blk_cell BKgs.out 0).trans rfl
  have hc_gs_1 := (blk_cell BKgs.out 1).trans rfl
  have hc_gs_2 := (blk_cell BKgs.out 2).trans rfl
  have hc_gs_3 := (blk_cell BKgs.out 3).trans rfl
  have hc_gr_0 := (blk_cell BKgr.out 0).trans rfl
  have hc_gr_1 := (blk_cell BKgr.out 1).trans rfl
  have hc_gr_2 := (blk_cell BKgr.out 2).trans rfl
  have hc_gr_3 := (blk_cell BKgr.out 3).trans rfl
  have hf_gr_0 := blk_frozen BKgr.out 0
  have hf_gr_1 := blk_frozen BKgr.out 1
  have hf_gr_2 := blk_frozen BKgr.out 2
  have hf_gr_3 := blk_frozen BKgr.out 3
  go_region
  all_goals (go_wp2; refine bodyPost_ret (results_ctt rfl _ _ gr 27 #[.int .i64 r1, .int .i64 r2, .int .i64 r3, .int .i64 r4] (0, 0) _ rfl (by (with_reducible repeat (first | refine blk_drewN ?_ _ | refine blk_drew ?_ | refine blk_alloc ?_ _)); refine blk_put (cs := #[.int .i64 r1, .int .i64 r2, .int .i64 r3, .int .i64 0]) ?_ 3 _ rfl; (with_reducible repeat (first | refine blk_drewN ?_ _ | refine blk_drew ?_ | refine blk_alloc ?_ _)); refine blk_put (cs := #[.int .i64 r1, .int .i64 r2, .int .i64 0, .int .i64 0]) ?_ 2 _ rfl; (with_reducible repeat (first | refine blk_drewN ?_ _ | refine blk_drew ?_ | refine blk_alloc ?_ _)); refine blk_put (cs := #[.int .i64 r1, .int .i64 0, .int .i64 0, .int .i64 0]) ?_ 1 _ rfl; (with_reducible repeat (first | refine blk_drewN ?_ _ | refine blk_drew ?_ | refine blk_alloc ?_ _)); refine blk_put (cs := #[.int .i64 0, .int .i64 0, .int .i64 0, .int .i64 0]) ?_ 0 _ rfl; (with_reducible repeat (first | refine blk_drewN ?_ _ | refine blk_drew ?_ | refine blk_alloc ?_ _)); exact BKgr.out) Try.underlying27 rfl (by kernel_rfl)) rfl ?_; exact ⟨rfl, by repeat (first | (with_reducible first | exact HB.out | apply below_alloc | apply pw_below_drewN | apply below_drew1 | refine below_set ?_ GEgr.out) | exact HB.out)⟩)
end Go.Proofs.Ytpeidnkbliafkaa.Print
