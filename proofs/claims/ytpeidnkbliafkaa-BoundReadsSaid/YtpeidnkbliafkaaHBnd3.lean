import Derived.Test.YtpeidnkbliafkaaPrint1
import Derived.Test.YtpeidnkbliafkaaPrint2
import Derived.Test.YtpeidnkbliafkaaHBnd2
namespace Go.Proofs.Ytpeidnkbliafkaa.Print
open Go.RowKit Go.Proofs.YtpeidnkbliafkaaW.PrintWords Go.Proofs.YtpeidnkbliafkaaW.PrintLast Go.Proofs.YtpeidnkbliafkaaW.PrintMore
attribute [local go_sem] max2_int min2_int max_two min_two max_three min_three max_four min_four
set_option linter.unusedVariables false
set_option linter.unusedSimpArgs false

def bound_end.f (k : Nat) (s : ByteArray) (a : Int) (m o : Bool) (inf : ByteArray) (closed : Bool) : Option (Int × Int × ByteArray × Int × Bool × Bool) :=
  (bound_reader_word.f s a m o inf).bind fun t => if t.1 = true then some (0, 0, t.2.1, t.2.2.1, t.2.2.2.1, t.2.2.2.2)
    else (bound_num.f (sat_Read.f k) t.2.1 t.2.2.1 t.2.2.2.1 t.2.2.2.2).bind fun u => some (if closed = true then 2 else 1, u.1, u.2.1, u.2.2.1, u.2.2.2.1, u.2.2.2.2)
def bound_Loose.j0 (k : Nat) (l1 l2 h1 h2 sec : Int) (s : ByteArray) (a : Int) (m o : Bool) : Option (Int × Int × Int × Int × Int × Int) :=
  (bound_reader_sign.f k s a m o (⟨#[41, 93]⟩ : ByteArray)).bind fun t => if t.1 = 93 then (if h1 = 1 then bound_told.f k t.2.2.1 t.2.2.2.1 l1 l2 2 h2 sec else bound_told.f k t.2.2.1 t.2.2.2.1 l1 l2 h1 h2 sec) else bound_told.f k t.2.2.1 t.2.2.2.1 l1 l2 h1 h2 sec
def bound_Loose.j1 (k : Nat) (l1 l2 sec : Int) (s : ByteArray) (a : Int) (m o : Bool) : Option (Int × Int × Int × Int × Int × Int) :=
  (bound_end.f k s a m o (⟨#[43, 105, 110, 102]⟩ : ByteArray) false).bind fun t => (bound_reader_blanks.f k t.2.2.1 t.2.2.2.1 t.2.2.2.2.1 t.2.2.2.2.2).bind fun u => bound_Loose.j0 k l1 l2 t.1 t.2.1 sec u.1 u.2.1 u.2.2.1 u.2.2.2
def bound_Loose.j2 (k : Nat) (l1 l2 : Int) (s : ByteArray) (a : Int) (m o : Bool) : Option (Int × Int × Int × Int × Int × Int) :=
  (bound_reader_blanks.f k s a m o).bind fun t => (bound_reader_sign.f k t.1 t.2.1 t.2.2.1 t.2.2.2 (⟨#[44]⟩ : ByteArray)).bind fun u => (bound_reader_blanks.f k u.2.1 u.2.2.1 u.2.2.2.1 u.2.2.2.2).bind fun v => bound_Loose.j1 k l1 l2 v.2.1 v.1 v.2.1 v.2.2.1 v.2.2.2
def bound_Loose.f (k : Nat) (a0 : ByteArray) : Option (Int × Int × Int × Int × Int × Int) :=
  (bound_reader_sign.f k a0 0 false true (⟨#[40, 91]⟩ : ByteArray)).bind fun t => (bound_reader_blanks.f k t.2.1 t.2.2.1 t.2.2.2.1 t.2.2.2.2).bind fun u => (bound_end.f k u.1 u.2.1 u.2.2.1 u.2.2.2 (⟨#[45, 105, 110, 102]⟩ : ByteArray) (t.1 == 91)).bind fun v => bound_Loose.j2 k v.1 v.2.1 v.2.2.1 v.2.2.2.1 v.2.2.2.2.1 v.2.2.2.2.2
set_option maxHeartbeats 8000000 in
set_option maxRecDepth 100000 in
theorem bound_end_i (k : Nat) (g gv : Nat) (s0_0 : ByteArray) (s0_1 : Int) (s0_2 : Bool) (s0_3 : Bool) (inf : ByteArray) (closed : Bool) (s1 : ByteArray) (a1 : Int) (m1 o1 : Bool) (w0 w : World) (hI : IsS53 w0 w g s0_0 s0_1 s0_2 s0_3) (hB : Below w0.heap.size w0 w) (hV : w.heap[gv]? = some (.cells #[.pointer (some ⟨g, 0, none⟩)] 51 (0, 0))) (hgv : gv ≠ g) (e1 : bound_reader_word.f s0_0 s0_1 s0_2 s0_3 inf = some (true, s1, a1, m1, o1)) :
    Calls Try.prog 43 #[.string inf, .bool closed, .pointer (some ⟨gv, 0, none⟩)] w fun e w' => e = .returned (.agg #[.int .i64 0, .int .i64 0]) ∧ IsS53 w0 w' g s1 a1 m1 o1 ∧ Below w0.heap.size w0 w' ∧ KeepBut w w' g none := by
  have HI := Aside0.mk hI
  have HB := Aside0.mk hB
  have HK := Aside0.mk (KeepBut.refl w g none)
  have BKgv := Aside0.mk hV
  have E1 := Aside0.mk e1
  have NE_g_gv := hgv.symm
  have hu23 := Try.underlying23
  clear hI hB hV e1 hgv
  go_enter Try.func43, Try.ntmps43
  go_upto_region 1 with (first | ((with_reducible refine gate_dst (N := 5) rfl ?_); refine box_event ?hg (N := 5) ?hd (cs := #[.int .i64 0, .int .i64 0]) (t := 23) ?hr ?_; (case hd => rfl); (case hg => rfl); (case hr => first | (go_simp; done) | (go_simp; rfl)); intro gr hg w1 hbox hb; have n1_ := Aside0.mk hbox; have n2_ : Aside0 (w.heap.size ≤ gr ∧ w0.heap.size ≤ gr) := Aside0.mk (by rw [hg]; exact ⟨Nat.le_refl _, HB.out.size⟩); have n0_ := Aside0.mk (below_step HB.out hb); have m0_ := Aside0.mk (IsS53.below HI.out hb); have NE_g_gr : g ≠ gr := (by rw [hg]; exact (Nat.ne_of_lt (blk_lt HI.out.1))); have m1_ := Aside0.mk (blk_below BKgv.out hb); have NE_gv_gr : gv ≠ gr := (by rw [hg]; exact (Nat.ne_of_lt (blk_lt BKgv.out))); have k_ := Aside0.mk (HK.out.trans (KeepBut.of_below hb g none) (.inl rfl)); clear HB HI BKgv HK hbox hb hg; have BKgr := n1_; have GEgr := n2_; have HB := n0_; have HI := m0_; have BKgv := m1_; have HK := k_; clear n0_ n1_ n2_ m0_ m1_ k_))
  have hc_gv_0 := (blk_cell BKgv.out 0).trans rfl
  have hf_gv_0 := blk_frozen BKgv.out 0
  go_upto_region 2 with (first | (go_at_call 38; (with_reducible refine (bound_reader_word.calls g s0_0 s0_1 s0_2 s0_3 inf true s1 a1 m1 o1 w0 _ HI.out HB.out E1.out).mono ?_); rintro e w2 ⟨rfl, hi, hb, hk⟩; have m_ := Aside0.mk hi; have n_ := Aside0.mk hb; have bgr_ := Aside0.mk (KeepBut.blk hk BKgr.out NE_g_gr.symm (by simp)); have bgv_ := Aside0.mk (KeepBut.blk hk BKgv.out NE_g_gv.symm (by simp)); have k_ := Aside0.mk (HK.out.trans hk (.inl rfl)); clear HI HB BKgr BKgv HK hi hb hk hc_gv_0 hf_gv_0; have HI := m_; have HB := n_; have BKgr := bgr_; have BKgv := bgv_; have HK := k_; clear m_ n_ bgr_ bgv_ k_))
  have hc_gr_0 := (blk_cell BKgr.out 0).trans rfl
  have hc_gr_1 := (blk_cell BKgr.out 1).trans rfl
  have hf_gr_0 := blk_frozen BKgr.out 0
  have hf_gr_1 := blk_frozen BKgr.out 1
  go_wp2
  refine bodyPost_ret (results_cell_row rfl _ _ gr 23 #[.int .i64 0, .int .i64 0] (0, 0) _ rfl (by (with_reducible repeat (first | refine blk_drewN ?_ _ | refine blk_drew ?_ | refine blk_alloc ?_ _ | refine blk_far ?_ NE_gr_gs _)); refine blk_put (cs := #[.int .i64 0, .int .i64 0]) ?_ 1 _ rfl; (with_reducible repeat (first | refine blk_drewN ?_ _ | refine blk_drew ?_ | refine blk_alloc ?_ _ | refine blk_far ?_ NE_gr_gs _)); refine blk_put (cs := #[.int .i64 0, .int .i64 0]) ?_ 0 _ rfl; (with_reducible repeat (first | refine blk_drewN ?_ _ | refine blk_drew ?_ | refine blk_alloc ?_ _ | refine blk_far ?_ NE_gr_gs _)); exact BKgr.out) Try.underlying23 rfl (by kernel_rfl)) rfl ?_
  exact ⟨rfl, (by repeat (first | (with_reducible first | exact HI.out | apply IsS53.alloc | apply IsS53.drewN | apply IsS53.drew | refine IsS53.far ?_ NE_g_gr _) | exact HI.out)), (by repeat (first | (with_reducible first | exact HB.out | apply below_alloc | apply pw_below_drewN | apply below_drew1 | refine below_set ?_ GEgr.out.2) | exact HB.out)), (by repeat (first | (with_reducible first | exact HK.out | apply keep_drewN | apply keep_drew | apply keep_alloc | refine keep_far ?_ (p := ⟨gr, 0, none⟩) GEgr.out.1 _ | refine keep_far ?_ (p := ⟨gr, 1, none⟩) GEgr.out.1 _) | exact HK.out))⟩
set_option maxHeartbeats 8000000 in
set_option maxRecDepth 100000 in
theorem bound_end_c (k : Nat) (g gv : Nat) (s0_0 : ByteArray) (s0_1 : Int) (s0_2 : Bool) (s0_3 : Bool) (inf : ByteArray) (s1 : ByteArray) (a1 : Int) (m1 o1 : Bool) (n2 : Int) (s2 : ByteArray) (a2 : Int) (m2 o2 : Bool) (w0 w : World) (hI : IsS53 w0 w g s0_0 s0_1 s0_2 s0_3) (hB : Below w0.heap.size w0 w) (hV : w.heap[gv]? = some (.cells #[.pointer (some ⟨g, 0, none⟩)] 51 (0, 0))) (hgv : gv ≠ g) (e1 : bound_reader_word.f s0_0 s0_1 s0_2 s0_3 inf = some (false, s1, a1, m1, o1)) (e2 : bound_num.f (sat_Read.f k) s1 a1 m1 o1 = some (n2, s2, a2, m2, o2)) :
    Calls Try.prog 43 #[.string inf, .bool true, .pointer (some ⟨gv, 0, none⟩)] w fun e w' => e = .returned (.agg #[.int .i64 2, .int .i64 n2]) ∧ IsS53 w0 w' g s2 a2 m2 o2 ∧ Below w0.heap.size w0 w' ∧ KeepBut w w' g none := by
  have HI := Aside0.mk hI
  have HB := Aside0.mk hB
  have HK := Aside0.mk (KeepBut.refl w g none)
  have BKgv := Aside0.mk hV
  have E1 := Aside0.mk e1
  have E2 := Aside0.mk e2
  have NE_g_gv := hgv.symm
  have hu23 := Try.underlying23
  clear hI hB hV e1 hgv e2
  go_enter Try.func43, Try.ntmps43
  go_upto_region 1 with (first | ((with_reducible refine gate_dst (N := 5) rfl ?_); refine box_event ?hg (N := 5) ?hd (cs := #[.int .i64 0, .int .i64 0]) (t := 23) ?hr ?_; (case hd => rfl); (case hg => rfl); (case hr => first | (go_simp; done) | (go_simp; rfl)); intro gr hg w1 hbox hb; have n1_ := Aside0.mk hbox; have n2_ : Aside0 (w.heap.size ≤ gr ∧ w0.heap.size ≤ gr) := Aside0.mk (by rw [hg]; exact ⟨Nat.le_refl _, HB.out.size⟩); have n0_ := Aside0.mk (below_step HB.out hb); have m0_ := Aside0.mk (IsS53.below HI.out hb); have NE_g_gr : g ≠ gr := (by rw [hg]; exact (Nat.ne_of_lt (blk_lt HI.out.1))); have m1_ := Aside0.mk (blk_below BKgv.out hb); have NE_gv_gr : gv ≠ gr := (by rw [hg]; exact (Nat.ne_of_lt (blk_lt BKgv.out))); have k_ := Aside0.mk (HK.out.trans (KeepBut.of_below hb g none) (.inl rfl)); clear HB HI BKgv HK hbox hb hg; have BKgr := n1_; have GEgr := n2_; have HB := n0_; have HI := m0_; have BKgv := m1_; have HK := k_; clear n0_ n1_ n2_ m0_ m1_ k_))
  have hc_gv_0 := (blk_cell BKgv.out 0).trans rfl
  have hf_gv_0 := blk_frozen BKgv.out 0
  go_upto_region 3 with (first | (go_at_call 38; (with_reducible refine (bound_reader_word.calls g s0_0 s0_1 s0_2 s0_3 inf false s1 a1 m1 o1 w0 _ HI.out HB.out E1.out).mono ?_); rintro e w2 ⟨rfl, hi, hb, hk⟩; have m_ := Aside0.mk hi; have n_ := Aside0.mk hb; have bgr_ := Aside0.mk (KeepBut.blk hk BKgr.out NE_g_gr.symm (by simp)); have bgv_ := Aside0.mk (KeepBut.blk hk BKgv.out NE_g_gv.symm (by simp)); have k_ := Aside0.mk (HK.out.trans hk (.inl rfl)); clear HI HB BKgr BKgv HK hi hb hk hc_gv_0 hf_gv_0; have HI := m_; have HB := n_; have BKgr := bgr_; have BKgv := bgv_; have HK := k_; clear m_ n_ bgr_ bgv_ k_))
  have hc_gv_0 := (blk_cell BKgv.out 0).trans rfl
  have hf_gv_0 := blk_frozen BKgv.out 0
  go_upto_region 5 with (first | (go_at_call 39; (with_reducible refine (bound_num_sat.calls k g s1 a1 m1 o1 n2 s2 a2 m2 o2 w0 _ HI.out HB.out E2.out).mono ?_); rintro e w3 ⟨rfl, hi, hb, hk⟩; have m_ := Aside0.mk hi; have n_ := Aside0.mk hb; have bgr_ := Aside0.mk (KeepBut.blk hk BKgr.out NE_g_gr.symm (by simp)); have bgv_ := Aside0.mk (KeepBut.blk hk BKgv.out NE_g_gv.symm (by simp)); have k_ := Aside0.mk (HK.out.trans hk (.inl rfl)); clear HI HB BKgr BKgv HK hi hb hk hc_gv_0 hf_gv_0; have HI := m_; have HB := n_; have BKgr := bgr_; have BKgv := bgv_; have HK := k_; clear m_ n_ bgr_ bgv_ k_))
  have BKgs := Aside0.mk (blk_new w3 (Obj.cells #[.int .i64 1, .int .i64 n2] 23))
  have n1_ := Aside0.mk (blk_alloc BKgr.out (Obj.cells #[.int .i64 1, .int .i64 n2] 23))
  have n2_ := Aside0.mk (IsS53.alloc HI.out (Obj.cells #[.int .i64 1, .int .i64 n2] 23))
  have n3_ := Aside0.mk (below_alloc HB.out (Obj.cells #[.int .i64 1, .int .i64 n2] 23))
  have n4_ := Aside0.mk (keep_alloc HK.out (Obj.cells #[.int .i64 1, .int .i64 n2] 23))
  have GEgs : Aside0 (w.heap.size ≤ w3.heap.size ∧ w0.heap.size ≤ w3.heap.size) := Aside0.mk ⟨HK.out.1, HB.out.size⟩
  have NE_gr_gs : gr ≠ w3.heap.size := Nat.ne_of_lt (blk_lt BKgr.out)
  have NE_g_gs : g ≠ w3.heap.size := Nat.ne_of_lt (blk_lt HI.out.1)
  clear HI HB BKgr HK BKgv
  have HI := n2_
  have HB := n3_
  have BKgr := n1_
  have HK := n4_
  clear n1_ n2_ n3_ n4_
  generalize w3.alloc (Obj.cells #[.int .i64 1, .int .i64 n2] 23) = W4 at *
  generalize w3.heap.size = gs at *
  have hc_gs_0 := (blk_cell BKgs.out 0).trans rfl
  have hc_gs_1 := (blk_cell BKgs.out 1).trans rfl
  have hf_gs_0 := blk_frozen BKgs.out 0
  have hf_gs_1 := blk_frozen BKgs.out 1
  have hc_gr_0 := (blk_cell BKgr.out 0).trans rfl
  have hc_gr_1 := (blk_cell BKgr.out 1).trans rfl
  have hf_gr_0 := blk_frozen BKgr.out 0
  have hf_gr_1 := blk_frozen BKgr.out 1
  go_wp2
  refine bodyPost_ret (results_cell_row rfl _ _ gr 23 #[.int .i64 2, .int .i64 n2] (0, 0) _ rfl (by (with_reducible repeat (first | refine blk_drewN ?_ _ | refine blk_drew ?_ | refine blk_alloc ?_ _ | refine blk_far ?_ NE_gr_gs _)); refine blk_put (cs := #[.int .i64 2, .int .i64 0]) ?_ 1 _ rfl; (with_reducible repeat (first | refine blk_drewN ?_ _ | refine blk_drew ?_ | refine blk_alloc ?_ _ | refine blk_far ?_ NE_gr_gs _)); refine blk_put (cs := #[.int .i64 0, .int .i64 0]) ?_ 0 _ rfl; (with_reducible repeat (first | refine blk_drewN ?_ _ | refine blk_drew ?_ | refine blk_alloc ?_ _ | refine blk_far ?_ NE_gr_gs _)); exact BKgr.out) Try.underlying23 rfl (by kernel_rfl)) rfl ?_
  exact ⟨rfl, (by repeat (first | (with_reducible first | exact HI.out | apply IsS53.alloc | apply IsS53.drewN | apply IsS53.drew | refine IsS53.far ?_ NE_g_gr _ | refine IsS53.far ?_ NE_g_gs _) | exact HI.out)), (by repeat (first | (with_reducible first | exact HB.out | apply below_alloc | apply pw_below_drewN | apply below_drew1 | refine below_set ?_ GEgr.out.2 | refine below_set ?_ GEgs.out.2) | exact HB.out)), (by repeat (first | (with_reducible first | exact HK.out | apply keep_drewN | apply keep_drew | apply keep_alloc | refine keep_far ?_ (p := ⟨gr, 0, none⟩) GEgr.out.1 _ | refine keep_far ?_ (p := ⟨gr, 1, none⟩) GEgr.out.1 _ | refine keep_far ?_ (p := ⟨gs, 0, none⟩) GEgs.out.1 _) | exact HK.out))⟩
set_option maxHeartbeats 8000000 in
set_option maxRecDepth 100000 in
theorem bound_end_o (k : Nat) (g gv : Nat) (s0_0 : ByteArray) (s0_1 : Int) (s0_2 : Bool) (s0_3 : Bool) (inf : ByteArray) (s1 : ByteArray) (a1 : Int) (m1 o1 : Bool) (n2 : Int) (s2 : ByteArray) (a2 : Int) (m2 o2 : Bool) (w0 w : World) (hI : IsS53 w0 w g s0_0 s0_1 s0_2 s0_3) (hB : Below w0.heap.size w0 w) (hV : w.heap[gv]? = some (.cells #[.pointer (some ⟨g, 0, none⟩)] 51 (0, 0))) (hgv : gv ≠ g) (e1 : bound_reader_word.f s0_0 s0_1 s0_2 s0_3 inf = some (false, s1, a1, m1, o1)) (e2 : bound_num.f (sat_Read.f k) s1 a1 m1 o1 = some (n2, s2, a2, m2, o2)) :
    Calls Try.prog 43 #[.string inf, .bool false, .pointer (some ⟨gv, 0, none⟩)] w fun e w' => e = .returned (.agg #[.int .i64 1, .int .i64 n2]) ∧ IsS53 w0 w' g s2 a2 m2 o2 ∧ Below w0.heap.size w0 w' ∧ KeepBut w w' g none := by
  have HI := Aside0.mk hI
  have HB := Aside0.mk hB
  have HK := Aside0.mk (KeepBut.refl w g none)
  have BKgv := Aside0.mk hV
  have E1 := Aside0.mk e1
  have E2 := Aside0.mk e2
  have NE_g_gv := hgv.symm
  have hu23 := Try.underlying23
  clear hI hB hV e1 hgv e2
  go_enter Try.func43, Try.ntmps43
  go_upto_region 1 with (first | ((with_reducible refine gate_dst (N := 5) rfl ?_); refine box_event ?hg (N := 5) ?hd (cs := #[.int .i64 0, .int .i64 0]) (t := 23) ?hr ?_; (case hd => rfl); (case hg => rfl); (case hr => first | (go_simp; done) | (go_simp; rfl)); intro gr hg w1 hbox hb; have n1_ := Aside0.mk hbox; have n2_ : Aside0 (w.heap.size ≤ gr ∧ w0.heap.size ≤ gr) := Aside0.mk (by rw [hg]; exact ⟨Nat.le_refl _, HB.out.size⟩); have n0_ := Aside0.mk (below_step HB.out hb); have m0_ := Aside0.mk (IsS53.below HI.out hb); have NE_g_gr : g ≠ gr := (by rw [hg]; exact (Nat.ne_of_lt (blk_lt HI.out.1))); have m1_ := Aside0.mk (blk_below BKgv.out hb); have NE_gv_gr : gv ≠ gr := (by rw [hg]; exact (Nat.ne_of_lt (blk_lt BKgv.out))); have k_ := Aside0.mk (HK.out.trans (KeepBut.of_below hb g none) (.inl rfl)); clear HB HI BKgv HK hbox hb hg; have BKgr := n1_; have GEgr := n2_; have HB := n0_; have HI := m0_; have BKgv := m1_; have HK := k_; clear n0_ n1_ n2_ m0_ m1_ k_))
  have hc_gv_0 := (blk_cell BKgv.out 0).trans rfl
  have hf_gv_0 := blk_frozen BKgv.out 0
  go_upto_region 3 with (first | (go_at_call 38; (with_reducible refine (bound_reader_word.calls g s0_0 s0_1 s0_2 s0_3 inf false s1 a1 m1 o1 w0 _ HI.out HB.out E1.out).mono ?_); rintro e w2 ⟨rfl, hi, hb, hk⟩; have m_ := Aside0.mk hi; have n_ := Aside0.mk hb; have bgr_ := Aside0.mk (KeepBut.blk hk BKgr.out NE_g_gr.symm (by simp)); have bgv_ := Aside0.mk (KeepBut.blk hk BKgv.out NE_g_gv.symm (by simp)); have k_ := Aside0.mk (HK.out.trans hk (.inl rfl)); clear HI HB BKgr BKgv HK hi hb hk hc_gv_0 hf_gv_0; have HI := m_; have HB := n_; have BKgr := bgr_; have BKgv := bgv_; have HK := k_; clear m_ n_ bgr_ bgv_ k_))
  have hc_gv_0 := (blk_cell BKgv.out 0).trans rfl
  have hf_gv_0 := blk_frozen BKgv.out 0
  go_upto_region 6 with (first | (go_at_call 39; (with_reducible refine (bound_num_sat.calls k g s1 a1 m1 o1 n2 s2 a2 m2 o2 w0 _ HI.out HB.out E2.out).mono ?_); rintro e w3 ⟨rfl, hi, hb, hk⟩; have m_ := Aside0.mk hi; have n_ := Aside0.mk hb; have bgr_ := Aside0.mk (KeepBut.blk hk BKgr.out NE_g_gr.symm (by simp)); have bgv_ := Aside0.mk (KeepBut.blk hk BKgv.out NE_g_gv.symm (by simp)); have k_ := Aside0.mk (HK.out.trans hk (.inl rfl)); clear HI HB BKgr BKgv HK hi hb hk hc_gv_0 hf_gv_0; have HI := m_; have HB := n_; have BKgr := bgr_; have BKgv := bgv_; have HK := k_; clear m_ n_ bgr_ bgv_ k_))
  have BKgs := Aside0.mk (blk_new w3 (Obj.cells #[.int .i64 1, .int .i64 n2] 23))
  have n1_ := Aside0.mk (blk_alloc BKgr.out (Obj.cells #[.int .i64 1, .int .i64 n2] 23))
  have n2_ := Aside0.mk (IsS53.alloc HI.out (Obj.cells #[.int .i64 1, .int .i64 n2] 23))
  have n3_ := Aside0.mk (below_alloc HB.out (Obj.cells #[.int .i64 1, .int .i64 n2] 23))
  have n4_ := Aside0.mk (keep_alloc HK.out (Obj.cells #[.int .i64 1, .int .i64 n2] 23))
  have GEgs : Aside0 (w.heap.size ≤ w3.heap.size ∧ w0.heap.size ≤ w3.heap.size) := Aside0.mk ⟨HK.out.1, HB.out.size⟩
  have NE_gr_gs : gr ≠ w3.heap.size := Nat.ne_of_lt (blk_lt BKgr.out)
  have NE_g_gs : g ≠ w3.heap.size := Nat.ne_of_lt (blk_lt HI.out.1)
  clear HI HB BKgr HK BKgv
  have HI := n2_
  have HB := n3_
  have BKgr := n1_
  have HK := n4_
  clear n1_ n2_ n3_ n4_
  generalize w3.alloc (Obj.cells #[.int .i64 1, .int .i64 n2] 23) = W4 at *
  generalize w3.heap.size = gs at *
  have hc_gs_0 := (blk_cell BKgs.out 0).trans rfl
  have hc_gs_1 := (blk_cell BKgs.out 1).trans rfl
  have hf_gs_0 := blk_frozen BKgs.out 0
  have hf_gs_1 := blk_frozen BKgs.out 1
  have hc_gr_0 := (blk_cell BKgr.out 0).trans rfl
  have hc_gr_1 := (blk_cell BKgr.out 1).trans rfl
  have hf_gr_0 := blk_frozen BKgr.out 0
  have hf_gr_1 := blk_frozen BKgr.out 1
  go_wp2
  refine bodyPost_ret (results_cell_row rfl _ _ gr 23 #[.int .i64 1, .int .i64 n2] (0, 0) _ rfl (by (with_reducible repeat (first | refine blk_drewN ?_ _ | refine blk_drew ?_ | refine blk_alloc ?_ _ | refine blk_far ?_ NE_gr_gs _)); refine blk_put (cs := #[.int .i64 1, .int .i64 0]) ?_ 1 _ rfl; (with_reducible repeat (first | refine blk_drewN ?_ _ | refine blk_drew ?_ | refine blk_alloc ?_ _ | refine blk_far ?_ NE_gr_gs _)); refine blk_put (cs := #[.int .i64 0, .int .i64 0]) ?_ 0 _ rfl; (with_reducible repeat (first | refine blk_drewN ?_ _ | refine blk_drew ?_ | refine blk_alloc ?_ _ | refine blk_far ?_ NE_gr_gs _)); exact BKgr.out) Try.underlying23 rfl (by kernel_rfl)) rfl ?_
  exact ⟨rfl, (by repeat (first | (with_reducible first | exact HI.out | apply IsS53.alloc | apply IsS53.drewN | apply IsS53.drew | refine IsS53.far ?_ NE_g_gr _ | refine IsS53.far ?_ NE_g_gs _) | exact HI.out)), (by repeat (first | (with_reducible first | exact HB.out | apply below_alloc | apply pw_below_drewN | apply below_drew1 | refine below_set ?_ GEgr.out.2 | refine below_set ?_ GEgs.out.2) | exact HB.out)), (by repeat (first | (with_reducible first | exact HK.out | apply keep_drewN | apply keep_drew | apply keep_alloc | refine keep_far ?_ (p := ⟨gr, 0, none⟩) GEgr.out.1 _ | refine keep_far ?_ (p := ⟨gr, 1, none⟩) GEgr.out.1 _ | refine keep_far ?_ (p := ⟨gs, 0, none⟩) GEgs.out.1 _) | exact HK.out))⟩
theorem bound_end.calls (k : Nat) (g gv : Nat) (s0_0 : ByteArray) (s0_1 : Int) (s0_2 : Bool) (s0_3 : Bool) (inf : ByteArray) (closed : Bool) (r1 r2 : Int) (r3 : ByteArray) (r4 : Int) (r5 r6 : Bool) (w0 w : World) (hI : IsS53 w0 w g s0_0 s0_1 s0_2 s0_3) (hB : Below w0.heap.size w0 w) (hV : w.heap[gv]? = some (.cells #[.pointer (some ⟨g, 0, none⟩)] 51 (0, 0))) (hgv : gv ≠ g) (h : bound_end.f k s0_0 s0_1 s0_2 s0_3 inf closed = some (r1, r2, r3, r4, r5, r6)) :
    Calls Try.prog 43 #[.string inf, .bool closed, .pointer (some ⟨gv, 0, none⟩)] w fun e w' => e = .returned (.agg #[.int .i64 r1, .int .i64 r2]) ∧ IsS53 w0 w' g r3 r4 r5 r6 ∧ Below w0.heap.size w0 w' ∧ KeepBut w w' g none := by
  unfold bound_end.f at h
  obtain ⟨⟨b1, s1, a1, m1, o1⟩, e1, h⟩ := Option.bind_eq_some_iff.mp h
  by_cases c : b1 = true
  · replace h := (if_pos c).symm.trans h
    simp only [Option.some.injEq, Prod.mk.injEq] at h
    obtain ⟨rfl, rfl, rfl, rfl, rfl, rfl⟩ := h
    subst c
    exact bound_end_i k g gv s0_0 s0_1 s0_2 s0_3 inf closed _ _ _ _ w0 w hI hB hV hgv e1
  · replace h := (if_neg c).symm.trans h
    replace c := Bool.eq_false_iff.mpr c
    subst c
    obtain ⟨⟨n2, s2, a2, m2, o2⟩, e2, h⟩ := Option.bind_eq_some_iff.mp h
    simp only [Option.some.injEq, Prod.mk.injEq] at h
    obtain ⟨rfl, rfl, rfl, rfl, rfl, rfl⟩ := h
    cases closed
    · exact bound_end_o k g gv s0_0 s0_1 s0_2 s0_3 inf s1 a1 m1 o1 n2 s2 a2 m2 o2 w0 w hI hB hV hgv e1 e2
    · exact bound_end_c k g gv s0_0 s0_1 s0_2 s0_3 inf s1 a1 m1 o1 n2 s2 a2 m2 o2 w0 w hI hB hV hgv e1 e2
theorem bound_end_mono (s : ByteArray) (a : Int) (m o : Bool) (inf : ByteArray) (c : Bool) (k : Nat) : LeO (bound_end.f k s a m o inf c) (bound_end.f (k + 1) s a m o inf c) := by
  unfold bound_end.f
  exact LeO.bind (LeO.refl _) (fun _ => LeO.ite (LeO.refl _) (LeO.bind (bound_num_mono _ sat_Read.mono _ _ _ _ _) (fun _ => LeO.refl _)))
end Go.Proofs.Ytpeidnkbliafkaa.Print
