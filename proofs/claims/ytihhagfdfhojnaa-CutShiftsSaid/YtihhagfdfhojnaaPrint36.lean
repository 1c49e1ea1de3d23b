-- Laid by wip/print/bprint.py of this repo, over the kit's printer, with functions given by hand; not trusted: Lean checks it.
import Derived.Test.YtihhagfdfhojnaaPrint0
import Derived.Test.YtihhagfdfhojnaaPrint1
import Derived.Test.YtihhagfdfhojnaaPrint5
import Derived.Test.YtihhagfdfhojnaaPrint10
import Derived.Test.YtihhagfdfhojnaaPrint11
import Derived.Test.YtihhagfdfhojnaaPrint26
import Derived.Test.YtihhagfdfhojnaaPrint32
import Derived.Test.YtihhagfdfhojnaaPrint35
namespace Go.Proofs.Ytihhagfdfhojnaa.Print
open Go.RowKit Go.Proofs.YtihhagfdfhojnaaW.PrintWords Go.Proofs.YtihhagfdfhojnaaW.PrintLast Go.Proofs.YtihhagfdfhojnaaW.PrintMore
attribute [local go_sem] max2_int min2_int max_two min_two max_three min_three max_four min_four   -- for this text's walks alone
set_option linter.unusedVariables false
set_option linter.unusedSimpArgs false

attribute [local go_sem high] eqA23
/-! ### bocagelaw02_CutShifts: function 8 -/
mutual
def bocagelaw02_CutShifts.j0 : Nat → Int → Bool → Bool → Int → Int → Int → Int → Option (Bool)
  | 0, _, _, _, _, _, _, _ => none
  | k + 1, x1, x6, x30, x491000, x491001, x495000, x495001 => if x30 = true then (some false) else (if x6 = true then ((bocageref02_Least64.f).bind fun t499 => (bocagelaw02_CutShifts.j1 k x1 (x1 == t499) x491000 x491001 x495000 x495001)) else (bocagelaw02_CutShifts.j1 k x1 true x491000 x491001 x495000 x495001))
def bocagelaw02_CutShifts.j1 : Nat → Int → Bool → Int → Int → Int → Int → Option (Bool)
  | 0, _, _, _, _, _, _ => none
  | k + 1, x1, x37, x491000, x491001, x495000, x495001 => if x37 = true then ((bocagelaw02_alive.f k).bind fun t500 => (some t500)) else ((cut_Shift.f k x495000 x495001 (wrap64 (-x1))).bind fun bt501 => ((bocagelaw02_alive.f k).bind fun t505 => (if t505 = true then ((cut_Right.f k x495000 x495001).bind fun t506 => (if t506 = true then (if bt501.2.2 = true then ((cut_Canon.f k x491000 x491001).bind fun bt507 => (some (bt501.1 == bt507.1 && (bt501.2.1 == bt507.2)))) else (some false)) else (some false))) else (some false))))
end
def bocagelaw02_CutShifts.f (k : Nat) (a0_0 : Int) (a0_1 : Int) (a1 : Int) : Option (Bool) := (cut_Shift.f k a0_0 a0_1 a1).bind fun bt491 => ((bocageref02_Shift.f k a0_0 a0_1 a1).bind fun bt495 => (if (!(bt491.1 == bt495.1) || (!(bt491.2.1 == bt495.2.1))) = true then (bocagelaw02_CutShifts.j0 k a1 bt491.2.2 true a0_0 a0_1 bt491.1 bt491.2.1) else (bocagelaw02_CutShifts.j0 k a1 bt491.2.2 (bt491.2.2 != bt495.2.2) a0_0 a0_1 bt491.1 bt491.2.1)))
theorem bocagelaw02_CutShifts.mono_l : ∀ k, (∀ y0 y1 y2 y3 y4 y5 y6, LeO (bocagelaw02_CutShifts.j0 k y0 y1 y2 y3 y4 y5 y6) (bocagelaw02_CutShifts.j0 (k + 1) y0 y1 y2 y3 y4 y5 y6)) ∧ (∀ y0 y1 y2 y3 y4 y5, LeO (bocagelaw02_CutShifts.j1 k y0 y1 y2 y3 y4 y5) (bocagelaw02_CutShifts.j1 (k + 1) y0 y1 y2 y3 y4 y5))
  | 0 => ⟨fun _ _ _ _ _ _ _ r h => by simp [bocagelaw02_CutShifts.j0] at h, fun _ _ _ _ _ _ r h => by simp [bocagelaw02_CutShifts.j1] at h⟩
  | k + 1 => by
    obtain ⟨ih0, ih1⟩ := bocagelaw02_CutShifts.mono_l k
    refine ⟨?_, ?_⟩
    · intro y0 y1 y2 y3 y4 y5 y6
      unfold bocagelaw02_CutShifts.j0
      repeat' first
      | (with_reducible exact ih0 _ _ _ _ _ _ _)
      | (with_reducible exact ih1 _ _ _ _ _ _)
      | (with_reducible exact bocagelaw02_alive.mono _)
      | (with_reducible exact bocageref02_Shift.mono _ _ _ _)
      | (with_reducible exact cut_Canon.mono _ _ _)
      | (with_reducible exact cut_Right.mono _ _ _)
      | (with_reducible exact cut_Shift.mono _ _ _ _)
      | (with_reducible exact LeO.refl _)
      | (with_reducible exact LeO.none _)
      | (with_reducible refine LeO.ite ?_ ?_)
      | (with_reducible refine LeO.bind ?_ (fun _ => ?_))
      | exact ih0 _ _ _ _ _ _ _
      | exact ih1 _ _ _ _ _ _
      | exact bocagelaw02_alive.mono _
      | exact bocageref02_Shift.mono _ _ _ _
      | exact cut_Canon.mono _ _ _
      | exact cut_Right.mono _ _ _
      | exact cut_Shift.mono _ _ _ _
      | exact LeO.none _
      | refine LeO.ite ?_ ?_
      | refine LeO.bind ?_ (fun _ => ?_)
    · intro y0 y1 y2 y3 y4 y5
      unfold bocagelaw02_CutShifts.j1
      repeat' first
      | (with_reducible exact ih0 _ _ _ _ _ _ _)
      | (with_reducible exact ih1 _ _ _ _ _ _)
      | (with_reducible exact bocagelaw02_alive.mono _)
      | (with_reducible exact bocageref02_Shift.mono _ _ _ _)
      | (with_reducible exact cut_Canon.mono _ _ _)
      | (with_reducible exact cut_Right.mono _ _ _)
      | (with_reducible exact cut_Shift.mono _ _ _ _)
      | (with_reducible exact LeO.refl _)
      | (with_reducible exact LeO.none _)
      | (with_reducible refine LeO.ite ?_ ?_)
      | (with_reducible refine LeO.bind ?_ (fun _ => ?_))
      | exact ih0 _ _ _ _ _ _ _
      | exact ih1 _ _ _ _ _ _
      | exact bocagelaw02_alive.mono _
      | exact bocageref02_Shift.mono _ _ _ _
      | exact cut_Canon.mono _ _ _
      | exact cut_Right.mono _ _ _
      | exact cut_Shift.mono _ _ _ _
      | exact LeO.none _
      | refine LeO.ite ?_ ?_
      | refine LeO.bind ?_ (fun _ => ?_)
theorem bocagelaw02_CutShifts.mono : ∀ a0 a1 a2 k, LeO (bocagelaw02_CutShifts.f k a0 a1 a2) (bocagelaw02_CutShifts.f (k + 1) a0 a1 a2) := by
  intro a0 a1 a2 k
  obtain ⟨ih0, ih1⟩ := bocagelaw02_CutShifts.mono_l k
  unfold bocagelaw02_CutShifts.f
  repeat' first
      | (with_reducible exact ih0 _ _ _ _ _ _ _)
      | (with_reducible exact ih1 _ _ _ _ _ _)
      | (with_reducible exact bocagelaw02_alive.mono _)
      | (with_reducible exact bocageref02_Shift.mono _ _ _ _)
      | (with_reducible exact cut_Canon.mono _ _ _)
      | (with_reducible exact cut_Right.mono _ _ _)
      | (with_reducible exact cut_Shift.mono _ _ _ _)
      | (with_reducible exact LeO.refl _)
      | (with_reducible exact LeO.none _)
      | (with_reducible refine LeO.ite ?_ ?_)
      | (with_reducible refine LeO.bind ?_ (fun _ => ?_))
      | exact ih0 _ _ _ _ _ _ _
      | exact ih1 _ _ _ _ _ _
      | exact bocagelaw02_alive.mono _
      | exact bocageref02_Shift.mono _ _ _ _
      | exact cut_Canon.mono _ _ _
      | exact cut_Right.mono _ _ _
      | exact cut_Shift.mono _ _ _ _
      | exact LeO.none _
      | refine LeO.ite ?_ ?_
      | refine LeO.bind ?_ (fun _ => ?_)
def bocagelaw02_CutShifts.T8 : Bool × List (List Nat × List Nat) := (true, [([], []), ([0, 0], [0]), ([1], [1]), ([2, 1, 1], [1, 2]), ([1, 3], [1, 3]), ([4, 3], [4]), ([5], [5]), ([5, 6], [5, 6]), ([7, 5], [7]), ([8], [8]), ([8], [8]), ([10, 8, 8], [8, 10]), ([9, 11, 8], [8, 9, 11]), ([8, 12], [8, 12]), ([13, 11, 0, 1, 2, 3, 4, 5, 6, 7, 8, 9, 10, 11, 12, 13], [13])])
def bocagelaw02_CutShifts.B8 : List Nat := [0, 1, 3, 7, 15, 31, 63, 127, 255, 511, 511, 1535, 4095, 8191, 16383]
theorem bocagelaw02_CutShifts.tab8 : rtab .any (opsOf Try.f8 8) = bocagelaw02_CutShifts.T8 := by kernel_rfl
theorem bocagelaw02_CutShifts.bits8 : waitsOk bocagelaw02_CutShifts.T8.2 bocagelaw02_CutShifts.B8 = true := by kernel_rfl
set_option maxHeartbeats 8000000 in
set_option maxRecDepth 100000 in
theorem bocagelaw02_CutShifts.calls (k : Nat) (a0_0 : Int) (a0_1 : Int) (a1 : Int) (r : Bool) (w : World) (h : bocagelaw02_CutShifts.f k a0_0 a0_1 a1 = some r) (hr : r = true) :
    Calls Try.prog 8 #[.agg #[.int .i64 a0_0, .int .i64 a0_1], .int .i64 a1] w fun e w' => e = .returned (.bool r) ∧ Below w.heap.size w w' := by
  have HRT := Aside0.mk hr
  clear hr
  have hu23 := Try.underlying23
  have HB := Aside0.mk (Below.refl w.heap.size w)
  have H : ((cut_Shift.f k a0_0 a0_1 a1).bind fun bt491 => ((bocageref02_Shift.f k a0_0 a0_1 a1).bind fun bt495 => (if (!(bt491.1 == bt495.1) || (!(bt491.2.1 == bt495.2.1))) = true then (bocagelaw02_CutShifts.j0 k a1 bt491.2.2 true a0_0 a0_1 bt491.1 bt491.2.1) else (bocagelaw02_CutShifts.j0 k a1 bt491.2.2 (bt491.2.2 != bt495.2.2) a0_0 a0_1 bt491.1 bt491.2.1)))) = some r := h
  clear h
  replace H := Option.bind_eq_some_iff.mp H
  obtain ⟨⟨t491, t492, t493⟩, A30, H⟩ := H
  replace H : ((bocageref02_Shift.f k a0_0 a0_1 a1).bind fun bt495 => (if (!(t491 == bt495.1) || (!(t492 == bt495.2.1))) = true then (bocagelaw02_CutShifts.j0 k a1 t493 true a0_0 a0_1 t491 t492) else (bocagelaw02_CutShifts.j0 k a1 t493 (t493 != bt495.2.2) a0_0 a0_1 t491 t492))) = some r := H
  have A3 := Aside0.mk A30
  clear A30
  replace H := Option.bind_eq_some_iff.mp H
  obtain ⟨⟨t495, t496, t497⟩, A40, H⟩ := H
  replace H : (if (!(t491 == t495) || (!(t492 == t496))) = true then (bocagelaw02_CutShifts.j0 k a1 t493 true a0_0 a0_1 t491 t492) else (bocagelaw02_CutShifts.j0 k a1 t493 (t493 != t497) a0_0 a0_1 t491 t492)) = some r := H
  have A4 := Aside0.mk A40
  clear A40
  have HC5 := Aside0.mk H
  clear H
  go_enter Try.func8, Try.ntmps8
  go_upto_region 3 with (first | ((with_reducible refine gate_dst (N := 2) rfl ?_); refine box_event ?hg (N := 2) ?hd (cs := #[.int .i64 a0_0, .int .i64 a0_1]) (t := 23) ?hr ?_; (case hd => rfl); (case hg => rfl); (case hr => first | (go_simp; done) | (go_simp; rfl)); intro gb490 hg w6 hbox hb; have n0_ := Aside0.mk (below_step (by repeat (first | (with_reducible first | exact HB.out | apply below_alloc | apply pw_below_drewN | apply below_drew1) | exact HB.out)) hb); have n1_ := Aside0.mk (hbox); have n2_ := Aside0.mk ((by rw [hg]; exact (below_size (by repeat (first | (with_reducible first | exact HB.out | apply below_alloc | apply pw_below_drewN | apply below_drew1) | exact HB.out))) : w.heap.size ≤ gb490)); have n3_ := Aside0.mk ((by rw [hg]; exact (below_size (by repeat (first | (with_reducible first | exact HB.out | apply below_alloc | apply pw_below_drewN | apply below_drew1) | exact HB.out))) : w.heap.size ≤ gb490)); clear HB; have HB := n0_; have BK490 := n1_; have GW490 := n2_; have GE490 := n3_; clear n0_ n1_ n2_ n3_; clear hb hbox hg; have hcz7_0 : w6.cell? ⟨gb490, 0, none⟩ = some (.int .i64 a0_0) := (blk_cell BK490.out 0).trans rfl; have hcz7_1 : w6.cell? ⟨gb490, 1, none⟩ = some (.int .i64 a0_1) := (blk_cell BK490.out 1).trans rfl; have hfz7_0 := blk_frozen BK490.out 0; have hfz7_1 := blk_frozen BK490.out 1) | ((with_reducible refine gate_callee (f := 34) rfl ?_); refine goesL_ (some 14) rfl rfl Try.func34 (by kernel_rfl) rfl #[.agg #[.int .i64 a0_0, .int .i64 a0_1], .int .i64 a1] rfl (by (try simp only [List.map_toArray, List.map_cons, List.map_nil]); first | done | rfl | (simp only [List.length_drop, List.length_take]; rfl)) ?_; (with_reducible refine (cut_Shift.calls k a0_0 a0_1 a1 t491 t492 t493 _ A3.out).mono ?_); rintro e w8 ⟨rfl, hb⟩; refine ⟨_, rfl, ?_⟩; have n0_ := Aside0.mk (blk_below (g := gb490) (o := .cells #[.int .i64 a0_0, .int .i64 a0_1] 23 (0, 0)) (by (with_reducible repeat (first | refine blk_drewN ?_ _ | refine blk_drew ?_ | refine blk_alloc ?_ _)); exact BK490.out) hb); have n1_ := Aside0.mk (below_step (by repeat (first | (with_reducible first | exact HB.out | apply below_alloc | apply pw_below_drewN | apply below_drew1 | refine below_set ?_ GE490.out) | exact HB.out)) hb); clear BK490; clear HB; have BK490 := n0_; have HB := n1_; clear n0_ n1_; (try clear hb); (try clear hb2); (try clear hk); (try clear hi)) | ((with_reducible refine gate_dst (N := 5) rfl ?_); refine box_event ?hg (N := 5) ?hd (cs := #[.int .i64 0, .int .i64 0]) (t := 23) ?hr ?_; (case hd => rfl); (case hg => rfl); (case hr => first | (go_simp; done) | (go_simp; rfl)); intro gb494 hg w9 hbox hb; have n0_ := Aside0.mk (blk_below (g := gb490) (o := .cells #[.int .i64 a0_0, .int .i64 a0_1] 23 (0, 0)) (by (with_reducible repeat (first | refine blk_drewN ?_ _ | refine blk_drew ?_ | refine blk_alloc ?_ _)); exact BK490.out) hb); have n1_ := Aside0.mk (below_step (by repeat (first | (with_reducible first | exact HB.out | apply below_alloc | apply pw_below_drewN | apply below_drew1 | refine below_set ?_ GE490.out) | exact HB.out)) hb); have n2_ := Aside0.mk (hbox); have n3_ := Aside0.mk ((by rw [hg]; exact (below_size (by repeat (first | (with_reducible first | exact HB.out | apply below_alloc | apply pw_below_drewN | apply below_drew1 | refine below_set ?_ GE490.out) | exact HB.out))) : w.heap.size ≤ gb494)); have n4_ := Aside0.mk ((by rw [hg]; exact (below_size (by repeat (first | (with_reducible first | exact HB.out | apply below_alloc | apply pw_below_drewN | apply below_drew1 | refine below_set ?_ GE490.out) | exact HB.out))) : w.heap.size ≤ gb494)); have n5_ := Aside0.mk ((by rw [hg]; exact Nat.ne_of_lt (blk_lt (g := gb490) (o := .cells #[.int .i64 a0_0, .int .i64 a0_1] 23 (0, 0)) (by (with_reducible repeat (first | refine blk_drewN ?_ _ | refine blk_drew ?_ | refine blk_alloc ?_ _)); exact BK490.out)) : gb490 ≠ gb494)); have n6_ := Aside0.mk ((by rw [hg]; exact Nat.ne_of_gt (blk_lt (g := gb490) (o := .cells #[.int .i64 a0_0, .int .i64 a0_1] 23 (0, 0)) (by (with_reducible repeat (first | refine blk_drewN ?_ _ | refine blk_drew ?_ | refine blk_alloc ?_ _)); exact BK490.out)) : gb494 ≠ gb490)); clear BK490; clear HB; have BK490 := n0_; have HB := n1_; have BK494 := n2_; have GW494 := n3_; have GE494 := n4_; have NB490_494 := n5_; have NB494_490 := n6_; clear n0_ n1_ n2_ n3_ n4_ n5_ n6_; clear hb hbox hg; have hnb10 := NB494_490.out; have hnc10 := NB490_494.out; have hcz11_0 : w9.cell? ⟨gb494, 0, none⟩ = some (.int .i64 0) := (blk_cell BK494.out 0).trans rfl; have hcz11_1 : w9.cell? ⟨gb494, 1, none⟩ = some (.int .i64 0) := (blk_cell BK494.out 1).trans rfl; have hfz11_0 := blk_frozen BK494.out 0; have hfz11_1 := blk_frozen BK494.out 1; have hcz12_0 : w9.cell? ⟨gb490, 0, none⟩ = some (.int .i64 a0_0) := (blk_cell BK490.out 0).trans rfl; have hcz12_1 : w9.cell? ⟨gb490, 1, none⟩ = some (.int .i64 a0_1) := (blk_cell BK490.out 1).trans rfl; have hfz12_0 := blk_frozen BK490.out 0; have hfz12_1 := blk_frozen BK490.out 1) | ((with_reducible refine gate_callee (f := 35) rfl ?_); refine goesL_ (some 20) rfl rfl Try.func35 (by kernel_rfl) rfl #[.agg #[.int .i64 a0_0, .int .i64 a0_1], .int .i64 a1] rfl (by (try simp only [List.map_toArray, List.map_cons, List.map_nil]); first | done | rfl | (simp only [List.length_drop, List.length_take]; rfl)) ?_; (with_reducible refine (bocageref02_Shift.calls k a0_0 a0_1 a1 t495 t496 t497 _ A4.out).mono ?_); rintro e w13 ⟨rfl, hb⟩; refine ⟨_, rfl, ?_⟩; have n0_ := Aside0.mk (blk_below (g := gb490) (o := .cells #[.int .i64 a0_0, .int .i64 a0_1] 23 (0, 0)) (by (with_reducible repeat (first | refine blk_drewN ?_ _ | refine blk_drew ?_ | refine blk_alloc ?_ _)); refine blk_far ?_ NB490_494.out _; (with_reducible repeat (first | refine blk_drewN ?_ _ | refine blk_drew ?_ | refine blk_alloc ?_ _)); refine blk_far ?_ NB490_494.out _; (with_reducible repeat (first | refine blk_drewN ?_ _ | refine blk_drew ?_ | refine blk_alloc ?_ _)); exact BK490.out) hb); have n1_ := Aside0.mk (blk_below (g := gb494) (o := .cells #[.int .i64 t491, .int .i64 t492] 23 (0, 0)) (by (with_reducible repeat (first | refine blk_drewN ?_ _ | refine blk_drew ?_ | refine blk_alloc ?_ _)); refine blk_put (cs := #[.int .i64 t491, .int .i64 0]) ?_ 1 _ rfl; (with_reducible repeat (first | refine blk_drewN ?_ _ | refine blk_drew ?_ | refine blk_alloc ?_ _)); refine blk_put (cs := #[.int .i64 0, .int .i64 0]) ?_ 0 _ rfl; (with_reducible repeat (first | refine blk_drewN ?_ _ | refine blk_drew ?_ | refine blk_alloc ?_ _)); exact BK494.out) hb); have n2_ := Aside0.mk (below_step (by repeat (first | (with_reducible first | exact HB.out | apply below_alloc | apply pw_below_drewN | apply below_drew1 | refine below_set ?_ GE490.out | refine below_set ?_ GE494.out) | exact HB.out)) hb); clear BK490; clear BK494; clear HB; have BK490 := n0_; have BK494 := n1_; have HB := n2_; clear n0_ n1_ n2_; (try clear hb); (try clear hb2); (try clear hk); (try clear hi)) | ((with_reducible refine gate_dst (N := 7) rfl ?_); refine box_event ?hg (N := 7) ?hd (cs := #[.int .i64 0, .int .i64 0]) (t := 23) ?hr ?_; (case hd => rfl); (case hg => rfl); (case hr => first | (go_simp; done) | (go_simp; rfl)); intro gb498 hg w14 hbox hb; have n0_ := Aside0.mk (blk_below (g := gb490) (o := .cells #[.int .i64 a0_0, .int .i64 a0_1] 23 (0, 0)) (by (with_reducible repeat (first | refine blk_drewN ?_ _ | refine blk_drew ?_ | refine blk_alloc ?_ _)); exact BK490.out) hb); have n1_ := Aside0.mk (blk_below (g := gb494) (o := .cells #[.int .i64 t491, .int .i64 t492] 23 (0, 0)) (by (with_reducible repeat (first | refine blk_drewN ?_ _ | refine blk_drew ?_ | refine blk_alloc ?_ _)); exact BK494.out) hb); have n2_ := Aside0.mk (below_step (by repeat (first | (with_reducible first | exact HB.out | apply below_alloc | apply pw_below_drewN | apply below_drew1 | refine below_set ?_ GE490.out | refine below_set ?_ GE494.out) | exact HB.out)) hb); have n3_ := Aside0.mk (hbox); have n4_ := Aside0.mk ((by rw [hg]; exact (below_size (by repeat (first | (with_reducible first | exact HB.out | apply below_alloc | apply pw_below_drewN | apply below_drew1 | refine below_set ?_ GE490.out | refine below_set ?_ GE494.out) | exact HB.out))) : w.heap.size ≤ gb498)); have n5_ := Aside0.mk ((by rw [hg]; exact (below_size (by repeat (first | (with_reducible first | exact HB.out | apply below_alloc | apply pw_below_drewN | apply below_drew1 | refine below_set ?_ GE490.out | refine below_set ?_ GE494.out) | exact HB.out))) : w.heap.size ≤ gb498)); have n6_ := Aside0.mk ((by rw [hg]; exact Nat.ne_of_lt (blk_lt (g := gb490) (o := .cells #[.int .i64 a0_0, .int .i64 a0_1] 23 (0, 0)) (by (with_reducible repeat (first | refine blk_drewN ?_ _ | refine blk_drew ?_ | refine blk_alloc ?_ _)); exact BK490.out)) : gb490 ≠ gb498)); have n7_ := Aside0.mk ((by rw [hg]; exact Nat.ne_of_gt (blk_lt (g := gb490) (o := .cells #[.int .i64 a0_0, .int .i64 a0_1] 23 (0, 0)) (by (with_reducible repeat (first | refine blk_drewN ?_ _ | refine blk_drew ?_ | refine blk_alloc ?_ _)); exact BK490.out)) : gb498 ≠ gb490)); have n8_ := Aside0.mk ((by rw [hg]; exact Nat.ne_of_lt (blk_lt (g := gb494) (o := .cells #[.int .i64 t491, .int .i64 t492] 23 (0, 0)) (by (with_reducible repeat (first | refine blk_drewN ?_ _ | refine blk_drew ?_ | refine blk_alloc ?_ _)); exact BK494.out)) : gb494 ≠ gb498)); have n9_ := Aside0.mk ((by rw [hg]; exact Nat.ne_of_gt (blk_lt (g := gb494) (o := .cells #[.int .i64 t491, .int .i64 t492] 23 (0, 0)) (by (with_reducible repeat (first | refine blk_drewN ?_ _ | refine blk_drew ?_ | refine blk_alloc ?_ _)); exact BK494.out)) : gb498 ≠ gb494)); clear BK490; clear BK494; clear HB; have BK490 := n0_; have BK494 := n1_; have HB := n2_; have BK498 := n3_; have GW498 := n4_; have GE498 := n5_; have NB490_498 := n6_; have NB498_490 := n7_; have NB494_498 := n8_; have NB498_494 := n9_; clear n0_ n1_ n2_ n3_ n4_ n5_ n6_ n7_ n8_ n9_; clear hb hbox hg; have hnb15 := NB498_490.out; have hnc15 := NB490_498.out; have hnb16 := NB498_494.out; have hnc16 := NB494_498.out; have hcz17_0 : w14.cell? ⟨gb498, 0, none⟩ = some (.int .i64 0) := (blk_cell BK498.out 0).trans rfl; have hcz17_1 : w14.cell? ⟨gb498, 1, none⟩ = some (.int .i64 0) := (blk_cell BK498.out 1).trans rfl; have hfz17_0 := blk_frozen BK498.out 0; have hfz17_1 := blk_frozen BK498.out 1))
  (try simp only [Act.put, List.setIfInBounds_toArray, List.set_cons_zero, List.set_cons_succ])
  go_cut [30] (fun v30 wc => ∃ (kq : Nat) (x30_4 : Bool), v30 = .bool x30_4 ∧ Aside0 (bocagelaw02_CutShifts.j0 kq a1 t493 x30_4 a0_0 a0_1 t491 t492 = some r) ∧ Aside0 (kq ≤ k) ∧ Aside0 (wc.heap[gb490]? = some (.cells #[.int .i64 a0_0, .int .i64 a0_1] 23 (0, 0))) ∧ Aside0 (wc.heap[gb494]? = some (.cells #[.int .i64 t491, .int .i64 t492] 23 (0, 0))) ∧ Aside0 (wc.heap[gb498]? = some (.cells #[.int .i64 t495, .int .i64 t496] 23 (0, 0))) ∧ Aside0 (Below w.heap.size w wc))
  case first =>
    have H := HC5.out
    clear HC5
    by_cases c18 : (!(t491 == t495) || (!(t492 == t496))) = true
    · rw [if_pos c18] at H
      have c18b0 : (!(t491 == t495) || (!(t492 == t496))) = true := c18
      clear c18
      (first | rw [c18b0] | (simp only [i64_w, i32_w]; rw [c18b0]) | skip)
      have H' := Aside0.mk H
      clear H
      have hnb19 := NB494_490.out
      have hnc19 := NB490_494.out
      have hnb20 := NB494_498.out
      have hnc20 := NB498_494.out
      have hcz21_0 : w14.cell? ⟨gb494, 0, none⟩ = some (.int .i64 t491) := (blk_cell BK494.out 0).trans rfl
      have hcz21_1 : w14.cell? ⟨gb494, 1, none⟩ = some (.int .i64 t492) := (blk_cell BK494.out 1).trans rfl
      have hfz21_0 := blk_frozen BK494.out 0
      have hfz21_1 := blk_frozen BK494.out 1
      have hnb22 := NB498_490.out
      have hnc22 := NB490_498.out
      have hcz23_0 : w14.cell? ⟨gb498, 0, none⟩ = some (.int .i64 0) := (blk_cell BK498.out 0).trans rfl
      have hcz23_1 : w14.cell? ⟨gb498, 1, none⟩ = some (.int .i64 0) := (blk_cell BK498.out 1).trans rfl
      have hfz23_0 := blk_frozen BK498.out 0
      have hfz23_1 := blk_frozen BK498.out 1
      go_wp2
      go_meet
      case rel => exact ⟨_, (true), (by first | rfl | (simp; done) | (simp [*]; done)), H', ⟨by first | omega | exact Nat.le_refl _⟩, ⟨by (with_reducible repeat (first | refine blk_drewN ?_ _ | refine blk_drew ?_ | refine blk_alloc ?_ _)); refine blk_far ?_ NB490_498.out _; (with_reducible repeat (first | refine blk_drewN ?_ _ | refine blk_drew ?_ | refine blk_alloc ?_ _)); refine blk_far ?_ NB490_498.out _; (with_reducible repeat (first | refine blk_drewN ?_ _ | refine blk_drew ?_ | refine blk_alloc ?_ _)); exact BK490.out⟩, ⟨by (with_reducible repeat (first | refine blk_drewN ?_ _ | refine blk_drew ?_ | refine blk_alloc ?_ _)); refine blk_far ?_ NB494_498.out _; (with_reducible repeat (first | refine blk_drewN ?_ _ | refine blk_drew ?_ | refine blk_alloc ?_ _)); refine blk_far ?_ NB494_498.out _; (with_reducible repeat (first | refine blk_drewN ?_ _ | refine blk_drew ?_ | refine blk_alloc ?_ _)); exact BK494.out⟩, ⟨by (with_reducible repeat (first | refine blk_drewN ?_ _ | refine blk_drew ?_ | refine blk_alloc ?_ _)); refine blk_put (cs := #[.int .i64 t495, .int .i64 0]) ?_ 1 _ rfl; (with_reducible repeat (first | refine blk_drewN ?_ _ | refine blk_drew ?_ | refine blk_alloc ?_ _)); refine blk_put (cs := #[.int .i64 0, .int .i64 0]) ?_ 0 _ rfl; (with_reducible repeat (first | refine blk_drewN ?_ _ | refine blk_drew ?_ | refine blk_alloc ?_ _)); exact BK498.out⟩, ⟨by repeat (first | (with_reducible first | exact HB.out | apply below_alloc | apply pw_below_drewN | apply below_drew1 | refine below_set ?_ GE490.out | refine below_set ?_ GE494.out | refine below_set ?_ GE498.out) | exact HB.out)⟩⟩
    · rw [if_neg c18] at H
      have c18b0 : (!(t491 == t495) || (!(t492 == t496))) = false := by simpa using c18
      clear c18
      (first | rw [c18b0] | (simp only [i64_w, i32_w]; rw [c18b0]) | skip)
      have H' := Aside0.mk H
      clear H
      have hnb24 := NB494_490.out
      have hnc24 := NB490_494.out
      have hnb25 := NB494_498.out
      have hnc25 := NB498_494.out
      have hcz26_0 : w14.cell? ⟨gb494, 0, none⟩ = some (.int .i64 t491) := (blk_cell BK494.out 0).trans rfl
      have hcz26_1 : w14.cell? ⟨gb494, 1, none⟩ = some (.int .i64 t492) := (blk_cell BK494.out 1).trans rfl
      have hfz26_0 := blk_frozen BK494.out 0
      have hfz26_1 := blk_frozen BK494.out 1
      have hnb27 := NB498_490.out
      have hnc27 := NB490_498.out
      have hcz28_0 : w14.cell? ⟨gb498, 0, none⟩ = some (.int .i64 0) := (blk_cell BK498.out 0).trans rfl
      have hcz28_1 : w14.cell? ⟨gb498, 1, none⟩ = some (.int .i64 0) := (blk_cell BK498.out 1).trans rfl
      have hfz28_0 := blk_frozen BK498.out 0
      have hfz28_1 := blk_frozen BK498.out 1
      go_wp2
      go_meet
      case rel => exact ⟨_, ((t493 != t497)), (by first | rfl | (simp; done) | (simp [*]; done)), H', ⟨by first | omega | exact Nat.le_refl _⟩, ⟨by (with_reducible repeat (first | refine blk_drewN ?_ _ | refine blk_drew ?_ | refine blk_alloc ?_ _)); refine blk_far ?_ NB490_498.out _; (with_reducible repeat (first | refine blk_drewN ?_ _ | refine blk_drew ?_ | refine blk_alloc ?_ _)); refine blk_far ?_ NB490_498.out _; (with_reducible repeat (first | refine blk_drewN ?_ _ | refine blk_drew ?_ | refine blk_alloc ?_ _)); exact BK490.out⟩, ⟨by (with_reducible repeat (first | refine blk_drewN ?_ _ | refine blk_drew ?_ | refine blk_alloc ?_ _)); refine blk_far ?_ NB494_498.out _; (with_reducible repeat (first | refine blk_drewN ?_ _ | refine blk_drew ?_ | refine blk_alloc ?_ _)); refine blk_far ?_ NB494_498.out _; (with_reducible repeat (first | refine blk_drewN ?_ _ | refine blk_drew ?_ | refine blk_alloc ?_ _)); exact BK494.out⟩, ⟨by (with_reducible repeat (first | refine blk_drewN ?_ _ | refine blk_drew ?_ | refine blk_alloc ?_ _)); refine blk_put (cs := #[.int .i64 t495, .int .i64 0]) ?_ 1 _ rfl; (with_reducible repeat (first | refine blk_drewN ?_ _ | refine blk_drew ?_ | refine blk_alloc ?_ _)); refine blk_put (cs := #[.int .i64 0, .int .i64 0]) ?_ 0 _ rfl; (with_reducible repeat (first | refine blk_drewN ?_ _ | refine blk_drew ?_ | refine blk_alloc ?_ _)); exact BK498.out⟩, ⟨by repeat (first | (with_reducible first | exact HB.out | apply below_alloc | apply pw_below_drewN | apply below_drew1 | refine below_set ?_ GE490.out | refine below_set ?_ GE494.out | refine below_set ?_ GE498.out) | exact HB.out)⟩⟩
  case rest =>
    clear HC5
    try clear c1
    try clear c2
    try clear p2
    try clear c3
    try clear c8
    try clear c10
    try clear c15
    try clear c16
    try clear c18
    try clear c18b0
    try clear c19
    try clear c20
    try clear c22
    try clear c24
    try clear c25
    try clear c27
    try clear hcz11_0
    try clear hcz11_1
    try clear hcz12_0
    try clear hcz12_1
    try clear hcz17_0
    try clear hcz17_1
    try clear hcz21_0
    try clear hcz21_1
    try clear hcz23_0
    try clear hcz23_1
    try clear hcz26_0
    try clear hcz26_1
    try clear hcz28_0
    try clear hcz28_1
    try clear hcz7_0
    try clear hcz7_1
    try clear hfz11_0
    try clear hfz11_1
    try clear hfz12_0
    try clear hfz12_1
    try clear hfz17_0
    try clear hfz17_1
    try clear hfz21_0
    try clear hfz21_1
    try clear hfz23_0
    try clear hfz23_1
    try clear hfz26_0
    try clear hfz26_1
    try clear hfz28_0
    try clear hfz28_1
    try clear hfz7_0
    try clear hfz7_1
    obtain ⟨kq, x30_4, rfl, HA, HJ4, BK490, BK494, BK498, HB⟩ := hcut
    cases kq with
    | zero => exact absurd HA.out (by simp [bocagelaw02_CutShifts.j0])
    | succ kj4 =>
      have H := HA.out
      clear HA
      simp only [bocagelaw02_CutShifts.j0] at H
      by_cases c29 : x30_4 = true
      · subst c29
        have H1 : (some false) = some r := by rw [if_pos rfl] at H; exact H
        exact absurd ((Option.some.inj H1).trans HRT.out) Bool.false_ne_true
      · replace c29 := Bool.eq_false_iff.mpr c29
        subst c29
        have H1 : (if t493 = true then ((bocageref02_Least64.f).bind fun t499 => (bocagelaw02_CutShifts.j1 kj4 a1 (a1 == t499) a0_0 a0_1 t491 t492)) else (bocagelaw02_CutShifts.j1 kj4 a1 true a0_0 a0_1 t491 t492)) = some r := by rw [if_neg (show ¬ (false = true) by decide)] at H; exact H
        clear H
        have H := H1
        clear H1
        have HC30 := Aside0.mk H
        clear H
        go_upto_region 5 with (fail)
        go_cut [37] (fun v37 wc => ∃ (kq : Nat) (x37_29 : Bool), v37 = .bool x37_29 ∧ Aside0 (bocagelaw02_CutShifts.j1 kq a1 x37_29 a0_0 a0_1 t491 t492 = some r) ∧ Aside0 (kq ≤ kj4) ∧ Aside0 (wc.heap[gb490]? = some (.cells #[.int .i64 a0_0, .int .i64 a0_1] 23 (0, 0))) ∧ Aside0 (wc.heap[gb494]? = some (.cells #[.int .i64 t491, .int .i64 t492] 23 (0, 0))) ∧ Aside0 (wc.heap[gb498]? = some (.cells #[.int .i64 t495, .int .i64 t496] 23 (0, 0))) ∧ Aside0 (Below w.heap.size w wc))
        case first =>
          have H := HC30.out
          clear HC30
          by_cases c31 : t493 = true
          · subst c31
            have H1 : ((bocageref02_Least64.f).bind fun t499 => (bocagelaw02_CutShifts.j1 kj4 a1 (a1 == t499) a0_0 a0_1 t491 t492)) = some r := by rw [if_pos rfl] at H; exact H
            clear H
            have H := H1
            clear H1
            replace H := Option.bind_eq_some_iff.mp H
            obtain ⟨t499, A320, H⟩ := H
            replace H : (bocagelaw02_CutShifts.j1 kj4 a1 (a1 == t499) a0_0 a0_1 t491 t492) = some r := H
            have A32 := Aside0.mk A320
            clear A320
            have H' := Aside0.mk H
            clear H
            go_wp2_with (first | (go_at_call 36; (with_reducible refine (bocageref02_Least64.calls  t499 _ A32.out).mono ?_); rintro e w' ⟨rfl, ⟨nd, rfl⟩⟩))
            go_meet
            case rel => exact ⟨_, ((a1 == t499)), (by first | rfl | (simp; done) | (simp [*]; done)), H', ⟨by have := HJ4.out; first | omega | exact Nat.le_refl _⟩, ⟨by (with_reducible repeat (first | refine blk_drewN ?_ _ | refine blk_drew ?_ | refine blk_alloc ?_ _)); exact BK490.out⟩, ⟨by (with_reducible repeat (first | refine blk_drewN ?_ _ | refine blk_drew ?_ | refine blk_alloc ?_ _)); exact BK494.out⟩, ⟨by (with_reducible repeat (first | refine blk_drewN ?_ _ | refine blk_drew ?_ | refine blk_alloc ?_ _)); exact BK498.out⟩, ⟨by repeat (first | (with_reducible first | exact HB.out | apply below_alloc | apply pw_below_drewN | apply below_drew1 | refine below_set ?_ GE490.out | refine below_set ?_ GE494.out | refine below_set ?_ GE498.out) | exact HB.out)⟩⟩
          · replace c31 := Bool.eq_false_iff.mpr c31
            subst c31
            have H1 : (bocagelaw02_CutShifts.j1 kj4 a1 true a0_0 a0_1 t491 t492) = some r := by rw [if_neg (show ¬ (false = true) by decide)] at H; exact H
            clear H
            have H := H1
            clear H1
            have H' := Aside0.mk H
            clear H
            go_wp2
            go_meet
            case rel => exact ⟨_, (true), (by first | rfl | (simp; done) | (simp [*]; done)), H', ⟨by have := HJ4.out; first | omega | exact Nat.le_refl _⟩, ⟨by (with_reducible repeat (first | refine blk_drewN ?_ _ | refine blk_drew ?_ | refine blk_alloc ?_ _)); exact BK490.out⟩, ⟨by (with_reducible repeat (first | refine blk_drewN ?_ _ | refine blk_drew ?_ | refine blk_alloc ?_ _)); exact BK494.out⟩, ⟨by (with_reducible repeat (first | refine blk_drewN ?_ _ | refine blk_drew ?_ | refine blk_alloc ?_ _)); exact BK498.out⟩, ⟨by repeat (first | (with_reducible first | exact HB.out | apply below_alloc | apply pw_below_drewN | apply below_drew1 | refine below_set ?_ GE490.out | refine below_set ?_ GE494.out | refine below_set ?_ GE498.out) | exact HB.out)⟩⟩
        case rest =>
          clear HC30
          try clear c1
          try clear c2
          try clear p2
          try clear c3
          try clear c8
          try clear c10
          try clear c15
          try clear c16
          try clear c18
          try clear c18b0
          try clear c19
          try clear c20
          try clear c22
          try clear c24
          try clear c25
          try clear c27
          try clear c29
          try clear c31
          try clear hcz11_0
          try clear hcz11_1
          try clear hcz12_0
          try clear hcz12_1
          try clear hcz17_0
          try clear hcz17_1
          try clear hcz21_0
          try clear hcz21_1
          try clear hcz23_0
          try clear hcz23_1
          try clear hcz26_0
          try clear hcz26_1
          try clear hcz28_0
          try clear hcz28_1
          try clear hcz7_0
          try clear hcz7_1
          try clear hfz11_0
          try clear hfz11_1
          try clear hfz12_0
          try clear hfz12_1
          try clear hfz17_0
          try clear hfz17_1
          try clear hfz21_0
          try clear hfz21_1
          try clear hfz23_0
          try clear hfz23_1
          try clear hfz26_0
          try clear hfz26_1
          try clear hfz28_0
          try clear hfz28_1
          try clear hfz7_0
          try clear hfz7_1
          try clear p2
          obtain ⟨kq, x37_29, rfl, HA, HJ29, BK490, BK494, BK498, HB⟩ := hcut
          cases kq with
          | zero => exact absurd HA.out (by simp [bocagelaw02_CutShifts.j1])
          | succ kj29 =>
            have H := HA.out
            clear HA
            simp only [bocagelaw02_CutShifts.j1] at H
            by_cases c33 : x37_29 = true
            · subst c33
              have H1 : ((bocagelaw02_alive.f kj29).bind fun t500 => (some t500)) = some r := by rw [if_pos rfl] at H; exact H
              clear H
              have H := H1
              clear H1
              replace H := Option.bind_eq_some_iff.mp H
              obtain ⟨t500, A340, H⟩ := H
              replace H : (some t500) = some r := H
              have A34 := Aside0.mk A340
              clear A340
              obtain rfl := Option.some.inj H
              go_wp2_with (first | ((with_reducible refine gate_callee (f := 10) rfl ?_); refine goesL_ (some 38) rfl rfl Try.func10 (by kernel_rfl) rfl #[] rfl (by (try simp only [List.map_toArray, List.map_cons, List.map_nil]); first | done | rfl | (simp only [List.length_drop, List.length_take]; rfl)) ?_; (with_reducible refine (bocagelaw02_alive.calls kj29  t500 _ A34.out HRT.out).mono ?_); rintro e w35 ⟨rfl, hb⟩; refine ⟨_, rfl, ?_⟩; have n0_ := Aside0.mk (blk_below (g := gb490) (o := .cells #[.int .i64 a0_0, .int .i64 a0_1] 23 (0, 0)) (by (with_reducible repeat (first | refine blk_drewN ?_ _ | refine blk_drew ?_ | refine blk_alloc ?_ _)); exact BK490.out) hb); have n1_ := Aside0.mk (blk_below (g := gb494) (o := .cells #[.int .i64 t491, .int .i64 t492] 23 (0, 0)) (by (with_reducible repeat (first | refine blk_drewN ?_ _ | refine blk_drew ?_ | refine blk_alloc ?_ _)); exact BK494.out) hb); have n2_ := Aside0.mk (blk_below (g := gb498) (o := .cells #[.int .i64 t495, .int .i64 t496] 23 (0, 0)) (by (with_reducible repeat (first | refine blk_drewN ?_ _ | refine blk_drew ?_ | refine blk_alloc ?_ _)); exact BK498.out) hb); have n3_ := Aside0.mk (below_step (by repeat (first | (with_reducible first | exact HB.out | apply below_alloc | apply pw_below_drewN | apply below_drew1 | refine below_set ?_ GE490.out | refine below_set ?_ GE494.out | refine below_set ?_ GE498.out) | exact HB.out)) hb); clear BK490; clear BK494; clear BK498; clear HB; have BK490 := n0_; have BK494 := n1_; have BK498 := n2_; have HB := n3_; clear n0_ n1_ n2_ n3_; (try clear hb); (try clear hb2); (try clear hk); (try clear hi)))
              go_ret
              exact ⟨by first | rfl | (simp [errW_none, errW_some] <;> rfl) | (simp [*, errW_none, errW_some] <;> rfl), by repeat (first | (with_reducible first | exact HB.out | apply below_alloc | apply pw_below_drewN | apply below_drew1 | refine below_set ?_ GE490.out | refine below_set ?_ GE494.out | refine below_set ?_ GE498.out) | exact HB.out)⟩
            · replace c33 := Bool.eq_false_iff.mpr c33
              subst c33
              have H1 : ((cut_Shift.f kj29 t491 t492 (wrap64 (-a1))).bind fun bt501 => ((bocagelaw02_alive.f kj29).bind fun t505 => (if t505 = true then ((cut_Right.f kj29 t491 t492).bind fun t506 => (if t506 = true then (if bt501.2.2 = true then ((cut_Canon.f kj29 a0_0 a0_1).bind fun bt507 => (some (bt501.1 == bt507.1 && (bt501.2.1 == bt507.2)))) else (some false)) else (some false))) else (some false)))) = some r := by rw [if_neg (show ¬ (false = true) by decide)] at H; exact H
              clear H
              have H := H1
              clear H1
              replace H := Option.bind_eq_some_iff.mp H
              obtain ⟨⟨t501, t502, t503⟩, A360, H⟩ := H
              replace H : ((bocagelaw02_alive.f kj29).bind fun t505 => (if t505 = true then ((cut_Right.f kj29 t491 t492).bind fun t506 => (if t506 = true then (if t503 = true then ((cut_Canon.f kj29 a0_0 a0_1).bind fun bt507 => (some (t501 == bt507.1 && (t502 == bt507.2)))) else (some false)) else (some false))) else (some false))) = some r := H
              have A36 := Aside0.mk A360
              clear A360
              replace H := Option.bind_eq_some_iff.mp H
              obtain ⟨t505, A370, H⟩ := H
              replace H : (if t505 = true then ((cut_Right.f kj29 t491 t492).bind fun t506 => (if t506 = true then (if t503 = true then ((cut_Canon.f kj29 a0_0 a0_1).bind fun bt507 => (some (t501 == bt507.1 && (t502 == bt507.2)))) else (some false)) else (some false))) else (some false)) = some r := H
              have A37 := Aside0.mk A370
              clear A370
              by_cases c38 : t505 = true
              · subst c38
                have H1 : ((cut_Right.f kj29 t491 t492).bind fun t506 => (if t506 = true then (if t503 = true then ((cut_Canon.f kj29 a0_0 a0_1).bind fun bt507 => (some (t501 == bt507.1 && (t502 == bt507.2)))) else (some false)) else (some false))) = some r := by rw [if_pos rfl] at H; exact H
                clear H
                have H := H1
                clear H1
                replace H := Option.bind_eq_some_iff.mp H
                obtain ⟨t506, A390, H⟩ := H
                replace H : (if t506 = true then (if t503 = true then ((cut_Canon.f kj29 a0_0 a0_1).bind fun bt507 => (some (t501 == bt507.1 && (t502 == bt507.2)))) else (some false)) else (some false)) = some r := H
                have A39 := Aside0.mk A390
                clear A390
                by_cases c40 : t506 = true
                · subst c40
                  have H1 : (if t503 = true then ((cut_Canon.f kj29 a0_0 a0_1).bind fun bt507 => (some (t501 == bt507.1 && (t502 == bt507.2)))) else (some false)) = some r := by rw [if_pos rfl] at H; exact H
                  clear H
                  have H := H1
                  clear H1
                  by_cases c41 : t503 = true
                  · subst c41
                    have H1 : ((cut_Canon.f kj29 a0_0 a0_1).bind fun bt507 => (some (t501 == bt507.1 && (t502 == bt507.2)))) = some r := by rw [if_pos rfl] at H; exact H
                    clear H
                    have H := H1
                    clear H1
                    replace H := Option.bind_eq_some_iff.mp H
                    obtain ⟨⟨t507, t508⟩, A420, H⟩ := H
                    replace H : (some (t501 == t507 && (t502 == t508))) = some r := H
                    have A42 := Aside0.mk A420
                    clear A420
                    obtain rfl := Option.some.inj H
                    have hnb43 := NB494_490.out
                    have hnc43 := NB490_494.out
                    have hnb44 := NB494_498.out
                    have hnc44 := NB498_494.out
                    have hcz45_0 : wc.cell? ⟨gb494, 0, none⟩ = some (.int .i64 t491) := (blk_cell BK494.out 0).trans rfl
                    have hcz45_1 : wc.cell? ⟨gb494, 1, none⟩ = some (.int .i64 t492) := (blk_cell BK494.out 1).trans rfl
                    have hfz45_0 := blk_frozen BK494.out 0
                    have hfz45_1 := blk_frozen BK494.out 1
                    try go_wp2_with (first | ((with_reducible refine gate_callee (f := 34) rfl ?_); refine goesL_ (some 43) rfl rfl Try.func34 (by kernel_rfl) rfl #[.agg #[.int .i64 t491, .int .i64 t492], .int .i64 (wrap64 (-a1))] rfl (by (try simp only [List.map_toArray, List.map_cons, List.map_nil]); first | done | rfl | (simp only [List.length_drop, List.length_take]; rfl)) ?_; (with_reducible refine (cut_Shift.calls kj29 t491 t492 (wrap64 (-a1)) t501 t502 true _ A36.out).mono ?_); rintro e w46 ⟨rfl, hb⟩; refine ⟨_, rfl, ?_⟩; have n0_ := Aside0.mk (blk_below (g := gb490) (o := .cells #[.int .i64 a0_0, .int .i64 a0_1] 23 (0, 0)) (by (with_reducible repeat (first | refine blk_drewN ?_ _ | refine blk_drew ?_ | refine blk_alloc ?_ _)); exact BK490.out) hb); have n1_ := Aside0.mk (blk_below (g := gb494) (o := .cells #[.int .i64 t491, .int .i64 t492] 23 (0, 0)) (by (with_reducible repeat (first | refine blk_drewN ?_ _ | refine blk_drew ?_ | refine blk_alloc ?_ _)); exact BK494.out) hb); have n2_ := Aside0.mk (blk_below (g := gb498) (o := .cells #[.int .i64 t495, .int .i64 t496] 23 (0, 0)) (by (with_reducible repeat (first | refine blk_drewN ?_ _ | refine blk_drew ?_ | refine blk_alloc ?_ _)); exact BK498.out) hb); have n3_ := Aside0.mk (below_step (by repeat (first | (with_reducible first | exact HB.out | apply below_alloc | apply pw_below_drewN | apply below_drew1 | refine below_set ?_ GE490.out | refine below_set ?_ GE494.out | refine below_set ?_ GE498.out) | exact HB.out)) hb); clear BK490; clear BK494; clear BK498; clear HB; have BK490 := n0_; have BK494 := n1_; have BK498 := n2_; have HB := n3_; clear n0_ n1_ n2_ n3_; (try clear hb); (try clear hb2); (try clear hk); (try clear hi)) | ((with_reducible refine gate_dst (N := 9) rfl ?_); refine box_event ?hg (N := 9) ?hd (cs := #[.int .i64 0, .int .i64 0]) (t := 23) ?hr ?_; (case hd => rfl); (case hg => rfl); (case hr => first | (go_simp; done) | (go_simp; rfl)); intro gb504 hg w47 hbox hb; have n0_ := Aside0.mk (blk_below (g := gb490) (o := .cells #[.int .i64 a0_0, .int .i64 a0_1] 23 (0, 0)) (by (with_reducible repeat (first | refine blk_drewN ?_ _ | refine blk_drew ?_ | refine blk_alloc ?_ _)); exact BK490.out) hb); have n1_ := Aside0.mk (blk_below (g := gb494) (o := .cells #[.int .i64 t491, .int .i64 t492] 23 (0, 0)) (by (with_reducible repeat (first | refine blk_drewN ?_ _ | refine blk_drew ?_ | refine blk_alloc ?_ _)); exact BK494.out) hb); have n2_ := Aside0.mk (blk_below (g := gb498) (o := .cells #[.int .i64 t495, .int .i64 t496] 23 (0, 0)) (by (with_reducible repeat (first | refine blk_drewN ?_ _ | refine blk_drew ?_ | refine blk_alloc ?_ _)); exact BK498.out) hb); have n3_ := Aside0.mk (below_step (by repeat (first | (with_reducible first | exact HB.out | apply below_alloc | apply pw_below_drewN | apply below_drew1 | refine below_set ?_ GE490.out | refine below_set ?_ GE494.out | refine below_set ?_ GE498.out) | exact HB.out)) hb); have n4_ := Aside0.mk (hbox); have n5_ := Aside0.mk ((by rw [hg]; exact (below_size (by repeat (first | (with_reducible first | exact HB.out | apply below_alloc | apply pw_below_drewN | apply below_drew1 | refine below_set ?_ GE490.out | refine below_set ?_ GE494.out | refine below_set ?_ GE498.out) | exact HB.out))) : w.heap.size ≤ gb504)); have n6_ := Aside0.mk ((by rw [hg]; exact (below_size (by repeat (first | (with_reducible first | exact HB.out | apply below_alloc | apply pw_below_drewN | apply below_drew1 | refine below_set ?_ GE490.out | refine below_set ?_ GE494.out | refine below_set ?_ GE498.out) | exact HB.out))) : w.heap.size ≤ gb504)); have n7_ := Aside0.mk ((by rw [hg]; exact Nat.ne_of_lt (blk_lt (g := gb490) (o := .cells #[.int .i64 a0_0, .int .i64 a0_1] 23 (0, 0)) (by (with_reducible repeat (first | refine blk_drewN ?_ _ | refine blk_drew ?_ | refine blk_alloc ?_ _)); exact BK490.out)) : gb490 ≠ gb504)); have n8_ := Aside0.mk ((by rw [hg]; exact Nat.ne_of_gt (blk_lt (g := gb490) (o := .cells #[.int .i64 a0_0, .int .i64 a0_1] 23 (0, 0)) (by (with_reducible repeat (first | refine blk_drewN ?_ _ | refine blk_drew ?_ | refine blk_alloc ?_ _)); exact BK490.out)) : gb504 ≠ gb490)); have n9_ := Aside0.mk ((by rw [hg]; exact Nat.ne_of_lt (blk_lt (g := gb494) (o := .cells #[.int .i64 t491, .int .i64 t492] 23 (0, 0)) (by (with_reducible repeat (first | refine blk_drewN ?_ _ | refine blk_drew ?_ | refine blk_alloc ?_ _)); exact BK494.out)) : gb494 ≠ gb504)); have n10_ := Aside0.mk ((by rw [hg]; exact Nat.ne_of_gt (blk_lt (g := gb494) (o := .cells #[.int .i64 t491, .int .i64 t492] 23 (0, 0)) (by (with_reducible repeat (first | refine blk_drewN ?_ _ | refine blk_drew ?_ | refine blk_alloc ?_ _)); exact BK494.out)) : gb504 ≠ gb494)); have n11_ := Aside0.mk ((by rw [hg]; exact Nat.ne_of_lt (blk_lt (g := gb498) (o := .cells #[.int .i64 t495, .int .i64 t496] 23 (0, 0)) (by (with_reducible repeat (first | refine blk_drewN ?_ _ | refine blk_drew ?_ | refine blk_alloc ?_ _)); exact BK498.out)) : gb498 ≠ gb504)); have n12_ := Aside0.mk ((by rw [hg]; exact Nat.ne_of_gt (blk_lt (g := gb498) (o := .cells #[.int .i64 t495, .int .i64 t496] 23 (0, 0)) (by (with_reducible repeat (first | refine blk_drewN ?_ _ | refine blk_drew ?_ | refine blk_alloc ?_ _)); exact BK498.out)) : gb504 ≠ gb498)); clear BK490; clear BK494; clear BK498; clear HB; have BK490 := n0_; have BK494 := n1_; have BK498 := n2_; have HB := n3_; have BK504 := n4_; have GW504 := n5_; have GE504 := n6_; have NB490_504 := n7_; have NB504_490 := n8_; have NB494_504 := n9_; have NB504_494 := n10_; have NB498_504 := n11_; have NB504_498 := n12_; clear n0_ n1_ n2_ n3_ n4_ n5_ n6_ n7_ n8_ n9_ n10_ n11_ n12_; clear hb hbox hg; have hnb48 := NB504_490.out; have hnc48 := NB490_504.out; have hnb49 := NB504_494.out; have hnc49 := NB494_504.out; have hnb50 := NB504_498.out; have hnc50 := NB498_504.out; have hcz51_0 : w47.cell? ⟨gb504, 0, none⟩ = some (.int .i64 0) := (blk_cell BK504.out 0).trans rfl; have hcz51_1 : w47.cell? ⟨gb504, 1, none⟩ = some (.int .i64 0) := (blk_cell BK504.out 1).trans rfl; have hfz51_0 := blk_frozen BK504.out 0; have hfz51_1 := blk_frozen BK504.out 1))
                    have n0_ : Aside0 (((w47.setCell ⟨gb504, 0, none⟩ (.int .i64 t501)).setCell ⟨gb504, 1, none⟩ (.int .i64 t502)).heap[gb490]? = some (.cells #[.int .i64 a0_0, .int .i64 a0_1] 23 (0, 0))) := ⟨by (with_reducible repeat (first | refine blk_drewN ?_ _ | refine blk_drew ?_ | refine blk_alloc ?_ _)); refine blk_far ?_ NB490_504.out _; (with_reducible repeat (first | refine blk_drewN ?_ _ | refine blk_drew ?_ | refine blk_alloc ?_ _)); refine blk_far ?_ NB490_504.out _; (with_reducible repeat (first | refine blk_drewN ?_ _ | refine blk_drew ?_ | refine blk_alloc ?_ _)); exact BK490.out⟩
                    have n1_ : Aside0 (((w47.setCell ⟨gb504, 0, none⟩ (.int .i64 t501)).setCell ⟨gb504, 1, none⟩ (.int .i64 t502)).heap[gb494]? = some (.cells #[.int .i64 t491, .int .i64 t492] 23 (0, 0))) := ⟨by (with_reducible repeat (first | refine blk_drewN ?_ _ | refine blk_drew ?_ | refine blk_alloc ?_ _)); refine blk_far ?_ NB494_504.out _; (with_reducible repeat (first | refine blk_drewN ?_ _ | refine blk_drew ?_ | refine blk_alloc ?_ _)); refine blk_far ?_ NB494_504.out _; (with_reducible repeat (first | refine blk_drewN ?_ _ | refine blk_drew ?_ | refine blk_alloc ?_ _)); exact BK494.out⟩
                    have n2_ : Aside0 (((w47.setCell ⟨gb504, 0, none⟩ (.int .i64 t501)).setCell ⟨gb504, 1, none⟩ (.int .i64 t502)).heap[gb498]? = some (.cells #[.int .i64 t495, .int .i64 t496] 23 (0, 0))) := ⟨by (with_reducible repeat (first | refine blk_drewN ?_ _ | refine blk_drew ?_ | refine blk_alloc ?_ _)); refine blk_far ?_ NB498_504.out _; (with_reducible repeat (first | refine blk_drewN ?_ _ | refine blk_drew ?_ | refine blk_alloc ?_ _)); refine blk_far ?_ NB498_504.out _; (with_reducible repeat (first | refine blk_drewN ?_ _ | refine blk_drew ?_ | refine blk_alloc ?_ _)); exact BK498.out⟩
                    have n3_ : Aside0 (((w47.setCell ⟨gb504, 0, none⟩ (.int .i64 t501)).setCell ⟨gb504, 1, none⟩ (.int .i64 t502)).heap[gb504]? = some (.cells #[.int .i64 t501, .int .i64 t502] 23 (0, 0))) := ⟨by (with_reducible repeat (first | refine blk_drewN ?_ _ | refine blk_drew ?_ | refine blk_alloc ?_ _)); refine blk_put (cs := #[.int .i64 t501, .int .i64 0]) ?_ 1 _ rfl; (with_reducible repeat (first | refine blk_drewN ?_ _ | refine blk_drew ?_ | refine blk_alloc ?_ _)); refine blk_put (cs := #[.int .i64 0, .int .i64 0]) ?_ 0 _ rfl; (with_reducible repeat (first | refine blk_drewN ?_ _ | refine blk_drew ?_ | refine blk_alloc ?_ _)); exact BK504.out⟩
                    have n4_ : Aside0 (Below w.heap.size w ((w47.setCell ⟨gb504, 0, none⟩ (.int .i64 t501)).setCell ⟨gb504, 1, none⟩ (.int .i64 t502))) := ⟨by repeat (first | (with_reducible first | exact HB.out | apply below_alloc | apply pw_below_drewN | apply below_drew1 | refine below_set ?_ GE490.out | refine below_set ?_ GE494.out | refine below_set ?_ GE498.out | refine below_set ?_ GE504.out) | exact HB.out)⟩
                    (try clear BK490)
                    (try clear BK494)
                    (try clear BK498)
                    (try clear BK504)
                    (try clear HB)
                    generalize ((w47.setCell ⟨gb504, 0, none⟩ (.int .i64 t501)).setCell ⟨gb504, 1, none⟩ (.int .i64 t502)) = w52 at n0_ n1_ n2_ n3_ n4_ ⊢
                    have BK490 := n0_
                    have BK494 := n1_
                    have BK498 := n2_
                    have BK504 := n3_
                    have HB := n4_
                    clear n0_ n1_ n2_ n3_ n4_
                    have n0_ := Aside0.mk (blk_drew BK490.out)
                    have n1_ := Aside0.mk (blk_drew BK494.out)
                    have n2_ := Aside0.mk (blk_drew BK498.out)
                    have n3_ := Aside0.mk (blk_drew BK504.out)
                    have n4_ := Aside0.mk (below_drew1 HB.out)
                    clear BK490
                    clear BK494
                    clear BK498
                    clear BK504
                    clear HB
                    have BK490 := n0_
                    have BK494 := n1_
                    have BK498 := n2_
                    have BK504 := n3_
                    have HB := n4_
                    clear n0_ n1_ n2_ n3_ n4_
                    refine start_ (n := 15) (S := fun w' => w'.cell? ⟨gb494, 0, none⟩ = some (.int .i64 t491) ∧ w'.cell? ⟨gb494, 1, none⟩ = some (.int .i64 t492) ∧ w'.cell? ⟨gb504, 0, none⟩ = some (.int .i64 t501) ∧ w'.cell? ⟨gb504, 1, none⟩ = some (.int .i64 t502) ∧ w'.cell? ⟨gb490, 0, none⟩ = some (.int .i64 a0_0) ∧ w'.cell? ⟨gb490, 1, none⟩ = some (.int .i64 a0_1)) (ds := []) #[false, false, false, false, false, false, false, false, false, false, false, false, false, false, false] (by kernel_rfl) rfl rfl ⟨(blk_cell BK494.out 0).trans rfl, (blk_cell BK494.out 1).trans rfl, (blk_cell BK504.out 0).trans rfl, (blk_cell BK504.out 1).trans rfl, (blk_cell BK490.out 0).trans rfl, (blk_cell BK490.out 1).trans rfl⟩ (fun hHeld => ?_); refine with_tabW bocagelaw02_CutShifts.tab8 bocagelaw02_CutShifts.bits8 (fun HT_ HW_ => ?_)
                    generalize w52.drew = w53 at BK490 BK494 BK498 BK504 HB hHeld ⊢
                    refine one_ (i := 0) (N := some 46) #[true, false, false, false, false, false, false, false, false, false, false, false, false, false, false] rfl rfl (one_of HT_.out (by kernel_rfl)) (by decide) (fun K hK => ?_)
                    refine goes_ Try.func10 (by kernel_rfl) rfl #[] (by rfl) rfl rfl (by (try simp only [List.map_toArray, List.map_cons, List.map_nil]); first | done | rfl | (simp only [List.length_drop, List.length_take]; rfl)) ?_
                    with_reducible refine (bocagelaw02_alive.calls kj29  true _ A37.out rfl).mono ?_
                    rintro e w54 ⟨rfl, hb⟩
                    refine ⟨_, rfl, ?_⟩
                    have n0_ := Aside0.mk (blk_below (g := gb490) (o := .cells #[.int .i64 a0_0, .int .i64 a0_1] 23 (0, 0)) (by (with_reducible repeat (first | refine blk_drewN ?_ _ | refine blk_drew ?_ | refine blk_alloc ?_ _)); exact BK490.out) hb)
                    have n1_ := Aside0.mk (blk_below (g := gb494) (o := .cells #[.int .i64 t491, .int .i64 t492] 23 (0, 0)) (by (with_reducible repeat (first | refine blk_drewN ?_ _ | refine blk_drew ?_ | refine blk_alloc ?_ _)); exact BK494.out) hb)
                    have n2_ := Aside0.mk (blk_below (g := gb498) (o := .cells #[.int .i64 t495, .int .i64 t496] 23 (0, 0)) (by (with_reducible repeat (first | refine blk_drewN ?_ _ | refine blk_drew ?_ | refine blk_alloc ?_ _)); exact BK498.out) hb)
                    have n3_ := Aside0.mk (blk_below (g := gb504) (o := .cells #[.int .i64 t501, .int .i64 t502] 23 (0, 0)) (by (with_reducible repeat (first | refine blk_drewN ?_ _ | refine blk_drew ?_ | refine blk_alloc ?_ _)); exact BK504.out) hb)
                    have n4_ := Aside0.mk (below_step (by repeat (first | (with_reducible first | exact HB.out | apply below_alloc | apply pw_below_drewN | apply below_drew1 | refine below_set ?_ GE490.out | refine below_set ?_ GE494.out | refine below_set ?_ GE498.out | refine below_set ?_ GE504.out) | exact HB.out)) hb)
                    clear BK490
                    clear BK494
                    clear BK498
                    clear BK504
                    clear HB
                    have BK490 := n0_
                    have BK494 := n1_
                    have BK498 := n2_
                    have BK504 := n3_
                    have HB := n4_
                    clear n0_ n1_ n2_ n3_ n4_
                    (try clear hb)
                    (try clear hb2)
                    (try clear hk)
                    (try clear hi)
                    refine hK.out _ _ ⟨(blk_cell BK494.out 0).trans rfl, (blk_cell BK494.out 1).trans rfl, (blk_cell BK504.out 0).trans rfl, (blk_cell BK504.out 1).trans rfl, (blk_cell BK490.out 0).trans rfl, (blk_cell BK490.out 1).trans rfl⟩ (fun hHeld => ?_)
                    clear hK K
                    refine norm_ (a' := ?_) ?_ ?_
                    rotate_left
                    · show Act.put _ (some 46) _ = _
                      simp only [Act.put, List.setIfInBounds_toArray, List.set_cons_zero, List.set_cons_succ, i64_w, i32_w]
                      rfl
                    refine pure_ (i := 1) (N := some 47) (v := ?_) (a' := ?_) #[true, true, false, false, false, false, false, false, false, false, false, false, false, false, false] rfl rfl (any_of HT_.out (by kernel_rfl)) (fun _ _ _ h => h) (Or.inl ⟨by rfl, ?_⟩) ?_ ?_
                    rotate_left
                    · intro w'
                      go_simp
                      with_reducible rfl
                    rotate_left
                    · simp only [Act.put, List.setIfInBounds_toArray, List.set_cons_zero, List.set_cons_succ, i64_w, i32_w]
                      rfl
                    refine take_ (i := 2) (N := some 48) (v := ?_) (a' := ?_) #[true, true, true, false, false, false, false, false, false, false, false, false, false, false, false] rfl rfl (take_ofW HT_.out HW_.out (by kernel_rfl)) (fun _ _ _ h => h) (Or.inl ⟨by rfl, ?_⟩) hHeld ?_ ?_
                    rotate_left
                    · rintro w' ⟨s0, s1, s2, s3, s4, s5⟩
                      go_simp
                      with_reducible rfl
                    rotate_left
                    · simp only [Act.put, List.setIfInBounds_toArray, List.set_cons_zero, List.set_cons_succ, i64_w, i32_w]
                      rfl
                    refine one_ (i := 3) (N := some 49) #[true, true, true, true, false, false, false, false, false, false, false, false, false, false, false] rfl rfl (one_of HT_.out (by kernel_rfl)) (by decide) (fun K hK => ?_)
                    refine goes_ Try.func25 (by kernel_rfl) rfl #[.agg #[.int .i64 t491, .int .i64 t492]] (by rfl) rfl rfl (by (try simp only [List.map_toArray, List.map_cons, List.map_nil]); first | done | rfl | (simp only [List.length_drop, List.length_take]; rfl)) ?_
                    with_reducible refine (cut_Right.calls kj29 t491 t492 true _ A39.out).mono ?_
                    rintro e w55 ⟨rfl, hb⟩
                    refine ⟨_, rfl, ?_⟩
                    have n0_ := Aside0.mk (blk_below (g := gb490) (o := .cells #[.int .i64 a0_0, .int .i64 a0_1] 23 (0, 0)) (by (with_reducible repeat (first | refine blk_drewN ?_ _ | refine blk_drew ?_ | refine blk_alloc ?_ _)); exact BK490.out) hb)
                    have n1_ := Aside0.mk (blk_below (g := gb494) (o := .cells #[.int .i64 t491, .int .i64 t492] 23 (0, 0)) (by (with_reducible repeat (first | refine blk_drewN ?_ _ | refine blk_drew ?_ | refine blk_alloc ?_ _)); exact BK494.out) hb)
                    have n2_ := Aside0.mk (blk_below (g := gb498) (o := .cells #[.int .i64 t495, .int .i64 t496] 23 (0, 0)) (by (with_reducible repeat (first | refine blk_drewN ?_ _ | refine blk_drew ?_ | refine blk_alloc ?_ _)); exact BK498.out) hb)
                    have n3_ := Aside0.mk (blk_below (g := gb504) (o := .cells #[.int .i64 t501, .int .i64 t502] 23 (0, 0)) (by (with_reducible repeat (first | refine blk_drewN ?_ _ | refine blk_drew ?_ | refine blk_alloc ?_ _)); exact BK504.out) hb)
                    have n4_ := Aside0.mk (below_step (by repeat (first | (with_reducible first | exact HB.out | apply below_alloc | apply pw_below_drewN | apply below_drew1 | refine below_set ?_ GE490.out | refine below_set ?_ GE494.out | refine below_set ?_ GE498.out | refine below_set ?_ GE504.out) | exact HB.out)) hb)
                    clear BK490
                    clear BK494
                    clear BK498
                    clear BK504
                    clear HB
                    have BK490 := n0_
                    have BK494 := n1_
                    have BK498 := n2_
                    have BK504 := n3_
                    have HB := n4_
                    clear n0_ n1_ n2_ n3_ n4_
                    (try clear hb)
                    (try clear hb2)
                    (try clear hk)
                    (try clear hi)
                    refine hK.out _ _ ⟨(blk_cell BK494.out 0).trans rfl, (blk_cell BK494.out 1).trans rfl, (blk_cell BK504.out 0).trans rfl, (blk_cell BK504.out 1).trans rfl, (blk_cell BK490.out 0).trans rfl, (blk_cell BK490.out 1).trans rfl⟩ (fun hHeld => ?_)
                    clear hK K
                    refine norm_ (a' := ?_) ?_ ?_
                    rotate_left
                    · show Act.put _ (some 49) _ = _
                      simp only [Act.put, List.setIfInBounds_toArray, List.set_cons_zero, List.set_cons_succ, i64_w, i32_w]
                      rfl
                    refine pure_ (i := 4) (N := some 50) (v := ?_) (a' := ?_) #[true, true, true, true, true, false, false, false, false, false, false, false, false, false, false] rfl rfl (any_of HT_.out (by kernel_rfl)) (fun _ _ _ h => h) (Or.inl ⟨by rfl, ?_⟩) ?_ ?_
                    rotate_left
                    · intro w'
                      go_simp
                      with_reducible rfl
                    rotate_left
                    · simp only [Act.put, List.setIfInBounds_toArray, List.set_cons_zero, List.set_cons_succ, i64_w, i32_w]
                      rfl
                    refine pure_ (i := 5) (N := some 51) (v := ?_) (a' := ?_) #[true, true, true, true, true, true, false, false, false, false, false, false, false, false, false] rfl rfl (any_of HT_.out (by kernel_rfl)) (fun _ _ _ h => h) (Or.inl ⟨by rfl, ?_⟩) ?_ ?_
                    rotate_left
                    · intro w'
                      go_simp
                      with_reducible rfl
                    rotate_left
                    · simp only [Act.put, List.setIfInBounds_toArray, List.set_cons_zero, List.set_cons_succ, i64_w, i32_w]
                      rfl
                    refine pure_ (i := 6) (N := some 52) (v := ?_) (a' := ?_) #[true, true, true, true, true, true, true, false, false, false, false, false, false, false, false] rfl rfl (any_of HT_.out (by kernel_rfl)) (fun _ _ _ h => h) (Or.inl ⟨by rfl, ?_⟩) ?_ ?_
                    rotate_left
                    · intro w'
                      go_simp
                      with_reducible rfl
                    rotate_left
                    · simp only [Act.put, List.setIfInBounds_toArray, List.set_cons_zero, List.set_cons_succ, i64_w, i32_w]
                      rfl
                    refine pure_ (i := 7) (N := some 53) (v := ?_) (a' := ?_) #[true, true, true, true, true, true, true, true, false, false, false, false, false, false, false] rfl rfl (any_of HT_.out (by kernel_rfl)) (fun _ _ _ h => h) (Or.inl ⟨by rfl, ?_⟩) ?_ ?_
                    rotate_left
                    · intro w'
                      go_simp
                      with_reducible rfl
                    rotate_left
                    · simp only [Act.put, List.setIfInBounds_toArray, List.set_cons_zero, List.set_cons_succ, i64_w, i32_w]
                      rfl
                    refine pure_ (i := 8) (N := some 54) (v := ?_) (a' := ?_) #[true, true, true, true, true, true, true, true, true, false, false, false, false, false, false] rfl rfl (any_of HT_.out (by kernel_rfl)) (fun _ _ _ h => h) (Or.inl ⟨by rfl, ?_⟩) ?_ ?_
                    rotate_left
                    · intro w'
                      go_simp
                      with_reducible rfl
                    rotate_left
                    · simp only [Act.put, List.setIfInBounds_toArray, List.set_cons_zero, List.set_cons_succ, i64_w, i32_w]
                      rfl
                    refine take_ (i := 9) (N := some 55) (v := ?_) (a' := ?_) #[true, true, true, true, true, true, true, true, true, true, false, false, false, false, false] rfl rfl (take_ofW HT_.out HW_.out (by kernel_rfl)) (fun _ _ _ h => h) (Or.inl ⟨by rfl, ?_⟩) hHeld ?_ ?_
                    rotate_left
                    · rintro w' ⟨s0, s1, s2, s3, s4, s5⟩
                      go_simp
                      with_reducible rfl
                    rotate_left
                    · simp only [Act.put, List.setIfInBounds_toArray, List.set_cons_zero, List.set_cons_succ, i64_w, i32_w]
                      rfl
                    refine take_ (i := 10) (N := some 56) (v := ?_) (a' := ?_) #[true, true, true, true, true, true, true, true, true, true, true, false, false, false, false] rfl rfl (take_ofW HT_.out HW_.out (by kernel_rfl)) (fun _ _ _ h => h) (Or.inl ⟨by rfl, ?_⟩) hHeld ?_ ?_
                    rotate_left
                    · rintro w' ⟨s0, s1, s2, s3, s4, s5⟩
                      go_simp
                      with_reducible rfl
                    rotate_left
                    · simp only [Act.put, List.setIfInBounds_toArray, List.set_cons_zero, List.set_cons_succ, i64_w, i32_w]
                      rfl
                    refine one_ (i := 11) (N := some 57) #[true, true, true, true, true, true, true, true, true, true, true, true, false, false, false] rfl rfl (one_of HT_.out (by kernel_rfl)) (by decide) (fun K hK => ?_)
                    refine goes_ Try.func15 (by kernel_rfl) rfl #[.agg #[.int .i64 a0_0, .int .i64 a0_1]] (by rfl) rfl rfl (by (try simp only [List.map_toArray, List.map_cons, List.map_nil]); first | done | rfl | (simp only [List.length_drop, List.length_take]; rfl)) ?_
                    with_reducible refine (cut_Canon.calls kj29 a0_0 a0_1 t507 t508 _ A42.out).mono ?_
                    rintro e w56 ⟨rfl, hb⟩
                    refine ⟨_, rfl, ?_⟩
                    have n0_ := Aside0.mk (blk_below (g := gb490) (o := .cells #[.int .i64 a0_0, .int .i64 a0_1] 23 (0, 0)) (by (with_reducible repeat (first | refine blk_drewN ?_ _ | refine blk_drew ?_ | refine blk_alloc ?_ _)); exact BK490.out) hb)
                    have n1_ := Aside0.mk (blk_below (g := gb494) (o := .cells #[.int .i64 t491, .int .i64 t492] 23 (0, 0)) (by (with_reducible repeat (first | refine blk_drewN ?_ _ | refine blk_drew ?_ | refine blk_alloc ?_ _)); exact BK494.out) hb)
                    have n2_ := Aside0.mk (blk_below (g := gb498) (o := .cells #[.int .i64 t495, .int .i64 t496] 23 (0, 0)) (by (with_reducible repeat (first | refine blk_drewN ?_ _ | refine blk_drew ?_ | refine blk_alloc ?_ _)); exact BK498.out) hb)
                    have n3_ := Aside0.mk (blk_below (g := gb504) (o := .cells #[.int .i64 t501, .int .i64 t502] 23 (0, 0)) (by (with_reducible repeat (first | refine blk_drewN ?_ _ | refine blk_drew ?_ | refine blk_alloc ?_ _)); exact BK504.out) hb)
                    have n4_ := Aside0.mk (below_step (by repeat (first | (with_reducible first | exact HB.out | apply below_alloc | apply pw_below_drewN | apply below_drew1 | refine below_set ?_ GE490.out | refine below_set ?_ GE494.out | refine below_set ?_ GE498.out | refine below_set ?_ GE504.out) | exact HB.out)) hb)
                    clear BK490
                    clear BK494
                    clear BK498
                    clear BK504
                    clear HB
                    have BK490 := n0_
                    have BK494 := n1_
                    have BK498 := n2_
                    have BK504 := n3_
                    have HB := n4_
                    clear n0_ n1_ n2_ n3_ n4_
                    (try clear hb)
                    (try clear hb2)
                    (try clear hk)
                    (try clear hi)
                    refine hK.out _ _ ⟨(blk_cell BK494.out 0).trans rfl, (blk_cell BK494.out 1).trans rfl, (blk_cell BK504.out 0).trans rfl, (blk_cell BK504.out 1).trans rfl, (blk_cell BK490.out 0).trans rfl, (blk_cell BK490.out 1).trans rfl⟩ (fun hHeld => ?_)
                    clear hK K
                    refine norm_ (a' := ?_) ?_ ?_
                    rotate_left
                    · show Act.put _ (some 57) _ = _
                      simp only [Act.put, List.setIfInBounds_toArray, List.set_cons_zero, List.set_cons_succ, i64_w, i32_w]
                      rfl
                    refine pure_ (i := 12) (N := some 58) (v := ?_) (a' := ?_) #[true, true, true, true, true, true, true, true, true, true, true, true, true, false, false] rfl rfl (any_of HT_.out (by kernel_rfl)) (fun _ _ _ h => h) (Or.inl ⟨by rfl, ?_⟩) ?_ ?_
                    rotate_left
                    · intro w'
                      go_simp
                      with_reducible rfl
                    rotate_left
                    · simp only [Act.put, List.setIfInBounds_toArray, List.set_cons_zero, List.set_cons_succ, i64_w, i32_w]
                      rfl
                    refine pure_ (i := 13) (N := some 59) (v := ?_) (a' := ?_) #[true, true, true, true, true, true, true, true, true, true, true, true, true, true, false] rfl rfl (any_of HT_.out (by kernel_rfl)) (fun _ _ _ h => h) (Or.inl ⟨by rfl, ?_⟩) ?_ ?_
                    rotate_left
                    · intro w'
                      go_simp
                      with_reducible rfl
                    rotate_left
                    · simp only [Act.put, List.setIfInBounds_toArray, List.set_cons_zero, List.set_cons_succ, i64_w, i32_w]
                      rfl
                    refine pure_ (i := 14) (N := some 4) (v := ?_) (a' := ?_) #[true, true, true, true, true, true, true, true, true, true, true, true, true, true, true] rfl rfl (any_of HT_.out (by kernel_rfl)) (fun _ _ _ h => h) (Or.inl ⟨by rfl, ?_⟩) ?_ ?_
                    rotate_left
                    · intro w'
                      go_simp
                      with_reducible rfl
                    rotate_left
                    · simp only [Act.put, List.setIfInBounds_toArray, List.set_cons_zero, List.set_cons_succ, i64_w, i32_w]
                      rfl
                    refine done_ (done_of HT_.out (by kernel_rfl)) ?_
                    try go_wp2
                    go_ret
                    exact ⟨by first | rfl | (simp [errW_none, errW_some] <;> rfl) | (simp [*, errW_none, errW_some] <;> rfl), by repeat (first | (with_reducible first | exact HB.out | apply below_alloc | apply pw_below_drewN | apply below_drew1 | refine below_set ?_ GE490.out | refine below_set ?_ GE494.out | refine below_set ?_ GE498.out | refine below_set ?_ GE504.out) | exact HB.out)⟩
                  · replace c41 := Bool.eq_false_iff.mpr c41
                    subst c41
                    have H1 : (some false) = some r := by rw [if_neg (show ¬ (false = true) by decide)] at H; exact H
                    exact absurd ((Option.some.inj H1).trans HRT.out) Bool.false_ne_true
                · replace c40 := Bool.eq_false_iff.mpr c40
                  subst c40
                  have H1 : (some false) = some r := by rw [if_neg (show ¬ (false = true) by decide)] at H; exact H
                  exact absurd ((Option.some.inj H1).trans HRT.out) Bool.false_ne_true
              · replace c38 := Bool.eq_false_iff.mpr c38
                subst c38
                have H1 : (some false) = some r := by rw [if_neg (show ¬ (false = true) by decide)] at H; exact H
                exact absurd ((Option.some.inj H1).trans HRT.out) Bool.false_ne_true
end Go.Proofs.Ytihhagfdfhojnaa.Print
