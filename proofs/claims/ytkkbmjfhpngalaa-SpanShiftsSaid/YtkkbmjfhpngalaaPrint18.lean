-- Laid by wip/print/bprint.py of this repo, over the kit's printer, with functions given by hand; not trusted: Lean checks it.
import Derived.Test.YtkkbmjfhpngalaaPrint0
import Derived.Test.YtkkbmjfhpngalaaPrint1
import Derived.Test.YtkkbmjfhpngalaaPrint17
import Derived.Test.YtkkbmjfhpngalaaPrint2
import Derived.Test.YtkkbmjfhpngalaaPrint3
import Derived.Test.YtkkbmjfhpngalaaSh
namespace Go.Proofs.Ytkkbmjfhpngalaa.Print
open Go.RowKit Go.Proofs.YtkkbmjfhpngalaaW.PrintWords Go.Proofs.YtkkbmjfhpngalaaW.PrintLast Go.Proofs.YtkkbmjfhpngalaaW.PrintMore
attribute [local go_sem] max2_int min2_int max_two min_two max_three min_three max_four min_four   -- for this text's walks alone
set_option linter.unusedVariables false
set_option linter.unusedSimpArgs false
section
attribute [local go_sem high] eqA25
/-! ### bocagelaw03_SpanShifts: function 8 -/
mutual
def bocagelaw03_SpanShifts.j0 : Nat → Bool → Bool → Int → Int → Int → Int → Int → Int → Int → Int → Option (Bool)
  | 0, _, _, _, _, _, _, _, _, _, _ => none
  | k + 1, x6, x32, x793000, x793001, x793002, x793003, x799000, x799001, x799002, x799003 => if x32 = true then (some false) else (if x6 = true then (if x793000 = 0 then (bocagelaw03_SpanShifts.j1 k (x793002 != 0) x793000 x793001 x793002 x793003 x799000 x799001 x799002 x799003) else (bocagelaw03_SpanShifts.j1 k true x793000 x793001 x793002 x793003 x799000 x799001 x799002 x799003)) else (bocagelaw03_SpanShifts.j1 k true x793000 x793001 x793002 x793003 x799000 x799001 x799002 x799003))
def bocagelaw03_SpanShifts.j1 : Nat → Bool → Int → Int → Int → Int → Int → Int → Int → Int → Option (Bool)
  | 0, _, _, _, _, _, _, _, _, _ => none
  | k + 1, x46, x793000, x793001, x793002, x793003, x799000, x799001, x799002, x799003 => if x46 = true then ((bocagelaw03_alive.f k).bind fun t805 => (some t805)) else ((span_Count.f k x793000 x793001 x793002 x793003).bind fun bt806 => ((span_Count.f k x799000 x799001 x799002 x799003).bind fun bt808 => ((bocagelaw03_alive.f k).bind fun t810 => (if t810 = true then (if bt806.1 = bt808.1 then ((span_Right.f k x799000 x799001 x799002 x799003).bind fun t811 => (some t811)) else (some false)) else (some false)))))
end
def bocagelaw03_SpanShifts.f (k : Nat) (a0_0 : Int) (a0_1 : Int) (a0_2 : Int) (a0_3 : Int) (a1 : Int) : Option (Bool) := (span_Shift.f k a0_0 a0_1 a0_2 a0_3 a1).bind fun bt793 => ((bocageref03_Shift.f k a0_0 a0_1 a0_2 a0_3 a1).bind fun bt799 => (if ((!(bt793.1 == bt799.1) || (!(bt793.2.1 == bt799.2.1))) || ((!(bt793.2.2.1 == bt799.2.2.1) || (!(bt793.2.2.2.1 == bt799.2.2.2.1))))) = true then (bocagelaw03_SpanShifts.j0 k bt793.2.2.2.2 true a0_0 a0_1 a0_2 a0_3 bt793.1 bt793.2.1 bt793.2.2.1 bt793.2.2.2.1) else (bocagelaw03_SpanShifts.j0 k bt793.2.2.2.2 (bt793.2.2.2.2 != bt799.2.2.2.2) a0_0 a0_1 a0_2 a0_3 bt793.1 bt793.2.1 bt793.2.2.1 bt793.2.2.2.1)))
theorem bocagelaw03_SpanShifts.mono_l : ∀ k, (∀ y0 y1 y2 y3 y4 y5 y6 y7 y8 y9, LeO (bocagelaw03_SpanShifts.j0 k y0 y1 y2 y3 y4 y5 y6 y7 y8 y9) (bocagelaw03_SpanShifts.j0 (k + 1) y0 y1 y2 y3 y4 y5 y6 y7 y8 y9)) ∧ (∀ y0 y1 y2 y3 y4 y5 y6 y7 y8, LeO (bocagelaw03_SpanShifts.j1 k y0 y1 y2 y3 y4 y5 y6 y7 y8) (bocagelaw03_SpanShifts.j1 (k + 1) y0 y1 y2 y3 y4 y5 y6 y7 y8))
  | 0 => ⟨fun _ _ _ _ _ _ _ _ _ _ r h => by simp [bocagelaw03_SpanShifts.j0] at h, fun _ _ _ _ _ _ _ _ _ r h => by simp [bocagelaw03_SpanShifts.j1] at h⟩
  | k + 1 => by
    obtain ⟨ih0, ih1⟩ := bocagelaw03_SpanShifts.mono_l k
    refine ⟨?_, ?_⟩
    · intro y0 y1 y2 y3 y4 y5 y6 y7 y8 y9
      unfold bocagelaw03_SpanShifts.j0
      repeat' first
      | (with_reducible exact ih0 _ _ _ _ _ _ _ _ _ _)
      | (with_reducible exact ih1 _ _ _ _ _ _ _ _ _)
      | (with_reducible exact bocagelaw03_alive.mono _)
      | (with_reducible exact bocageref03_Shift.mono _ _ _ _ _ _)
      | (with_reducible exact span_Count.mono _ _ _ _ _)
      | (with_reducible exact span_Right.mono _ _ _ _ _)
      | (with_reducible exact span_Shift.mono _ _ _ _ _ _)
      | (with_reducible exact LeO.refl _)
      | (with_reducible exact LeO.none _)
      | (with_reducible refine LeO.ite ?_ ?_)
      | (with_reducible refine LeO.bind ?_ (fun _ => ?_))
      | exact ih0 _ _ _ _ _ _ _ _ _ _
      | exact ih1 _ _ _ _ _ _ _ _ _
      | exact bocagelaw03_alive.mono _
      | exact bocageref03_Shift.mono _ _ _ _ _ _
      | exact span_Count.mono _ _ _ _ _
      | exact span_Right.mono _ _ _ _ _
      | exact span_Shift.mono _ _ _ _ _ _
      | exact LeO.none _
      | refine LeO.ite ?_ ?_
      | refine LeO.bind ?_ (fun _ => ?_)
    · intro y0 y1 y2 y3 y4 y5 y6 y7 y8
      unfold bocagelaw03_SpanShifts.j1
      repeat' first
      | (with_reducible exact ih0 _ _ _ _ _ _ _ _ _ _)
      | (with_reducible exact ih1 _ _ _ _ _ _ _ _ _)
      | (with_reducible exact bocagelaw03_alive.mono _)
      | (with_reducible exact bocageref03_Shift.mono _ _ _ _ _ _)
      | (with_reducible exact span_Count.mono _ _ _ _ _)
      | (with_reducible exact span_Right.mono _ _ _ _ _)
      | (with_reducible exact span_Shift.mono _ _ _ _ _ _)
      | (with_reducible exact LeO.refl _)
      | (with_reducible exact LeO.none _)
      | (with_reducible refine LeO.ite ?_ ?_)
      | (with_reducible refine LeO.bind ?_ (fun _ => ?_))
      | exact ih0 _ _ _ _ _ _ _ _ _ _
      | exact ih1 _ _ _ _ _ _ _ _ _
      | exact bocagelaw03_alive.mono _
      | exact bocageref03_Shift.mono _ _ _ _ _ _
      | exact span_Count.mono _ _ _ _ _
      | exact span_Right.mono _ _ _ _ _
      | exact span_Shift.mono _ _ _ _ _ _
      | exact LeO.none _
      | refine LeO.ite ?_ ?_
      | refine LeO.bind ?_ (fun _ => ?_)
theorem bocagelaw03_SpanShifts.mono : ∀ a0 a1 a2 a3 a4 k, LeO (bocagelaw03_SpanShifts.f k a0 a1 a2 a3 a4) (bocagelaw03_SpanShifts.f (k + 1) a0 a1 a2 a3 a4) := by
  intro a0 a1 a2 a3 a4 k
  obtain ⟨ih0, ih1⟩ := bocagelaw03_SpanShifts.mono_l k
  unfold bocagelaw03_SpanShifts.f
  repeat' first
      | (with_reducible exact ih0 _ _ _ _ _ _ _ _ _ _)
      | (with_reducible exact ih1 _ _ _ _ _ _ _ _ _)
      | (with_reducible exact bocagelaw03_alive.mono _)
      | (with_reducible exact bocageref03_Shift.mono _ _ _ _ _ _)
      | (with_reducible exact span_Count.mono _ _ _ _ _)
      | (with_reducible exact span_Right.mono _ _ _ _ _)
      | (with_reducible exact span_Shift.mono _ _ _ _ _ _)
      | (with_reducible exact LeO.refl _)
      | (with_reducible exact LeO.none _)
      | (with_reducible refine LeO.ite ?_ ?_)
      | (with_reducible refine LeO.bind ?_ (fun _ => ?_))
      | exact ih0 _ _ _ _ _ _ _ _ _ _
      | exact ih1 _ _ _ _ _ _ _ _ _
      | exact bocagelaw03_alive.mono _
      | exact bocageref03_Shift.mono _ _ _ _ _ _
      | exact span_Count.mono _ _ _ _ _
      | exact span_Right.mono _ _ _ _ _
      | exact span_Shift.mono _ _ _ _ _ _
      | exact LeO.none _
      | refine LeO.ite ?_ ?_
      | refine LeO.bind ?_ (fun _ => ?_)
set_option maxHeartbeats 8000000 in
set_option maxRecDepth 100000 in
theorem bocagelaw03_SpanShifts.calls (k : Nat) (a0_0 : Int) (a0_1 : Int) (a0_2 : Int) (a0_3 : Int) (a1 : Int) (r : Bool) (w : World) (h : bocagelaw03_SpanShifts.f k a0_0 a0_1 a0_2 a0_3 a1 = some r) (hr : r = true) :
    Calls Try.prog 8 #[.agg #[.int .i64 a0_0, .int .i64 a0_1, .int .i64 a0_2, .int .i64 a0_3], .int .i64 a1] w fun e w' => e = .returned (.bool r) ∧ Below w.heap.size w w' := by
  have HRT := Aside0.mk hr
  clear hr
  have hu25 := Try.underlying25
  have HB := Aside0.mk (Below.refl w.heap.size w)
  have H : ((span_Shift.f k a0_0 a0_1 a0_2 a0_3 a1).bind fun bt793 => ((bocageref03_Shift.f k a0_0 a0_1 a0_2 a0_3 a1).bind fun bt799 => (if ((!(bt793.1 == bt799.1) || (!(bt793.2.1 == bt799.2.1))) || ((!(bt793.2.2.1 == bt799.2.2.1) || (!(bt793.2.2.2.1 == bt799.2.2.2.1))))) = true then (bocagelaw03_SpanShifts.j0 k bt793.2.2.2.2 true a0_0 a0_1 a0_2 a0_3 bt793.1 bt793.2.1 bt793.2.2.1 bt793.2.2.2.1) else (bocagelaw03_SpanShifts.j0 k bt793.2.2.2.2 (bt793.2.2.2.2 != bt799.2.2.2.2) a0_0 a0_1 a0_2 a0_3 bt793.1 bt793.2.1 bt793.2.2.1 bt793.2.2.2.1)))) = some r := h
  clear h
  replace H := Option.bind_eq_some_iff.mp H
  obtain ⟨⟨t793, t794, t795, t796, t797⟩, A30, H⟩ := H
  (try (set_option simprocs false in dsimp only at H))
  have A3 := Aside0.mk A30
  clear A30
  replace H := Option.bind_eq_some_iff.mp H
  obtain ⟨⟨t799, t800, t801, t802, t803⟩, A40, H⟩ := H
  (try (set_option simprocs false in dsimp only at H))
  have A4 := Aside0.mk A40
  clear A40
  have HC5 := Aside0.mk H
  clear H
  go_enter Try.func8, Try.ntmps8
  go_upto_region 3 with (first | ((with_reducible refine gate_dst (N := 2) rfl ?_); refine bxe (N := 2) (cs := #[.int .i64 a0_0, .int .i64 a0_1, .int .i64 a0_2, .int .i64 a0_3]) (t := 25) ?_; intro gb792 hg w6 hbox hb; have BK792 := Aside0.mk (hbox); have GW792 := lsz hg HB; have GE792 := lsz hg HB; replace HB := bst HB hb; clear hb hbox hg; obtain ⟨hcz7_0, hcz7_1, hcz7_2, hcz7_3⟩ := e4 BK792; obtain ⟨hfz7_0, hfz7_1, hfz7_2, hfz7_3⟩ := f4 BK792) | ((with_reducible refine gate_callee (f := 43) rfl ?_); refine gol (some 16) Try.func43 #[.agg #[.int .i64 a0_0, .int .i64 a0_1, .int .i64 a0_2, .int .i64 a0_3], .int .i64 a1] ?_; (with_reducible refine (span_Shift.calls k a0_0 a0_1 a0_2 a0_3 a1 t793 t794 t795 t796 t797 _ A3.out).mono ?_); rintro e w8 ⟨rfl, hb⟩; refine ⟨_, rfl, ?_⟩; replace BK792 := bkb BK792 hb; replace HB := bst HB hb; (try clear hb); (try clear hb2); (try clear hk); (try clear hi)) | ((with_reducible refine gate_dst (N := 5) rfl ?_); refine bxe (N := 5) (cs := #[.int .i64 0, .int .i64 0, .int .i64 0, .int .i64 0]) (t := 25) ?_; intro gb798 hg w9 hbox hb; have BK798 := Aside0.mk (hbox); have GW798 := lsz hg HB; have GE798 := lsz hg HB; replace HB := bst HB hb; have NB792_798 := nlt hg BK792; have NB798_792 := ngt hg BK792; replace BK792 := bkb BK792 hb; clear hb hbox hg; have hnb10 := NB798_792.out; have hnc10 := NB792_798.out; obtain ⟨hcz11_0, hcz11_1, hcz11_2, hcz11_3⟩ := e4 BK798; obtain ⟨hfz11_0, hfz11_1, hfz11_2, hfz11_3⟩ := f4 BK798; obtain ⟨hcz12_0, hcz12_1, hcz12_2, hcz12_3⟩ := e4 BK792; obtain ⟨hfz12_0, hfz12_1, hfz12_2, hfz12_3⟩ := f4 BK792) | ((with_reducible refine gate_callee (f := 44) rfl ?_); refine gol (some 22) Try.func44 #[.agg #[.int .i64 a0_0, .int .i64 a0_1, .int .i64 a0_2, .int .i64 a0_3], .int .i64 a1] ?_; (with_reducible refine (bocageref03_Shift.calls k a0_0 a0_1 a0_2 a0_3 a1 t799 t800 t801 t802 t803 _ A4.out).mono ?_); rintro e w13 ⟨rfl, hb⟩; refine ⟨_, rfl, ?_⟩; replace BK792 := Aside0.mk (blk_below (bkf BK792 NB792_798) hb); replace BK798 := Aside0.mk (blk_below (g := gb798) (o := .cells #[.int .i64 t793, .int .i64 t794, .int .i64 t795, .int .i64 t796] 25 (0, 0)) (bkp BK798) hb); replace HB := bst HB hb; (try clear hb); (try clear hb2); (try clear hk); (try clear hi)) | ((with_reducible refine gate_dst (N := 7) rfl ?_); refine bxe (N := 7) (cs := #[.int .i64 0, .int .i64 0, .int .i64 0, .int .i64 0]) (t := 25) ?_; intro gb804 hg w14 hbox hb; have BK804 := Aside0.mk (hbox); have GW804 := lsz hg HB; have GE804 := lsz hg HB; replace HB := bst HB hb; have NB792_804 := nlt hg BK792; have NB804_792 := ngt hg BK792; replace BK792 := bkb BK792 hb; have NB798_804 := nlt hg BK798; have NB804_798 := ngt hg BK798; replace BK798 := bkb BK798 hb; clear hb hbox hg; have hnb15 := NB804_792.out; have hnc15 := NB792_804.out; have hnb16 := NB804_798.out; have hnc16 := NB798_804.out; obtain ⟨hcz17_0, hcz17_1, hcz17_2, hcz17_3⟩ := e4 BK804; obtain ⟨hfz17_0, hfz17_1, hfz17_2, hfz17_3⟩ := f4 BK804))
  (try simp only [Act.put, List.setIfInBounds_toArray, List.set_cons_zero, List.set_cons_succ])
  go_cut [32] (fun v32 wc => ∃ (kq : Nat) (x32_4 : Bool), v32 = .bool x32_4 ∧ Aside0 (bocagelaw03_SpanShifts.j0 kq t797 x32_4 a0_0 a0_1 a0_2 a0_3 t793 t794 t795 t796 = some r) ∧ Aside0 (kq ≤ k) ∧ Aside0 (wc.heap[gb792]? = some (.cells #[.int .i64 a0_0, .int .i64 a0_1, .int .i64 a0_2, .int .i64 a0_3] 25 (0, 0))) ∧ Aside0 (wc.heap[gb798]? = some (.cells #[.int .i64 t793, .int .i64 t794, .int .i64 t795, .int .i64 t796] 25 (0, 0))) ∧ Aside0 (wc.heap[gb804]? = some (.cells #[.int .i64 t799, .int .i64 t800, .int .i64 t801, .int .i64 t802] 25 (0, 0))) ∧ Aside0 (Below w.heap.size w wc))
  case first =>
    have H := HC5.out
    clear HC5
    by_cases c18 : ((!(t793 == t799) || (!(t794 == t800))) || ((!(t795 == t801) || (!(t796 == t802))))) = true
    · rw [if_pos c18] at H
      have c18b0 : ((!(t793 == t799) || (!(t794 == t800))) || ((!(t795 == t801) || (!(t796 == t802))))) = true := c18
      clear c18
      (first | rw [c18b0] | (simp only [i64_w, i32_w]; rw [c18b0]) | skip)
      have H' := Aside0.mk H
      clear H
      have hnb19 := NB798_792.out
      have hnc19 := NB792_798.out
      have hnb20 := NB798_804.out
      have hnc20 := NB804_798.out
      have hcz21_0 : w14.cell? ⟨gb798, 0, none⟩ = some (.int .i64 t793) := (blk_cell BK798.out 0).trans rfl
      have hcz21_1 : w14.cell? ⟨gb798, 1, none⟩ = some (.int .i64 t794) := (blk_cell BK798.out 1).trans rfl
      have hcz21_2 : w14.cell? ⟨gb798, 2, none⟩ = some (.int .i64 t795) := (blk_cell BK798.out 2).trans rfl
      have hcz21_3 : w14.cell? ⟨gb798, 3, none⟩ = some (.int .i64 t796) := (blk_cell BK798.out 3).trans rfl
      have hfz21_0 := blk_frozen BK798.out 0
      have hfz21_1 := blk_frozen BK798.out 1
      have hfz21_2 := blk_frozen BK798.out 2
      have hfz21_3 := blk_frozen BK798.out 3
      have hnb22 := NB804_792.out
      have hnc22 := NB792_804.out
      have hcz23_0 : w14.cell? ⟨gb804, 0, none⟩ = some (.int .i64 0) := (blk_cell BK804.out 0).trans rfl
      have hcz23_1 : w14.cell? ⟨gb804, 1, none⟩ = some (.int .i64 0) := (blk_cell BK804.out 1).trans rfl
      have hcz23_2 : w14.cell? ⟨gb804, 2, none⟩ = some (.int .i64 0) := (blk_cell BK804.out 2).trans rfl
      have hcz23_3 : w14.cell? ⟨gb804, 3, none⟩ = some (.int .i64 0) := (blk_cell BK804.out 3).trans rfl
      have hfz23_0 := blk_frozen BK804.out 0
      have hfz23_1 := blk_frozen BK804.out 1
      have hfz23_2 := blk_frozen BK804.out 2
      have hfz23_3 := blk_frozen BK804.out 3
      go_wp2
      go_meet
      case rel => exact ⟨_, (true), (by first | rfl | (simp; done) | (simp [*]; done)), H', ⟨by first | omega | exact Nat.le_refl _⟩, ⟨by (with_reducible repeat (first | refine blk_drewN ?_ _ | refine blk_drew ?_ | refine blk_alloc ?_ _)); refine blk_far ?_ NB792_804.out _; (with_reducible repeat (first | refine blk_drewN ?_ _ | refine blk_drew ?_ | refine blk_alloc ?_ _)); refine blk_far ?_ NB792_804.out _; (with_reducible repeat (first | refine blk_drewN ?_ _ | refine blk_drew ?_ | refine blk_alloc ?_ _)); refine blk_far ?_ NB792_804.out _; (with_reducible repeat (first | refine blk_drewN ?_ _ | refine blk_drew ?_ | refine blk_alloc ?_ _)); refine blk_far ?_ NB792_804.out _; (with_reducible repeat (first | refine blk_drewN ?_ _ | refine blk_drew ?_ | refine blk_alloc ?_ _)); exact BK792.out⟩, ⟨by (with_reducible repeat (first | refine blk_drewN ?_ _ | refine blk_drew ?_ | refine blk_alloc ?_ _)); refine blk_far ?_ NB798_804.out _; (with_reducible repeat (first | refine blk_drewN ?_ _ | refine blk_drew ?_ | refine blk_alloc ?_ _)); refine blk_far ?_ NB798_804.out _; (with_reducible repeat (first | refine blk_drewN ?_ _ | refine blk_drew ?_ | refine blk_alloc ?_ _)); refine blk_far ?_ NB798_804.out _; (with_reducible repeat (first | refine blk_drewN ?_ _ | refine blk_drew ?_ | refine blk_alloc ?_ _)); refine blk_far ?_ NB798_804.out _; (with_reducible repeat (first | refine blk_drewN ?_ _ | refine blk_drew ?_ | refine blk_alloc ?_ _)); exact BK798.out⟩, ⟨by (with_reducible repeat (first | refine blk_drewN ?_ _ | refine blk_drew ?_ | refine blk_alloc ?_ _)); refine blk_put (cs := #[.int .i64 t799, .int .i64 t800, .int .i64 t801, .int .i64 0]) ?_ 3 _ rfl; (with_reducible repeat (first | refine blk_drewN ?_ _ | refine blk_drew ?_ | refine blk_alloc ?_ _)); refine blk_put (cs := #[.int .i64 t799, .int .i64 t800, .int .i64 0, .int .i64 0]) ?_ 2 _ rfl; (with_reducible repeat (first | refine blk_drewN ?_ _ | refine blk_drew ?_ | refine blk_alloc ?_ _)); refine blk_put (cs := #[.int .i64 t799, .int .i64 0, .int .i64 0, .int .i64 0]) ?_ 1 _ rfl; (with_reducible repeat (first | refine blk_drewN ?_ _ | refine blk_drew ?_ | refine blk_alloc ?_ _)); refine blk_put (cs := #[.int .i64 0, .int .i64 0, .int .i64 0, .int .i64 0]) ?_ 0 _ rfl; (with_reducible repeat (first | refine blk_drewN ?_ _ | refine blk_drew ?_ | refine blk_alloc ?_ _)); exact BK804.out⟩, ⟨bl HB⟩⟩
    · rw [if_neg c18] at H
      have c18b0 : ((!(t793 == t799) || (!(t794 == t800))) || ((!(t795 == t801) || (!(t796 == t802))))) = false := by simpa using c18
      clear c18
      (first | rw [c18b0] | (simp only [i64_w, i32_w]; rw [c18b0]) | skip)
      have H' := Aside0.mk H
      clear H
      have hnb24 := NB798_792.out
      have hnc24 := NB792_798.out
      have hnb25 := NB798_804.out
      have hnc25 := NB804_798.out
      have hcz26_0 : w14.cell? ⟨gb798, 0, none⟩ = some (.int .i64 t793) := (blk_cell BK798.out 0).trans rfl
      have hcz26_1 : w14.cell? ⟨gb798, 1, none⟩ = some (.int .i64 t794) := (blk_cell BK798.out 1).trans rfl
      have hcz26_2 : w14.cell? ⟨gb798, 2, none⟩ = some (.int .i64 t795) := (blk_cell BK798.out 2).trans rfl
      have hcz26_3 : w14.cell? ⟨gb798, 3, none⟩ = some (.int .i64 t796) := (blk_cell BK798.out 3).trans rfl
      have hfz26_0 := blk_frozen BK798.out 0
      have hfz26_1 := blk_frozen BK798.out 1
      have hfz26_2 := blk_frozen BK798.out 2
      have hfz26_3 := blk_frozen BK798.out 3
      have hnb27 := NB804_792.out
      have hnc27 := NB792_804.out
      have hcz28_0 : w14.cell? ⟨gb804, 0, none⟩ = some (.int .i64 0) := (blk_cell BK804.out 0).trans rfl
      have hcz28_1 : w14.cell? ⟨gb804, 1, none⟩ = some (.int .i64 0) := (blk_cell BK804.out 1).trans rfl
      have hcz28_2 : w14.cell? ⟨gb804, 2, none⟩ = some (.int .i64 0) := (blk_cell BK804.out 2).trans rfl
      have hcz28_3 : w14.cell? ⟨gb804, 3, none⟩ = some (.int .i64 0) := (blk_cell BK804.out 3).trans rfl
      have hfz28_0 := blk_frozen BK804.out 0
      have hfz28_1 := blk_frozen BK804.out 1
      have hfz28_2 := blk_frozen BK804.out 2
      have hfz28_3 := blk_frozen BK804.out 3
      go_wp2
      go_meet
      case rel => exact ⟨_, ((t797 != t803)), (by first | rfl | (simp; done) | (simp [*]; done)), H', ⟨by first | omega | exact Nat.le_refl _⟩, ⟨by (with_reducible repeat (first | refine blk_drewN ?_ _ | refine blk_drew ?_ | refine blk_alloc ?_ _)); refine blk_far ?_ NB792_804.out _; (with_reducible repeat (first | refine blk_drewN ?_ _ | refine blk_drew ?_ | refine blk_alloc ?_ _)); refine blk_far ?_ NB792_804.out _; (with_reducible repeat (first | refine blk_drewN ?_ _ | refine blk_drew ?_ | refine blk_alloc ?_ _)); refine blk_far ?_ NB792_804.out _; (with_reducible repeat (first | refine blk_drewN ?_ _ | refine blk_drew ?_ | refine blk_alloc ?_ _)); refine blk_far ?_ NB792_804.out _; (with_reducible repeat (first | refine blk_drewN ?_ _ | refine blk_drew ?_ | refine blk_alloc ?_ _)); exact BK792.out⟩, ⟨by (with_reducible repeat (first | refine blk_drewN ?_ _ | refine blk_drew ?_ | refine blk_alloc ?_ _)); refine blk_far ?_ NB798_804.out _; (with_reducible repeat (first | refine blk_drewN ?_ _ | refine blk_drew ?_ | refine blk_alloc ?_ _)); refine blk_far ?_ NB798_804.out _; (with_reducible repeat (first | refine blk_drewN ?_ _ | refine blk_drew ?_ | refine blk_alloc ?_ _)); refine blk_far ?_ NB798_804.out _; (with_reducible repeat (first | refine blk_drewN ?_ _ | refine blk_drew ?_ | refine blk_alloc ?_ _)); refine blk_far ?_ NB798_804.out _; (with_reducible repeat (first | refine blk_drewN ?_ _ | refine blk_drew ?_ | refine blk_alloc ?_ _)); exact BK798.out⟩, ⟨by (with_reducible repeat (first | refine blk_drewN ?_ _ | refine blk_drew ?_ | refine blk_alloc ?_ _)); refine blk_put (cs := #[.int .i64 t799, .int .i64 t800, .int .i64 t801, .int .i64 0]) ?_ 3 _ rfl; (with_reducible repeat (first | refine blk_drewN ?_ _ | refine blk_drew ?_ | refine blk_alloc ?_ _)); refine blk_put (cs := #[.int .i64 t799, .int .i64 t800, .int .i64 0, .int .i64 0]) ?_ 2 _ rfl; (with_reducible repeat (first | refine blk_drewN ?_ _ | refine blk_drew ?_ | refine blk_alloc ?_ _)); refine blk_put (cs := #[.int .i64 t799, .int .i64 0, .int .i64 0, .int .i64 0]) ?_ 1 _ rfl; (with_reducible repeat (first | refine blk_drewN ?_ _ | refine blk_drew ?_ | refine blk_alloc ?_ _)); refine blk_put (cs := #[.int .i64 0, .int .i64 0, .int .i64 0, .int .i64 0]) ?_ 0 _ rfl; (with_reducible repeat (first | refine blk_drewN ?_ _ | refine blk_drew ?_ | refine blk_alloc ?_ _)); exact BK804.out⟩, ⟨bl HB⟩⟩
  case rest =>
    clear HC5
    try clear c1
    try clear c2
    try clear p2
    try clear c4
    try clear c8
    try clear c10
    try clear c15
    try clear c16
    try clear c18
    try clear c18b0
    try clear c19
    try clear c20
    try clear c22
    try clear c24
    try clear c25
    try clear c27
    try clear hcz11_0
    try clear hcz11_1
    try clear hcz11_2
    try clear hcz11_3
    try clear hcz12_0
    try clear hcz12_1
    try clear hcz12_2
    try clear hcz12_3
    try clear hcz17_0
    try clear hcz17_1
    try clear hcz17_2
    try clear hcz17_3
    try clear hcz21_0
    try clear hcz21_1
    try clear hcz21_2
    try clear hcz21_3
    try clear hcz23_0
    try clear hcz23_1
    try clear hcz23_2
    try clear hcz23_3
    try clear hcz26_0
    try clear hcz26_1
    try clear hcz26_2
    try clear hcz26_3
    try clear hcz28_0
    try clear hcz28_1
    try clear hcz28_2
    try clear hcz28_3
    try clear hcz7_0
    try clear hcz7_1
    try clear hcz7_2
    try clear hcz7_3
    try clear hfz11_0
    try clear hfz11_1
    try clear hfz11_2
    try clear hfz11_3
    try clear hfz12_0
    try clear hfz12_1
    try clear hfz12_2
    try clear hfz12_3
    try clear hfz17_0
    try clear hfz17_1
    try clear hfz17_2
    try clear hfz17_3
    try clear hfz21_0
    try clear hfz21_1
    try clear hfz21_2
    try clear hfz21_3
    try clear hfz23_0
    try clear hfz23_1
    try clear hfz23_2
    try clear hfz23_3
    try clear hfz26_0
    try clear hfz26_1
    try clear hfz26_2
    try clear hfz26_3
    try clear hfz28_0
    try clear hfz28_1
    try clear hfz28_2
    try clear hfz28_3
    try clear hfz7_0
    try clear hfz7_1
    try clear hfz7_2
    try clear hfz7_3
    obtain ⟨kq, x32_4, rfl, HA, HJ4, BK792, BK798, BK804, HB⟩ := hcut
    cases kq with
    | zero => exact absurd HA.out (by simp [bocagelaw03_SpanShifts.j0])
    | succ kj4 =>
      have H := HA.out
      clear HA
      simp only [bocagelaw03_SpanShifts.j0] at H
      by_cases c29 : x32_4 = true
      · subst c29
        have H1 : (some false) = some r := by rw [if_pos rfl] at H; exact H
        exact absurd ((Option.some.inj H1).trans HRT.out) Bool.false_ne_true
      · replace c29 := Bool.eq_false_iff.mpr c29
        subst c29
        have H1 : (if t797 = true then (if a0_0 = 0 then (bocagelaw03_SpanShifts.j1 kj4 (a0_2 != 0) a0_0 a0_1 a0_2 a0_3 t793 t794 t795 t796) else (bocagelaw03_SpanShifts.j1 kj4 true a0_0 a0_1 a0_2 a0_3 t793 t794 t795 t796)) else (bocagelaw03_SpanShifts.j1 kj4 true a0_0 a0_1 a0_2 a0_3 t793 t794 t795 t796)) = some r := by rw [if_neg (show ¬ (false = true) by decide)] at H; exact H
        clear H
        have H := H1
        clear H1
        have HC30 := Aside0.mk H
        clear H
        go_upto_region 5 with (fail)
        go_cut [46] (fun v46 wc => ∃ (kq : Nat) (x46_29 : Bool), v46 = .bool x46_29 ∧ Aside0 (bocagelaw03_SpanShifts.j1 kq x46_29 a0_0 a0_1 a0_2 a0_3 t793 t794 t795 t796 = some r) ∧ Aside0 (kq ≤ kj4) ∧ Aside0 (wc.heap[gb792]? = some (.cells #[.int .i64 a0_0, .int .i64 a0_1, .int .i64 a0_2, .int .i64 a0_3] 25 (0, 0))) ∧ Aside0 (wc.heap[gb798]? = some (.cells #[.int .i64 t793, .int .i64 t794, .int .i64 t795, .int .i64 t796] 25 (0, 0))) ∧ Aside0 (wc.heap[gb804]? = some (.cells #[.int .i64 t799, .int .i64 t800, .int .i64 t801, .int .i64 t802] 25 (0, 0))) ∧ Aside0 (Below w.heap.size w wc))
        case first =>
          have H := HC30.out
          clear HC30
          by_cases c31 : t797 = true
          · subst c31
            have H1 : (if a0_0 = 0 then (bocagelaw03_SpanShifts.j1 kj4 (a0_2 != 0) a0_0 a0_1 a0_2 a0_3 t793 t794 t795 t796) else (bocagelaw03_SpanShifts.j1 kj4 true a0_0 a0_1 a0_2 a0_3 t793 t794 t795 t796)) = some r := by rw [if_pos rfl] at H; exact H
            clear H
            have H := H1
            clear H1
            by_cases c32 : a0_0 = 0
            · rw [if_pos c32] at H
              have c32b0 : (a0_0 == 0) = true := beq_iff_eq.mpr c32
              have c32b1 : (a0_0 != 0) = false := bne_eq_false_iff_eq.mpr c32
              clear c32
              (first | rw [c32b0] | (simp only [i64_w, i32_w]; rw [c32b0]) | skip)
              have H' := Aside0.mk H
              clear H
              have hnb33 := NB792_798.out
              have hnc33 := NB798_792.out
              have hnb34 := NB792_804.out
              have hnc34 := NB804_792.out
              have hcz35_0 : wc.cell? ⟨gb792, 0, none⟩ = some (.int .i64 a0_0) := (blk_cell BK792.out 0).trans rfl
              have hcz35_1 : wc.cell? ⟨gb792, 1, none⟩ = some (.int .i64 a0_1) := (blk_cell BK792.out 1).trans rfl
              have hcz35_2 : wc.cell? ⟨gb792, 2, none⟩ = some (.int .i64 a0_2) := (blk_cell BK792.out 2).trans rfl
              have hcz35_3 : wc.cell? ⟨gb792, 3, none⟩ = some (.int .i64 a0_3) := (blk_cell BK792.out 3).trans rfl
              have hfz35_0 := blk_frozen BK792.out 0
              have hfz35_1 := blk_frozen BK792.out 1
              have hfz35_2 := blk_frozen BK792.out 2
              have hfz35_3 := blk_frozen BK792.out 3
              go_wp2
              go_meet
              case rel => exact ⟨_, ((a0_2 != 0)), (by first | rfl | (simp; done) | (simp [*]; done)), H', ⟨by have := HJ4.out; first | omega | exact Nat.le_refl _⟩, ⟨bk BK792⟩, ⟨bk BK798⟩, ⟨bk BK804⟩, ⟨bl HB⟩⟩
            · rw [if_neg c32] at H
              have c32b0 : (a0_0 == 0) = false := beq_eq_false_iff_ne.mpr c32
              have c32b1 : (a0_0 != 0) = true := bne_iff_ne.mpr c32
              (first | rw [c32b0] | (simp only [i64_w, i32_w]; rw [c32b0]) | skip)
              have H' := Aside0.mk H
              clear H
              have hnb36 := NB792_798.out
              have hnc36 := NB798_792.out
              have hnb37 := NB792_804.out
              have hnc37 := NB804_792.out
              have hcz38_0 : wc.cell? ⟨gb792, 0, none⟩ = some (.int .i64 a0_0) := (blk_cell BK792.out 0).trans rfl
              have hcz38_1 : wc.cell? ⟨gb792, 1, none⟩ = some (.int .i64 a0_1) := (blk_cell BK792.out 1).trans rfl
              have hcz38_2 : wc.cell? ⟨gb792, 2, none⟩ = some (.int .i64 a0_2) := (blk_cell BK792.out 2).trans rfl
              have hcz38_3 : wc.cell? ⟨gb792, 3, none⟩ = some (.int .i64 a0_3) := (blk_cell BK792.out 3).trans rfl
              have hfz38_0 := blk_frozen BK792.out 0
              have hfz38_1 := blk_frozen BK792.out 1
              have hfz38_2 := blk_frozen BK792.out 2
              have hfz38_3 := blk_frozen BK792.out 3
              go_wp2
              go_meet
              case rel => exact ⟨_, (true), (by first | rfl | (simp; done) | (simp [*]; done)), H', ⟨by have := HJ4.out; first | omega | exact Nat.le_refl _⟩, ⟨bk BK792⟩, ⟨bk BK798⟩, ⟨bk BK804⟩, ⟨bl HB⟩⟩
          · replace c31 := Bool.eq_false_iff.mpr c31
            subst c31
            have H1 : (bocagelaw03_SpanShifts.j1 kj4 true a0_0 a0_1 a0_2 a0_3 t793 t794 t795 t796) = some r := by rw [if_neg (show ¬ (false = true) by decide)] at H; exact H
            clear H
            have H := H1
            clear H1
            have H' := Aside0.mk H
            clear H
            go_wp2
            go_meet
            case rel => exact ⟨_, (true), (by first | rfl | (simp; done) | (simp [*]; done)), H', ⟨by have := HJ4.out; first | omega | exact Nat.le_refl _⟩, ⟨bk BK792⟩, ⟨bk BK798⟩, ⟨bk BK804⟩, ⟨bl HB⟩⟩
        case rest =>
          clear HC30
          try clear c1
          try clear c2
          try clear p2
          try clear c3
          try clear c4
          try clear c8
          try clear c10
          try clear c15
          try clear c16
          try clear c18
          try clear c18b0
          try clear c19
          try clear c20
          try clear c22
          try clear c24
          try clear c25
          try clear c27
          try clear c29
          try clear c31
          try clear c32
          try clear c32b0
          try clear c32b1
          try clear c33
          try clear c34
          try clear c36
          try clear c37
          try clear hcz11_0
          try clear hcz11_1
          try clear hcz11_2
          try clear hcz11_3
          try clear hcz12_0
          try clear hcz12_1
          try clear hcz12_2
          try clear hcz12_3
          try clear hcz17_0
          try clear hcz17_1
          try clear hcz17_2
          try clear hcz17_3
          try clear hcz21_0
          try clear hcz21_1
          try clear hcz21_2
          try clear hcz21_3
          try clear hcz23_0
          try clear hcz23_1
          try clear hcz23_2
          try clear hcz23_3
          try clear hcz26_0
          try clear hcz26_1
          try clear hcz26_2
          try clear hcz26_3
          try clear hcz28_0
          try clear hcz28_1
          try clear hcz28_2
          try clear hcz28_3
          try clear hcz35_0
          try clear hcz35_1
          try clear hcz35_2
          try clear hcz35_3
          try clear hcz38_0
          try clear hcz38_1
          try clear hcz38_2
          try clear hcz38_3
          try clear hcz7_0
          try clear hcz7_1
          try clear hcz7_2
          try clear hcz7_3
          try clear hfz11_0
          try clear hfz11_1
          try clear hfz11_2
          try clear hfz11_3
          try clear hfz12_0
          try clear hfz12_1
          try clear hfz12_2
          try clear hfz12_3
          try clear hfz17_0
          try clear hfz17_1
          try clear hfz17_2
          try clear hfz17_3
          try clear hfz21_0
          try clear hfz21_1
          try clear hfz21_2
          try clear hfz21_3
          try clear hfz23_0
          try clear hfz23_1
          try clear hfz23_2
          try clear hfz23_3
          try clear hfz26_0
          try clear hfz26_1
          try clear hfz26_2
          try clear hfz26_3
          try clear hfz28_0
          try clear hfz28_1
          try clear hfz28_2
          try clear hfz28_3
          try clear hfz35_0
          try clear hfz35_1
          try clear hfz35_2
          try clear hfz35_3
          try clear hfz38_0
          try clear hfz38_1
          try clear hfz38_2
          try clear hfz38_3
          try clear hfz7_0
          try clear hfz7_1
          try clear hfz7_2
          try clear hfz7_3
          try clear p2
          obtain ⟨kq, x46_29, rfl, HA, HJ29, BK792, BK798, BK804, HB⟩ := hcut
          cases kq with
          | zero => exact absurd HA.out (by simp [bocagelaw03_SpanShifts.j1])
          | succ kj29 =>
            have H := HA.out
            clear HA
            simp only [bocagelaw03_SpanShifts.j1] at H
            by_cases c39 : x46_29 = true
            · subst c39
              have H1 : ((bocagelaw03_alive.f kj29).bind fun t805 => (some t805)) = some r := by rw [if_pos rfl] at H; exact H
              clear H
              have H := H1
              clear H1
              replace H := Option.bind_eq_some_iff.mp H
              obtain ⟨t805, A400, H⟩ := H
              (try (set_option simprocs false in dsimp only at H))
              have A40 := Aside0.mk A400
              clear A400
              obtain rfl := Option.some.inj H
              go_wp2_with (first | ((with_reducible refine gate_callee (f := 18) rfl ?_); refine gol (some 47) Try.func18 #[] ?_; (with_reducible refine (bocagelaw03_alive.calls kj29  t805 _ A40.out HRT.out).mono ?_); rintro e w41 ⟨rfl, hb⟩; refine ⟨_, rfl, ?_⟩; replace BK792 := bkb BK792 hb; replace BK798 := bkb BK798 hb; replace BK804 := bkb BK804 hb; replace HB := bst HB hb; (try clear hb); (try clear hb2); (try clear hk); (try clear hi)))
              go_ret
              exact endB HB
            · replace c39 := Bool.eq_false_iff.mpr c39
              subst c39
              have H1 : ((span_Count.f kj29 a0_0 a0_1 a0_2 a0_3).bind fun bt806 => ((span_Count.f kj29 t793 t794 t795 t796).bind fun bt808 => ((bocagelaw03_alive.f kj29).bind fun t810 => (if t810 = true then (if bt806.1 = bt808.1 then ((span_Right.f kj29 t793 t794 t795 t796).bind fun t811 => (some t811)) else (some false)) else (some false))))) = some r := by rw [if_neg (show ¬ (false = true) by decide)] at H; exact H
              clear H
              have H := H1
              clear H1
              replace H := Option.bind_eq_some_iff.mp H
              obtain ⟨⟨t806, t807⟩, A420, H⟩ := H
              (try (set_option simprocs false in dsimp only at H))
              have A42 := Aside0.mk A420
              clear A420
              replace H := Option.bind_eq_some_iff.mp H
              obtain ⟨⟨t808, t809⟩, A430, H⟩ := H
              (try (set_option simprocs false in dsimp only at H))
              have A43 := Aside0.mk A430
              clear A430
              replace H := Option.bind_eq_some_iff.mp H
              obtain ⟨t810, A440, H⟩ := H
              (try (set_option simprocs false in dsimp only at H))
              have A44 := Aside0.mk A440
              clear A440
              by_cases c45 : t810 = true
              · subst c45
                have H1 : (if t806 = t808 then ((span_Right.f kj29 t793 t794 t795 t796).bind fun t811 => (some t811)) else (some false)) = some r := by rw [if_pos rfl] at H; exact H
                clear H
                have H := H1
                clear H1
                by_cases c46 : t806 = t808
                · rw [if_pos c46] at H
                  have c46b0 : (t806 == t808) = true := beq_iff_eq.mpr c46
                  have c46b1 : (t806 != t808) = false := bne_eq_false_iff_eq.mpr c46
                  clear c46
                  replace H := Option.bind_eq_some_iff.mp H
                  obtain ⟨t811, A470, H⟩ := H
                  (try (set_option simprocs false in dsimp only at H))
                  have A47 := Aside0.mk A470
                  clear A470
                  obtain rfl := Option.some.inj H
                  have hnb48 := NB792_798.out
                  have hnc48 := NB798_792.out
                  have hnb49 := NB792_804.out
                  have hnc49 := NB804_792.out
                  have hcz50_0 : wc.cell? ⟨gb792, 0, none⟩ = some (.int .i64 a0_0) := (blk_cell BK792.out 0).trans rfl
                  have hcz50_1 : wc.cell? ⟨gb792, 1, none⟩ = some (.int .i64 a0_1) := (blk_cell BK792.out 1).trans rfl
                  have hcz50_2 : wc.cell? ⟨gb792, 2, none⟩ = some (.int .i64 a0_2) := (blk_cell BK792.out 2).trans rfl
                  have hcz50_3 : wc.cell? ⟨gb792, 3, none⟩ = some (.int .i64 a0_3) := (blk_cell BK792.out 3).trans rfl
                  have hfz50_0 := blk_frozen BK792.out 0
                  have hfz50_1 := blk_frozen BK792.out 1
                  have hfz50_2 := blk_frozen BK792.out 2
                  have hfz50_3 := blk_frozen BK792.out 3
                  go_wp2_with (first | ((with_reducible refine gate_callee (f := 26) rfl ?_); refine gol (some 50) Try.func26 #[.agg #[.int .i64 a0_0, .int .i64 a0_1, .int .i64 a0_2, .int .i64 a0_3]] ?_; (with_reducible refine (span_Count.calls kj29 a0_0 a0_1 a0_2 a0_3 t806 t807 _ A42.out).mono ?_); rintro e w51 ⟨rfl, hb⟩; refine ⟨_, rfl, ?_⟩; replace BK792 := bkb BK792 hb; replace BK798 := bkb BK798 hb; replace BK804 := bkb BK804 hb; replace HB := bst HB hb; (try clear hb); (try clear hb2); (try clear hk); (try clear hi); have hnb52 := NB798_804.out; have hnc52 := NB804_798.out; obtain ⟨hcz53_0, hcz53_1, hcz53_2, hcz53_3⟩ := e4 BK798; obtain ⟨hfz53_0, hfz53_1, hfz53_2, hfz53_3⟩ := f4 BK798) | ((with_reducible refine gate_callee (f := 26) rfl ?_); refine gol (some 55) Try.func26 #[.agg #[.int .i64 t793, .int .i64 t794, .int .i64 t795, .int .i64 t796]] ?_; (with_reducible refine (span_Count.calls kj29 t793 t794 t795 t796 t808 t809 _ A43.out).mono ?_); rintro e w54 ⟨rfl, hb⟩; refine ⟨_, rfl, ?_⟩; replace BK792 := bkb BK792 hb; replace BK798 := bkb BK798 hb; replace BK804 := bkb BK804 hb; replace HB := bst HB hb; (try clear hb); (try clear hb2); (try clear hk); (try clear hi)) | ((with_reducible refine gate_callee (f := 18) rfl ?_); refine gol (some 58) Try.func18 #[] ?_; (with_reducible refine (bocagelaw03_alive.calls kj29  true _ A44.out rfl).mono ?_); rintro e w55 ⟨rfl, hb⟩; refine ⟨_, rfl, ?_⟩; replace BK792 := bkb BK792 hb; replace BK798 := bkb BK798 hb; replace BK804 := bkb BK804 hb; replace HB := bst HB hb; (try clear hb); (try clear hb2); (try clear hk); (try clear hi); obtain ⟨hcz56_0, hcz56_1, hcz56_2, hcz56_3⟩ := e4 BK798; obtain ⟨hfz56_0, hfz56_1, hfz56_2, hfz56_3⟩ := f4 BK798) | (go_at_call 28; (with_reducible refine (span_Right.calls kj29 t793 t794 t795 t796 t811 _ A47.out).mono ?_); rintro e w57 ⟨rfl, hb⟩; replace BK792 := bkb BK792 hb; replace BK798 := bkb BK798 hb; replace BK804 := bkb BK804 hb; replace HB := bst HB hb; (try clear hb); (try clear hb2); (try clear hk); (try clear hi)))
                  go_ret
                  exact endB HB
                · rw [if_neg c46] at H
                  exact absurd ((Option.some.inj H).trans HRT.out) Bool.false_ne_true
              · replace c45 := Bool.eq_false_iff.mpr c45
                subst c45
                have H1 : (some false) = some r := by rw [if_neg (show ¬ (false = true) by decide)] at H; exact H
                exact absurd ((Option.some.inj H1).trans HRT.out) Bool.false_ne_true
end
end Go.Proofs.Ytkkbmjfhpngalaa.Print
