-- Laid by wip/print/bprint.py of this repo, over the kit's printer, with functions given by hand; not trusted: Lean checks it.
import Derived.Test.YtcgpgbhhlepefaaPrint0
namespace Go.Proofs.Ytcgpgbhhlepefaa.Print
open Go.RowKit Go.Proofs.YtcgpgbhhlepefaaW.PrintWords Go.Proofs.YtcgpgbhhlepefaaW.PrintLast Go.Proofs.YtcgpgbhhlepefaaW.PrintMore
attribute [local go_sem] max2_int min2_int max_two min_two max_three min_three max_four min_four   -- for this text's walks alone
set_option linter.unusedVariables false
set_option linter.unusedSimpArgs false

/-! ### bocageref01_Of: function 10 -/
mutual
def bocageref01_Of.j0 : Nat → Int → Int → Option (Int × List Int)
  | 0, _, _ => none
  | k + 1, x0, x103000 => bocageref01_Of.l0 k x0 x103000 ([] : List Int)
def bocageref01_Of.l0 : Nat → Int → Int → List Int → Option (Int × List Int)
  | 0, _, _, _ => none
  | k + 1, x0, x103000, x103001 => if x0 = 0 then (if (x103001.length : Int) = 0 then (some (0, x103001)) else (some (x103000, x103001))) else (if (Int.tmod x0 10) < 0 then (if x103001.length < 17592186044416 then (bocageref01_Of.l0 k (wrap64 (Int.tdiv x0 10)) x103000 (x103001 ++ [wrap64 (-(Int.tmod x0 10))])) else (none)) else (if x103001.length < 17592186044416 then (bocageref01_Of.l0 k (wrap64 (Int.tdiv x0 10)) x103000 (x103001 ++ [Int.tmod x0 10])) else (none)))
end
def bocageref01_Of.f (k : Nat) (a0 : Int) : Option (Int × List Int) := if a0 < 0 then (bocageref01_Of.j0 k a0 (-1)) else (bocageref01_Of.j0 k a0 1)
theorem bocageref01_Of.mono_l : ∀ k, (∀ y0 y1, LeO (bocageref01_Of.j0 k y0 y1) (bocageref01_Of.j0 (k + 1) y0 y1)) ∧ (∀ y0 y1 y2, LeO (bocageref01_Of.l0 k y0 y1 y2) (bocageref01_Of.l0 (k + 1) y0 y1 y2))
  | 0 => ⟨fun _ _ r h => by simp [bocageref01_Of.j0] at h, fun _ _ _ r h => by simp [bocageref01_Of.l0] at h⟩
  | k + 1 => by
    obtain ⟨ih0, ih1⟩ := bocageref01_Of.mono_l k
    refine ⟨?_, ?_⟩
    · intro y0 y1
      unfold bocageref01_Of.j0
      repeat' first
      | (with_reducible exact ih0 _ _)
      | (with_reducible exact ih1 _ _ _)
      | (with_reducible exact LeO.refl _)
      | (with_reducible exact LeO.none _)
      | (with_reducible refine LeO.ite ?_ ?_)
      | (with_reducible refine LeO.bind ?_ (fun _ => ?_))
      | exact ih0 _ _
      | exact ih1 _ _ _
      | exact LeO.none _
      | refine LeO.ite ?_ ?_
      | refine LeO.bind ?_ (fun _ => ?_)
    · intro y0 y1 y2
      unfold bocageref01_Of.l0
      repeat' first
      | (with_reducible exact ih0 _ _)
      | (with_reducible exact ih1 _ _ _)
      | (with_reducible exact LeO.refl _)
      | (with_reducible exact LeO.none _)
      | (with_reducible refine LeO.ite ?_ ?_)
      | (with_reducible refine LeO.bind ?_ (fun _ => ?_))
      | exact ih0 _ _
      | exact ih1 _ _ _
      | exact LeO.none _
      | refine LeO.ite ?_ ?_
      | refine LeO.bind ?_ (fun _ => ?_)
theorem bocageref01_Of.mono : ∀ a0 k, LeO (bocageref01_Of.f k a0) (bocageref01_Of.f (k + 1) a0) := by
  intro a0 k
  obtain ⟨ih0, ih1⟩ := bocageref01_Of.mono_l k
  unfold bocageref01_Of.f
  repeat' first
      | (with_reducible exact ih0 _ _)
      | (with_reducible exact ih1 _ _ _)
      | (with_reducible exact LeO.refl _)
      | (with_reducible exact LeO.none _)
      | (with_reducible refine LeO.ite ?_ ?_)
      | (with_reducible refine LeO.bind ?_ (fun _ => ?_))
      | exact ih0 _ _
      | exact ih1 _ _ _
      | exact LeO.none _
      | refine LeO.ite ?_ ?_
      | refine LeO.bind ?_ (fun _ => ?_)
set_option maxHeartbeats 8000000 in
set_option maxRecDepth 100000 in
theorem bocageref01_Of.calls (k : Nat) (a0 : Int) (r1 : Int) (r2 : List Int) (w : World) (h : bocageref01_Of.f k a0 = some (r1, r2)) :
    Calls Try.prog 10 #[.int .i64 a0] w fun e w' => ∃ v1_ : Value, e = .returned (.agg #[.int .i64 r1, v1_]) ∧ Kd.R (Kd.int .i64) 3 w' w.heap.size (fun _ => True) v1_ r2 ∧ Below w.heap.size w w' := by
  have hu24 := Try.underlying24
  have HB := Aside0.mk (Below.refl w.heap.size w)
  have H : (if a0 < 0 then (bocageref01_Of.j0 k a0 (-1)) else (bocageref01_Of.j0 k a0 1)) = some (r1, r2) := h
  clear h
  have HC2 := Aside0.mk H
  clear H
  go_enter Try.func10, Try.ntmps10
  go_upto_if 7 with (first | ((with_reducible refine gate_dst (N := 2) rfl ?_); refine box_event ?hg (N := 2) ?hd (cs := #[.int .i64 0, .slice none 0 0]) (t := 24) ?hr ?_; (case hd => rfl); (case hg => rfl); (case hr => first | (go_simp; done) | (go_simp; rfl)); intro gb101 hg w3 hbox hb; have n0_ := Aside0.mk (below_step (by repeat (first | (with_reducible first | exact HB.out | apply below_alloc | apply pw_below_drewN | apply below_drew1) | exact HB.out)) hb); have n1_ := Aside0.mk (hbox); have n2_ := Aside0.mk ((by rw [hg]; exact (below_size (by repeat (first | (with_reducible first | exact HB.out | apply below_alloc | apply pw_below_drewN | apply below_drew1) | exact HB.out))) : w.heap.size ≤ gb101)); have n3_ := Aside0.mk ((by rw [hg]; exact (below_size (by repeat (first | (with_reducible first | exact HB.out | apply below_alloc | apply pw_below_drewN | apply below_drew1) | exact HB.out))) : w.heap.size ≤ gb101)); clear HB; have HB := n0_; have BK101 := n1_; have GW101 := n2_; have GE101 := n3_; clear n0_ n1_ n2_ n3_; clear hb hbox hg) | ((with_reducible refine gate_dst (N := 3) rfl ?_); refine box_event ?hg (N := 3) ?hd (cs := #[.int .i64 0, .slice none 0 0]) (t := 24) ?hr ?_; (case hd => rfl); (case hg => rfl); (case hr => first | (go_simp; done) | (go_simp; rfl)); intro gb102 hg w4 hbox hb; have n0_ := Aside0.mk (blk_below (g := gb101) (o := .cells #[.int .i64 0, .slice none 0 0] 24 (0, 0)) (by (with_reducible repeat (first | refine blk_drewN ?_ _ | refine blk_drew ?_ | refine blk_alloc ?_ _)); exact BK101.out) hb); have n1_ := Aside0.mk (below_step (by repeat (first | (with_reducible first | exact HB.out | apply below_alloc | apply pw_below_drewN | apply below_drew1 | refine below_set ?_ GE101.out) | exact HB.out)) hb); have n2_ := Aside0.mk (hbox); have n3_ := Aside0.mk ((by rw [hg]; exact (below_size (by repeat (first | (with_reducible first | exact HB.out | apply below_alloc | apply pw_below_drewN | apply below_drew1 | refine below_set ?_ GE101.out) | exact HB.out))) : w.heap.size ≤ gb102)); have n4_ := Aside0.mk ((by rw [hg]; exact (below_size (by repeat (first | (with_reducible first | exact HB.out | apply below_alloc | apply pw_below_drewN | apply below_drew1 | refine below_set ?_ GE101.out) | exact HB.out))) : w.heap.size ≤ gb102)); have n5_ := Aside0.mk ((by rw [hg]; exact Nat.ne_of_lt (blk_lt (g := gb101) (o := .cells #[.int .i64 0, .slice none 0 0] 24 (0, 0)) (by (with_reducible repeat (first | refine blk_drewN ?_ _ | refine blk_drew ?_ | refine blk_alloc ?_ _)); exact BK101.out)) : gb101 ≠ gb102)); have n6_ := Aside0.mk ((by rw [hg]; exact Nat.ne_of_gt (blk_lt (g := gb101) (o := .cells #[.int .i64 0, .slice none 0 0] 24 (0, 0)) (by (with_reducible repeat (first | refine blk_drewN ?_ _ | refine blk_drew ?_ | refine blk_alloc ?_ _)); exact BK101.out)) : gb102 ≠ gb101)); clear BK101; clear HB; have BK101 := n0_; have HB := n1_; have BK102 := n2_; have GW102 := n3_; have GE102 := n4_; have NB101_102 := n5_; have NB102_101 := n6_; clear n0_ n1_ n2_ n3_ n4_ n5_ n6_; clear hb hbox hg; have hnb5 := NB102_101.out; have hnc5 := NB101_102.out; have hcz6_0 : w4.cell? ⟨gb102, 0, none⟩ = some (.int .i64 0) := (blk_cell BK102.out 0).trans rfl; have hcz6_1 : w4.cell? ⟨gb102, 1, none⟩ = some (.slice none 0 0) := (blk_cell BK102.out 1).trans rfl; have hfz6_0 := blk_frozen BK102.out 0; have hfz6_1 := blk_frozen BK102.out 1))
  (try simp only [Act.put, List.setIfInBounds_toArray, List.set_cons_zero, List.set_cons_succ])
  go_cut [] (fun wc => ∃ (kq : Nat) (x103000_1 : Int), Aside0 (bocageref01_Of.j0 kq a0 x103000_1 = some (r1, r2)) ∧ Aside0 (kq ≤ k) ∧ Aside0 (wc.heap[gb101]? = some (.cells #[.int .i64 0, (.slice none 0 0)] 24 (0, 0))) ∧ Aside0 (wc.heap[gb102]? = some (.cells #[.int .i64 x103000_1, (.slice none 0 0)] 24 (0, 0))) ∧ Aside0 (Below w.heap.size w wc))
  case first =>
    have H := HC2.out
    clear HC2
    by_cases c7 : a0 < 0
    · rw [if_pos c7] at H
      have c7b0 : decide (a0 < 0) = true := decide_eq_true c7
      clear c7
      (first | rw [c7b0] | (simp only [i64_w, i32_w]; rw [c7b0]) | skip)
      have H' := Aside0.mk H
      clear H
      have hnb8 := NB102_101.out
      have hnc8 := NB101_102.out
      have hcz9_0 : w4.cell? ⟨gb102, 0, none⟩ = some (.int .i64 0) := (blk_cell BK102.out 0).trans rfl
      have hcz9_1 : w4.cell? ⟨gb102, 1, none⟩ = some (.slice none 0 0) := (blk_cell BK102.out 1).trans rfl
      have hfz9_0 := blk_frozen BK102.out 0
      have hfz9_1 := blk_frozen BK102.out 1
      go_wp2
      go_meet
      case rel => exact ⟨_, ((-1)), H', ⟨by first | omega | exact Nat.le_refl _⟩, ⟨by (with_reducible repeat (first | refine blk_drewN ?_ _ | refine blk_drew ?_ | refine blk_alloc ?_ _)); refine blk_far ?_ NB101_102.out _; (with_reducible repeat (first | refine blk_drewN ?_ _ | refine blk_drew ?_ | refine blk_alloc ?_ _)); refine blk_far ?_ NB101_102.out _; (with_reducible repeat (first | refine blk_drewN ?_ _ | refine blk_drew ?_ | refine blk_alloc ?_ _)); exact BK101.out⟩, ⟨by (with_reducible repeat (first | refine blk_drewN ?_ _ | refine blk_drew ?_ | refine blk_alloc ?_ _)); refine blk_put (cs := #[.int .i64 1, .slice none 0 0]) ?_ 0 _ rfl; (with_reducible repeat (first | refine blk_drewN ?_ _ | refine blk_drew ?_ | refine blk_alloc ?_ _)); refine blk_put (cs := #[.int .i64 0, .slice none 0 0]) ?_ 0 _ rfl; (with_reducible repeat (first | refine blk_drewN ?_ _ | refine blk_drew ?_ | refine blk_alloc ?_ _)); exact BK102.out⟩, ⟨by repeat (first | (with_reducible first | exact HB.out | apply below_alloc | apply pw_below_drewN | apply below_drew1 | refine below_set ?_ GE101.out | refine below_set ?_ GE102.out) | exact HB.out)⟩⟩
    · rw [if_neg c7] at H
      have c7b0 : decide (a0 < 0) = false := decide_eq_false c7
      clear c7
      (first | rw [c7b0] | (simp only [i64_w, i32_w]; rw [c7b0]) | skip)
      have H' := Aside0.mk H
      clear H
      go_wp2
      go_meet
      case rel => exact ⟨_, (1), H', ⟨by first | omega | exact Nat.le_refl _⟩, ⟨by (with_reducible repeat (first | refine blk_drewN ?_ _ | refine blk_drew ?_ | refine blk_alloc ?_ _)); refine blk_far ?_ NB101_102.out _; (with_reducible repeat (first | refine blk_drewN ?_ _ | refine blk_drew ?_ | refine blk_alloc ?_ _)); exact BK101.out⟩, ⟨by (with_reducible repeat (first | refine blk_drewN ?_ _ | refine blk_drew ?_ | refine blk_alloc ?_ _)); refine blk_put (cs := #[.int .i64 0, .slice none 0 0]) ?_ 0 _ rfl; (with_reducible repeat (first | refine blk_drewN ?_ _ | refine blk_drew ?_ | refine blk_alloc ?_ _)); exact BK102.out⟩, ⟨by repeat (first | (with_reducible first | exact HB.out | apply below_alloc | apply pw_below_drewN | apply below_drew1 | refine below_set ?_ GE101.out | refine below_set ?_ GE102.out) | exact HB.out)⟩⟩
  case rest =>
    clear HC2
    try clear c1
    try clear p2
    try clear c5
    try clear c7
    try clear c7b0
    try clear c8
    try clear hcz6_0
    try clear hcz6_1
    try clear hcz9_0
    try clear hcz9_1
    try clear hfz6_0
    try clear hfz6_1
    try clear hfz9_0
    try clear hfz9_1
    obtain ⟨kq, x103000_1, HA, HJ1, BK101, BK102, HB⟩ := hcut
    cases kq with
    | zero => exact absurd HA.out (by simp [bocageref01_Of.j0])
    | succ kj1 =>
      have H := HA.out
      clear HA
      simp only [bocageref01_Of.j0] at H
      have H' := Aside0.mk H
      clear H
      go_wp2
      go_loopg [0] kj1 (fun kq v0 w' => ∃ (x0_2 : Int) (x103001_2 : List Int) (u103001 : Value), v0 = .int .i64 x0_2 ∧ Aside0 (bocageref01_Of.l0 kq x0_2 x103000_1 x103001_2 = some (r1, r2)) ∧ Aside0 (kq ≤ kj1) ∧ Aside0 (Kd.R (Kd.int .i64) 3 w' w.heap.size (fun _ => True) u103001 x103001_2) ∧ Aside0 (w'.heap[gb101]? = some (.cells #[.int .i64 0, (.slice none 0 0)] 24 (0, 0))) ∧ Aside0 (w'.heap[gb102]? = some (.cells #[.int .i64 x103000_1, u103001] 24 (0, 0))) ∧ Aside0 (Below w.heap.size w w'))
      case atStart => exact ⟨(a0), (([] : List Int)), (.slice none 0 0), (by first | rfl | (simp; done) | (simp [*]; done)), H', ⟨Nat.le_refl _⟩, ⟨by first | exact Kd.R_nil _ _ _ _ _ | exact Kd.N_nil _ _ _ _ _ | exact Kd.V_nil _ _ _ _ _ | exact Kd.Q_nil _ _ _ _ _ | exact Kd.S_nil _ _ _ _ _⟩, ⟨by (with_reducible repeat (first | refine blk_drewN ?_ _ | refine blk_drew ?_ | refine blk_alloc ?_ _)); exact BK101.out⟩, ⟨by (with_reducible repeat (first | refine blk_drewN ?_ _ | refine blk_drew ?_ | refine blk_alloc ?_ _)); exact BK102.out⟩, ⟨by repeat (first | (with_reducible first | exact HB.out | apply below_alloc | apply pw_below_drewN | apply below_drew1 | refine below_set ?_ GE101.out | refine below_set ?_ GE102.out) | exact HB.out)⟩⟩
      case round =>
        clear H'
        try clear c1
        try clear p2
        try clear c5
        try clear c7
        try clear c7b0
        try clear c8
        try clear hcz6_0
        try clear hcz6_1
        try clear hcz9_0
        try clear hcz9_1
        try clear hfz6_0
        try clear hfz6_1
        try clear hfz9_0
        try clear hfz9_1
        try clear p2
        obtain ⟨x0_2, x103001_2, u103001, rfl, HA, HK2, HO_103001, BK101, BK102, HB⟩ := hrel
        cases gk with
        | zero => exact absurd HA.out (by simp [bocageref01_Of.l0])
        | succ k2 =>
          have H := HA.out
          clear HA
          simp only [bocageref01_Of.l0] at H
          by_cases c10 : x0_2 = 0
          · rw [if_pos c10] at H
            have c10b0 : (x0_2 == 0) = true := beq_iff_eq.mpr c10
            have c10b1 : (x0_2 != 0) = false := bne_eq_false_iff_eq.mpr c10
            clear c10
            by_cases c11 : (x103001_2.length : Int) = 0
            · rw [if_pos c11] at H
              have c11b0 : ((x103001_2.length : Int) == 0) = true := beq_iff_eq.mpr c11
              have c11b1 : ((x103001_2.length : Int) != 0) = false := bne_eq_false_iff_eq.mpr c11
              clear c11
              simp only [Option.some.injEq, Prod.mk.injEq] at H
              obtain ⟨rfl, rfl⟩ := H
              have hnb12 := NB102_101.out
              have hnc12 := NB101_102.out
              have hcz13_0 : wr.cell? ⟨gb102, 0, none⟩ = some (.int .i64 x103000_1) := (blk_cell BK102.out 0).trans rfl
              have hcz13_1 : wr.cell? ⟨gb102, 1, none⟩ = some (u103001) := (blk_cell BK102.out 1).trans rfl
              have hfz13_0 := blk_frozen BK102.out 0
              have hfz13_1 := blk_frozen BK102.out 1
              obtain ⟨Ao14, co14, eo14⟩ := Kd.R_slice HO_103001.out
              subst eo14
              have hcz15_0 : wr.cell? ⟨gb101, 0, none⟩ = some (.int .i64 0) := (blk_cell BK101.out 0).trans rfl
              have hcz15_1 : wr.cell? ⟨gb101, 1, none⟩ = some (.slice none 0 0) := (blk_cell BK101.out 1).trans rfl
              have hfz15_0 := blk_frozen BK101.out 0
              have hfz15_1 := blk_frozen BK101.out 1
              go_wp2
              refine bodyPost_ret (results_cell_row rfl _ _ gb101 24 #[.int .i64 0, .slice Ao14 x103001_2.length co14] (0, 0) _ rfl (by (with_reducible repeat (first | refine blk_drewN ?_ _ | refine blk_drew ?_ | refine blk_alloc ?_ _)); refine blk_put (cs := #[.int .i64 0, .slice none 0 0]) ?_ 1 _ rfl; (with_reducible repeat (first | refine blk_drewN ?_ _ | refine blk_drew ?_ | refine blk_alloc ?_ _)); refine blk_put (cs := #[.int .i64 0, .slice none 0 0]) ?_ 0 _ rfl; (with_reducible repeat (first | refine blk_drewN ?_ _ | refine blk_drew ?_ | refine blk_alloc ?_ _)); refine blk_far ?_ NB101_102.out _; (with_reducible repeat (first | refine blk_drewN ?_ _ | refine blk_drew ?_ | refine blk_alloc ?_ _)); exact BK101.out) Try.underlying24 rfl (by kernel_rfl)) rfl ?_
              exact ⟨_, by first | rfl | (simp [errW_none, errW_some] <;> rfl) | (simp [*, errW_none, errW_some] <;> rfl), by (with_reducible repeat (first | apply Kd.R_alloc | apply Kd.R_drewN | apply Kd.R_drew)); exact Kd.R_mono (Kd.R_far (p := ⟨gb101, 1, none⟩) (Kd.R_far (p := ⟨gb101, 0, none⟩) (Kd.R_far (p := ⟨gb102, 0, none⟩) (Kd.R_types (Kd.R_types HO_103001.out BK102.out (by decide)) BK101.out (by decide)) (fun _ hk => hk.1.2) (.int .i64 0)) (fun _ hk => hk.2) (.int .i64 0)) (fun _ hk => hk.2) (.slice Ao14 x103001_2.length co14)) (fun _ hk => trivial), by repeat (first | (with_reducible first | exact HB.out | apply below_alloc | apply pw_below_drewN | apply below_drew1 | refine below_set ?_ GE101.out | refine below_set ?_ GE102.out) | exact HB.out)⟩
            · rw [if_neg c11] at H
              have c11b0 : ((x103001_2.length : Int) == 0) = false := beq_eq_false_iff_ne.mpr c11
              have c11b1 : ((x103001_2.length : Int) != 0) = true := bne_iff_ne.mpr c11
              have c11b2 : ¬ (x103001_2 = []) := fun h_ => c11 (by rw [h_]; rfl)
              simp only [Option.some.injEq, Prod.mk.injEq] at H
              obtain ⟨rfl, rfl⟩ := H
              have hnb16 := NB102_101.out
              have hnc16 := NB101_102.out
              have hcz17_0 : wr.cell? ⟨gb102, 0, none⟩ = some (.int .i64 x103000_1) := (blk_cell BK102.out 0).trans rfl
              have hcz17_1 : wr.cell? ⟨gb102, 1, none⟩ = some (u103001) := (blk_cell BK102.out 1).trans rfl
              have hfz17_0 := blk_frozen BK102.out 0
              have hfz17_1 := blk_frozen BK102.out 1
              obtain ⟨Ao18, co18, eo18⟩ := Kd.R_slice HO_103001.out
              subst eo18
              have hcz19_0 : wr.cell? ⟨gb101, 0, none⟩ = some (.int .i64 0) := (blk_cell BK101.out 0).trans rfl
              have hcz19_1 : wr.cell? ⟨gb101, 1, none⟩ = some (.slice none 0 0) := (blk_cell BK101.out 1).trans rfl
              have hfz19_0 := blk_frozen BK101.out 0
              have hfz19_1 := blk_frozen BK101.out 1
              go_wp2
              refine bodyPost_ret (results_cell_row rfl _ _ gb101 24 #[.int .i64 x103000_1, .slice Ao18 x103001_2.length co18] (0, 0) _ rfl (by (with_reducible repeat (first | refine blk_drewN ?_ _ | refine blk_drew ?_ | refine blk_alloc ?_ _)); refine blk_put (cs := #[.int .i64 x103000_1, .slice none 0 0]) ?_ 1 _ rfl; (with_reducible repeat (first | refine blk_drewN ?_ _ | refine blk_drew ?_ | refine blk_alloc ?_ _)); refine blk_put (cs := #[.int .i64 0, .slice none 0 0]) ?_ 0 _ rfl; (with_reducible repeat (first | refine blk_drewN ?_ _ | refine blk_drew ?_ | refine blk_alloc ?_ _)); exact BK101.out) Try.underlying24 rfl (by kernel_rfl)) rfl ?_
              exact ⟨_, by first | rfl | (simp [errW_none, errW_some] <;> rfl) | (simp [*, errW_none, errW_some] <;> rfl), by (with_reducible repeat (first | apply Kd.R_alloc | apply Kd.R_drewN | apply Kd.R_drew)); exact Kd.R_mono (Kd.R_far (p := ⟨gb101, 1, none⟩) (Kd.R_far (p := ⟨gb101, 0, none⟩) (Kd.R_types HO_103001.out BK101.out (by decide)) (fun _ hk => hk.2) (.int .i64 x103000_1)) (fun _ hk => hk.2) (.slice Ao18 x103001_2.length co18)) (fun _ hk => trivial), by repeat (first | (with_reducible first | exact HB.out | apply below_alloc | apply pw_below_drewN | apply below_drew1 | refine below_set ?_ GE101.out | refine below_set ?_ GE102.out) | exact HB.out)⟩
          · rw [if_neg c10] at H
            have c10b0 : (x0_2 == 0) = false := beq_eq_false_iff_ne.mpr c10
            have c10b1 : (x0_2 != 0) = true := bne_iff_ne.mpr c10
            by_cases c20 : (Int.tmod x0_2 10) < 0
            · rw [if_pos c20] at H
              have c20b0 : decide ((Int.tmod x0_2 10) < 0) = true := decide_eq_true c20
              clear c20
              by_cases c21 : x103001_2.length < 17592186044416
              · rw [if_pos c21] at H
                have LMc21 := Aside0.mk c21
                clear c21
                obtain ⟨y103, hy103⟩ : ∃ y_ : List Int, y_ = (x103001_2 ++ [wrap64 (-(Int.tmod x0_2 10))]) := ⟨_, rfl⟩
                replace H : (bocageref01_Of.l0 k2 (wrap64 (Int.tdiv x0_2 10)) x103000_1 y103) = some (r1, r2) := by first | (rw [hy103]; with_reducible exact H) | (have H2_ := (Option.bind_some _ _).symm.trans H; rw [hy103]; with_reducible exact H2_) | (have H2_ := (Option.bind_some _ _).symm.trans H; with_reducible exact H2_) | with_reducible exact H | (rw [hy103]; exact H) | exact H
                have Ny103 := Aside0.mk hy103
                clear hy103
                have H' := Aside0.mk H
                clear H
                have hnb22 := NB102_101.out
                have hnc22 := NB101_102.out
                have hcz23_0 : wr.cell? ⟨gb102, 0, none⟩ = some (.int .i64 x103000_1) := (blk_cell BK102.out 0).trans rfl
                have hcz23_1 : wr.cell? ⟨gb102, 1, none⟩ = some (u103001) := (blk_cell BK102.out 1).trans rfl
                have hfz23_0 := blk_frozen BK102.out 0
                have hfz23_1 := blk_frozen BK102.out 1
                go_wp2_with (first | ((with_reducible refine gate_builtin (b := .append) (xs := #[.tmp 18, .tmp 20]) rfl ?_); at_builtin; refine Kd.R_append (Kd.int .i64) (w0 := w) w.heap.size rfl (.tmp 18) (.tmp 20) 22 3 (.int .i64 0) 8 rfl Try.underlying22 info3 rfl (by decide) (by omega) u103001 x103001_2 (wrap64 (-(Int.tmod x0_2 10))) [.int .i64 (wrap64 (-(Int.tmod x0_2 10)))] (fun _ => True) (fun _ => False) rfl rfl ?aP (fun _ hk => hk.elim) ?aF ?aO ?aB ?aS ?aL ?_; (case aP => exact rfl); (case aB => exact (by repeat (first | (with_reducible first | exact HB.out | apply below_alloc | apply pw_below_drewN | apply below_drew1 | refine below_set ?_ GE101.out | refine below_set ?_ GE102.out) | exact HB.out))); (case aF => exact (fun _ _ => trivial)); (case aO => exact (by (with_reducible repeat (first | apply Kd.R_alloc | apply Kd.R_drewN | apply Kd.R_drew)); exact HO_103001.out)); (case aS => exact (below_size (by repeat (first | (with_reducible first | exact HB.out | apply below_alloc | apply pw_below_drewN | apply below_drew1 | refine below_set ?_ GE101.out | refine below_set ?_ GE102.out) | exact HB.out)))); (case aL => have := LMc21.out; omega); intro v104 w24 ho hb hg hat; rw [← Ny103.out] at ho; have n0_ := Aside0.mk (blk_grown (g := gb101) (o := .cells #[.int .i64 0, .slice none 0 0] 24 (0, 0)) (by (with_reducible repeat (first | refine blk_drewN ?_ _ | refine blk_drew ?_ | refine blk_alloc ?_ _)); exact BK101.out) hg (Kd.R_ne HO_103001.out BK101.out (by decide))); have n1_ := Aside0.mk (blk_grown (g := gb102) (o := .cells #[.int .i64 x103000_1, u103001] 24 (0, 0)) (by (with_reducible repeat (first | refine blk_drewN ?_ _ | refine blk_drew ?_ | refine blk_alloc ?_ _)); exact BK102.out) hg (Kd.R_ne HO_103001.out BK102.out (by decide))); have n2_ := Aside0.mk (hb); have n3_ := Aside0.mk (ho); clear BK101; clear BK102; clear HB; clear HO_103001; have BK101 := n0_; have BK102 := n1_; have HB := n2_; have HO105 := n3_; clear n0_ n1_ n2_ n3_; clear ho hb hg hat; obtain ⟨Ao25, co25, eo25⟩ := Kd.R_slice HO105.out; subst eo25; have hcz26_0 : w24.cell? ⟨gb102, 0, none⟩ = some (.int .i64 x103000_1) := (blk_cell BK102.out 0).trans rfl; have hcz26_1 : w24.cell? ⟨gb102, 1, none⟩ = some (u103001) := (blk_cell BK102.out 1).trans rfl; have hfz26_0 := blk_frozen BK102.out 0; have hfz26_1 := blk_frozen BK102.out 1))
                go_roundg k2
                case measure => have := HJ1.out; have := HK2.out; omega
                case rel => exact ⟨(wrap64 (Int.tdiv x0_2 10)), (y103), (.slice Ao25 y103.length co25), (by first | rfl | (simp; done) | (simp [*]; done)), H', ⟨by have := HJ1.out; have := HK2.out; omega⟩, ⟨by (with_reducible repeat (first | apply Kd.R_alloc | apply Kd.R_drewN | apply Kd.R_drew)); exact Kd.R_mono (Kd.R_far (p := ⟨gb102, 1, none⟩) (Kd.R_types HO105.out BK102.out (by decide)) (fun _ hk => hk.2) (.slice Ao25 y103.length co25)) (fun _ hk => trivial)⟩, ⟨by (with_reducible repeat (first | refine blk_drewN ?_ _ | refine blk_drew ?_ | refine blk_alloc ?_ _)); refine blk_far ?_ NB101_102.out _; (with_reducible repeat (first | refine blk_drewN ?_ _ | refine blk_drew ?_ | refine blk_alloc ?_ _)); exact BK101.out⟩, ⟨by (with_reducible repeat (first | refine blk_drewN ?_ _ | refine blk_drew ?_ | refine blk_alloc ?_ _)); refine blk_put (cs := #[.int .i64 x103000_1, u103001]) ?_ 1 _ rfl; (with_reducible repeat (first | refine blk_drewN ?_ _ | refine blk_drew ?_ | refine blk_alloc ?_ _)); exact BK102.out⟩, ⟨by repeat (first | (with_reducible first | exact HB.out | apply below_alloc | apply pw_below_drewN | apply below_drew1 | refine below_set ?_ GE101.out | refine below_set ?_ GE102.out) | exact HB.out)⟩⟩
              · rw [if_neg c21] at H
                exact absurd H (by simp)
            · rw [if_neg c20] at H
              have c20b0 : decide ((Int.tmod x0_2 10) < 0) = false := decide_eq_false c20
              clear c20
              by_cases c27 : x103001_2.length < 17592186044416
              · rw [if_pos c27] at H
                have LMc27 := Aside0.mk c27
                clear c27
                obtain ⟨y106, hy106⟩ : ∃ y_ : List Int, y_ = (x103001_2 ++ [Int.tmod x0_2 10]) := ⟨_, rfl⟩
                replace H : (bocageref01_Of.l0 k2 (wrap64 (Int.tdiv x0_2 10)) x103000_1 y106) = some (r1, r2) := by first | (rw [hy106]; with_reducible exact H) | (have H2_ := (Option.bind_some _ _).symm.trans H; rw [hy106]; with_reducible exact H2_) | (have H2_ := (Option.bind_some _ _).symm.trans H; with_reducible exact H2_) | with_reducible exact H | (rw [hy106]; exact H) | exact H
                have Ny106 := Aside0.mk hy106
                clear hy106
                have H' := Aside0.mk H
                clear H
                have hnb28 := NB102_101.out
                have hnc28 := NB101_102.out
                have hcz29_0 : wr.cell? ⟨gb102, 0, none⟩ = some (.int .i64 x103000_1) := (blk_cell BK102.out 0).trans rfl
                have hcz29_1 : wr.cell? ⟨gb102, 1, none⟩ = some (u103001) := (blk_cell BK102.out 1).trans rfl
                have hfz29_0 := blk_frozen BK102.out 0
                have hfz29_1 := blk_frozen BK102.out 1
                go_wp2_with (first | ((with_reducible refine gate_builtin (b := .append) (xs := #[.tmp 18, .tmp 20]) rfl ?_); at_builtin; refine Kd.R_append (Kd.int .i64) (w0 := w) w.heap.size rfl (.tmp 18) (.tmp 20) 22 3 (.int .i64 0) 8 rfl Try.underlying22 info3 rfl (by decide) (by omega) u103001 x103001_2 (Int.tmod x0_2 10) [.int .i64 (Int.tmod x0_2 10)] (fun _ => True) (fun _ => False) rfl rfl ?aP (fun _ hk => hk.elim) ?aF ?aO ?aB ?aS ?aL ?_; (case aP => exact rfl); (case aB => exact (by repeat (first | (with_reducible first | exact HB.out | apply below_alloc | apply pw_below_drewN | apply below_drew1 | refine below_set ?_ GE101.out | refine below_set ?_ GE102.out) | exact HB.out))); (case aF => exact (fun _ _ => trivial)); (case aO => exact (by (with_reducible repeat (first | apply Kd.R_alloc | apply Kd.R_drewN | apply Kd.R_drew)); exact HO_103001.out)); (case aS => exact (below_size (by repeat (first | (with_reducible first | exact HB.out | apply below_alloc | apply pw_below_drewN | apply below_drew1 | refine below_set ?_ GE101.out | refine below_set ?_ GE102.out) | exact HB.out)))); (case aL => have := LMc27.out; omega); intro v107 w30 ho hb hg hat; rw [← Ny106.out] at ho; have n0_ := Aside0.mk (blk_grown (g := gb101) (o := .cells #[.int .i64 0, .slice none 0 0] 24 (0, 0)) (by (with_reducible repeat (first | refine blk_drewN ?_ _ | refine blk_drew ?_ | refine blk_alloc ?_ _)); exact BK101.out) hg (Kd.R_ne HO_103001.out BK101.out (by decide))); have n1_ := Aside0.mk (blk_grown (g := gb102) (o := .cells #[.int .i64 x103000_1, u103001] 24 (0, 0)) (by (with_reducible repeat (first | refine blk_drewN ?_ _ | refine blk_drew ?_ | refine blk_alloc ?_ _)); exact BK102.out) hg (Kd.R_ne HO_103001.out BK102.out (by decide))); have n2_ := Aside0.mk (hb); have n3_ := Aside0.mk (ho); clear BK101; clear BK102; clear HB; clear HO_103001; have BK101 := n0_; have BK102 := n1_; have HB := n2_; have HO108 := n3_; clear n0_ n1_ n2_ n3_; clear ho hb hg hat; obtain ⟨Ao31, co31, eo31⟩ := Kd.R_slice HO108.out; subst eo31; have hcz32_0 : w30.cell? ⟨gb102, 0, none⟩ = some (.int .i64 x103000_1) := (blk_cell BK102.out 0).trans rfl; have hcz32_1 : w30.cell? ⟨gb102, 1, none⟩ = some (u103001) := (blk_cell BK102.out 1).trans rfl; have hfz32_0 := blk_frozen BK102.out 0; have hfz32_1 := blk_frozen BK102.out 1))
                go_roundg k2
                case measure => have := HJ1.out; have := HK2.out; omega
                case rel => exact ⟨(wrap64 (Int.tdiv x0_2 10)), (y106), (.slice Ao31 y106.length co31), (by first | rfl | (simp; done) | (simp [*]; done)), H', ⟨by have := HJ1.out; have := HK2.out; omega⟩, ⟨by (with_reducible repeat (first | apply Kd.R_alloc | apply Kd.R_drewN | apply Kd.R_drew)); exact Kd.R_mono (Kd.R_far (p := ⟨gb102, 1, none⟩) (Kd.R_types HO108.out BK102.out (by decide)) (fun _ hk => hk.2) (.slice Ao31 y106.length co31)) (fun _ hk => trivial)⟩, ⟨by (with_reducible repeat (first | refine blk_drewN ?_ _ | refine blk_drew ?_ | refine blk_alloc ?_ _)); refine blk_far ?_ NB101_102.out _; (with_reducible repeat (first | refine blk_drewN ?_ _ | refine blk_drew ?_ | refine blk_alloc ?_ _)); exact BK101.out⟩, ⟨by (with_reducible repeat (first | refine blk_drewN ?_ _ | refine blk_drew ?_ | refine blk_alloc ?_ _)); refine blk_put (cs := #[.int .i64 x103000_1, u103001]) ?_ 1 _ rfl; (with_reducible repeat (first | refine blk_drewN ?_ _ | refine blk_drew ?_ | refine blk_alloc ?_ _)); exact BK102.out⟩, ⟨by repeat (first | (with_reducible first | exact HB.out | apply below_alloc | apply pw_below_drewN | apply below_drew1 | refine below_set ?_ GE101.out | refine below_set ?_ GE102.out) | exact HB.out)⟩⟩
              · rw [if_neg c27] at H
                exact absurd H (by simp)

/-! ### sat_end: function 27 -/
def sat_end.f (a0 : Bool) : Option (Int) := if a0 = true then (some (-9223372036854775808)) else (some 9223372036854775807)
set_option maxHeartbeats 8000000 in
set_option maxRecDepth 100000 in
theorem sat_end.calls (a0 : Bool) (r : Int) (w : World) (h : sat_end.f a0 = some r) :
    Calls Try.prog 27 #[.bool a0] w fun e w' => e = .returned (.int .i64 r) ∧ Drawn0 w w' := by
  have H : (if a0 = true then (some (-9223372036854775808)) else (some 9223372036854775807)) = some r := h
  clear h
  by_cases c2 : a0 = true
  · subst c2
    have H1 : (some (-9223372036854775808)) = some r := by rw [if_pos rfl] at H; exact H
    clear H
    have H := H1
    clear H1
    obtain rfl := Option.some.inj H
    go_enter Try.func27, Try.ntmps27
    go_wp2
    go_ret
    exact ⟨by first | rfl | (simp; done) | (simp [*]; done), by repeat (first | exact Drawn0.refl _ | apply Drawn0.step)⟩
  · replace c2 := Bool.eq_false_iff.mpr c2
    subst c2
    have H1 : (some 9223372036854775807) = some r := by rw [if_neg (show ¬ (false = true) by decide)] at H; exact H
    clear H
    have H := H1
    clear H1
    obtain rfl := Option.some.inj H
    go_enter Try.func27, Try.ntmps27
    go_wp2
    go_ret
    exact ⟨by first | rfl | (simp; done) | (simp [*]; done), by repeat (first | exact Drawn0.refl _ | apply Drawn0.step)⟩

/-! ### sat_Add: function 12 -/
def sat_Add.f (a0 : Int) (a1 : Int) : Option (Int) := if ((decide (a0 < 0)) == (decide (a1 < 0))) = true then (if ((decide ((wrap64 (a0 + a1)) < 0)) != (decide (a0 < 0))) = true then ((sat_end.f (decide (a0 < 0))).bind fun t109 => (some t109)) else (some (wrap64 (a0 + a1)))) else (some (wrap64 (a0 + a1)))
set_option maxHeartbeats 8000000 in
set_option maxRecDepth 100000 in
theorem sat_Add.calls (a0 : Int) (a1 : Int) (r : Int) (w : World) (h : sat_Add.f a0 a1 = some r) :
    Calls Try.prog 12 #[.int .i64 a0, .int .i64 a1] w fun e w' => e = .returned (.int .i64 r) ∧ Drawn0 w w' := by
  have H : (if ((decide (a0 < 0)) == (decide (a1 < 0))) = true then (if ((decide ((wrap64 (a0 + a1)) < 0)) != (decide (a0 < 0))) = true then ((sat_end.f (decide (a0 < 0))).bind fun t109 => (some t109)) else (some (wrap64 (a0 + a1)))) else (some (wrap64 (a0 + a1)))) = some r := h
  clear h
  by_cases c3 : ((decide (a0 < 0)) == (decide (a1 < 0))) = true
  · rw [if_pos c3] at H
    have c3b0 : ((decide (a0 < 0)) == (decide (a1 < 0))) = true := c3
    (try (have c3b1 : decide ((decide (a0 < 0)) = (decide (a1 < 0))) = true := by simpa using c3))
    (try (have c3b2 : ((decide (a0 < 0)) == (decide (a1 < 0))) = true := by simpa using c3))
    clear c3
    by_cases c4 : ((decide ((wrap64 (a0 + a1)) < 0)) != (decide (a0 < 0))) = true
    · rw [if_pos c4] at H
      have c4b0 : ((decide ((wrap64 (a0 + a1)) < 0)) != (decide (a0 < 0))) = true := c4
      (try (have c4b1 : decide ((decide ((wrap64 (a0 + a1)) < 0)) = (decide (a0 < 0))) = false := by simpa using c4))
      (try (have c4b2 : ((decide ((wrap64 (a0 + a1)) < 0)) == (decide (a0 < 0))) = false := by simpa using c4))
      (try (have c4b3 : ¬ ((decide ((wrap64 (a0 + a1)) < 0)) = (decide (a0 < 0))) := by simpa using c4))
      clear c4
      replace H := Option.bind_eq_some_iff.mp H
      obtain ⟨t109, A50, H⟩ := H
      replace H : (some t109) = some r := H
      have A5 := Aside0.mk A50
      clear A50
      obtain rfl := Option.some.inj H
      go_enter Try.func12, Try.ntmps12
      go_wp2_with (first | ((with_reducible refine gate_callee (f := 27) rfl ?_); refine goesL_ (some 23) rfl rfl Try.func27 (by kernel_rfl) rfl #[.bool (decide (a0 < 0))] rfl (by (try simp only [List.map_toArray, List.map_cons, List.map_nil]); first | done | rfl | (simp only [List.length_drop, List.length_take]; rfl)) ?_; (with_reducible refine (sat_end.calls (decide (a0 < 0)) t109 _ A5.out).mono ?_); rintro e w' ⟨rfl, ⟨nd, rfl⟩⟩; refine ⟨_, rfl, ?_⟩))
      go_ret
      exact ⟨by first | rfl | (simp; done) | (simp [*]; done), by repeat (first | exact Drawn0.refl _ | apply Drawn0.step)⟩
    · rw [if_neg c4] at H
      have c4b0 : ((decide ((wrap64 (a0 + a1)) < 0)) != (decide (a0 < 0))) = false := by simpa using c4
      (try (have c4b1 : decide ((decide ((wrap64 (a0 + a1)) < 0)) = (decide (a0 < 0))) = true := by simpa using c4))
      (try (have c4b2 : ((decide ((wrap64 (a0 + a1)) < 0)) == (decide (a0 < 0))) = true := by simpa using c4))
      clear c4
      obtain rfl := Option.some.inj H
      go_enter Try.func12, Try.ntmps12
      go_wp2
      go_ret
      exact ⟨by first | rfl | (simp; done) | (simp [*]; done), by repeat (first | exact Drawn0.refl _ | apply Drawn0.step)⟩
  · rw [if_neg c3] at H
    have c3b0 : ((decide (a0 < 0)) == (decide (a1 < 0))) = false := by simpa using c3
    (try (have c3b1 : decide ((decide (a0 < 0)) = (decide (a1 < 0))) = false := by simpa using c3))
    (try (have c3b2 : ((decide (a0 < 0)) == (decide (a1 < 0))) = false := by simpa using c3))
    (try (have c3b3 : ¬ ((decide (a0 < 0)) = (decide (a1 < 0))) := by simpa using c3))
    clear c3
    obtain rfl := Option.some.inj H
    go_enter Try.func12, Try.ntmps12
    go_wp2
    go_ret
    exact ⟨by first | rfl | (simp; done) | (simp [*]; done), by repeat (first | exact Drawn0.refl _ | apply Drawn0.step)⟩

/-! ### sat_Sub: function 15 -/
def sat_Sub.f (a0 : Int) (a1 : Int) : Option (Int) := if ((decide (a0 < 0)) != (decide (a1 < 0))) = true then (if ((decide ((wrap64 (a0 - a1)) < 0)) != (decide (a0 < 0))) = true then ((sat_end.f (decide (a0 < 0))).bind fun t110 => (some t110)) else (some (wrap64 (a0 - a1)))) else (some (wrap64 (a0 - a1)))
set_option maxHeartbeats 8000000 in
set_option maxRecDepth 100000 in
theorem sat_Sub.calls (a0 : Int) (a1 : Int) (r : Int) (w : World) (h : sat_Sub.f a0 a1 = some r) :
    Calls Try.prog 15 #[.int .i64 a0, .int .i64 a1] w fun e w' => e = .returned (.int .i64 r) ∧ Drawn0 w w' := by
  have H : (if ((decide (a0 < 0)) != (decide (a1 < 0))) = true then (if ((decide ((wrap64 (a0 - a1)) < 0)) != (decide (a0 < 0))) = true then ((sat_end.f (decide (a0 < 0))).bind fun t110 => (some t110)) else (some (wrap64 (a0 - a1)))) else (some (wrap64 (a0 - a1)))) = some r := h
  clear h
  by_cases c3 : ((decide (a0 < 0)) != (decide (a1 < 0))) = true
  · rw [if_pos c3] at H
    have c3b0 : ((decide (a0 < 0)) != (decide (a1 < 0))) = true := c3
    (try (have c3b1 : decide ((decide (a0 < 0)) = (decide (a1 < 0))) = false := by simpa using c3))
    (try (have c3b2 : ((decide (a0 < 0)) == (decide (a1 < 0))) = false := by simpa using c3))
    (try (have c3b3 : ¬ ((decide (a0 < 0)) = (decide (a1 < 0))) := by simpa using c3))
    clear c3
    by_cases c4 : ((decide ((wrap64 (a0 - a1)) < 0)) != (decide (a0 < 0))) = true
    · rw [if_pos c4] at H
      have c4b0 : ((decide ((wrap64 (a0 - a1)) < 0)) != (decide (a0 < 0))) = true := c4
      (try (have c4b1 : decide ((decide ((wrap64 (a0 - a1)) < 0)) = (decide (a0 < 0))) = false := by simpa using c4))
      (try (have c4b2 : ((decide ((wrap64 (a0 - a1)) < 0)) == (decide (a0 < 0))) = false := by simpa using c4))
      (try (have c4b3 : ¬ ((decide ((wrap64 (a0 - a1)) < 0)) = (decide (a0 < 0))) := by simpa using c4))
      clear c4
      replace H := Option.bind_eq_some_iff.mp H
      obtain ⟨t110, A50, H⟩ := H
      replace H : (some t110) = some r := H
      have A5 := Aside0.mk A50
      clear A50
      obtain rfl := Option.some.inj H
      go_enter Try.func15, Try.ntmps15
      go_wp2_with (first | ((with_reducible refine gate_callee (f := 27) rfl ?_); refine goesL_ (some 23) rfl rfl Try.func27 (by kernel_rfl) rfl #[.bool (decide (a0 < 0))] rfl (by (try simp only [List.map_toArray, List.map_cons, List.map_nil]); first | done | rfl | (simp only [List.length_drop, List.length_take]; rfl)) ?_; (with_reducible refine (sat_end.calls (decide (a0 < 0)) t110 _ A5.out).mono ?_); rintro e w' ⟨rfl, ⟨nd, rfl⟩⟩; refine ⟨_, rfl, ?_⟩))
      go_ret
      exact ⟨by first | rfl | (simp; done) | (simp [*]; done), by repeat (first | exact Drawn0.refl _ | apply Drawn0.step)⟩
    · rw [if_neg c4] at H
      have c4b0 : ((decide ((wrap64 (a0 - a1)) < 0)) != (decide (a0 < 0))) = false := by simpa using c4
      (try (have c4b1 : decide ((decide ((wrap64 (a0 - a1)) < 0)) = (decide (a0 < 0))) = true := by simpa using c4))
      (try (have c4b2 : ((decide ((wrap64 (a0 - a1)) < 0)) == (decide (a0 < 0))) = true := by simpa using c4))
      clear c4
      obtain rfl := Option.some.inj H
      go_enter Try.func15, Try.ntmps15
      go_wp2
      go_ret
      exact ⟨by first | rfl | (simp; done) | (simp [*]; done), by repeat (first | exact Drawn0.refl _ | apply Drawn0.step)⟩
  · rw [if_neg c3] at H
    have c3b0 : ((decide (a0 < 0)) != (decide (a1 < 0))) = false := by simpa using c3
    (try (have c3b1 : decide ((decide (a0 < 0)) = (decide (a1 < 0))) = true := by simpa using c3))
    (try (have c3b2 : ((decide (a0 < 0)) == (decide (a1 < 0))) = true := by simpa using c3))
    clear c3
    obtain rfl := Option.some.inj H
    go_enter Try.func15, Try.ntmps15
    go_wp2
    go_ret
    exact ⟨by first | rfl | (simp; done) | (simp [*]; done), by repeat (first | exact Drawn0.refl _ | apply Drawn0.step)⟩

/-! ### sat_Neg: function 17 -/
def sat_Neg.f (a0 : Int) : Option (Int) := (sat_Sub.f 0 a0).bind fun t111 => (some t111)
set_option maxHeartbeats 8000000 in
set_option maxRecDepth 100000 in
theorem sat_Neg.calls (a0 : Int) (r : Int) (w : World) (h : sat_Neg.f a0 = some r) :
    Calls Try.prog 17 #[.int .i64 a0] w fun e w' => e = .returned (.int .i64 r) ∧ Drawn0 w w' := by
  have H : ((sat_Sub.f 0 a0).bind fun t111 => (some t111)) = some r := h
  clear h
  replace H := Option.bind_eq_some_iff.mp H
  obtain ⟨t111, A20, H⟩ := H
  replace H : (some t111) = some r := H
  have A2 := Aside0.mk A20
  clear A20
  obtain rfl := Option.some.inj H
  go_enter Try.func17, Try.ntmps17
  go_wp2_with (first | ((with_reducible refine gate_callee (f := 15) rfl ?_); refine goesL_ (some 4) rfl rfl Try.func15 (by kernel_rfl) rfl #[.int .i64 0, .int .i64 a0] rfl (by (try simp only [List.map_toArray, List.map_cons, List.map_nil]); first | done | rfl | (simp only [List.length_drop, List.length_take]; rfl)) ?_; (with_reducible refine (sat_Sub.calls 0 a0 t111 _ A2.out).mono ?_); rintro e w' ⟨rfl, ⟨nd, rfl⟩⟩; refine ⟨_, rfl, ?_⟩))
  go_ret
  exact ⟨by first | rfl | (simp; done) | (simp [*]; done), by repeat (first | exact Drawn0.refl _ | apply Drawn0.step)⟩

/-! ### sat_Ceil: function 18 -/
def sat_Ceil.f (a0 : Int) (a1 : Int) : Option (Int × Bool) := if a1 < 1 then (some (0, false)) else (if a1 = 0 then (none) else (if (Int.tmod a0 a1) ≤ 0 then (some (wrap64 (a0 - (Int.tmod a0 a1)), true)) else ((sat_Add.f a0 (wrap64 (a1 - (Int.tmod a0 a1)))).bind fun t112 => (if (Int.tmod t112 a1) = 0 then (some (t112, true)) else (some (0, false))))))
set_option maxHeartbeats 8000000 in
set_option maxRecDepth 100000 in
theorem sat_Ceil.calls (a0 : Int) (a1 : Int) (r1 : Int) (r2 : Bool) (w : World) (h : sat_Ceil.f a0 a1 = some (r1, r2)) :
    Calls Try.prog 18 #[.int .i64 a0, .int .i64 a1] w fun e w' => e = .returned (.tuple #[.int .i64 r1, .bool r2]) ∧ Drawn0 w w' := by
  have H : (if a1 < 1 then (some (0, false)) else (if a1 = 0 then (none) else (if (Int.tmod a0 a1) ≤ 0 then (some (wrap64 (a0 - (Int.tmod a0 a1)), true)) else ((sat_Add.f a0 (wrap64 (a1 - (Int.tmod a0 a1)))).bind fun t112 => (if (Int.tmod t112 a1) = 0 then (some (t112, true)) else (some (0, false))))))) = some (r1, r2) := h
  clear h
  by_cases c3 : a1 < 1
  · rw [if_pos c3] at H
    have c3b0 : decide (a1 < 1) = true := decide_eq_true c3
    clear c3
    simp only [Option.some.injEq, Prod.mk.injEq] at H
    obtain ⟨rfl, rfl⟩ := H
    go_enter Try.func18, Try.ntmps18
    go_wp2
    go_ret2
    exact ⟨by first | rfl | (simp; done) | (simp [*]; done), by repeat (first | exact Drawn0.refl _ | apply Drawn0.step)⟩
  · rw [if_neg c3] at H
    have c3b0 : decide (a1 < 1) = false := decide_eq_false c3
    clear c3
    by_cases c4 : a1 = 0
    · rw [if_pos c4] at H
      exact absurd H (by simp)
    · rw [if_neg c4] at H
      have c4b0 : (a1 == 0) = false := beq_eq_false_iff_ne.mpr c4
      have c4b1 : (a1 != 0) = true := bne_iff_ne.mpr c4
      by_cases c5 : (Int.tmod a0 a1) ≤ 0
      · rw [if_pos c5] at H
        have c5b0 : decide ((Int.tmod a0 a1) ≤ 0) = true := decide_eq_true c5
        clear c5
        simp only [Option.some.injEq, Prod.mk.injEq] at H
        obtain ⟨rfl, rfl⟩ := H
        go_enter Try.func18, Try.ntmps18
        go_wp2
        go_ret2
        exact ⟨by first | rfl | (simp; done) | (simp [*]; done), by repeat (first | exact Drawn0.refl _ | apply Drawn0.step)⟩
      · rw [if_neg c5] at H
        have c5b0 : decide ((Int.tmod a0 a1) ≤ 0) = false := decide_eq_false c5
        clear c5
        replace H := Option.bind_eq_some_iff.mp H
        obtain ⟨t112, A60, H⟩ := H
        replace H : (if (Int.tmod t112 a1) = 0 then (some (t112, true)) else (some (0, false))) = some (r1, r2) := H
        have A6 := Aside0.mk A60
        clear A60
        by_cases c7 : (Int.tmod t112 a1) = 0
        · rw [if_pos c7] at H
          have c7b0 : ((Int.tmod t112 a1) == 0) = true := beq_iff_eq.mpr c7
          have c7b1 : ((Int.tmod t112 a1) != 0) = false := bne_eq_false_iff_eq.mpr c7
          clear c7
          simp only [Option.some.injEq, Prod.mk.injEq] at H
          obtain ⟨rfl, rfl⟩ := H
          go_enter Try.func18, Try.ntmps18
          go_wp2_with (first | ((with_reducible refine gate_callee (f := 12) rfl ?_); refine goesL_ (some 22) rfl rfl Try.func12 (by kernel_rfl) rfl #[.int .i64 a0, .int .i64 (wrap64 (a1 - (Int.tmod a0 a1)))] rfl (by (try simp only [List.map_toArray, List.map_cons, List.map_nil]); first | done | rfl | (simp only [List.length_drop, List.length_take]; rfl)) ?_; (with_reducible refine (sat_Add.calls a0 (wrap64 (a1 - (Int.tmod a0 a1))) t112 _ A6.out).mono ?_); rintro e w' ⟨rfl, ⟨nd, rfl⟩⟩; refine ⟨_, rfl, ?_⟩))
          go_ret2
          exact ⟨by first | rfl | (simp; done) | (simp [*]; done), by repeat (first | exact Drawn0.refl _ | apply Drawn0.step)⟩
        · rw [if_neg c7] at H
          have c7b0 : ((Int.tmod t112 a1) == 0) = false := beq_eq_false_iff_ne.mpr c7
          have c7b1 : ((Int.tmod t112 a1) != 0) = true := bne_iff_ne.mpr c7
          simp only [Option.some.injEq, Prod.mk.injEq] at H
          obtain ⟨rfl, rfl⟩ := H
          go_enter Try.func18, Try.ntmps18
          go_wp2_with (first | ((with_reducible refine gate_callee (f := 12) rfl ?_); refine goesL_ (some 22) rfl rfl Try.func12 (by kernel_rfl) rfl #[.int .i64 a0, .int .i64 (wrap64 (a1 - (Int.tmod a0 a1)))] rfl (by (try simp only [List.map_toArray, List.map_cons, List.map_nil]); first | done | rfl | (simp only [List.length_drop, List.length_take]; rfl)) ?_; (with_reducible refine (sat_Add.calls a0 (wrap64 (a1 - (Int.tmod a0 a1))) t112 _ A6.out).mono ?_); rintro e w' ⟨rfl, ⟨nd, rfl⟩⟩; refine ⟨_, rfl, ?_⟩))
          go_ret2
          exact ⟨by first | rfl | (simp; done) | (simp [*]; done), by repeat (first | exact Drawn0.refl _ | apply Drawn0.step)⟩

/-! ### sat_size: function 33 -/
def sat_size.f (a0 : Int) : Option (Int) := if a0 < 0 then (some (IntKind.u64.wrap (-(IntKind.u64.wrap (a0))))) else (some (IntKind.u64.wrap (a0)))
set_option maxHeartbeats 8000000 in
set_option maxRecDepth 100000 in
theorem sat_size.calls (a0 : Int) (r : Int) (w : World) (h : sat_size.f a0 = some r) :
    Calls Try.prog 33 #[.int .i64 a0] w fun e w' => e = .returned (.int .u64 r) ∧ Drawn0 w w' := by
  have H : (if a0 < 0 then (some (IntKind.u64.wrap (-(IntKind.u64.wrap (a0))))) else (some (IntKind.u64.wrap (a0)))) = some r := h
  clear h
  by_cases c2 : a0 < 0
  · rw [if_pos c2] at H
    have c2b0 : decide (a0 < 0) = true := decide_eq_true c2
    clear c2
    obtain rfl := Option.some.inj H
    go_enter Try.func33, Try.ntmps33
    go_wp2
    go_ret
    exact ⟨by first | rfl | (simp; done) | (simp [*]; done), by repeat (first | exact Drawn0.refl _ | apply Drawn0.step)⟩
  · rw [if_neg c2] at H
    have c2b0 : decide (a0 < 0) = false := decide_eq_false c2
    clear c2
    obtain rfl := Option.some.inj H
    go_enter Try.func33, Try.ntmps33
    go_wp2
    go_ret
    exact ⟨by first | rfl | (simp; done) | (simp [*]; done), by repeat (first | exact Drawn0.refl _ | apply Drawn0.step)⟩

/-! ### sat_Text: function 20 -/
theorem sat_Text.info5' : (Try.prog.info? 5).map (fun i => (i.zero, i.size, i.bytes)) = some (some (.int .u8 0), 1, 1) := by kernel_rfl
theorem sat_Text.info5 : (Try.prog.info? 5).map (fun i => (i.zero, i.size, i.bytes)) = some (some (.int .u8 0), 1, 1) := by kernel_rfl

/-- the two captured variables of sat.Text: block B: the bytes so far; block B + 1: what is left -/
structure sat_Text.Inv (B : Nat) (xs : List Int) (L : Int) (w : World) : Prop where
  bs : ∃ v, w.heap[B]? = some (.cells #[v] 53 (0, 0)) ∧ w.ownsRow (B + 2) 5 1 v xs.length (nums .u8 xs)
  left : w.heap[B + 1]? = some (.cells #[.int .u64 L] 54 (0, 0))
  lt : B + 1 < w.heap.size

theorem sat_Text.blk_ne {w : World} {b g : Nat} {v : Value} {t e : TypeId} {cur : Array Value} (hb : w.heap[b]? = some (.cells #[v] t (0, 0))) (hg : w.heap[g]? = some (.cells cur e (0, 0))) (ht : t ≠ e) : g ≠ b := fun h => by
  subst h; rw [hb] at hg; simp at hg; exact ht hg.2

set_option maxHeartbeats 1600000 in
set_option maxRecDepth 100000 in
theorem sat_Text.step (B : Nat) (xs : List Int) (L : Int) (w : World) (h : sat_Text.Inv B xs L w) (h0 : 0 ≤ L) (h1 : L ≤ 18446744073709551615) (hn : xs.length ≤ 100) :
    Calls Try.prog 34 #[.pointer (some ⟨B, 0, none⟩), .pointer (some ⟨B + 1, 0, none⟩)] w fun e w' => e = .returned (.bool (decide (0 < L / 10))) ∧ sat_Text.Inv B (xs ++ [48 + L % 10]) (L / 10) w' ∧ Below B w w' := by
  obtain ⟨⟨v, hv, hown⟩, hleft, hlt⟩ := h
  obtain ⟨i0, hi, hz0, hz1, hz2⟩ := info_parts sat_Text.info5
  have cB := cell_of_one hv
  have fB := free_of_one hv
  have cL := cell_of_one hleft
  have fL := free_of_one hleft
  go_enter Try.func34, Try.ntmps34
  go_wp2_with (at_builtin; refine wpList_append_own _ rfl _ _ 53 rfl (B + 2) 5 i0 (.int .u8 0) 1 1 Try.underlying53 hi hz0 hz1 hz2 rfl (by decide) _ _ _ rfl (hown.alloc _) ⟨w.heap.size, 0, none⟩ 1 1 [.int .u8 (48 + L % 10)] rfl rfl ?c1 ?c2 ?c3 ?c4 ?c5 ?_)
  case c1 =>
    intro j u hj
    match j, hj with
    | 0, hj => simp at hj; subst hj; simp [Addr.add]
  case c2 => intro u hu; simp at hu; subst hu; rfl
  case c3 => unfold maxLen; omega
  case c4 => omega
  case c5 => simp; omega
  intro v' w1 hown' hgrow _
  have hB0 : some B ≠ v.ownBlock := fun e => by have := (hown.lt B e.symm).1; omega
  have hB1 : some (B + 1) ≠ v.ownBlock := fun e => by have := (hown.lt (B + 1) e.symm).1; omega
  have hv1 : w1.heap[B]? = some (.cells #[v] 53 (0, 0)) := by
    rw [hgrow.block B (by simp; omega) hB0, heap_alloc_old _ _ (by omega)]; exact hv
  have hl1 : w1.heap[B + 1]? = some (.cells #[.int .u64 L] 54 (0, 0)) := by
    rw [hgrow.block (B + 1) (by simp; omega) hB1, heap_alloc_old _ _ (by omega)]; exact hleft
  have hb1 : Below B w w1 := ((Below.refl B w).alloc (by omega) _).grown hgrow (by simp; omega) (fun j hj => by have := (hown.lt j hj).1; omega)
  have hsz : B + 1 < w1.heap.size := by have := lt_of_block hl1; omega
  have cB1 := cell_of_one hv1
  have fB1 := free_of_one hv1
  have cL1 := cell_of_one hl1
  have fL1 := free_of_one hl1
  obtain ⟨g, cap, rfl, hgb⟩ : ∃ g cap, v' = .slice (some ⟨g, 0, none⟩) (xs.length + 1) cap ∧ B + 2 ≤ g := by
    rcases hown'.2 with ⟨_, hz⟩ | ⟨g, cap, cur, rfl, hb, _⟩
    · omega
    · exact ⟨g, cap, rfl, hb⟩
  have hN := Aside0.mk (show nums .u8 xs ++ [Value.int .u8 (48 + L % 10)] = nums .u8 (xs ++ [48 + L % 10]) by simp [nums])
  have HO := Aside0.mk hown'
  clear hown hown' hgrow cB fB cL fL hB0 hB1 hz0 hz1 hz2 hi
  go_wp2
  go_ret
  have HO' := HO.out
  rw [hN.out] at HO'
  refine ⟨?_, ⟨⟨.slice (some ⟨g, 0, none⟩) (xs.length + 1) cap, ?_, ?_⟩, ?_, ?_⟩, ?_⟩
  · simp
  · exact (Below.heap_setCell _ _ _ _ (by simp)).trans (one_setCell hv1)
  · rw [List.length_append]
    exact ownsRow_setCell_other (ownsRow_setCell_other HO' (by simp [Value.ownBlock]; omega) _) (by simp [Value.ownBlock]; omega) _
  · exact one_setCell ((Below.heap_setCell _ _ _ _ (by simp)).trans hl1)
  · simpa using hsz
  · exact (hb1.setCell (by simp) _).setCell (by simp) _

def sat_Text.digs : Nat → Int → List Int
  | 0, _ => []
  | k + 1, x => (48 + x % 10) :: (if 0 < x / 10 then sat_Text.digs k (x / 10) else [])
def sat_Text.fits : Nat → Int → Bool
  | 0, _ => false
  | k + 1, x => decide (x < 10) || sat_Text.fits k (x / 10)
def sat_Text.rev (a : Int) : List Int := sat_Text.digs 20 (if a < 0 then -a else a) ++ (if a < 0 then [45] else [])
def sat_Text.f (a0 : Int) : Option ByteArray := if -9223372036854775808 ≤ a0 ∧ a0 ≤ 9223372036854775807 then some (strOfNums (sat_Text.rev a0).reverse) else none
theorem sat_Text.digs_len : ∀ k x, (sat_Text.digs k x).length ≤ k
  | 0, _ => by simp [sat_Text.digs]
  | k + 1, x => by
    simp only [sat_Text.digs, List.length_cons]
    split
    · have := sat_Text.digs_len k (x / 10); omega
    · simp
theorem sat_Text.fits_start (L : Int) (h : L ≤ 9223372036854775808) : sat_Text.fits 20 L = true := by
  simp [sat_Text.fits]; omega
theorem sat_Text.fits_next {k : Nat} {L : Int} (h : sat_Text.fits (k + 1) L = true) (h1 : 0 < L / 10) : sat_Text.fits k (L / 10) = true := by
  simp only [sat_Text.fits, Bool.or_eq_true, decide_eq_true_eq] at h
  rcases h with h | h
  · omega
  · exact h
theorem sat_Text.fits_pos {k : Nat} {L : Int} (h : sat_Text.fits k L = true) : ∃ m, k = m + 1 := by
  cases k with
  | zero => simp [sat_Text.fits] at h
  | succ k => exact ⟨k, rfl⟩
theorem sat_Text.size_some (a : Int) (h0 : -9223372036854775808 ≤ a) (h1 : a ≤ 9223372036854775807) : sat_size.f a = some (if a < 0 then -a else a) := by
  unfold sat_size.f
  by_cases h : a < 0
  · rw [if_pos h, if_pos h]
    have : IntKind.u64.wrap (-(IntKind.u64.wrap a)) = -a := by simp [IntKind.wrap, IntKind.bits, IntKind.signed]; omega
    rw [this]
  · rw [if_neg h, if_neg h]
    have : IntKind.u64.wrap a = a := by simp [IntKind.wrap, IntKind.bits, IntKind.signed]; omega
    rw [this]

def sat_Text.outs (zs : List Int) (i : Nat) : List Int := List.replicate (zs.length - i) 0 ++ (zs.take i).reverse
theorem sat_Text.outs_len (zs : List Int) (i : Nat) (h : i ≤ zs.length) : (sat_Text.outs zs i).length = zs.length := by
  simp [sat_Text.outs]; omega
theorem sat_Text.outs_all (zs : List Int) : sat_Text.outs zs zs.length = zs.reverse := by simp [sat_Text.outs]
theorem sat_Text.outs_step (zs : List Int) (i : Nat) (h : i < zs.length) : (sat_Text.outs zs i).set (zs.length - 1 - i) (rd zs (i : Int)) = sat_Text.outs zs (i + 1) := by
  have e : zs.length - i = (zs.length - 1 - i) + 1 := by omega
  have e2 : zs.length - (i + 1) = zs.length - 1 - i := by omega
  unfold sat_Text.outs
  rw [e2, e, List.replicate_succ', List.append_assoc, List.set_append_right _ _ (by simp)]
  simp only [List.length_replicate, Nat.sub_self, List.singleton_append, List.set_cons_zero]
  congr 1
  rw [List.take_succ_eq_append_getElem h, List.reverse_append]
  simp [rd, List.getElem?_eq_getElem h, List.getD_eq_getElem?_getD]
/-- what the last loop keeps -/
structure sat_Text.Last (w : World) (g cap G : Nat) (zs : List Int) (i : Nat) (wr : World) : Prop where
  var : wr.heap[w.heap.size]? = some (.cells #[.slice (some ⟨g, 0, none⟩) zs.length cap] 53 (0, 0))
  src : wr.ownsRow (w.heap.size + 2) 5 1 (.slice (some ⟨g, 0, none⟩) zs.length cap) zs.length (nums .u8 zs)
  out : wr.ownsRow (w.heap.size + 2) 5 1 (.slice (some ⟨G, 0, none⟩) zs.length zs.length) zs.length (nums .u8 (sat_Text.outs zs i))
  ne : g ≠ G
  bel : Below w.heap.size w wr
theorem sat_Text.Last.step {w wr : World} {g cap G : Nat} {zs : List Int} {i : Nat} (h : sat_Text.Last w g cap G zs i wr) (hG : w.heap.size < G) (hi : i < zs.length) : sat_Text.Last w g cap G zs (i + 1) (wr.drew.setCell ⟨G, zs.length - 1 - i, none⟩ (.int .u8 (rd zs (i : Int)))) := by
  have hs := (own_store (h.out.drew) ((zs.length : Int) - 1 - i) (rd zs (i : Int))).1
  have hi2 : ((zs.length : Int) - 1 - i).toNat = zs.length - 1 - i := by omega
  rw [hi2, sat_Text.outs_step zs i hi] at hs
  refine ⟨?_, ownsRow_setCell_other h.src.drew ?_ _, hs, h.ne, (below_drew h.bel).setCell (by show w.heap.size ≤ G; omega) _⟩
  · exact (Below.heap_setCell _ _ _ _ (by show w.heap.size ≠ G; omega)).trans h.var
  · have := h.ne; simp [Value.ownBlock]; exact this

set_option maxHeartbeats 8000000 in
set_option maxRecDepth 100000 in
theorem sat_Text.calls (a0 : Int) (r : ByteArray) (w : World) (h : sat_Text.f a0 = some r) :
    Calls Try.prog 20 #[.int .i64 a0] w fun e w' => e = .returned (.string r) ∧ Below w.heap.size w w' := by
  unfold sat_Text.f at h
  split at h
  · rename_i hb
    obtain ⟨hb0, hb1⟩ := hb
    have hr := Aside0.mk (Option.some.inj h)
    clear h
    have hsz := Aside0.mk (sat_Text.size_some a0 hb0 hb1)
    obtain ⟨L, hL⟩ : ∃ L, L = if a0 < 0 then -a0 else a0 := ⟨_, rfl⟩
    rw [← hL] at hsz
    have hL0 : 0 ≤ L := by rw [hL]; split <;> omega
    have hL1 : L ≤ 9223372036854775808 := by rw [hL]; split <;> omega
    have HL := Aside0.mk hL
    clear hL
    have hT : Aside0 (sat_Text.digs 20 L ++ (if a0 < 0 then [45] else []) = sat_Text.rev a0) := ⟨by rw [HL.out]; rfl⟩
    have hTl := sat_Text.digs_len 20 L
    have hT0 : 1 ≤ (sat_Text.digs 20 L).length := by simp [sat_Text.digs]
    obtain ⟨T, hTT⟩ : ∃ T, T = sat_Text.digs 20 L := ⟨_, rfl⟩
    rw [← hTT] at hT hTl hT0
    have HTT := Aside0.mk hTT
    clear hTT
    go_enter Try.func20, Try.ntmps20
    go_upto_block 0 with (go_at_call 33; refine (sat_size.calls a0 L _ hsz.out).mono ?_; rintro e w' ⟨rfl, ⟨nd, rfl⟩⟩)
    go_cut [] (fun wc => ∃ l, sat_Text.Inv w.heap.size T l wc ∧ Below w.heap.size w wc)
    case first =>
      go_wp2
      go_loopg [] 20 (fun k wr => ∃ (xs : List Int) (l : Int), sat_Text.Inv w.heap.size xs l wr ∧ Below w.heap.size w wr ∧ 0 ≤ l ∧ l ≤ 18446744073709551615 ∧ Aside0 (sat_Text.fits k l = true) ∧ Aside0 (xs ++ sat_Text.digs k l = T) ∧ Aside0 (xs.length + k ≤ 20))
      case atStart =>
        refine ⟨[], L, ⟨⟨.slice none 0 0, ?_, World.ownsRow_nil _ _ _ _⟩, ?_, ?_⟩, ?_, hL0, by omega, ⟨sat_Text.fits_start L hL1⟩, ⟨HTT.out.symm⟩, ⟨by simp⟩⟩
        · rw [heap_alloc_old _ _ (by simp)]; exact heap_alloc_new _ _
        · have := heap_alloc_new ((w.alloc (Obj.cells #[Value.slice none 0 0] 53)).drewN nd) (Obj.cells #[Value.int .u64 L] 54); simpa using this
        · simp
        · exact (pw_below_drewN ((Below.refl _ w).alloc (Nat.le_refl _) _) nd).alloc (by simp) _
      case round =>
        obtain ⟨xs, l, hinv, hbel, h0, h1, hfit, hsum, hlen⟩ := hrel
        obtain ⟨k, rfl⟩ := sat_Text.fits_pos hfit.out
        have hlen' := hlen.out
        by_cases hc : 0 < l / 10
        · have hc' : decide (0 < l / 10) = true := decide_eq_true hc
          go_wp2_with (go_at_call 34; refine (sat_Text.step w.heap.size xs l _ hinv h0 h1 (by omega)).mono ?_; rintro e w' ⟨rfl, hinv', hbel'⟩)
          go_roundg k
          case rel => exact ⟨_, _, hinv', hbel.trans hbel', by omega, by omega, ⟨sat_Text.fits_next hfit.out hc⟩, ⟨by have := hsum.out; rw [← this]; simp only [sat_Text.digs, if_pos hc, List.append_assoc, List.singleton_append]⟩, ⟨by simp; omega⟩⟩
          case measure => omega
        · have hc' : decide (0 < l / 10) = false := decide_eq_false hc
          have hall : Aside0 (xs ++ [48 + l % 10] = T) := ⟨by have := hsum.out; rw [← this]; simp only [sat_Text.digs, if_neg hc]⟩
          go_wp2_with (go_at_call 34; refine (sat_Text.step w.heap.size xs l _ hinv h0 h1 (by omega)).mono ?_; rintro e w' ⟨rfl, hinv', hbel'⟩)
          go_meet
          case rel => exact ⟨_, hall.out ▸ hinv', hbel.trans hbel'⟩
    case rest =>
      obtain ⟨l, ⟨⟨v, hv, hown⟩, hleft, hlt⟩, hbel⟩ := hcut
      obtain ⟨g, cap, rfl, hgb, hgl⟩ := hown.form hT0
      obtain ⟨i0, hi, hz0, hz1, hz2⟩ := info_parts sat_Text.info5
      go_upto_if 14 with (fail)
      go_cut [] (fun wc => ∃ (zs : List Int) (g cap : Nat), Aside0 (zs = sat_Text.rev a0) ∧ wc.heap[w.heap.size]? = some (.cells #[.slice (some ⟨g, 0, none⟩) zs.length cap] 53 (0, 0)) ∧ wc.ownsRow (w.heap.size + 2) 5 1 (.slice (some ⟨g, 0, none⟩) zs.length cap) zs.length (nums .u8 zs) ∧ Below w.heap.size w wc ∧ 1 ≤ zs.length ∧ zs.length ≤ 21)
      case first =>
        have cB := cell_of_one hv
        have fB := free_of_one hv
        by_cases hneg : a0 < 0
        · have hneg' : decide (a0 < 0) = true := decide_eq_true hneg
          have hrev := Aside0.mk (show T ++ [45] = sat_Text.rev a0 by have := hT.out; rwa [if_pos hneg] at this)
          clear hT
          go_wp2_with (at_builtin; refine wpList_append_own _ rfl _ _ 53 rfl (w.heap.size + 2) 5 i0 (.int .u8 0) 1 1 Try.underlying53 hi hz0 hz1 hz2 rfl (by decide) _ _ _ rfl (hown.alloc _) ⟨wc.heap.size, 0, none⟩ 1 1 [.int .u8 45] rfl rfl ?c1 ?c2 ?c3 ?c4 ?c5 ?_)
          case c1 =>
            intro j u hj
            match j, hj with
            | 0, hj => simp at hj; subst hj; simp [Addr.add]
          case c2 => intro u hu; simp at hu; subst hu; rfl
          case c3 => unfold maxLen; omega
          case c4 => omega
          case c5 => simp; omega
          intro v' w1 hown' hgrow _
          have hN := Aside0.mk (show nums .u8 T ++ [Value.int .u8 45] = nums .u8 (T ++ [45]) by simp [nums])
          have HO := Aside0.mk hown'
          have HG := Aside0.mk hgrow
          have hB0 : w.heap.size ≠ g := by omega
          have hv1 : w1.heap[w.heap.size]? = some (.cells #[.slice (some ⟨g, 0, none⟩) T.length cap] 53 (0, 0)) := by
            rw [hgrow.block w.heap.size (by simp; omega) (by simp [Value.ownBlock]; omega), heap_alloc_old _ _ (by omega)]; exact hv
          have hb1 : Below w.heap.size w w1 := (hbel.alloc (by omega) _).grown hgrow (by simp; omega) (fun j hj => by simp [Value.ownBlock] at hj; omega)
          obtain ⟨g', cap', rfl, hgb', hgl'⟩ := hown'.form (by omega)
          have cB1 := cell_of_one hv1
          have fB1 := free_of_one hv1
          clear hown hown' hgrow cB fB hB0 hv
          go_wp2
          go_meet
          case rel =>
            have HO' := HO.out
            rw [hN.out] at HO'
            refine ⟨T ++ [45], g', cap', hrev, ?_, ?_, ?_, by simp, by simp; omega⟩
            · rw [List.length_append]; exact one_setCell hv1
            · rw [List.length_append]; exact ownsRow_setCell_other HO' (by simp [Value.ownBlock]; omega) _
            · exact hb1.setCell (by simp) _
        · have hneg' : decide (a0 < 0) = false := decide_eq_false hneg
          have hrev := Aside0.mk (show T = sat_Text.rev a0 by have := hT.out; rwa [if_neg hneg, List.append_nil] at this)
          clear hT
          go_wp2
          go_meet
          case rel => exact ⟨T, g, cap, hrev, hv, hown, hbel, hT0, by omega⟩
      case rest =>
        obtain ⟨zs, g1, cap1, hzs, hv1, hown1, hbel1, hz1', hz2'⟩ := hcut
        clear hown hv hleft hlt hbel hTl hT0 hi hz0 hz1 hz2 i0 hsz HTT hT
        obtain ⟨g, cap, he, hgb1, hgl1⟩ := hown1.form (by omega)
        obtain ⟨rfl, rfl⟩ : g1 = g ∧ cap1 = cap := by simpa using he
        clear he hgb hgl
        have cB := cell_of_one hv1
        have fB := free_of_one hv1
        have hlt1 : w.heap.size < wc.heap.size := lt_of_block hv1
        have hmk := run_make_row' (P := Try.prog) 53 5 (.int .u8 0) 1 Try.underlying53 sat_Text.info5' rfl .i64 .i64 zs.length (by omega) (by omega)
        go_wp2_with fail
        clear hmk
        have cG := own_made wc (w.heap.size + 2) 5 .u8 zs.length (by omega) (by omega)
        have hvn : (wc.alloc (.cells (madeCells #[.int .u8 0] zs.length) 5)).heap[w.heap.size]? = some (.cells #[.slice (some ⟨g1, 0, none⟩) zs.length cap1] 53 (0, 0)) := by rw [heap_alloc_old _ _ hlt1]; exact hv1
        have hl0 : sat_Text.Last w g1 cap1 wc.heap.size zs 0 (wc.alloc (.cells (madeCells #[.int .u8 0] zs.length) 5)) := ⟨hvn, hown1.alloc _, by simpa [sat_Text.outs] using cG, by omega, hbel1.alloc (by omega) _⟩
        obtain ⟨G, hG⟩ : ∃ G, G = wc.heap.size := ⟨_, rfl⟩
        rw [← hG] at hl0 ⊢
        have hGlt : w.heap.size < G := by omega
        clear cG hvn cB fB hG hown1 hv1
        go_loopg [23] zs.length (fun k i wr => ∃ n : Nat, i = .int .i64 n ∧ n ≤ zs.length ∧ Aside0 (k = zs.length - n) ∧ Aside0 (sat_Text.Last w g1 cap1 G zs n wr))
        case atStart => exact ⟨0, rfl, by omega, ⟨by omega⟩, ⟨hl0⟩⟩
        case round =>
          obtain ⟨n, rfl, hn, hk, hlast⟩ := hrel
          have hl := hlast.out
          have cB := cell_of_one hl.var
          have hconv := own_string (P := Try.prog) (src := 53) (dst := 9) (e := 5) Try.underlying53 Try.underlying5 Try.underlying9 hl.out
          by_cases hlt : n < zs.length
          · clear hconv
            have hsrc := (own_at hl.src (n : Int) (by omega) (by omega)).1
            have hdst := own_at hl.out ((zs.length : Int) - 1 - n) (by omega) (by omega)
            have hi1 : ((n : Int)).toNat = n := by omega
            have hi2 : ((zs.length : Int) - 1 - n).toNat = zs.length - 1 - n := by omega
            rw [hi1] at hsrc
            rw [hi2] at hdst
            obtain ⟨hdst, hdstf⟩ := hdst
            clear hi1 hi2 hl
            go_wp2
            go_region
            go_wp2
            go_roundg (zs.length - (n + 1))
            case rel => exact ⟨n + 1, by go_num, by omega, ⟨rfl⟩, ⟨hlast.out.step hGlt hlt⟩⟩
            case measure => have := hk.out; omega
          · clear hl
            obtain rfl : n = zs.length := by omega
            go_wp2
            go_ret
            refine ⟨?_, hlast.out.bel⟩
            have hr' := hr.out
            rw [← hzs.out] at hr'
            show Ending.returned (.string (strOfNums (sat_Text.outs zs zs.length))) = _
            rw [← hr', sat_Text.outs_all]
  · cases h

end Go.Proofs.Ytcgpgbhhlepefaa.Print
