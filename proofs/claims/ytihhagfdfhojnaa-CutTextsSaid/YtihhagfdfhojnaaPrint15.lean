-- Laid by wip/print/bprint.py of this repo, over the kit's printer, with functions given by hand; not trusted: Lean checks it.
import Derived.Test.YtihhagfdfhojnaaPrint0
namespace Go.Proofs.Ytihhagfdfhojnaa.Print
open Go.RowKit Go.Proofs.YtihhagfdfhojnaaW.PrintWords Go.Proofs.YtihhagfdfhojnaaW.PrintLast Go.Proofs.YtihhagfdfhojnaaW.PrintMore
attribute [local go_sem] max2_int min2_int max_two min_two max_three min_three max_four min_four   -- for this text's walks alone
set_option linter.unusedVariables false
set_option linter.unusedSimpArgs false

/-! ### bocageref01_whole: function 69 -/
mutual
def bocageref01_whole.j0 : Nat → ByteArray → Int → Bool → Int → Option (Int × List Int × Bool)
  | 0, _, _, _, _ => none
  | k + 1, x0, x5, x15, x204000 => if x15 = true then (bocageref01_whole.j1 k x0 1 (-1)) else (bocageref01_whole.j1 k x0 x5 x204000)
def bocageref01_whole.j1 : Nat → ByteArray → Int → Int → Option (Int × List Int × Bool)
  | 0, _, _, _ => none
  | k + 1, x0, x5, x204000 => bocageref01_whole.l0 k x0 x5 (wrap64 ((x0.size : Int) - 1)) x204000 ([] : List Int)
def bocageref01_whole.l0 : Nat → ByteArray → Int → Int → Int → List Int → Option (Int × List Int × Bool)
  | 0, _, _, _, _, _ => none
  | k + 1, x0, x5, x6, x204000, x204001 => if x6 ≥ x5 then (if 0 ≤ x6 then (if x6 < (x0.size : Int) then (if (bt x0 x6) < 48 then (some (0, ([] : List Int), false)) else (if (bt x0 x6) > 57 then (some (0, ([] : List Int), false)) else (if x204001.length < 17592186044416 then (bocageref01_whole.l0 k x0 x5 (wrap64 (x6 - 1)) x204000 (x204001 ++ [wrap64 ((wrap64 (bt x0 x6)) - 48)])) else (none)))) else (none)) else (none)) else (if (x204001.length : Int) = 0 then (some (0, ([] : List Int), false)) else (if 0 ≤ (wrap64 ((x204001.length : Int) - 1)) then (if (wrap64 ((x204001.length : Int) - 1)) < (x204001.length : Int) then (if (rd x204001 (wrap64 ((x204001.length : Int) - 1))) = 0 then (if (x204001.length : Int) > 1 then (bocageref01_whole.j3 k true x204000 x204001) else (bocageref01_whole.j3 k (decide (x5 > 0)) x204000 x204001)) else (bocageref01_whole.j3 k false x204000 x204001)) else (none)) else (none)))
def bocageref01_whole.j3 : Nat → Bool → Int → List Int → Option (Int × List Int × Bool)
  | 0, _, _, _ => none
  | k + 1, x69, x204000, x204001 => if x69 = true then (some (0, ([] : List Int), false)) else (if 0 ≤ (wrap64 ((x204001.length : Int) - 1)) then (if (wrap64 ((x204001.length : Int) - 1)) < (x204001.length : Int) then (if (rd x204001 (wrap64 ((x204001.length : Int) - 1))) = 0 then (some (0, ([] : List Int), true)) else (some (x204000, x204001, true))) else (none)) else (none))
end
def bocageref01_whole.f (k : Nat) (a0 : ByteArray) : Option (Int × List Int × Bool) := if (a0.size : Int) > 0 then (if 0 < (a0.size : Int) then (bocageref01_whole.j0 k a0 0 ((bt a0 0) == 45) 1) else (none)) else (bocageref01_whole.j0 k a0 0 false 1)
theorem bocageref01_whole.mono_l : ∀ k, (∀ y0 y1 y2 y3, LeO (bocageref01_whole.j0 k y0 y1 y2 y3) (bocageref01_whole.j0 (k + 1) y0 y1 y2 y3)) ∧ (∀ y0 y1 y2, LeO (bocageref01_whole.j1 k y0 y1 y2) (bocageref01_whole.j1 (k + 1) y0 y1 y2)) ∧ (∀ y0 y1 y2 y3 y4, LeO (bocageref01_whole.l0 k y0 y1 y2 y3 y4) (bocageref01_whole.l0 (k + 1) y0 y1 y2 y3 y4)) ∧ (∀ y0 y1 y2, LeO (bocageref01_whole.j3 k y0 y1 y2) (bocageref01_whole.j3 (k + 1) y0 y1 y2))
  | 0 => ⟨fun _ _ _ _ r h => by simp [bocageref01_whole.j0] at h, fun _ _ _ r h => by simp [bocageref01_whole.j1] at h, fun _ _ _ _ _ r h => by simp [bocageref01_whole.l0] at h, fun _ _ _ r h => by simp [bocageref01_whole.j3] at h⟩
  | k + 1 => by
    obtain ⟨ih0, ih1, ih2, ih3⟩ := bocageref01_whole.mono_l k
    refine ⟨?_, ?_, ?_, ?_⟩
    · intro y0 y1 y2 y3
      unfold bocageref01_whole.j0
      repeat' first
      | (with_reducible exact ih0 _ _ _ _)
      | (with_reducible exact ih1 _ _ _)
      | (with_reducible exact ih2 _ _ _ _ _)
      | (with_reducible exact ih3 _ _ _)
      | (with_reducible exact LeO.refl _)
      | (with_reducible exact LeO.none _)
      | (with_reducible refine LeO.ite ?_ ?_)
      | (with_reducible refine LeO.bind ?_ (fun _ => ?_))
      | exact ih0 _ _ _ _
      | exact ih1 _ _ _
      | exact ih2 _ _ _ _ _
      | exact ih3 _ _ _
      | exact LeO.none _
      | refine LeO.ite ?_ ?_
      | refine LeO.bind ?_ (fun _ => ?_)
    · intro y0 y1 y2
      unfold bocageref01_whole.j1
      repeat' first
      | (with_reducible exact ih0 _ _ _ _)
      | (with_reducible exact ih1 _ _ _)
      | (with_reducible exact ih2 _ _ _ _ _)
      | (with_reducible exact ih3 _ _ _)
      | (with_reducible exact LeO.refl _)
      | (with_reducible exact LeO.none _)
      | (with_reducible refine LeO.ite ?_ ?_)
      | (with_reducible refine LeO.bind ?_ (fun _ => ?_))
      | exact ih0 _ _ _ _
      | exact ih1 _ _ _
      | exact ih2 _ _ _ _ _
      | exact ih3 _ _ _
      | exact LeO.none _
      | refine LeO.ite ?_ ?_
      | refine LeO.bind ?_ (fun _ => ?_)
    · intro y0 y1 y2 y3 y4
      unfold bocageref01_whole.l0
      repeat' first
      | (with_reducible exact ih0 _ _ _ _)
      | (with_reducible exact ih1 _ _ _)
      | (with_reducible exact ih2 _ _ _ _ _)
      | (with_reducible exact ih3 _ _ _)
      | (with_reducible exact LeO.refl _)
      | (with_reducible exact LeO.none _)
      | (with_reducible refine LeO.ite ?_ ?_)
      | (with_reducible refine LeO.bind ?_ (fun _ => ?_))
      | exact ih0 _ _ _ _
      | exact ih1 _ _ _
      | exact ih2 _ _ _ _ _
      | exact ih3 _ _ _
      | exact LeO.none _
      | refine LeO.ite ?_ ?_
      | refine LeO.bind ?_ (fun _ => ?_)
    · intro y0 y1 y2
      unfold bocageref01_whole.j3
      repeat' first
      | (with_reducible exact ih0 _ _ _ _)
      | (with_reducible exact ih1 _ _ _)
      | (with_reducible exact ih2 _ _ _ _ _)
      | (with_reducible exact ih3 _ _ _)
      | (with_reducible exact LeO.refl _)
      | (with_reducible exact LeO.none _)
      | (with_reducible refine LeO.ite ?_ ?_)
      | (with_reducible refine LeO.bind ?_ (fun _ => ?_))
      | exact ih0 _ _ _ _
      | exact ih1 _ _ _
      | exact ih2 _ _ _ _ _
      | exact ih3 _ _ _
      | exact LeO.none _
      | refine LeO.ite ?_ ?_
      | refine LeO.bind ?_ (fun _ => ?_)
theorem bocageref01_whole.mono : ∀ a0 k, LeO (bocageref01_whole.f k a0) (bocageref01_whole.f (k + 1) a0) := by
  intro a0 k
  obtain ⟨ih0, ih1, ih2, ih3⟩ := bocageref01_whole.mono_l k
  unfold bocageref01_whole.f
  repeat' first
      | (with_reducible exact ih0 _ _ _ _)
      | (with_reducible exact ih1 _ _ _)
      | (with_reducible exact ih2 _ _ _ _ _)
      | (with_reducible exact ih3 _ _ _)
      | (with_reducible exact LeO.refl _)
      | (with_reducible exact LeO.none _)
      | (with_reducible refine LeO.ite ?_ ?_)
      | (with_reducible refine LeO.bind ?_ (fun _ => ?_))
      | exact ih0 _ _ _ _
      | exact ih1 _ _ _
      | exact ih2 _ _ _ _ _
      | exact ih3 _ _ _
      | exact LeO.none _
      | refine LeO.ite ?_ ?_
      | refine LeO.bind ?_ (fun _ => ?_)
def bocageref01_whole.T12 : Bool × List (List Nat × List Nat) := (true, [([], []), ([0], [0]), ([], []), ([], []), ([2, 3], [2, 3]), ([4], [4]), ([5], [5]), ([6], [6]), ([1, 7], [1, 7]), ([0, 1, 2, 3, 4, 5, 6, 7, 8], []), ([9, 8, 8, 0, 1, 2, 3, 4, 5, 6, 7, 8], [8, 9])])
def bocageref01_whole.B12 : List Nat := [0, 1, 0, 0, 12, 28, 60, 124, 255, 511, 1023]
theorem bocageref01_whole.tab12 : rtab .any (opsOf Try.f69 12) = bocageref01_whole.T12 := by kernel_rfl
theorem bocageref01_whole.bits12 : waitsOk bocageref01_whole.T12.2 bocageref01_whole.B12 = true := by kernel_rfl
set_option maxHeartbeats 8000000 in
set_option maxRecDepth 100000 in
theorem bocageref01_whole.calls (k : Nat) (a0 : ByteArray) (r1 : Int) (r2 : List Int) (r3 : Bool) (w : World) (h : bocageref01_whole.f k a0 = some (r1, r2, r3)) :
    Calls Try.prog 69 #[.string a0] w fun e w' => ∃ v1_ : Value, e = .returned (.tuple #[.agg #[.int .i64 r1, v1_], .bool r3]) ∧ Kd.R (Kd.int .i64) 3 w' w.heap.size (fun _ => True) v1_ r2 ∧ Below w.heap.size w w' := by
  have hu59 := Try.underlying59
  have HB := Aside0.mk (Below.refl w.heap.size w)
  have H : (if (a0.size : Int) > 0 then (if 0 < (a0.size : Int) then (bocageref01_whole.j0 k a0 0 ((bt a0 0) == 45) 1) else (none)) else (bocageref01_whole.j0 k a0 0 false 1)) = some (r1, r2, r3) := h
  clear h
  have HC2 := Aside0.mk H
  clear H
  go_enter Try.func69, Try.ntmps69
  go_upto_region 4 with (first | ((with_reducible refine gate_dst (N := 2) rfl ?_); (try (refine gate_guard (by rfl) ?_; dsimp only)); refine box_event ?hg (N := 2) ?hd (cs := #[.int .i64 0, .slice none 0 0]) (t := 59) ?hr ?_; (case hd => rfl); (case hg => rfl); (case hr => first | (go_simp; done) | (go_simp; rfl)); intro gb202 hg w3 hbox hb; have n0_ := Aside0.mk (below_step (by repeat (first | (with_reducible first | exact HB.out | apply below_alloc | apply pw_below_drewN | apply below_drew1) | exact HB.out)) hb); have n1_ := Aside0.mk (hbox); have n2_ := Aside0.mk ((by rw [hg]; exact (below_size (by repeat (first | (with_reducible first | exact HB.out | apply below_alloc | apply pw_below_drewN | apply below_drew1) | exact HB.out))) : w.heap.size ≤ gb202)); have n3_ := Aside0.mk ((by rw [hg]; exact (below_size (by repeat (first | (with_reducible first | exact HB.out | apply below_alloc | apply pw_below_drewN | apply below_drew1) | exact HB.out))) : w.heap.size ≤ gb202)); clear HB; have HB := n0_; have BK202 := n1_; have GW202 := n2_; have GE202 := n3_; clear n0_ n1_ n2_ n3_; clear hb hbox hg) | ((with_reducible refine gate_dst (N := 4) rfl ?_); (try (refine gate_guard (by rfl) ?_; dsimp only)); refine box_event ?hg (N := 4) ?hd (cs := #[.int .i64 0, .slice none 0 0]) (t := 59) ?hr ?_; (case hd => rfl); (case hg => rfl); (case hr => first | (go_simp; done) | (go_simp; rfl)); intro gb203 hg w4 hbox hb; have n0_ := Aside0.mk (blk_below (g := gb202) (o := .cells #[.int .i64 0, .slice none 0 0] 59 (0, 0)) (by (with_reducible repeat (first | refine blk_drewN ?_ _ | refine blk_drew ?_ | refine blk_alloc ?_ _)); exact BK202.out) hb); have n1_ := Aside0.mk (below_step (by repeat (first | (with_reducible first | exact HB.out | apply below_alloc | apply pw_below_drewN | apply below_drew1 | refine below_set ?_ GE202.out) | exact HB.out)) hb); have n2_ := Aside0.mk (hbox); have n3_ := Aside0.mk ((by rw [hg]; exact (below_size (by repeat (first | (with_reducible first | exact HB.out | apply below_alloc | apply pw_below_drewN | apply below_drew1 | refine below_set ?_ GE202.out) | exact HB.out))) : w.heap.size ≤ gb203)); have n4_ := Aside0.mk ((by rw [hg]; exact (below_size (by repeat (first | (with_reducible first | exact HB.out | apply below_alloc | apply pw_below_drewN | apply below_drew1 | refine below_set ?_ GE202.out) | exact HB.out))) : w.heap.size ≤ gb203)); have n5_ := Aside0.mk ((by rw [hg]; exact Nat.ne_of_lt (blk_lt (g := gb202) (o := .cells #[.int .i64 0, .slice none 0 0] 59 (0, 0)) (by (with_reducible repeat (first | refine blk_drewN ?_ _ | refine blk_drew ?_ | refine blk_alloc ?_ _)); exact BK202.out)) : gb202 ≠ gb203)); have n6_ := Aside0.mk ((by rw [hg]; exact Nat.ne_of_gt (blk_lt (g := gb202) (o := .cells #[.int .i64 0, .slice none 0 0] 59 (0, 0)) (by (with_reducible repeat (first | refine blk_drewN ?_ _ | refine blk_drew ?_ | refine blk_alloc ?_ _)); exact BK202.out)) : gb203 ≠ gb202)); clear BK202; clear HB; have BK202 := n0_; have HB := n1_; have BK203 := n2_; have GW203 := n3_; have GE203 := n4_; have NB202_203 := n5_; have NB203_202 := n6_; clear n0_ n1_ n2_ n3_ n4_ n5_ n6_; clear hb hbox hg; have hnb5 := NB203_202.out; have hnc5 := NB202_203.out; have hcz6_0 : w4.cell? ⟨gb203, 0, none⟩ = some (.int .i64 0) := (blk_cell BK203.out 0).trans rfl; have hcz6_1 : w4.cell? ⟨gb203, 1, none⟩ = some (.slice none 0 0) := (blk_cell BK203.out 1).trans rfl; have hfz6_0 := blk_frozen BK203.out 0; have hfz6_1 := blk_frozen BK203.out 1))
  (try simp only [Act.put, List.setIfInBounds_toArray, List.set_cons_zero, List.set_cons_succ])
  go_cut [15] (fun v15 wc => ∃ (kq : Nat) (x15_1 : Bool), v15 = .bool x15_1 ∧ Aside0 (bocageref01_whole.j0 kq a0 0 x15_1 1 = some (r1, r2, r3)) ∧ Aside0 (kq ≤ k) ∧ Aside0 (wc.heap[gb202]? = some (.cells #[.int .i64 0, (.slice none 0 0)] 59 (0, 0))) ∧ Aside0 (wc.heap[gb203]? = some (.cells #[.int .i64 1, (.slice none 0 0)] 59 (0, 0))) ∧ Aside0 (Below w.heap.size w wc))
  case first =>
    have H := HC2.out
    clear HC2
    by_cases c7 : (a0.size : Int) > 0
    · rw [if_pos c7] at H
      have c7b0 : decide (0 < (a0.size : Int)) = true := decide_eq_true c7
      have c7b1 : decide (0 < a0.size) = true := decide_eq_true (by omega)
      clear c7
      (first | rw [c7b0] | (simp only [i64_w, i32_w]; rw [c7b0]) | skip)
      by_cases c8 : 0 < (a0.size : Int)
      · rw [if_pos c8] at H
        have c8b0 : decide (0 < (a0.size : Int)) = true := decide_eq_true c8
        have c8b1 : decide (0 < a0.size) = true := decide_eq_true (by omega)
        clear c8
        have H' := Aside0.mk H
        clear H
        have p9 : 0 ≤ (0 : Int) := (by omega)
        have q9 : 0 < a0.size := (by have : (0 : Int) < (a0.size : Int) := of_decide_eq_true (by first | (with_reducible assumption) | assumption); omega)
        have hx9 : ∀ h : 0 < a0.size, ((a0[0]'h).toNat : Int) = bt a0 0 := bt_at a0 0
        clear p9
        have qi9 : (0 < (a0.size : Int)) = True := eq_true (of_decide_eq_true (by first | (with_reducible assumption) | assumption))
        replace q9 := eq_true q9
        go_wp2
        go_meet
        case rel => exact ⟨_, (((bt a0 0) == 45)), (by first | rfl | (simp; done) | (simp [*]; done)), H', ⟨by first | omega | exact Nat.le_refl _⟩, ⟨by (with_reducible repeat (first | refine blk_drewN ?_ _ | refine blk_drew ?_ | refine blk_alloc ?_ _)); refine blk_far ?_ NB202_203.out _; (with_reducible repeat (first | refine blk_drewN ?_ _ | refine blk_drew ?_ | refine blk_alloc ?_ _)); exact BK202.out⟩, ⟨by (with_reducible repeat (first | refine blk_drewN ?_ _ | refine blk_drew ?_ | refine blk_alloc ?_ _)); refine blk_put (cs := #[.int .i64 0, .slice none 0 0]) ?_ 0 _ rfl; (with_reducible repeat (first | refine blk_drewN ?_ _ | refine blk_drew ?_ | refine blk_alloc ?_ _)); exact BK203.out⟩, ⟨by repeat (first | (with_reducible first | exact HB.out | apply below_alloc | apply pw_below_drewN | apply below_drew1 | refine below_set ?_ GE202.out | refine below_set ?_ GE203.out) | exact HB.out)⟩⟩
      · rw [if_neg c8] at H
        exact absurd H (by simp)
    · rw [if_neg c7] at H
      have c7b0 : decide (0 < (a0.size : Int)) = false := decide_eq_false c7
      have c7b1 : decide (0 < a0.size) = false := decide_eq_false (by omega)
      clear c7
      (first | rw [c7b0] | (simp only [i64_w, i32_w]; rw [c7b0]) | skip)
      have H' := Aside0.mk H
      clear H
      go_wp2
      go_meet
      case rel => exact ⟨_, (false), (by first | rfl | (simp; done) | (simp [*]; done)), H', ⟨by first | omega | exact Nat.le_refl _⟩, ⟨by (with_reducible repeat (first | refine blk_drewN ?_ _ | refine blk_drew ?_ | refine blk_alloc ?_ _)); refine blk_far ?_ NB202_203.out _; (with_reducible repeat (first | refine blk_drewN ?_ _ | refine blk_drew ?_ | refine blk_alloc ?_ _)); exact BK202.out⟩, ⟨by (with_reducible repeat (first | refine blk_drewN ?_ _ | refine blk_drew ?_ | refine blk_alloc ?_ _)); refine blk_put (cs := #[.int .i64 0, .slice none 0 0]) ?_ 0 _ rfl; (with_reducible repeat (first | refine blk_drewN ?_ _ | refine blk_drew ?_ | refine blk_alloc ?_ _)); exact BK203.out⟩, ⟨by repeat (first | (with_reducible first | exact HB.out | apply below_alloc | apply pw_below_drewN | apply below_drew1 | refine below_set ?_ GE202.out | refine below_set ?_ GE203.out) | exact HB.out)⟩⟩
  case rest =>
    clear HC2
    try clear p2
    try clear c5
    try clear c6
    try clear c7
    try clear c7b0
    try clear c7b1
    try clear c8
    try clear c8b0
    try clear c8b1
    try clear p9
    try clear q9
    try clear hx9
    try clear qi9
    try clear hcz6_0
    try clear hcz6_1
    try clear hfz6_0
    try clear hfz6_1
    try clear p9
    try clear q9
    obtain ⟨kq, x15_1, rfl, HA, HJ1, BK202, BK203, HB⟩ := hcut
    cases kq with
    | zero => exact absurd HA.out (by simp [bocageref01_whole.j0])
    | succ kj1 =>
      have H := HA.out
      clear HA
      simp only [bocageref01_whole.j0] at H
      have HC10 := Aside0.mk H
      clear H
      go_upto_if 15 with (fail)
      go_cut [5] (fun v5 wc => ∃ (kq : Nat) (x5_9 : Int) (x204000_9 : Int), v5 = .int .i64 x5_9 ∧ Aside0 (bocageref01_whole.j1 kq a0 x5_9 x204000_9 = some (r1, r2, r3)) ∧ Aside0 (kq ≤ kj1) ∧ Aside0 (wc.heap[gb202]? = some (.cells #[.int .i64 0, (.slice none 0 0)] 59 (0, 0))) ∧ Aside0 (wc.heap[gb203]? = some (.cells #[.int .i64 x204000_9, (.slice none 0 0)] 59 (0, 0))) ∧ Aside0 (Below w.heap.size w wc))
      case first =>
        have H := HC10.out
        clear HC10
        by_cases c11 : x15_1 = true
        · subst c11
          have H1 : (bocageref01_whole.j1 kj1 a0 1 (-1)) = some (r1, r2, r3) := by rw [if_pos rfl] at H; exact H
          clear H
          have H := H1
          clear H1
          have H' := Aside0.mk H
          clear H
          have hnb12 := NB203_202.out
          have hnc12 := NB202_203.out
          have hcz13_0 : wc.cell? ⟨gb203, 0, none⟩ = some (.int .i64 1) := (blk_cell BK203.out 0).trans rfl
          have hcz13_1 : wc.cell? ⟨gb203, 1, none⟩ = some (.slice none 0 0) := (blk_cell BK203.out 1).trans rfl
          have hfz13_0 := blk_frozen BK203.out 0
          have hfz13_1 := blk_frozen BK203.out 1
          go_wp2
          go_meet
          case rel => exact ⟨_, (1), ((-1)), (by first | rfl | (simp; done) | (simp [*]; done)), H', ⟨by have := HJ1.out; first | omega | exact Nat.le_refl _⟩, ⟨by (with_reducible repeat (first | refine blk_drewN ?_ _ | refine blk_drew ?_ | refine blk_alloc ?_ _)); refine blk_far ?_ NB202_203.out _; (with_reducible repeat (first | refine blk_drewN ?_ _ | refine blk_drew ?_ | refine blk_alloc ?_ _)); exact BK202.out⟩, ⟨by (with_reducible repeat (first | refine blk_drewN ?_ _ | refine blk_drew ?_ | refine blk_alloc ?_ _)); refine blk_put (cs := #[.int .i64 1, .slice none 0 0]) ?_ 0 _ rfl; (with_reducible repeat (first | refine blk_drewN ?_ _ | refine blk_drew ?_ | refine blk_alloc ?_ _)); exact BK203.out⟩, ⟨by repeat (first | (with_reducible first | exact HB.out | apply below_alloc | apply pw_below_drewN | apply below_drew1 | refine below_set ?_ GE202.out | refine below_set ?_ GE203.out) | exact HB.out)⟩⟩
        · replace c11 := Bool.eq_false_iff.mpr c11
          subst c11
          have H1 : (bocageref01_whole.j1 kj1 a0 0 1) = some (r1, r2, r3) := by rw [if_neg (show ¬ (false = true) by decide)] at H; exact H
          clear H
          have H := H1
          clear H1
          have H' := Aside0.mk H
          clear H
          go_wp2
          go_meet
          case rel => exact ⟨_, (0), (1), (by first | rfl | (simp; done) | (simp [*]; done)), H', ⟨by have := HJ1.out; first | omega | exact Nat.le_refl _⟩, ⟨by (with_reducible repeat (first | refine blk_drewN ?_ _ | refine blk_drew ?_ | refine blk_alloc ?_ _)); exact BK202.out⟩, ⟨by (with_reducible repeat (first | refine blk_drewN ?_ _ | refine blk_drew ?_ | refine blk_alloc ?_ _)); exact BK203.out⟩, ⟨by repeat (first | (with_reducible first | exact HB.out | apply below_alloc | apply pw_below_drewN | apply below_drew1 | refine below_set ?_ GE202.out | refine below_set ?_ GE203.out) | exact HB.out)⟩⟩
      case rest =>
        clear HC10
        try clear c1
        try clear p2
        try clear c5
        try clear c6
        try clear c7
        try clear c7b0
        try clear c7b1
        try clear c8
        try clear c8b0
        try clear c8b1
        try clear p9
        try clear q9
        try clear hx9
        try clear qi9
        try clear c11
        try clear c12
        try clear hcz13_0
        try clear hcz13_1
        try clear hcz6_0
        try clear hcz6_1
        try clear hfz13_0
        try clear hfz13_1
        try clear hfz6_0
        try clear hfz6_1
        try clear p2
        try clear p9
        try clear q9
        obtain ⟨kq, x5_9, x204000_9, rfl, HA, HJ9, BK202, BK203, HB⟩ := hcut
        cases kq with
        | zero => exact absurd HA.out (by simp [bocageref01_whole.j1])
        | succ kj9 =>
          have H := HA.out
          clear HA
          simp only [bocageref01_whole.j1] at H
          have H' := Aside0.mk H
          clear H
          go_wp2
          go_loopg [6] kj9 (fun kq v6 w' => ∃ (x6_3 : Int) (x203000_3 : Int) (x204001_3 : List Int) (u204001 : Value), v6 = .int .i64 x6_3 ∧ Aside0 (bocageref01_whole.l0 kq a0 x5_9 x6_3 x204000_9 x204001_3 = some (r1, r2, r3)) ∧ Aside0 (kq ≤ kj9) ∧ Aside0 (Kd.R (Kd.int .i64) 3 w' w.heap.size (fun _ => True) u204001 x204001_3) ∧ Aside0 (w'.heap[gb202]? = some (.cells #[.int .i64 x203000_3, (.slice none 0 0)] 59 (0, 0))) ∧ Aside0 (w'.heap[gb203]? = some (.cells #[.int .i64 x204000_9, u204001] 59 (0, 0))) ∧ Aside0 (Below w.heap.size w w'))
          case atStart => exact ⟨(wrap64 ((a0.size : Int) - 1)), (0), (([] : List Int)), (.slice none 0 0), (by first | rfl | (simp; done) | (simp [*]; done)), H', ⟨Nat.le_refl _⟩, ⟨by first | exact Kd.R_nil _ _ _ _ _ | exact Kd.N_nil _ _ _ _ _ | exact Kd.V_nil _ _ _ _ _ | exact Kd.Q_nil _ _ _ _ _ | exact Kd.S_nil _ _ _ _ _⟩, ⟨by (with_reducible repeat (first | refine blk_drewN ?_ _ | refine blk_drew ?_ | refine blk_alloc ?_ _)); exact BK202.out⟩, ⟨by (with_reducible repeat (first | refine blk_drewN ?_ _ | refine blk_drew ?_ | refine blk_alloc ?_ _)); exact BK203.out⟩, ⟨by repeat (first | (with_reducible first | exact HB.out | apply below_alloc | apply pw_below_drewN | apply below_drew1 | refine below_set ?_ GE202.out | refine below_set ?_ GE203.out) | exact HB.out)⟩⟩
          case round =>
            clear H'
            try clear c1
            try clear p2
            try clear c5
            try clear c6
            try clear p6
            try clear c7
            try clear c7b0
            try clear c7b1
            try clear c8
            try clear c8b0
            try clear c8b1
            try clear p9
            try clear q9
            try clear hx9
            try clear qi9
            try clear c11
            try clear c12
            try clear hcz13_0
            try clear hcz13_1
            try clear hcz6_0
            try clear hcz6_1
            try clear hfz13_0
            try clear hfz13_1
            try clear hfz6_0
            try clear hfz6_1
            try clear p2
            try clear p9
            try clear q9
            obtain ⟨x6_3, x203000_3, x204001_3, u204001, rfl, HA, HK3, HO_204001, BK202, BK203, HB⟩ := hrel
            cases gk with
            | zero => exact absurd HA.out (by simp [bocageref01_whole.l0])
            | succ k3 =>
              have H := HA.out
              clear HA
              simp only [bocageref01_whole.l0] at H
              by_cases c14 : x6_3 ≥ x5_9
              · rw [if_pos c14] at H
                have c14b0 : decide (x5_9 ≤ x6_3) = true := decide_eq_true c14
                clear c14
                by_cases c15 : 0 ≤ x6_3
                · rw [if_pos c15] at H
                  have c15b0 : decide (0 ≤ x6_3) = true := decide_eq_true c15
                  clear c15
                  by_cases c16 : x6_3 < (a0.size : Int)
                  · rw [if_pos c16] at H
                    have c16b0 : decide (x6_3 < (a0.size : Int)) = true := decide_eq_true c16
                    clear c16
                    by_cases c18 : (bt a0 x6_3) < 48
                    · rw [if_pos c18] at H
                      have c18b0 : decide ((bt a0 x6_3) < 48) = true := decide_eq_true c18
                      clear c18
                      simp only [Option.some.injEq, Prod.mk.injEq] at H
                      obtain ⟨rfl, rfl, rfl⟩ := H
                      have p17 : 0 ≤ (x6_3 : Int) := of_decide_eq_true (by first | (with_reducible assumption) | assumption)
                      have q17 : x6_3 < (a0.size : Int) := of_decide_eq_true (by first | (with_reducible assumption) | assumption)
                      have hx17 := bt_at a0 x6_3
                      replace p17 := eq_true p17
                      replace q17 := eq_true q17
                      have hnb19 := NB202_203.out
                      have hnc19 := NB203_202.out
                      have hcz20_0 : wr.cell? ⟨gb202, 0, none⟩ = some (.int .i64 x203000_3) := (blk_cell BK202.out 0).trans rfl
                      have hcz20_1 : wr.cell? ⟨gb202, 1, none⟩ = some (.slice none 0 0) := (blk_cell BK202.out 1).trans rfl
                      have hfz20_0 := blk_frozen BK202.out 0
                      have hfz20_1 := blk_frozen BK202.out 1
                      go_wp2
                      refine bodyPost_ret (results_ct rfl _ _ gb202 59 #[.int .i64 0, .slice none 0 0] (0, 0) _ rfl (by (with_reducible repeat (first | refine blk_drewN ?_ _ | refine blk_drew ?_ | refine blk_alloc ?_ _)); refine blk_put (cs := #[.int .i64 0, .slice none 0 0]) ?_ 1 _ rfl; (with_reducible repeat (first | refine blk_drewN ?_ _ | refine blk_drew ?_ | refine blk_alloc ?_ _)); refine blk_put (cs := #[.int .i64 x203000_3, .slice none 0 0]) ?_ 0 _ rfl; (with_reducible repeat (first | refine blk_drewN ?_ _ | refine blk_drew ?_ | refine blk_alloc ?_ _)); exact BK202.out) Try.underlying59 rfl (by kernel_rfl)) rfl ?_
                      exact ⟨_, by first | rfl | (simp [errW_none, errW_some] <;> rfl) | (simp [*, errW_none, errW_some] <;> rfl), by first | exact Kd.R_nil _ _ _ _ _ | exact Kd.N_nil _ _ _ _ _ | exact Kd.V_nil _ _ _ _ _ | exact Kd.Q_nil _ _ _ _ _ | exact Kd.S_nil _ _ _ _ _, by repeat (first | (with_reducible first | exact HB.out | apply below_alloc | apply pw_below_drewN | apply below_drew1 | refine below_set ?_ GE202.out | refine below_set ?_ GE203.out) | exact HB.out)⟩
                    · rw [if_neg c18] at H
                      have c18b0 : decide ((bt a0 x6_3) < 48) = false := decide_eq_false c18
                      clear c18
                      by_cases c22 : (bt a0 x6_3) > 57
                      · rw [if_pos c22] at H
                        have c22b0 : decide (57 < (bt a0 x6_3)) = true := decide_eq_true c22
                        clear c22
                        simp only [Option.some.injEq, Prod.mk.injEq] at H
                        obtain ⟨rfl, rfl, rfl⟩ := H
                        have p17 : 0 ≤ (x6_3 : Int) := of_decide_eq_true (by first | (with_reducible assumption) | assumption)
                        have q17 : x6_3 < (a0.size : Int) := of_decide_eq_true (by first | (with_reducible assumption) | assumption)
                        have hx17 := bt_at a0 x6_3
                        replace p17 := eq_true p17
                        replace q17 := eq_true q17
                        have p21 : 0 ≤ (x6_3 : Int) := of_decide_eq_true (by first | (with_reducible assumption) | assumption)
                        have q21 : x6_3 < (a0.size : Int) := of_decide_eq_true (by first | (with_reducible assumption) | assumption)
                        have hx21 := bt_at a0 x6_3
                        replace p21 := eq_true p21
                        replace q21 := eq_true q21
                        have hnb23 := NB202_203.out
                        have hnc23 := NB203_202.out
                        have hcz24_0 : wr.cell? ⟨gb202, 0, none⟩ = some (.int .i64 x203000_3) := (blk_cell BK202.out 0).trans rfl
                        have hcz24_1 : wr.cell? ⟨gb202, 1, none⟩ = some (.slice none 0 0) := (blk_cell BK202.out 1).trans rfl
                        have hfz24_0 := blk_frozen BK202.out 0
                        have hfz24_1 := blk_frozen BK202.out 1
                        go_wp2
                        refine bodyPost_ret (results_ct rfl _ _ gb202 59 #[.int .i64 0, .slice none 0 0] (0, 0) _ rfl (by (with_reducible repeat (first | refine blk_drewN ?_ _ | refine blk_drew ?_ | refine blk_alloc ?_ _)); refine blk_put (cs := #[.int .i64 0, .slice none 0 0]) ?_ 1 _ rfl; (with_reducible repeat (first | refine blk_drewN ?_ _ | refine blk_drew ?_ | refine blk_alloc ?_ _)); refine blk_put (cs := #[.int .i64 x203000_3, .slice none 0 0]) ?_ 0 _ rfl; (with_reducible repeat (first | refine blk_drewN ?_ _ | refine blk_drew ?_ | refine blk_alloc ?_ _)); exact BK202.out) Try.underlying59 rfl (by kernel_rfl)) rfl ?_
                        exact ⟨_, by first | rfl | (simp [errW_none, errW_some] <;> rfl) | (simp [*, errW_none, errW_some] <;> rfl), by first | exact Kd.R_nil _ _ _ _ _ | exact Kd.N_nil _ _ _ _ _ | exact Kd.V_nil _ _ _ _ _ | exact Kd.Q_nil _ _ _ _ _ | exact Kd.S_nil _ _ _ _ _, by repeat (first | (with_reducible first | exact HB.out | apply below_alloc | apply pw_below_drewN | apply below_drew1 | refine below_set ?_ GE202.out | refine below_set ?_ GE203.out) | exact HB.out)⟩
                      · rw [if_neg c22] at H
                        have c22b0 : decide (57 < (bt a0 x6_3)) = false := decide_eq_false c22
                        clear c22
                        by_cases c26 : x204001_3.length < 17592186044416
                        · rw [if_pos c26] at H
                          have LMc26 := Aside0.mk c26
                          clear c26
                          obtain ⟨y204, hy204⟩ : ∃ y_ : List Int, y_ = (x204001_3 ++ [wrap64 ((wrap64 (bt a0 x6_3)) - 48)]) := ⟨_, rfl⟩
                          replace H : (bocageref01_whole.l0 k3 a0 x5_9 (wrap64 (x6_3 - 1)) x204000_9 y204) = some (r1, r2, r3) := by first | (rw [hy204]; with_reducible exact H) | (have H2_ := (Option.bind_some _ _).symm.trans H; rw [hy204]; with_reducible exact H2_) | (have H2_ := (Option.bind_some _ _).symm.trans H; with_reducible exact H2_) | with_reducible exact H | (rw [hy204]; exact H) | exact H
                          have Ny204 := Aside0.mk hy204
                          clear hy204
                          have H' := Aside0.mk H
                          clear H
                          have p17 : 0 ≤ (x6_3 : Int) := of_decide_eq_true (by first | (with_reducible assumption) | assumption)
                          have q17 : x6_3 < (a0.size : Int) := of_decide_eq_true (by first | (with_reducible assumption) | assumption)
                          have hx17 := bt_at a0 x6_3
                          replace p17 := eq_true p17
                          replace q17 := eq_true q17
                          have p21 : 0 ≤ (x6_3 : Int) := of_decide_eq_true (by first | (with_reducible assumption) | assumption)
                          have q21 : x6_3 < (a0.size : Int) := of_decide_eq_true (by first | (with_reducible assumption) | assumption)
                          have hx21 := bt_at a0 x6_3
                          replace p21 := eq_true p21
                          replace q21 := eq_true q21
                          try go_wp2
                          have n0_ := Aside0.mk (Kd.R_drew HO_204001.out)
                          have n1_ := Aside0.mk (blk_drew BK202.out)
                          have n2_ := Aside0.mk (blk_drew BK203.out)
                          have n3_ := Aside0.mk (below_drew1 HB.out)
                          clear HO_204001
                          clear BK202
                          clear BK203
                          clear HB
                          have HO_204001 := n0_
                          have BK202 := n1_
                          have BK203 := n2_
                          have HB := n3_
                          clear n0_ n1_ n2_ n3_
                          have p25 : 0 ≤ (x6_3 : Int) := of_decide_eq_true (by first | (with_reducible assumption) | assumption)
                          have q25 : x6_3 < (a0.size : Int) := of_decide_eq_true (by first | (with_reducible assumption) | assumption)
                          have hx25 := bt_at a0 x6_3
                          replace p25 := eq_true p25
                          replace q25 := eq_true q25
                          refine start_ (n := 11) (S := fun w' => w'.cell? ⟨gb203, 0, none⟩ = some (.int .i64 x204000_9) ∧ w'.cell? ⟨gb203, 1, none⟩ = some (u204001)) (ds := [10]) #[false, false, false, false, false, false, false, false, false, false, false] (by kernel_rfl) rfl rfl ⟨(blk_cell BK203.out 0).trans rfl, (blk_cell BK203.out 1).trans rfl⟩ (fun hHeld => ?_); refine with_tabW bocageref01_whole.tab12 bocageref01_whole.bits12 (fun HT_ HW_ => ?_)
                          generalize wr.drew = w27 at HO_204001 BK202 BK203 HB hHeld ⊢
                          refine pure_ (i := 0) (N := some 36) (v := ?_) (a' := ?_) #[true, false, false, false, false, false, false, false, false, false, false] rfl rfl (any_of HT_.out (by kernel_rfl)) (fun _ _ _ h => h) (Or.inl ⟨by rfl, ?_⟩) ?_ ?_
                          rotate_left
                          · intro w'
                            go_simp
                            with_reducible rfl
                          rotate_left
                          · simp only [Act.put, List.setIfInBounds_toArray, List.set_cons_zero, List.set_cons_succ, i64_w, i32_w]
                            rfl
                          refine pure_ (i := 2) (N := some 38) (v := ?_) (a' := ?_) #[true, false, true, false, false, false, false, false, false, false, false] rfl rfl (any_of HT_.out (by kernel_rfl)) (fun _ _ _ h => h) (Or.inl ⟨by rfl, ?_⟩) ?_ ?_
                          rotate_left
                          · intro w'
                            go_simp
                            with_reducible rfl
                          rotate_left
                          · simp only [Act.put, List.setIfInBounds_toArray, List.set_cons_zero, List.set_cons_succ, i64_w, i32_w]
                            rfl
                          refine pure_ (i := 3) (N := some 39) (v := ?_) (a' := ?_) #[true, false, true, true, false, false, false, false, false, false, false] rfl rfl (any_of HT_.out (by kernel_rfl)) (fun _ _ _ h => h) (Or.inl ⟨by rfl, ?_⟩) ?_ ?_
                          rotate_left
                          · intro w'
                            go_simp
                            with_reducible rfl
                          rotate_left
                          · simp only [Act.put, List.setIfInBounds_toArray, List.set_cons_zero, List.set_cons_succ, i64_w, i32_w]
                            rfl
                          refine take_ (i := 1) (N := some 37) (v := ?_) (a' := ?_) #[true, true, true, true, false, false, false, false, false, false, false] rfl rfl (take_ofW HT_.out HW_.out (by kernel_rfl)) (fun _ _ _ h => h) (Or.inl ⟨by rfl, ?_⟩) hHeld ?_ ?_
                          rotate_left
                          · rintro w' ⟨s0, s1⟩
                            go_simp
                            with_reducible rfl
                          rotate_left
                          · simp only [Act.put, List.setIfInBounds_toArray, List.set_cons_zero, List.set_cons_succ, i64_w, i32_w]
                            rfl
                          refine take_ (i := 4) (N := some 40) (v := ?_) (a' := ?_) #[true, true, true, true, true, false, false, false, false, false, false] rfl rfl (take_ofW HT_.out HW_.out (by kernel_rfl)) (fun _ _ _ h => h) (Or.inl ⟨by rfl, ?_⟩) hHeld ?_ ?_
                          rotate_left
                          · rintro w' ⟨s0, s1⟩
                            go_simp
                            with_reducible rfl
                          rotate_left
                          · simp only [Act.put, List.setIfInBounds_toArray, List.set_cons_zero, List.set_cons_succ, i64_w, i32_w]
                            rfl
                          refine pure_ (i := 5) (N := some 41) (v := ?_) (a' := ?_) #[true, true, true, true, true, true, false, false, false, false, false] rfl rfl (any_of HT_.out (by kernel_rfl)) (fun _ _ _ h => h) (Or.inl ⟨by rfl, ?_⟩) ?_ ?_
                          rotate_left
                          · intro w'
                            go_simp
                            with_reducible rfl
                          rotate_left
                          · simp only [Act.put, List.setIfInBounds_toArray, List.set_cons_zero, List.set_cons_succ, i64_w, i32_w]
                            rfl
                          refine pure_ (i := 6) (N := some 42) (v := ?_) (a' := ?_) #[true, true, true, true, true, true, true, false, false, false, false] rfl rfl (any_of HT_.out (by kernel_rfl)) (fun _ _ _ h => h) (Or.inl ⟨by rfl, ?_⟩) ?_ ?_
                          rotate_left
                          · intro w'
                            go_simp
                            with_reducible rfl
                          rotate_left
                          · simp only [Act.put, List.setIfInBounds_toArray, List.set_cons_zero, List.set_cons_succ, i64_w, i32_w]
                            rfl
                          refine one_ (i := 7) (N := some 43) #[true, true, true, true, true, true, true, true, false, false, false] rfl rfl (one_of HT_.out (by kernel_rfl)) (by decide) (fun K hK => ?_)
                          refine value_ (w1 := ?_) (v := ?_) (by rfl) rfl ?_ ?_
                          rotate_left 2
                          · go_simp
                            constructor
                            · rfl
                            · rfl
                          refine hK.out _ _ ⟨(blk_cell (blk_alloc BK203.out _) 0).trans rfl, (blk_cell (blk_alloc BK203.out _) 1).trans rfl⟩ (fun hHeld => ?_)
                          clear hK K
                          refine norm_ (a' := ?_) ?_ ?_
                          rotate_left
                          · show Act.put _ (some 43) _ = _
                            simp only [Act.put, List.setIfInBounds_toArray, List.set_cons_zero, List.set_cons_succ, i64_w, i32_w]
                            rfl
                          refine one_ (i := 8) (N := some 44) #[true, true, true, true, true, true, true, true, true, false, false] rfl rfl (one_of HT_.out (by kernel_rfl)) (by decide) (fun K hK => ?_)
                          refine Kd.R_append_step (Kd.int .i64) (w0 := w) w.heap.size (by rfl) (.tmp 37) (.tmp 43) 57 3 (.int .i64 0) 8 rfl Try.underlying57 info3 rfl (by decide) (by omega) u204001 x204001_3 (wrap64 ((wrap64 (bt a0 x6_3)) - 48)) [.int .i64 (wrap64 ((wrap64 (bt a0 x6_3)) - 48))] (fun _ => True) (fun _ => False) rfl rfl ?aP (fun _ hk => hk.elim) ?aF ?aO ?aB ?aS ?aL ?_
                          (case aP => exact rfl)
                          (case aB => exact (by repeat (first | (with_reducible first | exact HB.out | apply below_alloc | apply pw_below_drewN | apply below_drew1 | refine below_set ?_ GE202.out | refine below_set ?_ GE203.out) | exact HB.out)))
                          (case aF => exact (fun _ _ => trivial))
                          (case aO => exact (by (with_reducible repeat (first | apply Kd.R_alloc | apply Kd.R_drewN | apply Kd.R_drew)); exact HO_204001.out))
                          (case aS => exact (below_size (by repeat (first | (with_reducible first | exact HB.out | apply below_alloc | apply pw_below_drewN | apply below_drew1 | refine below_set ?_ GE202.out | refine below_set ?_ GE203.out) | exact HB.out))))
                          (case aL => have := LMc26.out; omega)
                          intro v205 w28 ho hb hg hat
                          rw [← Ny204.out] at ho
                          have n0_ := Aside0.mk (blk_grown (g := gb202) (o := .cells #[.int .i64 x203000_3, .slice none 0 0] 59 (0, 0)) (by (with_reducible repeat (first | refine blk_drewN ?_ _ | refine blk_drew ?_ | refine blk_alloc ?_ _)); exact BK202.out) hg (Kd.R_ne HO_204001.out BK202.out (by decide)))
                          have n1_ := Aside0.mk (blk_grown (g := gb203) (o := .cells #[.int .i64 x204000_9, u204001] 59 (0, 0)) (by (with_reducible repeat (first | refine blk_drewN ?_ _ | refine blk_drew ?_ | refine blk_alloc ?_ _)); exact BK203.out) hg (Kd.R_ne HO_204001.out BK203.out (by decide)))
                          have n2_ := Aside0.mk (hb)
                          have n3_ := Aside0.mk (ho)
                          clear BK202
                          clear BK203
                          clear HB
                          clear HO_204001
                          have BK202 := n0_
                          have BK203 := n1_
                          have HB := n2_
                          have HO206 := n3_
                          clear n0_ n1_ n2_ n3_
                          clear ho hb hg hat
                          obtain ⟨Ao29, co29, eo29⟩ := Kd.R_slice HO206.out
                          (first | subst eo29 | (injection eo29 with f1_ f2_ f3_; have f4_ := f1_.symm; have f5_ := f3_.symm; clear f1_ f2_ f3_; subst f4_; subst f5_))
                          refine hK.out _ _ ⟨(blk_cell BK203.out 0).trans rfl, (blk_cell BK203.out 1).trans rfl⟩ (fun hHeld => ?_)
                          clear hK K
                          refine norm_ (a' := ?_) ?_ ?_
                          rotate_left
                          · show Act.put _ (some 44) _ = _
                            simp only [Act.put, List.setIfInBounds_toArray, List.set_cons_zero, List.set_cons_succ, i64_w, i32_w]
                            rfl
                          refine pure_ (i := 9) (N := some 45) (v := ?_) (a' := ?_) #[true, true, true, true, true, true, true, true, true, true, false] rfl rfl (any_of HT_.out (by kernel_rfl)) (fun _ _ _ h => h) (Or.inl ⟨by rfl, ?_⟩) ?_ ?_
                          rotate_left
                          · intro w'
                            go_simp
                            with_reducible rfl
                          rotate_left
                          · simp only [Act.put, List.setIfInBounds_toArray, List.set_cons_zero, List.set_cons_succ, i64_w, i32_w]
                            rfl
                          refine last_ (i := 10) (N := none) #[true, true, true, true, true, true, true, true, true, true, true] rfl rfl (one_of HT_.out (by kernel_rfl)) (by decide) (fun K hK => ?_)
                          have hs30 : w28.cell? ⟨gb203, 1, none⟩ = some (u204001) := (blk_cell BK203.out 1).trans rfl
                          have hfs30 := blk_frozen BK203.out 1
                          have hns30_0 := NB202_203.out
                          have hms30_0 := NB203_202.out
                          refine skip_ (w1 := ?_) (by rfl) rfl ?_ ?_
                          rotate_left
                          · go_simp
                            rfl
                          refine hK.out _ _ ?_
                          clear hK K
                          refine done_ (done_of HT_.out (by kernel_rfl)) ?_
                          try go_wp2
                          go_roundg k3
                          case measure => have := HJ1.out; have := HJ9.out; have := HK3.out; omega
                          case rel => exact ⟨(wrap64 (x6_3 - 1)), (x203000_3), (y204), (.slice Ao29 y204.length co29), (by first | rfl | (simp; done) | (simp [*]; done)), H', ⟨by have := HJ1.out; have := HJ9.out; have := HK3.out; omega⟩, ⟨by (with_reducible repeat (first | apply Kd.R_alloc | apply Kd.R_drewN | apply Kd.R_drew)); exact Kd.R_mono (Kd.R_far (p := ⟨gb203, 1, none⟩) (Kd.R_types HO206.out BK203.out (by decide)) (fun _ hk => hk.2) (.slice Ao29 y204.length co29)) (fun _ hk => trivial)⟩, ⟨by (with_reducible repeat (first | refine blk_drewN ?_ _ | refine blk_drew ?_ | refine blk_alloc ?_ _)); refine blk_far ?_ NB202_203.out _; (with_reducible repeat (first | refine blk_drewN ?_ _ | refine blk_drew ?_ | refine blk_alloc ?_ _)); exact BK202.out⟩, ⟨by (with_reducible repeat (first | refine blk_drewN ?_ _ | refine blk_drew ?_ | refine blk_alloc ?_ _)); refine blk_put (cs := #[.int .i64 x204000_9, u204001]) ?_ 1 _ rfl; (with_reducible repeat (first | refine blk_drewN ?_ _ | refine blk_drew ?_ | refine blk_alloc ?_ _)); exact BK203.out⟩, ⟨by repeat (first | (with_reducible first | exact HB.out | apply below_alloc | apply pw_below_drewN | apply below_drew1 | refine below_set ?_ GE202.out | refine below_set ?_ GE203.out) | exact HB.out)⟩⟩
                        · rw [if_neg c26] at H
                          exact absurd H (by simp)
                  · rw [if_neg c16] at H
                    exact absurd H (by simp)
                · rw [if_neg c15] at H
                  exact absurd H (by simp)
              · rw [if_neg c14] at H
                have c14b0 : decide (x5_9 ≤ x6_3) = false := decide_eq_false c14
                clear c14
                by_cases c31 : (x204001_3.length : Int) = 0
                · rw [if_pos c31] at H
                  have c31b0 : ((x204001_3.length : Int) == 0) = true := beq_iff_eq.mpr c31
                  have c31b1 : ((x204001_3.length : Int) != 0) = false := bne_eq_false_iff_eq.mpr c31
                  clear c31
                  simp only [Option.some.injEq, Prod.mk.injEq] at H
                  obtain ⟨rfl, rfl, rfl⟩ := H
                  have hnb32 := NB203_202.out
                  have hnc32 := NB202_203.out
                  have hcz33_0 : wr.cell? ⟨gb203, 0, none⟩ = some (.int .i64 x204000_9) := (blk_cell BK203.out 0).trans rfl
                  have hcz33_1 : wr.cell? ⟨gb203, 1, none⟩ = some (u204001) := (blk_cell BK203.out 1).trans rfl
                  have hfz33_0 := blk_frozen BK203.out 0
                  have hfz33_1 := blk_frozen BK203.out 1
                  obtain ⟨Ao34, co34, eo34⟩ := Kd.R_slice HO_204001.out
                  subst eo34
                  have hcz35_0 : wr.cell? ⟨gb202, 0, none⟩ = some (.int .i64 x203000_3) := (blk_cell BK202.out 0).trans rfl
                  have hcz35_1 : wr.cell? ⟨gb202, 1, none⟩ = some (.slice none 0 0) := (blk_cell BK202.out 1).trans rfl
                  have hfz35_0 := blk_frozen BK202.out 0
                  have hfz35_1 := blk_frozen BK202.out 1
                  go_wp2
                  refine bodyPost_ret (results_ct rfl _ _ gb202 59 #[.int .i64 0, .slice none 0 0] (0, 0) _ rfl (by (with_reducible repeat (first | refine blk_drewN ?_ _ | refine blk_drew ?_ | refine blk_alloc ?_ _)); refine blk_put (cs := #[.int .i64 0, .slice none 0 0]) ?_ 1 _ rfl; (with_reducible repeat (first | refine blk_drewN ?_ _ | refine blk_drew ?_ | refine blk_alloc ?_ _)); refine blk_put (cs := #[.int .i64 x203000_3, .slice none 0 0]) ?_ 0 _ rfl; (with_reducible repeat (first | refine blk_drewN ?_ _ | refine blk_drew ?_ | refine blk_alloc ?_ _)); exact BK202.out) Try.underlying59 rfl (by kernel_rfl)) rfl ?_
                  exact ⟨_, by first | rfl | (simp [errW_none, errW_some] <;> rfl) | (simp [*, errW_none, errW_some] <;> rfl), by first | exact Kd.R_nil _ _ _ _ _ | exact Kd.N_nil _ _ _ _ _ | exact Kd.V_nil _ _ _ _ _ | exact Kd.Q_nil _ _ _ _ _ | exact Kd.S_nil _ _ _ _ _, by repeat (first | (with_reducible first | exact HB.out | apply below_alloc | apply pw_below_drewN | apply below_drew1 | refine below_set ?_ GE202.out | refine below_set ?_ GE203.out) | exact HB.out)⟩
                · rw [if_neg c31] at H
                  have c31b0 : ((x204001_3.length : Int) == 0) = false := beq_eq_false_iff_ne.mpr c31
                  have c31b1 : ((x204001_3.length : Int) != 0) = true := bne_iff_ne.mpr c31
                  have c31b2 : ¬ (x204001_3 = []) := fun h_ => c31 (by rw [h_]; rfl)
                  have HC36 := Aside0.mk H
                  clear H
                  have hnb37 := NB203_202.out
                  have hnc37 := NB202_203.out
                  have hcz38_0 : wr.cell? ⟨gb203, 0, none⟩ = some (.int .i64 x204000_9) := (blk_cell BK203.out 0).trans rfl
                  have hcz38_1 : wr.cell? ⟨gb203, 1, none⟩ = some (u204001) := (blk_cell BK203.out 1).trans rfl
                  have hfz38_0 := blk_frozen BK203.out 0
                  have hfz38_1 := blk_frozen BK203.out 1
                  obtain ⟨Ao39, co39, eo39⟩ := Kd.R_slice HO_204001.out
                  subst eo39
                  go_upto_region 15 with (fail)
                  go_cut [69] (fun v69 wc => ∃ (kq : Nat) (x69_35 : Bool), v69 = .bool x69_35 ∧ Aside0 (bocageref01_whole.j3 kq x69_35 x204000_9 x204001_3 = some (r1, r2, r3)) ∧ Aside0 (kq ≤ k3) ∧ Aside0 (Kd.R (Kd.int .i64) 3 wc w.heap.size (fun _ => True) (.slice Ao39 x204001_3.length co39) x204001_3) ∧ Aside0 (wc.heap[gb202]? = some (.cells #[.int .i64 x203000_3, (.slice none 0 0)] 59 (0, 0))) ∧ Aside0 (wc.heap[gb203]? = some (.cells #[.int .i64 x204000_9, (.slice Ao39 x204001_3.length co39)] 59 (0, 0))) ∧ Aside0 (Below w.heap.size w wc))
                  case first =>
                    have H := HC36.out
                    clear HC36
                    obtain ⟨ji40, hji40⟩ : ∃ j_ : Int, (wrap64 ((x204001_3.length : Int) - 1)) = j_ := ⟨_, rfl⟩
                    replace H : (if 0 ≤ (ji40) then (if (ji40) < (x204001_3.length : Int) then (if (rd x204001_3 (ji40)) = 0 then (if (x204001_3.length : Int) > 1 then (bocageref01_whole.j3 k3 true x204000_9 x204001_3) else (bocageref01_whole.j3 k3 (decide (x5_9 > 0)) x204000_9 x204001_3)) else (bocageref01_whole.j3 k3 false x204000_9 x204001_3)) else (none)) else (none)) = some (r1, r2, r3) := by first | (rw [hji40] at H; exact H) | (simp only [hji40] at H ⊢; exact H)
                    have hji40w : (IntKind.i64.wrap ((x204001_3.length : Int) - 1)) = ji40 := (i64_w _).trans hji40
                    by_cases c41 : 0 ≤ (ji40)
                    · rw [if_pos c41] at H
                      have c41b0 : decide (0 ≤ (ji40)) = true := decide_eq_true c41
                      clear c41
                      (first | rw [c41b0] | (simp only [i64_w, i32_w]; rw [c41b0]) | skip)
                      by_cases c42 : (ji40) < (x204001_3.length : Int)
                      · rw [if_pos c42] at H
                        have c42b0 : decide ((ji40) < (x204001_3.length : Int)) = true := decide_eq_true c42
                        clear c42
                        by_cases c43 : (rd x204001_3 (ji40)) = 0
                        · rw [if_pos c43] at H
                          have c43b0 : ((rd x204001_3 (ji40)) == 0) = true := beq_iff_eq.mpr c43
                          have c43b1 : ((rd x204001_3 (ji40)) != 0) = false := bne_eq_false_iff_eq.mpr c43
                          clear c43
                          by_cases c44 : (x204001_3.length : Int) > 1
                          · rw [if_pos c44] at H
                            have c44b0 : decide (1 < (x204001_3.length : Int)) = true := decide_eq_true c44
                            have c44b1 : decide (1 < x204001_3.length) = true := decide_eq_true (by omega)
                            clear c44
                            have H' := Aside0.mk H
                            clear H
                            have hnb45 := NB203_202.out
                            have hnc45 := NB202_203.out
                            have hcz46_0 : wr.cell? ⟨gb203, 0, none⟩ = some (.int .i64 x204000_9) := (blk_cell BK203.out 0).trans rfl
                            have hcz46_1 : wr.cell? ⟨gb203, 1, none⟩ = some (.slice Ao39 x204001_3.length co39) := (blk_cell BK203.out 1).trans rfl
                            have hfz46_0 := blk_frozen BK203.out 0
                            have hfz46_1 := blk_frozen BK203.out 1
                            have p207 : 0 ≤ ((ji40) : Int) := of_decide_eq_true (by first | (with_reducible assumption) | assumption)
                            have q207 : (ji40) < (x204001_3.length : Int) := of_decide_eq_true (by first | (with_reducible assumption) | assumption)
                            obtain ⟨ad207, e207, hx207_0⟩ := Kd.at_int (Kd.R_reads' HO_204001.out).2.2 (ji40) p207 q207
                            cases e207
                            replace p207 := eq_true p207
                            replace q207 := eq_true q207
                            go_wp2
                            go_meet
                            case rel => exact ⟨_, (true), (by first | rfl | (simp; done) | (simp [*]; done)), H', ⟨by have := HJ1.out; have := HJ9.out; have := HK3.out; first | omega | exact Nat.le_refl _⟩, ⟨by (with_reducible repeat (first | apply Kd.R_alloc | apply Kd.R_drewN | apply Kd.R_drew)); exact HO_204001.out⟩, ⟨by (with_reducible repeat (first | refine blk_drewN ?_ _ | refine blk_drew ?_ | refine blk_alloc ?_ _)); exact BK202.out⟩, ⟨by (with_reducible repeat (first | refine blk_drewN ?_ _ | refine blk_drew ?_ | refine blk_alloc ?_ _)); exact BK203.out⟩, ⟨by repeat (first | (with_reducible first | exact HB.out | apply below_alloc | apply pw_below_drewN | apply below_drew1 | refine below_set ?_ GE202.out | refine below_set ?_ GE203.out) | exact HB.out)⟩⟩
                          · rw [if_neg c44] at H
                            have c44b0 : decide (1 < (x204001_3.length : Int)) = false := decide_eq_false c44
                            have c44b1 : decide (1 < x204001_3.length) = false := decide_eq_false (by omega)
                            clear c44
                            have H' := Aside0.mk H
                            clear H
                            have hnb47 := NB203_202.out
                            have hnc47 := NB202_203.out
                            have hcz48_0 : wr.cell? ⟨gb203, 0, none⟩ = some (.int .i64 x204000_9) := (blk_cell BK203.out 0).trans rfl
                            have hcz48_1 : wr.cell? ⟨gb203, 1, none⟩ = some (.slice Ao39 x204001_3.length co39) := (blk_cell BK203.out 1).trans rfl
                            have hfz48_0 := blk_frozen BK203.out 0
                            have hfz48_1 := blk_frozen BK203.out 1
                            have p207 : 0 ≤ ((ji40) : Int) := of_decide_eq_true (by first | (with_reducible assumption) | assumption)
                            have q207 : (ji40) < (x204001_3.length : Int) := of_decide_eq_true (by first | (with_reducible assumption) | assumption)
                            obtain ⟨ad207, e207, hx207_0⟩ := Kd.at_int (Kd.R_reads' HO_204001.out).2.2 (ji40) p207 q207
                            cases e207
                            replace p207 := eq_true p207
                            replace q207 := eq_true q207
                            go_wp2
                            go_meet
                            case rel => exact ⟨_, (decide (x5_9 > 0)), (by first | rfl | (simp; done) | (simp [*]; done)), H', ⟨by have := HJ1.out; have := HJ9.out; have := HK3.out; first | omega | exact Nat.le_refl _⟩, ⟨by (with_reducible repeat (first | apply Kd.R_alloc | apply Kd.R_drewN | apply Kd.R_drew)); exact HO_204001.out⟩, ⟨by (with_reducible repeat (first | refine blk_drewN ?_ _ | refine blk_drew ?_ | refine blk_alloc ?_ _)); exact BK202.out⟩, ⟨by (with_reducible repeat (first | refine blk_drewN ?_ _ | refine blk_drew ?_ | refine blk_alloc ?_ _)); exact BK203.out⟩, ⟨by repeat (first | (with_reducible first | exact HB.out | apply below_alloc | apply pw_below_drewN | apply below_drew1 | refine below_set ?_ GE202.out | refine below_set ?_ GE203.out) | exact HB.out)⟩⟩
                        · rw [if_neg c43] at H
                          have c43b0 : ((rd x204001_3 (ji40)) == 0) = false := beq_eq_false_iff_ne.mpr c43
                          have c43b1 : ((rd x204001_3 (ji40)) != 0) = true := bne_iff_ne.mpr c43
                          have H' := Aside0.mk H
                          clear H
                          have hnb49 := NB203_202.out
                          have hnc49 := NB202_203.out
                          have hcz50_0 : wr.cell? ⟨gb203, 0, none⟩ = some (.int .i64 x204000_9) := (blk_cell BK203.out 0).trans rfl
                          have hcz50_1 : wr.cell? ⟨gb203, 1, none⟩ = some (.slice Ao39 x204001_3.length co39) := (blk_cell BK203.out 1).trans rfl
                          have hfz50_0 := blk_frozen BK203.out 0
                          have hfz50_1 := blk_frozen BK203.out 1
                          have p207 : 0 ≤ ((ji40) : Int) := of_decide_eq_true (by first | (with_reducible assumption) | assumption)
                          have q207 : (ji40) < (x204001_3.length : Int) := of_decide_eq_true (by first | (with_reducible assumption) | assumption)
                          obtain ⟨ad207, e207, hx207_0⟩ := Kd.at_int (Kd.R_reads' HO_204001.out).2.2 (ji40) p207 q207
                          cases e207
                          replace p207 := eq_true p207
                          replace q207 := eq_true q207
                          go_wp2
                          go_meet
                          case rel => exact ⟨_, (false), (by first | rfl | (simp; done) | (simp [*]; done)), H', ⟨by have := HJ1.out; have := HJ9.out; have := HK3.out; first | omega | exact Nat.le_refl _⟩, ⟨by (with_reducible repeat (first | apply Kd.R_alloc | apply Kd.R_drewN | apply Kd.R_drew)); exact HO_204001.out⟩, ⟨by (with_reducible repeat (first | refine blk_drewN ?_ _ | refine blk_drew ?_ | refine blk_alloc ?_ _)); exact BK202.out⟩, ⟨by (with_reducible repeat (first | refine blk_drewN ?_ _ | refine blk_drew ?_ | refine blk_alloc ?_ _)); exact BK203.out⟩, ⟨by repeat (first | (with_reducible first | exact HB.out | apply below_alloc | apply pw_below_drewN | apply below_drew1 | refine below_set ?_ GE202.out | refine below_set ?_ GE203.out) | exact HB.out)⟩⟩
                      · rw [if_neg c42] at H
                        exact absurd H (by simp)
                    · rw [if_neg c41] at H
                      exact absurd H (by simp)
                  case rest =>
                    clear HC36
                    try clear c1
                    try clear p1
                    try clear q1
                    try clear hx1
                    try clear c2
                    try clear p2
                    try clear q2
                    try clear hx2
                    try clear c3
                    try clear c4
                    try clear c5
                    try clear c6
                    try clear p6
                    try clear c7
                    try clear c7b0
                    try clear c7b1
                    try clear c8
                    try clear c8b0
                    try clear c8b1
                    try clear p9
                    try clear q9
                    try clear hx9
                    try clear qi9
                    try clear c11
                    try clear c12
                    try clear c14
                    try clear c14b0
                    try clear c15
                    try clear c15b0
                    try clear c16
                    try clear c16b0
                    try clear p17
                    try clear q17
                    try clear hx17
                    try clear c18
                    try clear c18b0
                    try clear c19
                    try clear p20
                    try clear q20
                    try clear hx20
                    try clear p21
                    try clear q21
                    try clear hx21
                    try clear c22
                    try clear c22b0
                    try clear c23
                    try clear p25
                    try clear q25
                    try clear hx25
                    try clear c26
                    try clear c31
                    try clear c31b0
                    try clear c31b1
                    try clear c31b2
                    try clear c32
                    try clear c37
                    try clear c41
                    try clear c41b0
                    try clear c42
                    try clear c42b0
                    try clear c43
                    try clear c43b0
                    try clear c43b1
                    try clear c44
                    try clear c44b0
                    try clear c44b1
                    try clear c45
                    try clear c47
                    try clear c49
                    try clear hcz13_0
                    try clear hcz13_1
                    try clear hcz20_0
                    try clear hcz20_1
                    try clear hcz24_0
                    try clear hcz24_1
                    try clear hcz33_0
                    try clear hcz33_1
                    try clear hcz35_0
                    try clear hcz35_1
                    try clear hcz38_0
                    try clear hcz38_1
                    try clear hcz46_0
                    try clear hcz46_1
                    try clear hcz48_0
                    try clear hcz48_1
                    try clear hcz50_0
                    try clear hcz50_1
                    try clear hcz6_0
                    try clear hcz6_1
                    try clear hfz13_0
                    try clear hfz13_1
                    try clear hfz20_0
                    try clear hfz20_1
                    try clear hfz24_0
                    try clear hfz24_1
                    try clear hfz33_0
                    try clear hfz33_1
                    try clear hfz35_0
                    try clear hfz35_1
                    try clear hfz38_0
                    try clear hfz38_1
                    try clear hfz46_0
                    try clear hfz46_1
                    try clear hfz48_0
                    try clear hfz48_1
                    try clear hfz50_0
                    try clear hfz50_1
                    try clear hfz6_0
                    try clear hfz6_1
                    try clear hx207_0
                    try clear p17
                    try clear p2
                    try clear p207
                    try clear p21
                    try clear p25
                    try clear p6
                    try clear p9
                    try clear q17
                    try clear q207
                    try clear q21
                    try clear q25
                    try clear q9
                    obtain ⟨kq, x69_35, rfl, HA, HJ35, HO_204001, BK202, BK203, HB⟩ := hcut
                    cases kq with
                    | zero => exact absurd HA.out (by simp [bocageref01_whole.j3])
                    | succ kj35 =>
                      have H := HA.out
                      clear HA
                      simp only [bocageref01_whole.j3] at H
                      by_cases c51 : x69_35 = true
                      · subst c51
                        have H1 : (some (0, ([] : List Int), false)) = some (r1, r2, r3) := by rw [if_pos rfl] at H; exact H
                        clear H
                        have H := H1
                        clear H1
                        simp only [Option.some.injEq, Prod.mk.injEq] at H
                        obtain ⟨rfl, rfl, rfl⟩ := H
                        have hnb52 := NB202_203.out
                        have hnc52 := NB203_202.out
                        have hcz53_0 : wc.cell? ⟨gb202, 0, none⟩ = some (.int .i64 x203000_3) := (blk_cell BK202.out 0).trans rfl
                        have hcz53_1 : wc.cell? ⟨gb202, 1, none⟩ = some (.slice none 0 0) := (blk_cell BK202.out 1).trans rfl
                        have hfz53_0 := blk_frozen BK202.out 0
                        have hfz53_1 := blk_frozen BK202.out 1
                        go_wp2
                        refine bodyPost_ret (results_ct rfl _ _ gb202 59 #[.int .i64 0, .slice none 0 0] (0, 0) _ rfl (by (with_reducible repeat (first | refine blk_drewN ?_ _ | refine blk_drew ?_ | refine blk_alloc ?_ _)); refine blk_put (cs := #[.int .i64 0, .slice none 0 0]) ?_ 1 _ rfl; (with_reducible repeat (first | refine blk_drewN ?_ _ | refine blk_drew ?_ | refine blk_alloc ?_ _)); refine blk_put (cs := #[.int .i64 x203000_3, .slice none 0 0]) ?_ 0 _ rfl; (with_reducible repeat (first | refine blk_drewN ?_ _ | refine blk_drew ?_ | refine blk_alloc ?_ _)); exact BK202.out) Try.underlying59 rfl (by kernel_rfl)) rfl ?_
                        exact ⟨_, by first | rfl | (simp [errW_none, errW_some] <;> rfl) | (simp [*, errW_none, errW_some] <;> rfl), by first | exact Kd.R_nil _ _ _ _ _ | exact Kd.N_nil _ _ _ _ _ | exact Kd.V_nil _ _ _ _ _ | exact Kd.Q_nil _ _ _ _ _ | exact Kd.S_nil _ _ _ _ _, by repeat (first | (with_reducible first | exact HB.out | apply below_alloc | apply pw_below_drewN | apply below_drew1 | refine below_set ?_ GE202.out | refine below_set ?_ GE203.out) | exact HB.out)⟩
                      · replace c51 := Bool.eq_false_iff.mpr c51
                        subst c51
                        have H1 : (if 0 ≤ (wrap64 ((x204001_3.length : Int) - 1)) then (if (wrap64 ((x204001_3.length : Int) - 1)) < (x204001_3.length : Int) then (if (rd x204001_3 (wrap64 ((x204001_3.length : Int) - 1))) = 0 then (some (0, ([] : List Int), true)) else (some (x204000_9, x204001_3, true))) else (none)) else (none)) = some (r1, r2, r3) := by rw [if_neg (show ¬ (false = true) by decide)] at H; exact H
                        clear H
                        have H := H1
                        clear H1
                        obtain ⟨ji54, hji54⟩ : ∃ j_ : Int, (wrap64 ((x204001_3.length : Int) - 1)) = j_ := ⟨_, rfl⟩
                        replace H : (if 0 ≤ (ji54) then (if (ji54) < (x204001_3.length : Int) then (if (rd x204001_3 (ji54)) = 0 then (some (0, ([] : List Int), true)) else (some (x204000_9, x204001_3, true))) else (none)) else (none)) = some (r1, r2, r3) := by first | (rw [hji54] at H; exact H) | (simp only [hji54] at H ⊢; exact H)
                        have hji54w : (IntKind.i64.wrap ((x204001_3.length : Int) - 1)) = ji54 := (i64_w _).trans hji54
                        by_cases c55 : 0 ≤ (ji54)
                        · rw [if_pos c55] at H
                          have c55b0 : decide (0 ≤ (ji54)) = true := decide_eq_true c55
                          clear c55
                          by_cases c56 : (ji54) < (x204001_3.length : Int)
                          · rw [if_pos c56] at H
                            have c56b0 : decide ((ji54) < (x204001_3.length : Int)) = true := decide_eq_true c56
                            clear c56
                            by_cases c57 : (rd x204001_3 (ji54)) = 0
                            · rw [if_pos c57] at H
                              have c57b0 : ((rd x204001_3 (ji54)) == 0) = true := beq_iff_eq.mpr c57
                              have c57b1 : ((rd x204001_3 (ji54)) != 0) = false := bne_eq_false_iff_eq.mpr c57
                              clear c57
                              simp only [Option.some.injEq, Prod.mk.injEq] at H
                              obtain ⟨rfl, rfl, rfl⟩ := H
                              have hnb58 := NB203_202.out
                              have hnc58 := NB202_203.out
                              have hcz59_0 : wc.cell? ⟨gb203, 0, none⟩ = some (.int .i64 x204000_9) := (blk_cell BK203.out 0).trans rfl
                              have hcz59_1 : wc.cell? ⟨gb203, 1, none⟩ = some (.slice Ao39 x204001_3.length co39) := (blk_cell BK203.out 1).trans rfl
                              have hfz59_0 := blk_frozen BK203.out 0
                              have hfz59_1 := blk_frozen BK203.out 1
                              have p208 : 0 ≤ ((ji54) : Int) := of_decide_eq_true (by first | (with_reducible assumption) | assumption)
                              have q208 : (ji54) < (x204001_3.length : Int) := of_decide_eq_true (by first | (with_reducible assumption) | assumption)
                              obtain ⟨ad208, e208, hx208_0⟩ := Kd.at_int (Kd.R_reads' HO_204001.out).2.2 (ji54) p208 q208
                              cases e208
                              replace p208 := eq_true p208
                              replace q208 := eq_true q208
                              have hcz60_0 : wc.cell? ⟨gb202, 0, none⟩ = some (.int .i64 x203000_3) := (blk_cell BK202.out 0).trans rfl
                              have hcz60_1 : wc.cell? ⟨gb202, 1, none⟩ = some (.slice none 0 0) := (blk_cell BK202.out 1).trans rfl
                              have hfz60_0 := blk_frozen BK202.out 0
                              have hfz60_1 := blk_frozen BK202.out 1
                              go_wp2
                              refine bodyPost_ret (results_ct rfl _ _ gb202 59 #[.int .i64 0, .slice none 0 0] (0, 0) _ rfl (by (with_reducible repeat (first | refine blk_drewN ?_ _ | refine blk_drew ?_ | refine blk_alloc ?_ _)); refine blk_put (cs := #[.int .i64 0, .slice none 0 0]) ?_ 1 _ rfl; (with_reducible repeat (first | refine blk_drewN ?_ _ | refine blk_drew ?_ | refine blk_alloc ?_ _)); refine blk_put (cs := #[.int .i64 x203000_3, .slice none 0 0]) ?_ 0 _ rfl; (with_reducible repeat (first | refine blk_drewN ?_ _ | refine blk_drew ?_ | refine blk_alloc ?_ _)); exact BK202.out) Try.underlying59 rfl (by kernel_rfl)) rfl ?_
                              exact ⟨_, by first | rfl | (simp [errW_none, errW_some] <;> rfl) | (simp only [← hji54]; first | rfl | (simp [errW_none, errW_some] <;> rfl)) | (simp [*, errW_none, errW_some] <;> rfl), by first | exact Kd.R_nil _ _ _ _ _ | exact Kd.N_nil _ _ _ _ _ | exact Kd.V_nil _ _ _ _ _ | exact Kd.Q_nil _ _ _ _ _ | exact Kd.S_nil _ _ _ _ _, by repeat (first | (with_reducible first | exact HB.out | apply below_alloc | apply pw_below_drewN | apply below_drew1 | refine below_set ?_ GE202.out | refine below_set ?_ GE203.out) | exact HB.out)⟩
                            · rw [if_neg c57] at H
                              have c57b0 : ((rd x204001_3 (ji54)) == 0) = false := beq_eq_false_iff_ne.mpr c57
                              have c57b1 : ((rd x204001_3 (ji54)) != 0) = true := bne_iff_ne.mpr c57
                              simp only [Option.some.injEq, Prod.mk.injEq] at H
                              obtain ⟨rfl, rfl, rfl⟩ := H
                              have hnb61 := NB203_202.out
                              have hnc61 := NB202_203.out
                              have hcz62_0 : wc.cell? ⟨gb203, 0, none⟩ = some (.int .i64 x204000_9) := (blk_cell BK203.out 0).trans rfl
                              have hcz62_1 : wc.cell? ⟨gb203, 1, none⟩ = some (.slice Ao39 x204001_3.length co39) := (blk_cell BK203.out 1).trans rfl
                              have hfz62_0 := blk_frozen BK203.out 0
                              have hfz62_1 := blk_frozen BK203.out 1
                              have p208 : 0 ≤ ((ji54) : Int) := of_decide_eq_true (by first | (with_reducible assumption) | assumption)
                              have q208 : (ji54) < (x204001_3.length : Int) := of_decide_eq_true (by first | (with_reducible assumption) | assumption)
                              obtain ⟨ad208, e208, hx208_0⟩ := Kd.at_int (Kd.R_reads' HO_204001.out).2.2 (ji54) p208 q208
                              cases e208
                              replace p208 := eq_true p208
                              replace q208 := eq_true q208
                              have hcz63_0 : wc.cell? ⟨gb202, 0, none⟩ = some (.int .i64 x203000_3) := (blk_cell BK202.out 0).trans rfl
                              have hcz63_1 : wc.cell? ⟨gb202, 1, none⟩ = some (.slice none 0 0) := (blk_cell BK202.out 1).trans rfl
                              have hfz63_0 := blk_frozen BK202.out 0
                              have hfz63_1 := blk_frozen BK202.out 1
                              go_wp2
                              refine bodyPost_ret (results_ct rfl _ _ gb202 59 #[.int .i64 x204000_9, .slice (some ad208) x204001_3.length co39] (0, 0) _ rfl (by (with_reducible repeat (first | refine blk_drewN ?_ _ | refine blk_drew ?_ | refine blk_alloc ?_ _)); refine blk_put (cs := #[.int .i64 x204000_9, .slice none 0 0]) ?_ 1 _ rfl; (with_reducible repeat (first | refine blk_drewN ?_ _ | refine blk_drew ?_ | refine blk_alloc ?_ _)); refine blk_put (cs := #[.int .i64 x203000_3, .slice none 0 0]) ?_ 0 _ rfl; (with_reducible repeat (first | refine blk_drewN ?_ _ | refine blk_drew ?_ | refine blk_alloc ?_ _)); exact BK202.out) Try.underlying59 rfl (by kernel_rfl)) rfl ?_
                              exact ⟨_, by first | rfl | (simp [errW_none, errW_some] <;> rfl) | (simp only [← hji54]; first | rfl | (simp [errW_none, errW_some] <;> rfl)) | (simp [*, errW_none, errW_some] <;> rfl), by (with_reducible repeat (first | apply Kd.R_alloc | apply Kd.R_drewN | apply Kd.R_drew)); exact Kd.R_mono (Kd.R_far (p := ⟨gb202, 1, none⟩) (Kd.R_far (p := ⟨gb202, 0, none⟩) (Kd.R_types HO_204001.out BK202.out (by decide)) (fun _ hk => hk.2) (.int .i64 x204000_9)) (fun _ hk => hk.2) (.slice (some ad208) x204001_3.length co39)) (fun _ hk => trivial), by repeat (first | (with_reducible first | exact HB.out | apply below_alloc | apply pw_below_drewN | apply below_drew1 | refine below_set ?_ GE202.out | refine below_set ?_ GE203.out) | exact HB.out)⟩
                          · rw [if_neg c56] at H
                            exact absurd H (by simp)
                        · rw [if_neg c55] at H
                          exact absurd H (by simp)

end Go.Proofs.Ytihhagfdfhojnaa.Print
