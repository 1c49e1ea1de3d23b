-- Laid by wip/print/bprint.py of this repo, over the kit's printer, with functions given by hand; not trusted: Lean checks it.
import Derived.Test.YtpeidnkbliafkaaPrint0
import Derived.Test.YtpeidnkbliafkaaPrint5
import Derived.Test.YtpeidnkbliafkaaSh2
namespace Go.Proofs.Ytpeidnkbliafkaa.Print
open Go.RowKit Go.Proofs.YtpeidnkbliafkaaW.PrintWords Go.Proofs.YtpeidnkbliafkaaW.PrintLast Go.Proofs.YtpeidnkbliafkaaW.PrintMore
attribute [local go_sem] max2_int min2_int max_two min_two max_three min_three max_four min_four   -- for this text's walks alone
set_option linter.unusedVariables false
set_option linter.unusedSimpArgs false
/-! ### bocageref01_whole: function 76 -/
mutual
def bocageref01_whole.j0 : Nat → ByteArray → Int → Bool → Int → Option (Int × List Int × Bool)
 | 0, _, _, _, _ => none
 | k + 1, x0, x5, x15, x426000 => if x15 = true then (bocageref01_whole.j1 k x0 1 (-1)) else (bocageref01_whole.j1 k x0 x5 x426000)
def bocageref01_whole.j1 : Nat → ByteArray → Int → Int → Option (Int × List Int × Bool)
 | 0, _, _, _ => none
 | k + 1, x0, x5, x426000 => bocageref01_whole.l0 k x0 x5 (wrap64 ((x0.size : Int) - 1)) x426000 ([] : List Int)
def bocageref01_whole.l0 : Nat → ByteArray → Int → Int → Int → List Int → Option (Int × List Int × Bool)
 | 0, _, _, _, _, _ => none
 | k + 1, x0, x5, x6, x426000, x426001 => if x6 ≥ x5 then (if 0 ≤ x6 then (if x6 < (x0.size : Int) then (if (bt x0 x6) < 48 then (some (0, ([] : List Int), false)) else (if (bt x0 x6) > 57 then (some (0, ([] : List Int), false)) else (if x426001.length < 17592186044416 then (bocageref01_whole.l0 k x0 x5 (wrap64 (x6 - 1)) x426000 (x426001 ++ [wrap64 ((wrap64 (bt x0 x6)) - 48)])) else (none)))) else (none)) else (none)) else (if (x426001.length : Int) = 0 then (some (0, ([] : List Int), false)) else (if 0 ≤ (wrap64 ((x426001.length : Int) - 1)) then (if (wrap64 ((x426001.length : Int) - 1)) < (x426001.length : Int) then (if (rd x426001 (wrap64 ((x426001.length : Int) - 1))) = 0 then (if (x426001.length : Int) > 1 then (bocageref01_whole.j3 k true x426000 x426001) else (bocageref01_whole.j3 k (decide (x5 > 0)) x426000 x426001)) else (bocageref01_whole.j3 k false x426000 x426001)) else (none)) else (none)))
def bocageref01_whole.j3 : Nat → Bool → Int → List Int → Option (Int × List Int × Bool)
 | 0, _, _, _ => none
 | k + 1, x69, x426000, x426001 => if x69 = true then (some (0, ([] : List Int), false)) else (if 0 ≤ (wrap64 ((x426001.length : Int) - 1)) then (if (wrap64 ((x426001.length : Int) - 1)) < (x426001.length : Int) then (if (rd x426001 (wrap64 ((x426001.length : Int) - 1))) = 0 then (some (0, ([] : List Int), true)) else (some (x426000, x426001, true))) else (none)) else (none))
end
def bocageref01_whole.f (k : Nat) (a0 : ByteArray) : Option (Int × List Int × Bool) := if (a0.size : Int) > 0 then (if 0 < (a0.size : Int) then (bocageref01_whole.j0 k a0 0 ((bt a0 0) == 45) 1) else (none)) else (bocageref01_whole.j0 k a0 0 false 1)
theorem bocageref01_whole.mono_l : ∀ k, (∀ y0 y1 y2 y3, LeO (bocageref01_whole.j0 k y0 y1 y2 y3) (bocageref01_whole.j0 (k + 1) y0 y1 y2 y3)) ∧ (∀ y0 y1 y2, LeO (bocageref01_whole.j1 k y0 y1 y2) (bocageref01_whole.j1 (k + 1) y0 y1 y2)) ∧ (∀ y0 y1 y2 y3 y4, LeO (bocageref01_whole.l0 k y0 y1 y2 y3 y4) (bocageref01_whole.l0 (k + 1) y0 y1 y2 y3 y4)) ∧ (∀ y0 y1 y2, LeO (bocageref01_whole.j3 k y0 y1 y2) (bocageref01_whole.j3 (k + 1) y0 y1 y2))
 | 0 => ⟨fun _ _ _ _ r h => by simp [bocageref01_whole.j0] at h, fun _ _ _ r h => by simp [bocageref01_whole.j1] at h, fun _ _ _ _ _ r h => by simp [bocageref01_whole.l0] at h, fun _ _ _ r h => by simp [bocageref01_whole.j3] at h⟩
 | k + 1 => by
  obtain ⟨ih0, ih1, ih2, ih3⟩ := bocageref01_whole.mono_l k
  refine ⟨?_, ?_, ?_, ?_⟩
  ·intro y0 y1 y2 y3
   unfold bocageref01_whole.j0
   repeat' first
   | (with_reducible exact ih0 _ _ _ _)
   | (with_reducible exact ih1 _ _ _)
   | (with_reducible exact ih2 _ _ _ _ _)
   | (with_reducible exact ih3 _ _ _)
   | (with_reducible exact LeO.refl _)
   | (with_reducible exact LeO.none _)
   | (with_reducible refine LeO.ite ?_ ?_)
   | (with_reducible refine LeO.bind ?_ (fun _ => ?_))
   | exact ih0 _ _ _ _
   | exact ih1 _ _ _
   | exact ih2 _ _ _ _ _
   | exact ih3 _ _ _
   | exact LeO.none _
   | refine LeO.ite ?_ ?_
   | refine LeO.bind ?_ (fun _ => ?_)
  ·intro y0 y1 y2
   unfold bocageref01_whole.j1
   repeat' first
   | (with_reducible exact ih0 _ _ _ _)
   | (with_reducible exact ih1 _ _ _)
   | (with_reducible exact ih2 _ _ _ _ _)
   | (with_reducible exact ih3 _ _ _)
   | (with_reducible exact LeO.refl _)
   | (with_reducible exact LeO.none _)
   | (with_reducible refine LeO.ite ?_ ?_)
   | (with_reducible refine LeO.bind ?_ (fun _ => ?_))
   | exact ih0 _ _ _ _
   | exact ih1 _ _ _
   | exact ih2 _ _ _ _ _
   | exact ih3 _ _ _
   | exact LeO.none _
   | refine LeO.ite ?_ ?_
   | refine LeO.bind ?_ (fun _ => ?_)
  ·intro y0 y1 y2 y3 y4
   unfold bocageref01_whole.l0
   repeat' first
   | (with_reducible exact ih0 _ _ _ _)
   | (with_reducible exact ih1 _ _ _)
   | (with_reducible exact ih2 _ _ _ _ _)
   | (with_reducible exact ih3 _ _ _)
   | (with_reducible exact LeO.refl _)
   | (with_reducible exact LeO.none _)
   | (with_reducible refine LeO.ite ?_ ?_)
   | (with_reducible refine LeO.bind ?_ (fun _ => ?_))
   | exact ih0 _ _ _ _
   | exact ih1 _ _ _
   | exact ih2 _ _ _ _ _
   | exact ih3 _ _ _
   | exact LeO.none _
   | refine LeO.ite ?_ ?_
   | refine LeO.bind ?_ (fun _ => ?_)
  ·intro y0 y1 y2
   unfold bocageref01_whole.j3
   repeat' first
   | (with_reducible exact ih0 _ _ _ _)
   | (with_reducible exact ih1 _ _ _)
   | (with_reducible exact ih2 _ _ _ _ _)
   | (with_reducible exact ih3 _ _ _)
   | (with_reducible exact LeO.refl _)
   | (with_reducible exact LeO.none _)
   | (with_reducible refine LeO.ite ?_ ?_)
   | (with_reducible refine LeO.bind ?_ (fun _ => ?_))
   | exact ih0 _ _ _ _
   | exact ih1 _ _ _
   | exact ih2 _ _ _ _ _
   | exact ih3 _ _ _
   | exact LeO.none _
   | refine LeO.ite ?_ ?_
   | refine LeO.bind ?_ (fun _ => ?_)
theorem bocageref01_whole.mono : ∀ a0 k, LeO (bocageref01_whole.f k a0) (bocageref01_whole.f (k + 1) a0) := by
 intro a0 k
 obtain ⟨ih0, ih1, ih2, ih3⟩ := bocageref01_whole.mono_l k
 unfold bocageref01_whole.f
 repeat' first
   | (with_reducible exact ih0 _ _ _ _)
   | (with_reducible exact ih1 _ _ _)
   | (with_reducible exact ih2 _ _ _ _ _)
   | (with_reducible exact ih3 _ _ _)
   | (with_reducible exact LeO.refl _)
   | (with_reducible exact LeO.none _)
   | (with_reducible refine LeO.ite ?_ ?_)
   | (with_reducible refine LeO.bind ?_ (fun _ => ?_))
   | exact ih0 _ _ _ _
   | exact ih1 _ _ _
   | exact ih2 _ _ _ _ _
   | exact ih3 _ _ _
   | exact LeO.none _
   | refine LeO.ite ?_ ?_
   | refine LeO.bind ?_ (fun _ => ?_)
def bocageref01_whole.T12 : Bool × List (List Nat × List Nat) := (true, [([], []), ([0], [0]), ([], []), ([], []), ([2, 3], [2, 3]), ([4], [4]), ([5], [5]), ([6], [6]), ([1, 7], [1, 7]), ([0, 1, 2, 3, 4, 5, 6, 7, 8], []), ([9, 8, 8, 0, 1, 2, 3, 4, 5, 6, 7, 8], [8, 9])])
def bocageref01_whole.B12 : List Nat := [0, 1, 0, 0, 12, 28, 60, 124, 255, 511, 1023]
theorem bocageref01_whole.tab12 : rtab .any (opsOf Try.f76 12) = bocageref01_whole.T12 := by kernel_rfl
theorem bocageref01_whole.bits12 : waitsOk bocageref01_whole.T12.2 bocageref01_whole.B12 = true := by kernel_rfl
set_option maxHeartbeats 8000000 in
set_option maxRecDepth 100000 in
theorem bocageref01_whole.calls (k : Nat) (a0 : ByteArray) (r1 : Int) (r2 : List Int) (r3 : Bool) (w : World) (h : bocageref01_whole.f k a0 = some (r1, r2, r3)) :
  Calls Try.prog 76 #[.string a0] w fun e w' => ∃ v1_ : Value, e = .returned (.tuple #[.agg #[.int .i64 r1, v1_], .bool r3]) ∧ Kd.R (Kd.int .i64) 3 w' w.heap.size (fun _ => True) v1_ r2 ∧ Below w.heap.size w w' := by
 have hu78 := Try.underlying78
 have HB := Aside0.mk (Below.refl w.heap.size w)
 have H : (if (a0.size : Int) > 0 then (if 0 < (a0.size : Int) then (bocageref01_whole.j0 k a0 0 ((bt a0 0) == 45) 1) else (none)) else (bocageref01_whole.j0 k a0 0 false 1)) = some (r1, r2, r3) := h
 clear h
 have HC2 := Aside0.mk H
 clear H
 go_enter Try.func76, Try.ntmps76
 go_upto_region 4 with (first | ((with_reducible refine gate_dst (N := 2) rfl ?_); (try (refine gate_guard (by rfl) ?_; dsimp only)); refine bxe (N := 2) (cs := #[.int .i64 0, .slice none 0 0]) (t := 78) ?_; intro gb424 hg w3 hbox hb; have BK424 := Aside0.mk (hbox); have GW424 := lsz hg HB; have GE424 := lsz hg HB; replace HB := bst HB hb; clear hb hbox hg) | ((with_reducible refine gate_dst (N := 4) rfl ?_); (try (refine gate_guard (by rfl) ?_; dsimp only)); refine bxe (N := 4) (cs := #[.int .i64 0, .slice none 0 0]) (t := 78) ?_; intro gb425 hg w4 hbox hb; have BK425 := Aside0.mk (hbox); have GW425 := lsz hg HB; have GE425 := lsz hg HB; replace HB := bst HB hb; have NB424_425 := nlt hg BK424; have NB425_424 := ngt hg BK424; replace BK424 := bkb BK424 hb; clear hb hbox hg; have hnb5 := NB425_424.out; have hnc5 := NB424_425.out; obtain ⟨hcz6_0, hcz6_1⟩ := e2 BK425; obtain ⟨hfz6_0, hfz6_1⟩ := f2 BK425))
 (try simp only [Act.put, List.setIfInBounds_toArray, List.set_cons_zero, List.set_cons_succ])
 go_cut [15] (fun v15 wc => ∃ (kq : Nat) (x15_1 : Bool), v15 = .bool x15_1 ∧ Aside0 (bocageref01_whole.j0 kq a0 0 x15_1 1 = some (r1, r2, r3)) ∧ Aside0 (kq ≤ k) ∧ Aside0 (wc.heap[gb424]? = some (.cells #[.int .i64 0, (.slice none 0 0)] 78 (0, 0))) ∧ Aside0 (wc.heap[gb425]? = some (.cells #[.int .i64 1, (.slice none 0 0)] 78 (0, 0))) ∧ Aside0 (Below w.heap.size w wc))
 case first =>
  have H := HC2.out
  clear HC2
  by_cases c7 : (a0.size : Int) > 0
  ·rw [if_pos c7] at H
   have c7b0 : decide (0 < (a0.size : Int)) = true := decide_eq_true c7
   have c7b1 : decide (0 < a0.size) = true := decide_eq_true (by omega)
   clear c7
   (first | rw [c7b0] | (simp only [i64_w, i32_w]; rw [c7b0]) | skip)
   by_cases c8 : 0 < (a0.size : Int)
   ·rw [if_pos c8] at H
    have c8b0 : decide (0 < (a0.size : Int)) = true := decide_eq_true c8
    have c8b1 : decide (0 < a0.size) = true := decide_eq_true (by omega)
    clear c8
    have H' := Aside0.mk H
    clear H
    have p9 : 0 ≤ (0 : Int) := (by omega)
    have q9 : 0 < a0.size := (by have : (0 : Int) < (a0.size : Int) := of_decide_eq_true (by first | (with_reducible assumption) | assumption); omega)
    have hx9 : ∀ h : 0 < a0.size, ((a0[0]'h).toNat : Int) = bt a0 0 := bt_at a0 0
    clear p9
    have qi9 : (0 < (a0.size : Int)) = True := eq_true (of_decide_eq_true (by first | (with_reducible assumption) | assumption))
    replace q9 := eq_true q9
    go_wp2
    go_meet
    case rel => exact ⟨_, (((bt a0 0) == 45)), (by first | rfl | (simp; done) | (simp [*]; done)), H', ⟨by first | omega | exact Nat.le_refl _⟩, ⟨by (with_reducible repeat (first | refine blk_drewN ?_ _ | refine blk_drew ?_ | refine blk_alloc ?_ _)); refine blk_far ?_ NB424_425.out _; (with_reducible repeat (first | refine blk_drewN ?_ _ | refine blk_drew ?_ | refine blk_alloc ?_ _)); exact BK424.out⟩, ⟨by (with_reducible repeat (first | refine blk_drewN ?_ _ | refine blk_drew ?_ | refine blk_alloc ?_ _)); refine blk_put (cs := #[.int .i64 0, .slice none 0 0]) ?_ 0 _ rfl; (with_reducible repeat (first | refine blk_drewN ?_ _ | refine blk_drew ?_ | refine blk_alloc ?_ _)); exact BK425.out⟩, ⟨bl HB⟩⟩
   ·rw [if_neg c8] at H
    exact absurd H (by simp)
  ·rw [if_neg c7] at H
   have c7b0 : decide (0 < (a0.size : Int)) = false := decide_eq_false c7
   have c7b1 : decide (0 < a0.size) = false := decide_eq_false (by omega)
   clear c7
   (first | rw [c7b0] | (simp only [i64_w, i32_w]; rw [c7b0]) | skip)
   have H' := Aside0.mk H
   clear H
   go_wp2
   go_meet
   case rel => exact ⟨_, (false), (by first | rfl | (simp; done) | (simp [*]; done)), H', ⟨by first | omega | exact Nat.le_refl _⟩, ⟨by (with_reducible repeat (first | refine blk_drewN ?_ _ | refine blk_drew ?_ | refine blk_alloc ?_ _)); refine blk_far ?_ NB424_425.out _; (with_reducible repeat (first | refine blk_drewN ?_ _ | refine blk_drew ?_ | refine blk_alloc ?_ _)); exact BK424.out⟩, ⟨by (with_reducible repeat (first | refine blk_drewN ?_ _ | refine blk_drew ?_ | refine blk_alloc ?_ _)); refine blk_put (cs := #[.int .i64 0, .slice none 0 0]) ?_ 0 _ rfl; (with_reducible repeat (first | refine blk_drewN ?_ _ | refine blk_drew ?_ | refine blk_alloc ?_ _)); exact BK425.out⟩, ⟨bl HB⟩⟩
 case rest =>
  clear HC2
  try clear hcz6_0
  try clear hcz6_1
  try clear hfz6_0
  try clear hfz6_1
  obtain ⟨kq, x15_1, rfl, HA, HJ1, BK424, BK425, HB⟩ := hcut
  cases kq with
  | zero => exact absurd HA.out (by simp [bocageref01_whole.j0])
  | succ kj1 =>
   have H := HA.out
   clear HA
   simp only [bocageref01_whole.j0] at H
   have HC10 := Aside0.mk H
   clear H
   go_upto_if 15 with (fail)
   go_cut [5] (fun v5 wc => ∃ (kq : Nat) (x5_9 : Int) (x426000_9 : Int), v5 = .int .i64 x5_9 ∧ Aside0 (bocageref01_whole.j1 kq a0 x5_9 x426000_9 = some (r1, r2, r3)) ∧ Aside0 (kq ≤ kj1) ∧ Aside0 (wc.heap[gb424]? = some (.cells #[.int .i64 0, (.slice none 0 0)] 78 (0, 0))) ∧ Aside0 (wc.heap[gb425]? = some (.cells #[.int .i64 x426000_9, (.slice none 0 0)] 78 (0, 0))) ∧ Aside0 (Below w.heap.size w wc))
   case first =>
    have H := HC10.out
    clear HC10
    by_cases c11 : x15_1 = true
    ·subst c11
     have H1 : (bocageref01_whole.j1 kj1 a0 1 (-1)) = some (r1, r2, r3) := by rw [if_pos rfl] at H; exact H
     clear H
     have H := H1
     clear H1
     have H' := Aside0.mk H
     clear H
     have hnb12 := NB425_424.out
     have hnc12 := NB424_425.out
     have hcz13_0 : wc.cell? ⟨gb425, 0, none⟩ = some (.int .i64 1) := (blk_cell BK425.out 0).trans rfl
     have hcz13_1 : wc.cell? ⟨gb425, 1, none⟩ = some (.slice none 0 0) := (blk_cell BK425.out 1).trans rfl
     have hfz13_0 := blk_frozen BK425.out 0
     have hfz13_1 := blk_frozen BK425.out 1
     go_wp2
     go_meet
     case rel => exact ⟨_, (1), ((-1)), (by first | rfl | (simp; done) | (simp [*]; done)), H', ⟨by have := HJ1.out; first | omega | exact Nat.le_refl _⟩, ⟨by (with_reducible repeat (first | refine blk_drewN ?_ _ | refine blk_drew ?_ | refine blk_alloc ?_ _)); refine blk_far ?_ NB424_425.out _; (with_reducible repeat (first | refine blk_drewN ?_ _ | refine blk_drew ?_ | refine blk_alloc ?_ _)); exact BK424.out⟩, ⟨by (with_reducible repeat (first | refine blk_drewN ?_ _ | refine blk_drew ?_ | refine blk_alloc ?_ _)); refine blk_put (cs := #[.int .i64 1, .slice none 0 0]) ?_ 0 _ rfl; (with_reducible repeat (first | refine blk_drewN ?_ _ | refine blk_drew ?_ | refine blk_alloc ?_ _)); exact BK425.out⟩, ⟨bl HB⟩⟩
    ·replace c11 := Bool.eq_false_iff.mpr c11
     subst c11
     have H1 : (bocageref01_whole.j1 kj1 a0 0 1) = some (r1, r2, r3) := by rw [if_neg (show ¬ (false = true) by decide)] at H; exact H
     clear H
     have H := H1
     clear H1
     have H' := Aside0.mk H
     clear H
     go_wp2
     go_meet
     case rel => exact ⟨_, (0), (1), (by first | rfl | (simp; done) | (simp [*]; done)), H', ⟨by have := HJ1.out; first | omega | exact Nat.le_refl _⟩, ⟨bk BK424⟩, ⟨bk BK425⟩, ⟨bl HB⟩⟩
   case rest =>
    clear HC10
    obtain ⟨kq, x5_9, x426000_9, rfl, HA, HJ9, BK424, BK425, HB⟩ := hcut
    cases kq with
    | zero => exact absurd HA.out (by simp [bocageref01_whole.j1])
    | succ kj9 =>
     have H := HA.out
     clear HA
     simp only [bocageref01_whole.j1] at H
     have H' := Aside0.mk H
     clear H
     go_wp2
     go_loopg [6] kj9 (fun kq v6 w' => ∃ (x6_3 : Int) (x425000_3 : Int) (x426001_3 : List Int) (u426001 : Value), v6 = .int .i64 x6_3 ∧ Aside0 (bocageref01_whole.l0 kq a0 x5_9 x6_3 x426000_9 x426001_3 = some (r1, r2, r3)) ∧ Aside0 (kq ≤ kj9) ∧ Aside0 (Kd.R (Kd.int .i64) 3 w' w.heap.size (fun _ => True) u426001 x426001_3) ∧ Aside0 (w'.heap[gb424]? = some (.cells #[.int .i64 x425000_3, (.slice none 0 0)] 78 (0, 0))) ∧ Aside0 (w'.heap[gb425]? = some (.cells #[.int .i64 x426000_9, u426001] 78 (0, 0))) ∧ Aside0 (Below w.heap.size w w'))
     case atStart => exact ⟨(wrap64 ((a0.size : Int) - 1)), (0), (([] : List Int)), (.slice none 0 0), (by first | rfl | (simp; done) | (simp [*]; done)), H', ⟨Nat.le_refl _⟩, ⟨by first | exact Kd.R_nil _ _ _ _ _ | exact Kd.N_nil _ _ _ _ _ | exact Kd.V_nil _ _ _ _ _ | exact Kd.Q_nil _ _ _ _ _ | exact Kd.S_nil _ _ _ _ _⟩, ⟨bk BK424⟩, ⟨bk BK425⟩, ⟨bl HB⟩⟩
     case round =>
      clear H'
      obtain ⟨x6_3, x425000_3, x426001_3, u426001, rfl, HA, HK3, HO_426001, BK424, BK425, HB⟩ := hrel
      cases gk with
      | zero => exact absurd HA.out (by simp [bocageref01_whole.l0])
      | succ k3 =>
       have H := HA.out
       clear HA
       simp only [bocageref01_whole.l0] at H
       by_cases c14 : x6_3 ≥ x5_9
       ·rw [if_pos c14] at H
        have c14b0 : decide (x5_9 ≤ x6_3) = true := decide_eq_true c14
        clear c14
        by_cases c15 : 0 ≤ x6_3
        ·rw [if_pos c15] at H
         have c15b0 : decide (0 ≤ x6_3) = true := decide_eq_true c15
         clear c15
         by_cases c16 : x6_3 < (a0.size : Int)
         ·rw [if_pos c16] at H
          have c16b0 : decide (x6_3 < (a0.size : Int)) = true := decide_eq_true c16
          clear c16
          by_cases c18 : (bt a0 x6_3) < 48
          ·rw [if_pos c18] at H
           have c18b0 : decide ((bt a0 x6_3) < 48) = true := decide_eq_true c18
           clear c18
           simp only [Option.some.injEq, Prod.mk.injEq] at H
           obtain ⟨rfl, rfl, rfl⟩ := H
           have p17 : 0 ≤ (x6_3 : Int) := of_decide_eq_true (by first | (with_reducible assumption) | assumption)
           have q17 : x6_3 < (a0.size : Int) := of_decide_eq_true (by first | (with_reducible assumption) | assumption)
           have hx17 := bt_at a0 x6_3
           replace p17 := eq_true p17
           replace q17 := eq_true q17
           have hnb19 := NB424_425.out
           have hnc19 := NB425_424.out
           have hcz20_0 : wr.cell? ⟨gb424, 0, none⟩ = some (.int .i64 x425000_3) := (blk_cell BK424.out 0).trans rfl
           have hcz20_1 : wr.cell? ⟨gb424, 1, none⟩ = some (.slice none 0 0) := (blk_cell BK424.out 1).trans rfl
           have hfz20_0 := blk_frozen BK424.out 0
           have hfz20_1 := blk_frozen BK424.out 1
           go_wp2
           refine bodyPost_ret (results_ct rfl _ _ gb424 78 #[.int .i64 0, .slice none 0 0] (0, 0) _ rfl (bkp BK424) Try.underlying78 rfl (by kernel_rfl)) rfl ?_
           exact ⟨_, by first | rfl | (simp [errW_none, errW_some] <;> rfl) | (simp [*, errW_none, errW_some] <;> rfl), by first | exact Kd.R_nil _ _ _ _ _ | exact Kd.N_nil _ _ _ _ _ | exact Kd.V_nil _ _ _ _ _ | exact Kd.Q_nil _ _ _ _ _ | exact Kd.S_nil _ _ _ _ _, by repeat (first | (with_reducible first | exact HB.out | apply below_alloc | apply pw_below_drewN | apply below_drew1 | refine below_set ?_ GE424.out | refine below_set ?_ GE425.out) | exact HB.out)⟩
          ·rw [if_neg c18] at H
           have c18b0 : decide ((bt a0 x6_3) < 48) = false := decide_eq_false c18
           clear c18
           by_cases c22 : (bt a0 x6_3) > 57
           ·rw [if_pos c22] at H
            have c22b0 : decide (57 < (bt a0 x6_3)) = true := decide_eq_true c22
            clear c22
            simp only [Option.some.injEq, Prod.mk.injEq] at H
            obtain ⟨rfl, rfl, rfl⟩ := H
            have p17 : 0 ≤ (x6_3 : Int) := of_decide_eq_true (by first | (with_reducible assumption) | assumption)
            have q17 : x6_3 < (a0.size : Int) := of_decide_eq_true (by first | (with_reducible assumption) | assumption)
            have hx17 := bt_at a0 x6_3
            replace p17 := eq_true p17
            replace q17 := eq_true q17
            have p21 : 0 ≤ (x6_3 : Int) := of_decide_eq_true (by first | (with_reducible assumption) | assumption)
            have q21 : x6_3 < (a0.size : Int) := of_decide_eq_true (by first | (with_reducible assumption) | assumption)
            have hx21 := bt_at a0 x6_3
            replace p21 := eq_true p21
            replace q21 := eq_true q21
            have hnb23 := NB424_425.out
            have hnc23 := NB425_424.out
            have hcz24_0 : wr.cell? ⟨gb424, 0, none⟩ = some (.int .i64 x425000_3) := (blk_cell BK424.out 0).trans rfl
            have hcz24_1 : wr.cell? ⟨gb424, 1, none⟩ = some (.slice none 0 0) := (blk_cell BK424.out 1).trans rfl
            have hfz24_0 := blk_frozen BK424.out 0
            have hfz24_1 := blk_frozen BK424.out 1
            go_wp2
            refine bodyPost_ret (results_ct rfl _ _ gb424 78 #[.int .i64 0, .slice none 0 0] (0, 0) _ rfl (bkp BK424) Try.underlying78 rfl (by kernel_rfl)) rfl ?_
            exact ⟨_, by first | rfl | (simp [errW_none, errW_some] <;> rfl) | (simp [*, errW_none, errW_some] <;> rfl), by first | exact Kd.R_nil _ _ _ _ _ | exact Kd.N_nil _ _ _ _ _ | exact Kd.V_nil _ _ _ _ _ | exact Kd.Q_nil _ _ _ _ _ | exact Kd.S_nil _ _ _ _ _, by repeat (first | (with_reducible first | exact HB.out | apply below_alloc | apply pw_below_drewN | apply below_drew1 | refine below_set ?_ GE424.out | refine below_set ?_ GE425.out) | exact HB.out)⟩
           ·rw [if_neg c22] at H
            have c22b0 : decide (57 < (bt a0 x6_3)) = false := decide_eq_false c22
            clear c22
            by_cases c26 : x426001_3.length < 17592186044416
            ·rw [if_pos c26] at H
             have LMc26 := Aside0.mk c26
             clear c26
             obtain ⟨y426, hy426⟩ : ∃ y_ : List Int, y_ = (x426001_3 ++ [wrap64 ((wrap64 (bt a0 x6_3)) - 48)]) := ⟨_, rfl⟩
             replace H : (bocageref01_whole.l0 k3 a0 x5_9 (wrap64 (x6_3 - 1)) x426000_9 y426) = some (r1, r2, r3) := by first | (rw [hy426]; with_reducible exact H) | (have H2_ := (Option.bind_some _ _).symm.trans H; rw [hy426]; with_reducible exact H2_) | (have H2_ := (Option.bind_some _ _).symm.trans H; with_reducible exact H2_) | with_reducible exact H | (rw [hy426]; exact H) | exact H
             have Ny426 := Aside0.mk hy426
             clear hy426
             have H' := Aside0.mk H
             clear H
             have p17 : 0 ≤ (x6_3 : Int) := of_decide_eq_true (by first | (with_reducible assumption) | assumption)
             have q17 : x6_3 < (a0.size : Int) := of_decide_eq_true (by first | (with_reducible assumption) | assumption)
             have hx17 := bt_at a0 x6_3
             replace p17 := eq_true p17
             replace q17 := eq_true q17
             have p21 : 0 ≤ (x6_3 : Int) := of_decide_eq_true (by first | (with_reducible assumption) | assumption)
             have q21 : x6_3 < (a0.size : Int) := of_decide_eq_true (by first | (with_reducible assumption) | assumption)
             have hx21 := bt_at a0 x6_3
             replace p21 := eq_true p21
             replace q21 := eq_true q21
             try go_wp2
             replace HO_426001 := Aside0.mk (Kd.R_drew HO_426001.out)
             replace BK424 := Aside0.mk (blk_drew BK424.out)
             replace BK425 := Aside0.mk (blk_drew BK425.out)
             replace HB := Aside0.mk (below_drew1 HB.out)
             have p25 : 0 ≤ (x6_3 : Int) := of_decide_eq_true (by first | (with_reducible assumption) | assumption)
             have q25 : x6_3 < (a0.size : Int) := of_decide_eq_true (by first | (with_reducible assumption) | assumption)
             have hx25 := bt_at a0 x6_3
             replace p25 := eq_true p25
             replace q25 := eq_true q25
             refine start_ (n := 11) (S := fun w' => w'.cell? ⟨gb425, 0, none⟩ = some (.int .i64 x426000_9) ∧ w'.cell? ⟨gb425, 1, none⟩ = some (u426001)) (ds := [10]) #[false, false, false, false, false, false, false, false, false, false, false] (by kernel_rfl) rfl rfl (e2 BK425) (fun hHeld => ?_); refine with_tabW bocageref01_whole.tab12 bocageref01_whole.bits12 (fun HT_ HW_ => ?_)
             generalize wr.drew = w27 at HO_426001 BK424 BK425 HB hHeld ⊢
             refine pw 0 36 HT_ ?_; refine pw 2 38 HT_ ?_; refine pw 3 39 HT_ ?_; refine tw2 1 37 HT_ HW_ hHeld ?_; refine tw2 4 40 HT_ HW_ hHeld ?_; refine pw 5 41 HT_ ?_; refine pw 6 42 HT_ ?_
             refine one_ (i := 7) (N := some 43) #[true, true, true, true, true, true, true, true, false, false, false] rfl rfl (one_of HT_.out (by kernel_rfl)) (by decide) (fun K hK => ?_)
             refine value_ (w1 := ?_) (v := ?_) (by rfl) rfl ?_ ?_
             rotate_left 2
             ·go_simp
              constructor
              ·rfl
              ·rfl
             refine hK.out _ _ ⟨(blk_cell (blk_alloc BK425.out _) 0).trans rfl, (blk_cell (blk_alloc BK425.out _) 1).trans rfl⟩ (fun hHeld => ?_)
             clear hK K
             refine nrp 43 ?_
             refine one_ (i := 8) (N := some 44) #[true, true, true, true, true, true, true, true, true, false, false] rfl rfl (one_of HT_.out (by kernel_rfl)) (by decide) (fun K hK => ?_)
             refine Kd.R_append_step (Kd.int .i64) (w0 := w) w.heap.size (by rfl) (.tmp 37) (.tmp 43) 76 3 (.int .i64 0) 8 rfl Try.underlying76 info3 rfl (by decide) (by omega) u426001 x426001_3 (wrap64 ((wrap64 (bt a0 x6_3)) - 48)) [.int .i64 (wrap64 ((wrap64 (bt a0 x6_3)) - 48))] (fun _ => True) (fun _ => False) rfl rfl ?aP (fun _ hk => hk.elim) ?aF ?aO ?aB ?aS ?aL ?_
             (case aP => exact rfl)
             (case aB => exact (bl HB))
             (case aF => exact (fun _ _ => trivial))
             (case aO => exact (kr HO_426001))
             (case aS => exact (below_size (bl HB)))
             (case aL => have := LMc26.out; omega)
             intro v427 w28 ho hb hg hat
             rw [← Ny426.out] at ho
             replace BK424 := Aside0.mk (blk_grown (bk BK424) hg (Kd.R_ne HO_426001.out BK424.out (by decide)))
             replace BK425 := Aside0.mk (blk_grown (bk BK425) hg (Kd.R_ne HO_426001.out BK425.out (by decide)))
             replace HB := Aside0.mk (hb)
             have HO428 := Aside0.mk (ho)
             clear HO_426001
             clear ho hb hg hat
             obtain ⟨Ao29, co29, eo29⟩ := Kd.R_slice HO428.out
             (first | subst eo29 | (injection eo29 with f1_ f2_ f3_; have f4_ := f1_.symm; have f5_ := f3_.symm; clear f1_ f2_ f3_; subst f4_; subst f5_))
             refine hK.out _ _ (e2 BK425) (fun hHeld => ?_)
             clear hK K
             refine nrp 44 ?_
             refine pw 9 45 HT_ ?_
             refine last_ (i := 10) (N := none) #[true, true, true, true, true, true, true, true, true, true, true] rfl rfl (one_of HT_.out (by kernel_rfl)) (by decide) (fun K hK => ?_)
             have hs30 : w28.cell? ⟨gb425, 1, none⟩ = some (u426001) := (blk_cell BK425.out 1).trans rfl
             have hfs30 := blk_frozen BK425.out 1
             have hns30_0 := NB424_425.out
             have hms30_0 := NB425_424.out
             refine skip_ (w1 := ?_) (by rfl) rfl ?_ ?_
             rotate_left
             ·go_simp
              rfl
             refine hK.out _ _ ?_
             clear hK K
             refine done_ (done_of HT_.out (by kernel_rfl)) ?_
             try go_wp2
             go_roundg k3
             case measure => have := HJ1.out; have := HJ9.out; have := HK3.out; omega
             case rel => exact ⟨(wrap64 (x6_3 - 1)), (x425000_3), (y426), (.slice Ao29 y426.length co29), (by first | rfl | (simp; done) | (simp [*]; done)), H', ⟨by have := HJ1.out; have := HJ9.out; have := HK3.out; omega⟩, ⟨by (with_reducible repeat (first | apply Kd.R_alloc | apply Kd.R_drewN | apply Kd.R_drew)); exact Kd.R_mono (Kd.R_far (p := ⟨gb425, 1, none⟩) (Kd.R_types HO428.out BK425.out (by decide)) (fun _ hk => hk.2) (.slice Ao29 y426.length co29)) (fun _ hk => trivial)⟩, ⟨by (with_reducible repeat (first | refine blk_drewN ?_ _ | refine blk_drew ?_ | refine blk_alloc ?_ _)); refine blk_far ?_ NB424_425.out _; (with_reducible repeat (first | refine blk_drewN ?_ _ | refine blk_drew ?_ | refine blk_alloc ?_ _)); exact BK424.out⟩, ⟨by (with_reducible repeat (first | refine blk_drewN ?_ _ | refine blk_drew ?_ | refine blk_alloc ?_ _)); refine blk_put (cs := #[.int .i64 x426000_9, u426001]) ?_ 1 _ rfl; (with_reducible repeat (first | refine blk_drewN ?_ _ | refine blk_drew ?_ | refine blk_alloc ?_ _)); exact BK425.out⟩, ⟨bl HB⟩⟩
            ·rw [if_neg c26] at H
             exact absurd H (by simp)
         ·rw [if_neg c16] at H
          exact absurd H (by simp)
        ·rw [if_neg c15] at H
         exact absurd H (by simp)
       ·rw [if_neg c14] at H
        have c14b0 : decide (x5_9 ≤ x6_3) = false := decide_eq_false c14
        clear c14
        by_cases c31 : (x426001_3.length : Int) = 0
        ·rw [if_pos c31] at H
         have c31b0 : ((x426001_3.length : Int) == 0) = true := beq_iff_eq.mpr c31
         have c31b1 : ((x426001_3.length : Int) != 0) = false := bne_eq_false_iff_eq.mpr c31
         clear c31
         simp only [Option.some.injEq, Prod.mk.injEq] at H
         obtain ⟨rfl, rfl, rfl⟩ := H
         have hnb32 := NB425_424.out
         have hnc32 := NB424_425.out
         have hcz33_0 : wr.cell? ⟨gb425, 0, none⟩ = some (.int .i64 x426000_9) := (blk_cell BK425.out 0).trans rfl
         have hcz33_1 : wr.cell? ⟨gb425, 1, none⟩ = some (u426001) := (blk_cell BK425.out 1).trans rfl
         have hfz33_0 := blk_frozen BK425.out 0
         have hfz33_1 := blk_frozen BK425.out 1
         obtain ⟨Ao34, co34, eo34⟩ := Kd.R_slice HO_426001.out
         subst eo34
         have hcz35_0 : wr.cell? ⟨gb424, 0, none⟩ = some (.int .i64 x425000_3) := (blk_cell BK424.out 0).trans rfl
         have hcz35_1 : wr.cell? ⟨gb424, 1, none⟩ = some (.slice none 0 0) := (blk_cell BK424.out 1).trans rfl
         have hfz35_0 := blk_frozen BK424.out 0
         have hfz35_1 := blk_frozen BK424.out 1
         go_wp2
         refine bodyPost_ret (results_ct rfl _ _ gb424 78 #[.int .i64 0, .slice none 0 0] (0, 0) _ rfl (bkp BK424) Try.underlying78 rfl (by kernel_rfl)) rfl ?_
         exact ⟨_, by first | rfl | (simp [errW_none, errW_some] <;> rfl) | (simp [*, errW_none, errW_some] <;> rfl), by first | exact Kd.R_nil _ _ _ _ _ | exact Kd.N_nil _ _ _ _ _ | exact Kd.V_nil _ _ _ _ _ | exact Kd.Q_nil _ _ _ _ _ | exact Kd.S_nil _ _ _ _ _, by repeat (first | (with_reducible first | exact HB.out | apply below_alloc | apply pw_below_drewN | apply below_drew1 | refine below_set ?_ GE424.out | refine below_set ?_ GE425.out) | exact HB.out)⟩
        ·rw [if_neg c31] at H
         have c31b0 : ((x426001_3.length : Int) == 0) = false := beq_eq_false_iff_ne.mpr c31
         have c31b1 : ((x426001_3.length : Int) != 0) = true := bne_iff_ne.mpr c31
         have c31b2 : ¬ (x426001_3 = []) := fun h_ => c31 (by rw [h_]; rfl)
         have HC36 := Aside0.mk H
         clear H
         have hnb37 := NB425_424.out
         have hnc37 := NB424_425.out
         have hcz38_0 : wr.cell? ⟨gb425, 0, none⟩ = some (.int .i64 x426000_9) := (blk_cell BK425.out 0).trans rfl
         have hcz38_1 : wr.cell? ⟨gb425, 1, none⟩ = some (u426001) := (blk_cell BK425.out 1).trans rfl
         have hfz38_0 := blk_frozen BK425.out 0
         have hfz38_1 := blk_frozen BK425.out 1
         obtain ⟨Ao39, co39, eo39⟩ := Kd.R_slice HO_426001.out
         subst eo39
         go_upto_region 15 with (fail)
         go_cut [69] (fun v69 wc => ∃ (kq : Nat) (x69_35 : Bool), v69 = .bool x69_35 ∧ Aside0 (bocageref01_whole.j3 kq x69_35 x426000_9 x426001_3 = some (r1, r2, r3)) ∧ Aside0 (kq ≤ k3) ∧ Aside0 (Kd.R (Kd.int .i64) 3 wc w.heap.size (fun _ => True) (.slice Ao39 x426001_3.length co39) x426001_3) ∧ Aside0 (wc.heap[gb424]? = some (.cells #[.int .i64 x425000_3, (.slice none 0 0)] 78 (0, 0))) ∧ Aside0 (wc.heap[gb425]? = some (.cells #[.int .i64 x426000_9, (.slice Ao39 x426001_3.length co39)] 78 (0, 0))) ∧ Aside0 (Below w.heap.size w wc))
         case first =>
          have H := HC36.out
          clear HC36
          obtain ⟨ji40, hji40⟩ : ∃ j_ : Int, (wrap64 ((x426001_3.length : Int) - 1)) = j_ := ⟨_, rfl⟩
          replace H : (if 0 ≤ (ji40) then (if (ji40) < (x426001_3.length : Int) then (if (rd x426001_3 (ji40)) = 0 then (if (x426001_3.length : Int) > 1 then (bocageref01_whole.j3 k3 true x426000_9 x426001_3) else (bocageref01_whole.j3 k3 (decide (x5_9 > 0)) x426000_9 x426001_3)) else (bocageref01_whole.j3 k3 false x426000_9 x426001_3)) else (none)) else (none)) = some (r1, r2, r3) := by first | (rw [hji40] at H; exact H) | (simp only [hji40] at H ⊢; exact H)
          have hji40w : (IntKind.i64.wrap ((x426001_3.length : Int) - 1)) = ji40 := (i64_w _).trans hji40
          by_cases c41 : 0 ≤ (ji40)
          ·rw [if_pos c41] at H
           have c41b0 : decide (0 ≤ (ji40)) = true := decide_eq_true c41
           clear c41
           (first | rw [c41b0] | (simp only [i64_w, i32_w]; rw [c41b0]) | skip)
           by_cases c42 : (ji40) < (x426001_3.length : Int)
           ·rw [if_pos c42] at H
            have c42b0 : decide ((ji40) < (x426001_3.length : Int)) = true := decide_eq_true c42
            clear c42
            by_cases c43 : (rd x426001_3 (ji40)) = 0
            ·rw [if_pos c43] at H
             have c43b0 : ((rd x426001_3 (ji40)) == 0) = true := beq_iff_eq.mpr c43
             have c43b1 : ((rd x426001_3 (ji40)) != 0) = false := bne_eq_false_iff_eq.mpr c43
             clear c43
             by_cases c44 : (x426001_3.length : Int) > 1
             ·rw [if_pos c44] at H
              have c44b0 : decide (1 < (x426001_3.length : Int)) = true := decide_eq_true c44
              have c44b1 : decide (1 < x426001_3.length) = true := decide_eq_true (by omega)
              clear c44
              have H' := Aside0.mk H
              clear H
              have hnb45 := NB425_424.out
              have hnc45 := NB424_425.out
              have hcz46_0 : wr.cell? ⟨gb425, 0, none⟩ = some (.int .i64 x426000_9) := (blk_cell BK425.out 0).trans rfl
              have hcz46_1 : wr.cell? ⟨gb425, 1, none⟩ = some (.slice Ao39 x426001_3.length co39) := (blk_cell BK425.out 1).trans rfl
              have hfz46_0 := blk_frozen BK425.out 0
              have hfz46_1 := blk_frozen BK425.out 1
              have p429 : 0 ≤ ((ji40) : Int) := of_decide_eq_true (by first | (with_reducible assumption) | assumption)
              have q429 : (ji40) < (x426001_3.length : Int) := of_decide_eq_true (by first | (with_reducible assumption) | assumption)
              obtain ⟨ad429, e429, hx429_0⟩ := Kd.at_int (Kd.R_reads' HO_426001.out).2.2 (ji40) p429 q429
              cases e429
              replace p429 := eq_true p429
              replace q429 := eq_true q429
              go_wp2
              go_meet
              case rel => exact ⟨_, (true), (by first | rfl | (simp; done) | (simp [*]; done)), H', ⟨by have := HJ1.out; have := HJ9.out; have := HK3.out; first | omega | exact Nat.le_refl _⟩, ⟨kr HO_426001⟩, ⟨bk BK424⟩, ⟨bk BK425⟩, ⟨bl HB⟩⟩
             ·rw [if_neg c44] at H
              have c44b0 : decide (1 < (x426001_3.length : Int)) = false := decide_eq_false c44
              have c44b1 : decide (1 < x426001_3.length) = false := decide_eq_false (by omega)
              clear c44
              have H' := Aside0.mk H
              clear H
              have hnb47 := NB425_424.out
              have hnc47 := NB424_425.out
              have hcz48_0 : wr.cell? ⟨gb425, 0, none⟩ = some (.int .i64 x426000_9) := (blk_cell BK425.out 0).trans rfl
              have hcz48_1 : wr.cell? ⟨gb425, 1, none⟩ = some (.slice Ao39 x426001_3.length co39) := (blk_cell BK425.out 1).trans rfl
              have hfz48_0 := blk_frozen BK425.out 0
              have hfz48_1 := blk_frozen BK425.out 1
              have p429 : 0 ≤ ((ji40) : Int) := of_decide_eq_true (by first | (with_reducible assumption) | assumption)
              have q429 : (ji40) < (x426001_3.length : Int) := of_decide_eq_true (by first | (with_reducible assumption) | assumption)
              obtain ⟨ad429, e429, hx429_0⟩ := Kd.at_int (Kd.R_reads' HO_426001.out).2.2 (ji40) p429 q429
              cases e429
              replace p429 := eq_true p429
              replace q429 := eq_true q429
              go_wp2
              go_meet
              case rel => exact ⟨_, (decide (x5_9 > 0)), (by first | rfl | (simp; done) | (simp [*]; done)), H', ⟨by have := HJ1.out; have := HJ9.out; have := HK3.out; first | omega | exact Nat.le_refl _⟩, ⟨kr HO_426001⟩, ⟨bk BK424⟩, ⟨bk BK425⟩, ⟨bl HB⟩⟩
            ·rw [if_neg c43] at H
             have c43b0 : ((rd x426001_3 (ji40)) == 0) = false := beq_eq_false_iff_ne.mpr c43
             have c43b1 : ((rd x426001_3 (ji40)) != 0) = true := bne_iff_ne.mpr c43
             have H' := Aside0.mk H
             clear H
             have hnb49 := NB425_424.out
             have hnc49 := NB424_425.out
             have hcz50_0 : wr.cell? ⟨gb425, 0, none⟩ = some (.int .i64 x426000_9) := (blk_cell BK425.out 0).trans rfl
             have hcz50_1 : wr.cell? ⟨gb425, 1, none⟩ = some (.slice Ao39 x426001_3.length co39) := (blk_cell BK425.out 1).trans rfl
             have hfz50_0 := blk_frozen BK425.out 0
             have hfz50_1 := blk_frozen BK425.out 1
             have p429 : 0 ≤ ((ji40) : Int) := of_decide_eq_true (by first | (with_reducible assumption) | assumption)
             have q429 : (ji40) < (x426001_3.length : Int) := of_decide_eq_true (by first | (with_reducible assumption) | assumption)
             obtain ⟨ad429, e429, hx429_0⟩ := Kd.at_int (Kd.R_reads' HO_426001.out).2.2 (ji40) p429 q429
             cases e429
             replace p429 := eq_true p429
             replace q429 := eq_true q429
             go_wp2
             go_meet
             case rel => exact ⟨_, (false), (by first | rfl | (simp; done) | (simp [*]; done)), H', ⟨by have := HJ1.out; have := HJ9.out; have := HK3.out; first | omega | exact Nat.le_refl _⟩, ⟨kr HO_426001⟩, ⟨bk BK424⟩, ⟨bk BK425⟩, ⟨bl HB⟩⟩
           ·rw [if_neg c42] at H
            exact absurd H (by simp)
          ·rw [if_neg c41] at H
           exact absurd H (by simp)
         case rest =>
          clear HC36
          try clear c14
          try clear c14b0
          try clear c31
          try clear c31b0
          try clear c31b1
          try clear c31b2
          try clear hcz38_0
          try clear hcz38_1
          try clear hfz38_0
          try clear hfz38_1
          obtain ⟨kq, x69_35, rfl, HA, HJ35, HO_426001, BK424, BK425, HB⟩ := hcut
          cases kq with
          | zero => exact absurd HA.out (by simp [bocageref01_whole.j3])
          | succ kj35 =>
           have H := HA.out
           clear HA
           simp only [bocageref01_whole.j3] at H
           by_cases c51 : x69_35 = true
           ·subst c51
            have H1 : (some (0, ([] : List Int), false)) = some (r1, r2, r3) := by rw [if_pos rfl] at H; exact H
            clear H
            have H := H1
            clear H1
            simp only [Option.some.injEq, Prod.mk.injEq] at H
            obtain ⟨rfl, rfl, rfl⟩ := H
            have hnb52 := NB424_425.out
            have hnc52 := NB425_424.out
            have hcz53_0 : wc.cell? ⟨gb424, 0, none⟩ = some (.int .i64 x425000_3) := (blk_cell BK424.out 0).trans rfl
            have hcz53_1 : wc.cell? ⟨gb424, 1, none⟩ = some (.slice none 0 0) := (blk_cell BK424.out 1).trans rfl
            have hfz53_0 := blk_frozen BK424.out 0
            have hfz53_1 := blk_frozen BK424.out 1
            go_wp2
            refine bodyPost_ret (results_ct rfl _ _ gb424 78 #[.int .i64 0, .slice none 0 0] (0, 0) _ rfl (bkp BK424) Try.underlying78 rfl (by kernel_rfl)) rfl ?_
            exact ⟨_, by first | rfl | (simp [errW_none, errW_some] <;> rfl) | (simp [*, errW_none, errW_some] <;> rfl), by first | exact Kd.R_nil _ _ _ _ _ | exact Kd.N_nil _ _ _ _ _ | exact Kd.V_nil _ _ _ _ _ | exact Kd.Q_nil _ _ _ _ _ | exact Kd.S_nil _ _ _ _ _, by repeat (first | (with_reducible first | exact HB.out | apply below_alloc | apply pw_below_drewN | apply below_drew1 | refine below_set ?_ GE424.out | refine below_set ?_ GE425.out) | exact HB.out)⟩
           ·replace c51 := Bool.eq_false_iff.mpr c51
            subst c51
            have H1 : (if 0 ≤ (wrap64 ((x426001_3.length : Int) - 1)) then (if (wrap64 ((x426001_3.length : Int) - 1)) < (x426001_3.length : Int) then (if (rd x426001_3 (wrap64 ((x426001_3.length : Int) - 1))) = 0 then (some (0, ([] : List Int), true)) else (some (x426000_9, x426001_3, true))) else (none)) else (none)) = some (r1, r2, r3) := by rw [if_neg (show ¬ (false = true) by decide)] at H; exact H
            clear H
            have H := H1
            clear H1
            obtain ⟨ji54, hji54⟩ : ∃ j_ : Int, (wrap64 ((x426001_3.length : Int) - 1)) = j_ := ⟨_, rfl⟩
            replace H : (if 0 ≤ (ji54) then (if (ji54) < (x426001_3.length : Int) then (if (rd x426001_3 (ji54)) = 0 then (some (0, ([] : List Int), true)) else (some (x426000_9, x426001_3, true))) else (none)) else (none)) = some (r1, r2, r3) := by first | (rw [hji54] at H; exact H) | (simp only [hji54] at H ⊢; exact H)
            have hji54w : (IntKind.i64.wrap ((x426001_3.length : Int) - 1)) = ji54 := (i64_w _).trans hji54
            by_cases c55 : 0 ≤ (ji54)
            ·rw [if_pos c55] at H
             have c55b0 : decide (0 ≤ (ji54)) = true := decide_eq_true c55
             clear c55
             by_cases c56 : (ji54) < (x426001_3.length : Int)
             ·rw [if_pos c56] at H
              have c56b0 : decide ((ji54) < (x426001_3.length : Int)) = true := decide_eq_true c56
              clear c56
              by_cases c57 : (rd x426001_3 (ji54)) = 0
              ·rw [if_pos c57] at H
               have c57b0 : ((rd x426001_3 (ji54)) == 0) = true := beq_iff_eq.mpr c57
               have c57b1 : ((rd x426001_3 (ji54)) != 0) = false := bne_eq_false_iff_eq.mpr c57
               clear c57
               simp only [Option.some.injEq, Prod.mk.injEq] at H
               obtain ⟨rfl, rfl, rfl⟩ := H
               have hnb58 := NB425_424.out
               have hnc58 := NB424_425.out
               have hcz59_0 : wc.cell? ⟨gb425, 0, none⟩ = some (.int .i64 x426000_9) := (blk_cell BK425.out 0).trans rfl
               have hcz59_1 : wc.cell? ⟨gb425, 1, none⟩ = some (.slice Ao39 x426001_3.length co39) := (blk_cell BK425.out 1).trans rfl
               have hfz59_0 := blk_frozen BK425.out 0
               have hfz59_1 := blk_frozen BK425.out 1
               have p430 : 0 ≤ ((ji54) : Int) := of_decide_eq_true (by first | (with_reducible assumption) | assumption)
               have q430 : (ji54) < (x426001_3.length : Int) := of_decide_eq_true (by first | (with_reducible assumption) | assumption)
               obtain ⟨ad430, e430, hx430_0⟩ := Kd.at_int (Kd.R_reads' HO_426001.out).2.2 (ji54) p430 q430
               cases e430
               replace p430 := eq_true p430
               replace q430 := eq_true q430
               have hcz60_0 : wc.cell? ⟨gb424, 0, none⟩ = some (.int .i64 x425000_3) := (blk_cell BK424.out 0).trans rfl
               have hcz60_1 : wc.cell? ⟨gb424, 1, none⟩ = some (.slice none 0 0) := (blk_cell BK424.out 1).trans rfl
               have hfz60_0 := blk_frozen BK424.out 0
               have hfz60_1 := blk_frozen BK424.out 1
               go_wp2
               refine bodyPost_ret (results_ct rfl _ _ gb424 78 #[.int .i64 0, .slice none 0 0] (0, 0) _ rfl (bkp BK424) Try.underlying78 rfl (by kernel_rfl)) rfl ?_
               exact ⟨_, by first | rfl | (simp [errW_none, errW_some] <;> rfl) | (simp only [← hji54]; first | rfl | (simp [errW_none, errW_some] <;> rfl)) | (simp [*, errW_none, errW_some] <;> rfl), by first | exact Kd.R_nil _ _ _ _ _ | exact Kd.N_nil _ _ _ _ _ | exact Kd.V_nil _ _ _ _ _ | exact Kd.Q_nil _ _ _ _ _ | exact Kd.S_nil _ _ _ _ _, by repeat (first | (with_reducible first | exact HB.out | apply below_alloc | apply pw_below_drewN | apply below_drew1 | refine below_set ?_ GE424.out | refine below_set ?_ GE425.out) | exact HB.out)⟩
              ·rw [if_neg c57] at H
               have c57b0 : ((rd x426001_3 (ji54)) == 0) = false := beq_eq_false_iff_ne.mpr c57
               have c57b1 : ((rd x426001_3 (ji54)) != 0) = true := bne_iff_ne.mpr c57
               simp only [Option.some.injEq, Prod.mk.injEq] at H
               obtain ⟨rfl, rfl, rfl⟩ := H
               have hnb61 := NB425_424.out
               have hnc61 := NB424_425.out
               have hcz62_0 : wc.cell? ⟨gb425, 0, none⟩ = some (.int .i64 x426000_9) := (blk_cell BK425.out 0).trans rfl
               have hcz62_1 : wc.cell? ⟨gb425, 1, none⟩ = some (.slice Ao39 x426001_3.length co39) := (blk_cell BK425.out 1).trans rfl
               have hfz62_0 := blk_frozen BK425.out 0
               have hfz62_1 := blk_frozen BK425.out 1
               have p430 : 0 ≤ ((ji54) : Int) := of_decide_eq_true (by first | (with_reducible assumption) | assumption)
               have q430 : (ji54) < (x426001_3.length : Int) := of_decide_eq_true (by first | (with_reducible assumption) | assumption)
               obtain ⟨ad430, e430, hx430_0⟩ := Kd.at_int (Kd.R_reads' HO_426001.out).2.2 (ji54) p430 q430
               cases e430
               replace p430 := eq_true p430
               replace q430 := eq_true q430
               have hcz63_0 : wc.cell? ⟨gb424, 0, none⟩ = some (.int .i64 x425000_3) := (blk_cell BK424.out 0).trans rfl
               have hcz63_1 : wc.cell? ⟨gb424, 1, none⟩ = some (.slice none 0 0) := (blk_cell BK424.out 1).trans rfl
               have hfz63_0 := blk_frozen BK424.out 0
               have hfz63_1 := blk_frozen BK424.out 1
               go_wp2
               refine bodyPost_ret (results_ct rfl _ _ gb424 78 #[.int .i64 x426000_9, .slice (some ad430) x426001_3.length co39] (0, 0) _ rfl (bkp BK424) Try.underlying78 rfl (by kernel_rfl)) rfl ?_
               exact ⟨_, by first | rfl | (simp [errW_none, errW_some] <;> rfl) | (simp only [← hji54]; first | rfl | (simp [errW_none, errW_some] <;> rfl)) | (simp [*, errW_none, errW_some] <;> rfl), by (with_reducible repeat (first | apply Kd.R_alloc | apply Kd.R_drewN | apply Kd.R_drew)); exact Kd.R_mono (Kd.R_far (p := ⟨gb424, 1, none⟩) (Kd.R_far (p := ⟨gb424, 0, none⟩) (Kd.R_types HO_426001.out BK424.out (by decide)) (fun _ hk => hk.2) (.int .i64 x426000_9)) (fun _ hk => hk.2) (.slice (some ad430) x426001_3.length co39)) (fun _ hk => trivial), by repeat (first | (with_reducible first | exact HB.out | apply below_alloc | apply pw_below_drewN | apply below_drew1 | refine below_set ?_ GE424.out | refine below_set ?_ GE425.out) | exact HB.out)⟩
             ·rw [if_neg c56] at H
              exact absurd H (by simp)
            ·rw [if_neg c55] at H
             exact absurd H (by simp)
/-! ### bocageref01_digit: function 81 -/
def bocageref01_digit.f (l0 : List Int) (a1 : Int) : Option (Int) := if a1 < (l0.length : Int) then (if 0 ≤ a1 then (some (rd l0 a1)) else (none)) else (some 0)
set_option maxHeartbeats 8000000 in
set_option maxRecDepth 100000 in
theorem bocageref01_digit.calls (A0 : Option Addr) (c0 : Nat) (l0 : List Int) (a1 : Int) (r : Int) (w : World) (hr0 : Kd.C (Kd.int .i64) w A0 l0.length l0) (hc0 : l0.length ≤ c0) (h : bocageref01_digit.f l0 a1 = some r) :
  Calls Try.prog 81 #[.slice A0 l0.length c0, .int .i64 a1] w fun e w' => e = .returned (.int .i64 r) ∧ Drawn0 w w' := by
 have HR0 := Aside0.mk hr0
 have HC0 := Aside0.mk hc0
 clear hr0 hc0
 have H : (if a1 < (l0.length : Int) then (if 0 ≤ a1 then (some (rd l0 a1)) else (none)) else (some 0)) = some r := h
 clear h
 by_cases c3 : a1 < (l0.length : Int)
 ·rw [if_pos c3] at H
  have c3b0 : decide (a1 < (l0.length : Int)) = true := decide_eq_true c3
  clear c3
  by_cases c4 : 0 ≤ a1
  ·rw [if_pos c4] at H
   have c4b0 : decide (0 ≤ a1) = true := decide_eq_true c4
   clear c4
   obtain rfl := Option.some.inj H
   have p431 : 0 ≤ (a1 : Int) := of_decide_eq_true (by first | (with_reducible assumption) | assumption)
   have q431 : a1 < (l0.length : Int) := of_decide_eq_true (by first | (with_reducible assumption) | assumption)
   obtain ⟨ad431, e431, hx431_0⟩ := Kd.at_int HR0.out a1 p431 q431
   cases e431
   replace p431 := eq_true p431
   replace q431 := eq_true q431
   go_enter Try.func81, Try.ntmps81
   go_wp2
   go_ret
   exact ⟨by first | rfl | (simp; done) | (simp [*]; done), by repeat (first | exact Drawn0.refl _ | apply Drawn0.step)⟩
  ·rw [if_neg c4] at H
   exact absurd H (by simp)
 ·rw [if_neg c3] at H
  have c3b0 : decide (a1 < (l0.length : Int)) = false := decide_eq_false c3
  clear c3
  obtain rfl := Option.some.inj H
  go_enter Try.func81, Try.ntmps81
  go_wp2
  go_ret
  exact ⟨by first | rfl | (simp; done) | (simp [*]; done), by repeat (first | exact Drawn0.refl _ | apply Drawn0.step)⟩
/-! ### bocageref01_more: function 79 -/
def bocageref01_more.l0 : Nat → List Int → List Int → Int → Option (Bool)
 | 0, _, _, _ => none
 | k + 1, x0, x1, x5 => if x5 ≥ 0 then ((bocageref01_digit.f x0 x5).bind fun t432 => ((bocageref01_digit.f x1 x5).bind fun t433 => (if t432 = t433 then (bocageref01_more.l0 k x0 x1 (wrap64 (x5 - 1))) else ((bocageref01_digit.f x0 x5).bind fun t434 => ((bocageref01_digit.f x1 x5).bind fun t435 => (some (decide (t434 > t435)))))))) else (some false)
def bocageref01_more.f (k : Nat) (l0 : List Int) (l1 : List Int) : Option (Bool) := bocageref01_more.l0 k l0 l1 (wrap64 ((l0.length : Int) + (l1.length : Int)))
theorem bocageref01_more.mono_l : ∀ k, (∀ y0 y1 y2, LeO (bocageref01_more.l0 k y0 y1 y2) (bocageref01_more.l0 (k + 1) y0 y1 y2))
 | 0 => fun _ _ _ r h => by simp [bocageref01_more.l0] at h
 | k + 1 => by
  have ih0 := bocageref01_more.mono_l k
  ·intro y0 y1 y2
   unfold bocageref01_more.l0
   repeat' first
   | (with_reducible exact ih0 _ _ _)
   | (with_reducible exact LeO.refl _)
   | (with_reducible exact LeO.none _)
   | (with_reducible refine LeO.ite ?_ ?_)
   | (with_reducible refine LeO.bind ?_ (fun _ => ?_))
   | exact ih0 _ _ _
   | exact LeO.none _
   | refine LeO.ite ?_ ?_
   | refine LeO.bind ?_ (fun _ => ?_)
theorem bocageref01_more.mono : ∀ a0 a1 k, LeO (bocageref01_more.f k a0 a1) (bocageref01_more.f (k + 1) a0 a1) := by
 intro a0 a1 k
 have ih0 := bocageref01_more.mono_l k
 unfold bocageref01_more.f
 repeat' first
   | (with_reducible exact ih0 _ _ _)
   | (with_reducible exact LeO.refl _)
   | (with_reducible exact LeO.none _)
   | (with_reducible refine LeO.ite ?_ ?_)
   | (with_reducible refine LeO.bind ?_ (fun _ => ?_))
   | exact ih0 _ _ _
   | exact LeO.none _
   | refine LeO.ite ?_ ?_
   | refine LeO.bind ?_ (fun _ => ?_)
set_option maxHeartbeats 8000000 in
set_option maxRecDepth 100000 in
theorem bocageref01_more.calls (k : Nat) (A0 : Option Addr) (c0 : Nat) (l0 : List Int) (A1 : Option Addr) (c1 : Nat) (l1 : List Int) (r : Bool) (w : World) (hr0 : Kd.C (Kd.int .i64) w A0 l0.length l0) (hc0 : l0.length ≤ c0) (hr1 : Kd.C (Kd.int .i64) w A1 l1.length l1) (hc1 : l1.length ≤ c1) (h : bocageref01_more.f k l0 l1 = some r) :
  Calls Try.prog 79 #[.slice A0 l0.length c0, .slice A1 l1.length c1] w fun e w' => e = .returned (.bool r) ∧ Drawn0 w w' := by
 have HR0 := Aside0.mk hr0
 have HC0 := Aside0.mk hc0
 clear hr0 hc0
 have HR1 := Aside0.mk hr1
 have HC1 := Aside0.mk hc1
 clear hr1 hc1
 have H : (bocageref01_more.l0 k l0 l1 (wrap64 ((l0.length : Int) + (l1.length : Int)))) = some r := h
 clear h
 have H' := Aside0.mk H
 clear H
 go_enter Try.func79, Try.ntmps79
 go_wp2
 go_loopg [5] k (fun kq v5 w' => ∃ (x5_1 : Int), v5 = .int .i64 x5_1 ∧ Aside0 (bocageref01_more.l0 kq l0 l1 x5_1 = some r) ∧ Aside0 (kq ≤ k) ∧ Drawn0 w w')
 case atStart => exact ⟨(wrap64 ((l0.length : Int) + (l1.length : Int))), (by first | rfl | (simp; done) | (simp [*]; done)), H', ⟨Nat.le_refl _⟩, by repeat (first | exact Drawn0.refl _ | apply Drawn0.step)⟩
 case round =>
  clear H'
  try clear c1
  obtain ⟨x5_1, rfl, HA, HK1, ⟨m1, rfl⟩⟩ := hrel
  cases gk with
  | zero => exact absurd HA.out (by simp [bocageref01_more.l0])
  | succ k1 =>
   have H := HA.out
   clear HA
   simp only [bocageref01_more.l0] at H
   by_cases c3 : x5_1 ≥ 0
   ·rw [if_pos c3] at H
    have c3b0 : decide (0 ≤ x5_1) = true := decide_eq_true c3
    clear c3
    replace H := Option.bind_eq_some_iff.mp H
    obtain ⟨t432, A40, H⟩ := H
    replace H : ((bocageref01_digit.f l1 x5_1).bind fun t433 => (if t432 = t433 then (bocageref01_more.l0 k1 l0 l1 (wrap64 (x5_1 - 1))) else ((bocageref01_digit.f l0 x5_1).bind fun t434 => ((bocageref01_digit.f l1 x5_1).bind fun t435 => (some (decide (t434 > t435))))))) = some r := H
    have A4 := Aside0.mk A40
    clear A40
    replace H := Option.bind_eq_some_iff.mp H
    obtain ⟨t433, A50, H⟩ := H
    replace H : (if t432 = t433 then (bocageref01_more.l0 k1 l0 l1 (wrap64 (x5_1 - 1))) else ((bocageref01_digit.f l0 x5_1).bind fun t434 => ((bocageref01_digit.f l1 x5_1).bind fun t435 => (some (decide (t434 > t435)))))) = some r := H
    have A5 := Aside0.mk A50
    clear A50
    by_cases c6 : t432 = t433
    ·rw [if_pos c6] at H
     have c6b0 : (t432 == t433) = true := beq_iff_eq.mpr c6
     have c6b1 : (t432 != t433) = false := bne_eq_false_iff_eq.mpr c6
     clear c6
     have H' := Aside0.mk H
     clear H
     go_wp2_with (first | ((with_reducible refine gate_callee (f := 81) rfl ?_); refine gol (some 17) Try.func81 #[.slice A0 l0.length c0, .int .i64 x5_1] ?_; (with_reducible refine (bocageref01_digit.calls _ _ l0 x5_1 t432 _ ?side1 ?side2 A4.out).mono ?_); (case side1 => repeat (first | exact HR0.out | (with_reducible refine Kd.C_alloc ?_ _) | (with_reducible refine Kd.C_drewN ?_ _) | (with_reducible refine Kd.C_drew ?_))); (case side2 => exact HC0.out); rintro e w' ⟨rfl, ⟨nd, rfl⟩⟩; refine ⟨_, rfl, ?_⟩) | ((with_reducible refine gate_callee (f := 81) rfl ?_); refine gol (some 20) Try.func81 #[.slice A1 l1.length c1, .int .i64 x5_1] ?_; (with_reducible refine (bocageref01_digit.calls _ _ l1 x5_1 t433 _ ?side1 ?side2 A5.out).mono ?_); (case side1 => repeat (first | exact HR1.out | (with_reducible refine Kd.C_alloc ?_ _) | (with_reducible refine Kd.C_drewN ?_ _) | (with_reducible refine Kd.C_drew ?_))); (case side2 => exact HC1.out); rintro e w' ⟨rfl, ⟨nd, rfl⟩⟩; refine ⟨_, rfl, ?_⟩))
     go_roundg k1
     case measure => have := HK1.out; omega
     case rel => exact ⟨(wrap64 (x5_1 - 1)), (by first | rfl | (simp; done) | (simp [*]; done)), H', ⟨by have := HK1.out; omega⟩, by repeat (first | exact Drawn0.refl _ | apply Drawn0.step)⟩
    ·rw [if_neg c6] at H
     have c6b0 : (t432 == t433) = false := beq_eq_false_iff_ne.mpr c6
     have c6b1 : (t432 != t433) = true := bne_iff_ne.mpr c6
     replace H := Option.bind_eq_some_iff.mp H
     obtain ⟨t434, A70, H⟩ := H
     replace H : ((bocageref01_digit.f l1 x5_1).bind fun t435 => (some (decide (t434 > t435)))) = some r := H
     have A7 := Aside0.mk A70
     clear A70
     replace H := Option.bind_eq_some_iff.mp H
     obtain ⟨t435, A80, H⟩ := H
     replace H : (some (decide (t434 > t435))) = some r := H
     have A8 := Aside0.mk A80
     clear A80
     obtain rfl := Option.some.inj H
     go_wp2_with (first | ((with_reducible refine gate_callee (f := 81) rfl ?_); refine gol (some 17) Try.func81 #[.slice A0 l0.length c0, .int .i64 x5_1] ?_; (with_reducible refine (bocageref01_digit.calls _ _ l0 x5_1 t432 _ ?side1 ?side2 A4.out).mono ?_); (case side1 => repeat (first | exact HR0.out | (with_reducible refine Kd.C_alloc ?_ _) | (with_reducible refine Kd.C_drewN ?_ _) | (with_reducible refine Kd.C_drew ?_))); (case side2 => exact HC0.out); rintro e w' ⟨rfl, ⟨nd, rfl⟩⟩; refine ⟨_, rfl, ?_⟩) | ((with_reducible refine gate_callee (f := 81) rfl ?_); refine gol (some 20) Try.func81 #[.slice A1 l1.length c1, .int .i64 x5_1] ?_; (with_reducible refine (bocageref01_digit.calls _ _ l1 x5_1 t433 _ ?side1 ?side2 A5.out).mono ?_); (case side1 => repeat (first | exact HR1.out | (with_reducible refine Kd.C_alloc ?_ _) | (with_reducible refine Kd.C_drewN ?_ _) | (with_reducible refine Kd.C_drew ?_))); (case side2 => exact HC1.out); rintro e w' ⟨rfl, ⟨nd, rfl⟩⟩; refine ⟨_, rfl, ?_⟩) | ((with_reducible refine gate_callee (f := 81) rfl ?_); refine gol (some 24) Try.func81 #[.slice A0 l0.length c0, .int .i64 x5_1] ?_; (with_reducible refine (bocageref01_digit.calls _ _ l0 x5_1 t434 _ ?side1 ?side2 A7.out).mono ?_); (case side1 => repeat (first | exact HR0.out | (with_reducible refine Kd.C_alloc ?_ _) | (with_reducible refine Kd.C_drewN ?_ _) | (with_reducible refine Kd.C_drew ?_))); (case side2 => exact HC0.out); rintro e w' ⟨rfl, ⟨nd, rfl⟩⟩; refine ⟨_, rfl, ?_⟩) | ((with_reducible refine gate_callee (f := 81) rfl ?_); refine gol (some 27) Try.func81 #[.slice A1 l1.length c1, .int .i64 x5_1] ?_; (with_reducible refine (bocageref01_digit.calls _ _ l1 x5_1 t435 _ ?side1 ?side2 A8.out).mono ?_); (case side1 => repeat (first | exact HR1.out | (with_reducible refine Kd.C_alloc ?_ _) | (with_reducible refine Kd.C_drewN ?_ _) | (with_reducible refine Kd.C_drew ?_))); (case side2 => exact HC1.out); rintro e w' ⟨rfl, ⟨nd, rfl⟩⟩; refine ⟨_, rfl, ?_⟩))
     go_ret
     exact ⟨by first | rfl | (simp; done) | (simp [*]; done), by repeat (first | exact Drawn0.refl _ | apply Drawn0.step)⟩
   ·rw [if_neg c3] at H
    have c3b0 : decide (0 ≤ x5_1) = false := decide_eq_false c3
    clear c3
    obtain rfl := Option.some.inj H
    go_wp2
    go_ret
    exact ⟨by first | rfl | (simp; done) | (simp [*]; done), by repeat (first | exact Drawn0.refl _ | apply Drawn0.step)⟩
/-! ### bocageref01_ends: function 80 -/
def bocageref01_ends.f (a0 : Int) : Option (List Int) := (some (([7, 0, 8, 5, 7, 7, 4, 5, 8, 6, 3, 0, 2, 7, 3, 3, 2, 2, 9] : List Int) : List Int)).bind fun y436 => (if a0 < 0 then (if 0 < (y436.length : Int) then (some (y436.set (0 : Int).toNat 8)) else (none)) else (some y436))
set_option maxHeartbeats 8000000 in
set_option maxRecDepth 100000 in
theorem bocageref01_ends.calls (a0 : Int) (r : List Int) (w : World) (h : bocageref01_ends.f a0 = some r) :
  Calls Try.prog 80 #[.int .i64 a0] w fun e w' => ∃ v0_ : Value, e = .returned (v0_) ∧ Kd.R (Kd.int .i64) 3 w' w.heap.size (fun _ => True) v0_ r ∧ Below w.heap.size w w' := by
 have HB := Aside0.mk (Below.refl w.heap.size w)
 have H : ((some (([7, 0, 8, 5, 7, 7, 4, 5, 8, 6, 3, 0, 2, 7, 3, 3, 2, 2, 9] : List Int) : List Int)).bind fun y436 => (if a0 < 0 then (if 0 < (y436.length : Int) then (some (y436.set (0 : Int).toNat 8)) else (none)) else (some y436))) = some r := h
 clear h
 obtain ⟨y436, hy436⟩ : ∃ y_ : List Int, y_ = (([7, 0, 8, 5, 7, 7, 4, 5, 8, 6, 3, 0, 2, 7, 3, 3, 2, 2, 9] : List Int)) := ⟨_, rfl⟩
 replace H : (if a0 < 0 then (if 0 < (y436.length : Int) then (some (y436.set (0 : Int).toNat 8)) else (none)) else (some y436)) = some r := by first | (rw [hy436]; with_reducible exact H) | (have H2_ := (Option.bind_some _ _).symm.trans H; rw [hy436]; with_reducible exact H2_) | (have H2_ := (Option.bind_some _ _).symm.trans H; with_reducible exact H2_) | with_reducible exact H | (rw [hy436]; exact H) | exact H
 have Ny436 := Aside0.mk hy436
 clear hy436
 by_cases c2 : a0 < 0
 ·rw [if_pos c2] at H
  have c2b0 : decide (a0 < 0) = true := decide_eq_true c2
  clear c2
  by_cases c3 : 0 < (y436.length : Int)
  ·rw [if_pos c3] at H
   have c3b0 : decide (0 < (y436.length : Int)) = true := decide_eq_true c3
   have c3b1 : decide (0 < y436.length) = true := decide_eq_true (by omega)
   clear c3
   obtain ⟨y439, hy439⟩ : ∃ y_ : List Int, y_ = (y436.set (0 : Int).toNat 8) := ⟨_, rfl⟩
   replace H : (some y439) = some r := by first | (rw [hy439]; with_reducible exact H) | (have H2_ := (Option.bind_some _ _).symm.trans H; rw [hy439]; with_reducible exact H2_) | (have H2_ := (Option.bind_some _ _).symm.trans H; with_reducible exact H2_) | with_reducible exact H | (rw [hy439]; exact H) | exact H
   have Ny439 := Aside0.mk hy439
   clear hy439
   obtain rfl := Option.some.inj H
   go_enter Try.func80, Try.ntmps80
   go_wp2_with (first | ((with_reducible refine gate_dst (N := 4) rfl ?_); refine Kd.R_lit (Kd.int .i64) _ 3 ?hg (N := 4) ?hd (xs := ([7, 0, 8, 5, 7, 7, 4, 5, 8, 6, 3, 0, 2, 7, 3, 3, 2, 2, 9] : List Int)) (inner := [.int .i64 7, .int .i64 0, .int .i64 8, .int .i64 5, .int .i64 7, .int .i64 7, .int .i64 4, .int .i64 5, .int .i64 8, .int .i64 6, .int .i64 3, .int .i64 0, .int .i64 2, .int .i64 7, .int .i64 3, .int .i64 3, .int .i64 2, .int .i64 2, .int .i64 9]) (ok := fun _ => True) (okp := fun _ => True) ?hr ?hp (fun _ hk => hk) trivial (Below.refl _ _) (Nat.le_refl _) (by simp) ?_; (case hd => rfl); (case hg => rfl); (case hr => first | (go_simp; done) | (go_simp; rfl)); (case hp => exact (Reps.one (show Kd.M (Kd.int .i64) _ _ _ 7 [.int .i64 7] from rfl) (Reps.one (show Kd.M (Kd.int .i64) _ _ _ 0 [.int .i64 0] from rfl) (Reps.one (show Kd.M (Kd.int .i64) _ _ _ 8 [.int .i64 8] from rfl) (Reps.one (show Kd.M (Kd.int .i64) _ _ _ 5 [.int .i64 5] from rfl) (Reps.one (show Kd.M (Kd.int .i64) _ _ _ 7 [.int .i64 7] from rfl) (Reps.one (show Kd.M (Kd.int .i64) _ _ _ 7 [.int .i64 7] from rfl) (Reps.one (show Kd.M (Kd.int .i64) _ _ _ 4 [.int .i64 4] from rfl) (Reps.one (show Kd.M (Kd.int .i64) _ _ _ 5 [.int .i64 5] from rfl) (Reps.one (show Kd.M (Kd.int .i64) _ _ _ 8 [.int .i64 8] from rfl) (Reps.one (show Kd.M (Kd.int .i64) _ _ _ 6 [.int .i64 6] from rfl) (Reps.one (show Kd.M (Kd.int .i64) _ _ _ 3 [.int .i64 3] from rfl) (Reps.one (show Kd.M (Kd.int .i64) _ _ _ 0 [.int .i64 0] from rfl) (Reps.one (show Kd.M (Kd.int .i64) _ _ _ 2 [.int .i64 2] from rfl) (Reps.one (show Kd.M (Kd.int .i64) _ _ _ 7 [.int .i64 7] from rfl) (Reps.one (show Kd.M (Kd.int .i64) _ _ _ 3 [.int .i64 3] from rfl) (Reps.one (show Kd.M (Kd.int .i64) _ _ _ 3 [.int .i64 3] from rfl) (Reps.one (show Kd.M (Kd.int .i64) _ _ _ 2 [.int .i64 2] from rfl) (Reps.one (show Kd.M (Kd.int .i64) _ _ _ 2 [.int .i64 2] from rfl) (Reps.one (show Kd.M (Kd.int .i64) _ _ _ 9 [.int .i64 9] from rfl) (Reps.none _ _))))))))))))))))))))); intro v437 w5 ho6 hb hg_ hnew_; clear hg_ hnew_; (first | rw [← Ny436.out] at ho6 | (simp only [Int.reduceToNat] at ho6; rw [← Ny436.out] at ho6)); have HO438 := Aside0.mk (Kd.R_lower ho6 (below_size (bl HB))); replace HB := bst HB hb; clear hb ho6; have p4 : 0 ≤ (0 : Int) := (by omega); have q4 : (0 : Int) < ((y436.length : Int) : Int) := of_decide_eq_true (by first | (with_reducible assumption) | assumption); have qi4 : (0 < y436.length) = True := eq_true (by omega); obtain ⟨go4, co4, eo4, gb4, gl4, cl4, HG4⟩ := Kd.R_form HO438.out (by omega); (first | cases eo4 | (injection eo4 with ea_ en_ ec_; (first | subst ea_ | (injection ea_ with ea_; subst ea_)); subst ec_; clear en_)); have GB4 := Aside0.mk gb4; have GG4 := Aside0.mk HG4; clear gb4 gl4 HG4; obtain ⟨hx4_0, hf4_0⟩ := Kd.R_celln 0 HO438.out (0 : Int) p4 q4; (try rw [show ((0 : Int)).toNat = 0 from rfl] at hx4_0); (try simp only [Nat.reduceMul, Nat.zero_mul, Nat.zero_add, Nat.reduceAdd] at hx4_0); (try rw [show ((0 : Int)).toNat = 0 from rfl] at hf4_0); (try simp only [Nat.reduceMul, Nat.zero_mul, Nat.zero_add, Nat.reduceAdd] at hf4_0); replace p4 := eq_true p4; replace q4 := eq_true q4; obtain ⟨hy7_, hz7_⟩ := Kd.R_celln 0 HO438.out (0 : Int) (by omega) (of_decide_eq_true (by first | (with_reducible assumption) | assumption)); (try simp only [Int.reduceToNat, Int.toNat_zero, Int.toNat_ofNat, Nat.reduceMul, Nat.zero_mul, Nat.zero_add] at hy7_ hz7_); (try rw [show ((0 : Int)).toNat = 0 from rfl] at hy7_); (try rw [show ((0 : Int)).toNat = 0 from rfl] at hz7_); have HP7 := Kd.R_putg HO438.out (0 : Int) 8) | ((with_reducible refine gate_store (t := 3) (p := 8) rfl ?_); refine store_event (t := 3) (p := 8) (v := ?vo_w8) (w1 := (w5.setCell ⟨go4, (0 : Int).toNat, none⟩ (.int .i64 8))) ?hg ?ho ?hn ?hr ?_; (case ho => rfl); (case hg => rfl); (case hn => rfl); (case hr => first | (go_simp; done) | (go_simp; rfl)); intro w8 hw; have hg : w5.grownBy w8 (some go4) := (by rw [hw]; exact HP7.2); have hp_ : Kd.R (Kd.int .i64) 3 w8 w.heap.size (fun _ => True) (.slice (some ⟨go4, 0, none⟩) y436.length co4) y439 := (by rw [hw, Ny439.out]; exact HP7.1); clear HP7; replace HO438 := Aside0.mk (hp_); replace HB := Aside0.mk ((by rw [hw]; exact below_set (HB.out) GB4.out : Below w.heap.size w w8)); clear hg hw hp_))
   go_ret
   exact ⟨_, by first | rfl | (simp [errW_none, errW_some] <;> rfl) | (simp [*, errW_none, errW_some] <;> rfl), by (with_reducible repeat (first | apply Kd.R_alloc | apply Kd.R_drewN | apply Kd.R_drew)); exact HO438.out, by repeat (first | (with_reducible first | exact HB.out | apply below_alloc | apply pw_below_drewN | apply below_drew1) | exact HB.out)⟩
  ·rw [if_neg c3] at H
   exact absurd H (by simp)
 ·rw [if_neg c2] at H
  have c2b0 : decide (a0 < 0) = false := decide_eq_false c2
  clear c2
  obtain rfl := Option.some.inj H
  go_enter Try.func80, Try.ntmps80
  go_wp2_with (first | ((with_reducible refine gate_dst (N := 4) rfl ?_); refine Kd.R_lit (Kd.int .i64) _ 3 ?hg (N := 4) ?hd (xs := ([7, 0, 8, 5, 7, 7, 4, 5, 8, 6, 3, 0, 2, 7, 3, 3, 2, 2, 9] : List Int)) (inner := [.int .i64 7, .int .i64 0, .int .i64 8, .int .i64 5, .int .i64 7, .int .i64 7, .int .i64 4, .int .i64 5, .int .i64 8, .int .i64 6, .int .i64 3, .int .i64 0, .int .i64 2, .int .i64 7, .int .i64 3, .int .i64 3, .int .i64 2, .int .i64 2, .int .i64 9]) (ok := fun _ => True) (okp := fun _ => True) ?hr ?hp (fun _ hk => hk) trivial (Below.refl _ _) (Nat.le_refl _) (by simp) ?_; (case hd => rfl); (case hg => rfl); (case hr => first | (go_simp; done) | (go_simp; rfl)); (case hp => exact (Reps.one (show Kd.M (Kd.int .i64) _ _ _ 7 [.int .i64 7] from rfl) (Reps.one (show Kd.M (Kd.int .i64) _ _ _ 0 [.int .i64 0] from rfl) (Reps.one (show Kd.M (Kd.int .i64) _ _ _ 8 [.int .i64 8] from rfl) (Reps.one (show Kd.M (Kd.int .i64) _ _ _ 5 [.int .i64 5] from rfl) (Reps.one (show Kd.M (Kd.int .i64) _ _ _ 7 [.int .i64 7] from rfl) (Reps.one (show Kd.M (Kd.int .i64) _ _ _ 7 [.int .i64 7] from rfl) (Reps.one (show Kd.M (Kd.int .i64) _ _ _ 4 [.int .i64 4] from rfl) (Reps.one (show Kd.M (Kd.int .i64) _ _ _ 5 [.int .i64 5] from rfl) (Reps.one (show Kd.M (Kd.int .i64) _ _ _ 8 [.int .i64 8] from rfl) (Reps.one (show Kd.M (Kd.int .i64) _ _ _ 6 [.int .i64 6] from rfl) (Reps.one (show Kd.M (Kd.int .i64) _ _ _ 3 [.int .i64 3] from rfl) (Reps.one (show Kd.M (Kd.int .i64) _ _ _ 0 [.int .i64 0] from rfl) (Reps.one (show Kd.M (Kd.int .i64) _ _ _ 2 [.int .i64 2] from rfl) (Reps.one (show Kd.M (Kd.int .i64) _ _ _ 7 [.int .i64 7] from rfl) (Reps.one (show Kd.M (Kd.int .i64) _ _ _ 3 [.int .i64 3] from rfl) (Reps.one (show Kd.M (Kd.int .i64) _ _ _ 3 [.int .i64 3] from rfl) (Reps.one (show Kd.M (Kd.int .i64) _ _ _ 2 [.int .i64 2] from rfl) (Reps.one (show Kd.M (Kd.int .i64) _ _ _ 2 [.int .i64 2] from rfl) (Reps.one (show Kd.M (Kd.int .i64) _ _ _ 9 [.int .i64 9] from rfl) (Reps.none _ _))))))))))))))))))))); intro v437 w9 ho10 hb hg_ hnew_; clear hg_ hnew_; (first | rw [← Ny436.out] at ho10 | (simp only [Int.reduceToNat] at ho10; rw [← Ny436.out] at ho10)); have HO438 := Aside0.mk (Kd.R_lower ho10 (below_size (bl HB))); replace HB := bst HB hb; clear hb ho10))
  go_ret
  exact ⟨_, by first | rfl | (simp [errW_none, errW_some] <;> rfl) | (simp [*, errW_none, errW_some] <;> rfl), by (with_reducible repeat (first | apply Kd.R_alloc | apply Kd.R_drewN | apply Kd.R_drew)); exact HO438.out, by repeat (first | (with_reducible first | exact HB.out | apply below_alloc | apply pw_below_drewN | apply below_drew1) | exact HB.out)⟩
/-! ### bocageref01_Is: function 77 -/
def bocageref01_Is.f (k : Nat) (a0_0 : Int) (l0_1 : List Int) : Option (Bool) := (bocageref01_ends.f a0_0).bind fun t441 => ((bocageref01_more.f k l0_1 t441).bind fun t444 => (some (!t444)))
theorem bocageref01_Is.mono : ∀ a0 a1 k, LeO (bocageref01_Is.f k a0 a1) (bocageref01_Is.f (k + 1) a0 a1) := by
 intro a0 a1 k
 unfold bocageref01_Is.f
 repeat' first
   | (with_reducible exact bocageref01_more.mono _ _ _)
   | (with_reducible exact LeO.refl _)
   | (with_reducible exact LeO.none _)
   | (with_reducible refine LeO.ite ?_ ?_)
   | (with_reducible refine LeO.bind ?_ (fun _ => ?_))
   | exact bocageref01_more.mono _ _ _
   | exact LeO.none _
   | refine LeO.ite ?_ ?_
   | refine LeO.bind ?_ (fun _ => ?_)
def bocageref01_Is.T1 : Bool × List (List Nat × List Nat) := (true, [([], []), ([0], [0]), ([], []), ([2], [2]), ([3], [3]), ([1, 4, 4], [1, 4]), ([5], [5]), ([6, 5, 0, 1, 2, 3, 4, 5, 6], [6])])
def bocageref01_Is.B1 : List Nat := [0, 1, 0, 4, 12, 31, 63, 127]
theorem bocageref01_Is.tab1 : rtab .any (opsOf Try.f77 1) = bocageref01_Is.T1 := by kernel_rfl
theorem bocageref01_Is.bits1 : waitsOk bocageref01_Is.T1.2 bocageref01_Is.B1 = true := by kernel_rfl
set_option maxHeartbeats 8000000 in
set_option maxRecDepth 100000 in
theorem bocageref01_Is.calls (k : Nat) (a0_0 : Int) (A0_1 : Option Addr) (c0_1 : Nat) (l0_1 : List Int) (r : Bool) (w : World) (hr0_1 : Kd.C (Kd.int .i64) w A0_1 l0_1.length l0_1) (hc0_1 : l0_1.length ≤ c0_1) (h : bocageref01_Is.f k a0_0 l0_1 = some r) :
  Calls Try.prog 77 #[.agg #[.int .i64 a0_0, .slice A0_1 l0_1.length c0_1]] w fun e w' => e = .returned (.bool r) ∧ Below w.heap.size w w' := by
 have hu78 := Try.underlying78
 have HR0_1 := Aside0.mk hr0_1
 have HC0_1 := Aside0.mk hc0_1
 clear hr0_1 hc0_1
 have HB := Aside0.mk (Below.refl w.heap.size w)
 have H : ((bocageref01_ends.f a0_0).bind fun t441 => ((bocageref01_more.f k l0_1 t441).bind fun t444 => (some (!t444)))) = some r := h
 clear h
 replace H := Option.bind_eq_some_iff.mp H
 obtain ⟨t441, A20, H⟩ := H
 replace H : ((bocageref01_more.f k l0_1 t441).bind fun t444 => (some (!t444))) = some r := H
 have A2 := Aside0.mk A20
 clear A20
 replace H := Option.bind_eq_some_iff.mp H
 obtain ⟨t444, A30, H⟩ := H
 replace H : (some (!t444)) = some r := H
 have A3 := Aside0.mk A30
 clear A30
 obtain rfl := Option.some.inj H
 go_enter Try.func77, Try.ntmps77
 try go_wp2_with (first | ((with_reducible refine gate_dst (N := 1) rfl ?_); refine bxe (N := 1) (cs := #[.int .i64 a0_0, .slice A0_1 l0_1.length c0_1]) (t := 78) ?_; intro gb440 hg w4 hbox hb; have BK440 := Aside0.mk (hbox); have GW440 := lsz hg HB; have GE440 := lsz hg HB; replace HB := bst HB hb; clear hb hbox hg))
 replace BK440 := Aside0.mk (blk_drew BK440.out)
 replace HB := Aside0.mk (below_drew1 HB.out)
 refine start_ (n := 8) (S := fun w' => w'.cell? ⟨gb440, 0, none⟩ = some (.int .i64 a0_0) ∧ w'.cell? ⟨gb440, 1, none⟩ = some (.slice A0_1 l0_1.length c0_1)) (ds := []) #[false, false, false, false, false, false, false, false] (by kernel_rfl) rfl rfl (e2 BK440) (fun hHeld => ?_); refine with_tabW bocageref01_Is.tab1 bocageref01_Is.bits1 (fun HT_ HW_ => ?_)
 generalize w4.drew = w5 at BK440 HB hHeld ⊢
 refine pw 0 3 HT_ ?_; refine pw 2 5 HT_ ?_; refine tw2 1 4 HT_ HW_ hHeld ?_; refine tw2 3 6 HT_ HW_ hHeld ?_
 refine one_ (i := 4) (N := some 7) #[true, true, true, true, true, false, false, false] rfl rfl (one_of HT_.out (by kernel_rfl)) (by decide) (fun K hK => ?_)
 refine goes_ Try.func80 (by kernel_rfl) rfl #[.int .i64 a0_0] (by rfl) rfl rfl (by (try simp only [List.map_toArray, List.map_cons, List.map_nil]); first | done | rfl | (simp only [List.length_drop, List.length_take]; rfl)) ?_
 with_reducible refine (bocageref01_ends.calls a0_0 t441 _ A2.out).mono ?_
 rintro e w6 ⟨v442, rfl, ho0, hb⟩
 refine ⟨_, rfl, ?_⟩
 have HO443 := Aside0.mk (Kd.R_lower ho0 (below_size (bl HB)))
 replace BK440 := bkb BK440 hb
 replace HB := bst HB hb
 (try clear hb)
 (try clear ho0)
 obtain ⟨Ao7, co7, eo7⟩ := Kd.R_slice HO443.out
 (first | subst eo7 | (injection eo7 with f1_ f2_ f3_; have f4_ := f1_.symm; have f5_ := f3_.symm; clear f1_ f2_ f3_; subst f4_; subst f5_))
 refine hK.out _ _ (e2 BK440) (fun hHeld => ?_)
 clear hK K
 refine nrp 7 ?_
 refine one_ (i := 5) (N := some 8) #[true, true, true, true, true, true, false, false] rfl rfl (one_of HT_.out (by kernel_rfl)) (by decide) (fun K hK => ?_)
 refine goes_ Try.func79 (by kernel_rfl) rfl #[.slice A0_1 l0_1.length c0_1, .slice Ao7 t441.length co7] (by rfl) rfl rfl (by (try simp only [List.map_toArray, List.map_cons, List.map_nil]); first | done | rfl | (simp only [List.length_drop, List.length_take]; rfl)) ?_
 with_reducible refine (bocageref01_more.calls k _ _ l0_1 _ _ t441 t444 _ ?side1 ?side2 ?side3 ?side4 A3.out).mono ?_
 (case side1 => repeat (first | exact (Kd.C_below HR0_1.out HB.out) | (with_reducible refine Kd.C_alloc ?_ _) | (with_reducible refine Kd.C_drewN ?_ _) | (with_reducible refine Kd.C_drew ?_)))
 (case side2 => exact HC0_1.out)
 (case side3 => repeat (first | exact (Kd.R_reads' HO443.out).2.2 | (with_reducible refine Kd.C_alloc ?_ _) | (with_reducible refine Kd.C_drewN ?_ _) | (with_reducible refine Kd.C_drew ?_)))
 (case side4 => exact (Kd.R_reads' HO443.out).2.1)
 rintro e w' ⟨rfl, ⟨nd, rfl⟩⟩
 refine ⟨_, rfl, ?_⟩
 refine hK.out _ _ (e2 BK440) (fun hHeld => ?_)
 clear hK K
 refine nrp 8 ?_
 refine pw 6 9 HT_ ?_; refine pw 7 2 HT_ ?_
 refine done_ (done_of HT_.out (by kernel_rfl)) ?_
 try go_wp2
 go_ret
 exact endB HB
/-! ### bocageref01_End: function 78 -/
def bocageref01_End.l0 : Nat → Int → List Int → Int → Int → Option Int
 | 0, _, _, _, _ => none
 | k + 1, s, d, i, n => if i ≥ 0 then (if i < (d.length : Int) then bocageref01_End.l0 k s d (wrap64 (i - 1)) (wrap64 (wrap64 (n * 10) + wrap64 (s * rd d i))) else none) else some n
def bocageref01_End.f (k : Nat) (a0_0 : Int) (l0_1 : List Int) : Option Int :=
 (bocageref01_Is.f k a0_0 l0_1).bind fun t => if t = true then bocageref01_End.l0 k a0_0 l0_1 (wrap64 ((l0_1.length : Int) - 1)) 0 else (bocageref01_ends.f a0_0).bind fun y => bocageref01_End.l0 k a0_0 y (wrap64 ((y.length : Int) - 1)) 0
theorem bocageref01_End.mono_l : ∀ k s d i n, LeO (bocageref01_End.l0 k s d i n) (bocageref01_End.l0 (k + 1) s d i n)
 | 0, _, _, _, _ => fun r h => by simp [bocageref01_End.l0] at h
 | k + 1, s, d, i, n => by
  intro r h
  rw [bocageref01_End.l0] at h ⊢
  split
  ·rename_i h1
   rw [if_pos h1] at h
   split
   ·rename_i h2
    rw [if_pos h2] at h
    exact bocageref01_End.mono_l k _ _ _ _ r h
   ·rename_i h2
    rw [if_neg h2] at h
    exact h
  ·rename_i h1
   rw [if_neg h1] at h
   exact h
theorem bocageref01_End.mono : ∀ a0 a1 k, LeO (bocageref01_End.f k a0 a1) (bocageref01_End.f (k + 1) a0 a1) := by
 intro a0 a1 k r h
 unfold bocageref01_End.f at h ⊢
 obtain ⟨t, h1, h⟩ := Option.bind_eq_some_iff.1 h
 rw [bocageref01_Is.mono _ _ _ _ h1]
 simp only [Option.bind_some]
 split
 ·rename_i ht
  rw [if_pos ht] at h
  exact bocageref01_End.mono_l _ _ _ _ _ r h
 ·rename_i ht
  rw [if_neg ht] at h
  obtain ⟨y, h1, h⟩ := Option.bind_eq_some_iff.1 h
  rw [h1]
  exact bocageref01_End.mono_l _ _ _ _ _ r h

set_option maxHeartbeats 8000000 in
set_option maxRecDepth 100000 in
theorem bocageref01_End.calls (k : Nat) (a0_0 : Int) (A0_1 : Option Addr) (c0_1 : Nat) (l0_1 : List Int) (r : Int) (w : World) (hr0_1 : Kd.C (Kd.int .i64) w A0_1 l0_1.length l0_1) (hc0_1 : l0_1.length ≤ c0_1) (h : bocageref01_End.f k a0_0 l0_1 = some r) :
  Calls Try.prog 78 #[.agg #[.int .i64 a0_0, .slice A0_1 l0_1.length c0_1]] w fun e w' => e = .returned (.int .i64 r) ∧ Below w.heap.size w w' := by
 unfold bocageref01_End.f at h
 obtain ⟨t, hIs, h1⟩ := Option.bind_eq_some_iff.1 h
 clear h
 have AIs := Aside0.mk hIs
 have AH := Aside0.mk h1
 have HR := Aside0.mk hr0_1
 have HC := Aside0.mk hc0_1
 clear h1 hIs hr0_1 hc0_1
 have hB0 := Below.refl w.heap.size w
 obtain ⟨O, hO⟩ : ∃ O : Obj, O = .cells #[.int .i64 a0_0, .slice A0_1 l0_1.length c0_1] 78 := ⟨_, rfl⟩
 have HO := Aside0.mk hO
 have hbx : Below w.heap.size w (w.alloc O) := (Below.refl w.heap.size w).alloc (Nat.le_refl _) _
 have hbk := heap_alloc_new w O
 have hbs : (w.alloc O).heap.size = w.heap.size + 1 := by simp
 have HS := Aside0.mk hbs
 rw [hO] at hbx hbk
 clear hO hbs
 have HBK := Aside0.mk hbk
 clear hbk
 go_enter Try.func78, Try.ntmps78
 go_upto_if 10 with (go_at_call 77; refine (bocageref01_Is.calls k a0_0 A0_1 c0_1 l0_1 t _ (Kd.C_below HR.out hbx) HC.out AIs.out).mono ?_; rintro e w1 ⟨rfl, hb1⟩)
 have hk1 : w1.heap[w.heap.size]? = some (.cells #[.int .i64 a0_0, .slice A0_1 l0_1.length c0_1] 78 (0, 0)) := by
  rw [hb1.block _ (by simp)]; exact HBK.out
 have hbel1 : Below w.heap.size w w1 := hbx.trans (hb1.mono (by simp))
 go_cut [3] (fun v3 wc => ∃ (A : Option Addr) (c : Nat) (l : List Int), v3 = .slice A l.length c ∧ Aside0 (Kd.C (Kd.int .i64) wc A l.length l) ∧ Aside0 (bocageref01_End.l0 k a0_0 l (wrap64 ((l.length : Int) - 1)) 0 = some r) ∧ Below w.heap.size w wc ∧ wc.heap[w.heap.size]? = some (.cells #[.int .i64 a0_0, .slice A0_1 l0_1.length c0_1] 78 (0, 0)))
 case first =>
  have hc0 : w1.cell? ⟨w.heap.size, 0, none⟩ = some (.int .i64 a0_0) := by simp [World.cell?, hk1]
  cases t with
  | true =>
   go_wp2
   go_meet
   case rel => exact ⟨A0_1, c0_1, l0_1, rfl, ⟨Kd.C_below HR.out hbel1⟩, ⟨by simpa using AH.out⟩, hbel1, hk1⟩
  | false =>
   obtain ⟨y, hy, hl⟩ : ∃ y, Aside0 (bocageref01_ends.f a0_0 = some y) ∧ Aside0 (bocageref01_End.l0 k a0_0 y (wrap64 ((y.length : Int) - 1)) 0 = some r) := by
    have := AH.out
    simp only [Bool.false_eq_true, if_false] at this
    obtain ⟨y, h1, h2⟩ := Option.bind_eq_some_iff.1 this
    exact ⟨y, ⟨h1⟩, ⟨h2⟩⟩
   go_wp2_with (go_at_call 80; refine (bocageref01_ends.calls a0_0 y _ hy.out).mono ?_; rintro e w2 ⟨v, rfl, hR, hb2⟩)
   obtain ⟨A, c, rfl, hCl, hC⟩ := Kd.R_reads hR
   go_meet
   case rel => exact ⟨A, c, y, rfl, ⟨hC⟩, hl, hbel1.trans (hb2.mono (by have := hbel1.size; omega)), (hb2.block _ (lt_of_block hk1)).trans hk1⟩
 case rest =>
  obtain ⟨A, c, l, rfl, hC, hl0, hbel, hk⟩ := hcut
  clear hk1 hbel1 hb1 AH AIs HR HC HBK HS hbx HO
  go_wp2_with fail
  go_loopg [4, 5] k (fun kq v4 v5 w' => ∃ (n i : Int), v4 = .int .i64 n ∧ v5 = .int .i64 i ∧ Aside0 (bocageref01_End.l0 kq a0_0 l i n = some r) ∧ Drawn0 wc w')
  case atStart => exact ⟨0, wrap64 ((l.length : Int) - 1), rfl, (by first | rfl | (simp; done) | (simp [*]; done)), hl0, Drawn0.refl _⟩
  case round =>
   clear hl0
   obtain ⟨n, i, rfl, rfl, HA, ⟨m, rfl⟩⟩ := hrel
   cases gk with
   | zero => exact absurd HA.out (by simp [bocageref01_End.l0])
   | succ k1 =>
    have H := HA.out
    clear HA
    simp only [bocageref01_End.l0] at H
    by_cases c3 : i ≥ 0
    ·rw [if_pos c3] at H
     have c3b0 : decide (0 ≤ i) = true := decide_eq_true c3
     by_cases c4 : i < (l.length : Int)
     ·rw [if_pos c4] at H
      have H' := Aside0.mk H
      clear H
      obtain ⟨ad, rfl, hx⟩ := Kd.at_int hC.out i c3 c4
      have hs0 : wc.cell? ⟨w.heap.size, 0, none⟩ = some (.int .i64 a0_0) := by simp [World.cell?, hk]
      clear hC
      have c3' := eq_true c3
      have c4' := eq_true c4
      go_wp2
      go_quiet (fail)
      go_wp2
      go_roundg k1
      case rel => exact ⟨_, _, rfl, rfl, H', ⟨_, rfl⟩⟩
      case measure => omega
     ·rw [if_neg c4] at H
      cases H
    ·rw [if_neg c3] at H
     have c3b0 : decide (0 ≤ i) = false := decide_eq_false c3
     obtain rfl := Option.some.inj H
     go_wp2
     go_ret
     exact ⟨rfl, hbel.trans ⟨rfl, rfl, rfl, by simp, fun _ _ => rfl⟩⟩
/-! ### bocageref01_Parse: function 72 -/
def bocageref01_Parse.f (k : Nat) (a0 : ByteArray) : Option (Int × Int) := (bocageref01_whole.f k a0).bind fun bt445 => (if bt445.2.2 = true then ((bocageref01_Is.f k bt445.1 bt445.2.1).bind fun t451 => (if t451 = true then ((bocageref01_End.f k bt445.1 bt445.2.1).bind fun t452 => (some (t452, 0))) else (some (0, 10)))) else (some (0, 10)))
theorem bocageref01_Parse.mono : ∀ a0 k, LeO (bocageref01_Parse.f k a0) (bocageref01_Parse.f (k + 1) a0) := by
 intro a0 k
 unfold bocageref01_Parse.f
 repeat' first
   | (with_reducible exact bocageref01_End.mono _ _ _)
   | (with_reducible exact bocageref01_Is.mono _ _ _)
   | (with_reducible exact bocageref01_whole.mono _ _)
   | (with_reducible exact LeO.refl _)
   | (with_reducible exact LeO.none _)
   | (with_reducible refine LeO.ite ?_ ?_)
   | (with_reducible refine LeO.bind ?_ (fun _ => ?_))
   | exact bocageref01_End.mono _ _ _
   | exact bocageref01_Is.mono _ _ _
   | exact bocageref01_whole.mono _ _
   | exact LeO.none _
   | refine LeO.ite ?_ ?_
   | refine LeO.bind ?_ (fun _ => ?_)
set_option maxHeartbeats 8000000 in
set_option maxRecDepth 100000 in
theorem bocageref01_Parse.calls (k : Nat) (a0 : ByteArray) (r1 : Int) (r2 : Int) (w : World) (h : bocageref01_Parse.f k a0 = some (r1, r2)) :
  Calls Try.prog 72 #[.string a0] w fun e w' => e = .returned (.tuple #[.int .i64 r1, .int .i64 r2]) ∧ Below w.heap.size w w' := by
 have hu78 := Try.underlying78
 have HB := Aside0.mk (Below.refl w.heap.size w)
 have H : ((bocageref01_whole.f k a0).bind fun bt445 => (if bt445.2.2 = true then ((bocageref01_Is.f k bt445.1 bt445.2.1).bind fun t451 => (if t451 = true then ((bocageref01_End.f k bt445.1 bt445.2.1).bind fun t452 => (some (t452, 0))) else (some (0, 10)))) else (some (0, 10)))) = some (r1, r2) := h
 clear h
 replace H := Option.bind_eq_some_iff.mp H
 obtain ⟨⟨t445, t446, t449⟩, A20, H⟩ := H
 replace H : (if t449 = true then ((bocageref01_Is.f k t445 t446).bind fun t451 => (if t451 = true then ((bocageref01_End.f k t445 t446).bind fun t452 => (some (t452, 0))) else (some (0, 10)))) else (some (0, 10))) = some (r1, r2) := H
 have A2 := Aside0.mk A20
 clear A20
 by_cases c3 : t449 = true
 ·subst c3
  have H1 : ((bocageref01_Is.f k t445 t446).bind fun t451 => (if t451 = true then ((bocageref01_End.f k t445 t446).bind fun t452 => (some (t452, 0))) else (some (0, 10)))) = some (r1, r2) := by rw [if_pos rfl] at H; exact H
  clear H
  have H := H1
  clear H1
  replace H := Option.bind_eq_some_iff.mp H
  obtain ⟨t451, A40, H⟩ := H
  replace H : (if t451 = true then ((bocageref01_End.f k t445 t446).bind fun t452 => (some (t452, 0))) else (some (0, 10))) = some (r1, r2) := H
  have A4 := Aside0.mk A40
  clear A40
  by_cases c5 : t451 = true
  ·subst c5
   have H1 : ((bocageref01_End.f k t445 t446).bind fun t452 => (some (t452, 0))) = some (r1, r2) := by rw [if_pos rfl] at H; exact H
   clear H
   have H := H1
   clear H1
   replace H := Option.bind_eq_some_iff.mp H
   obtain ⟨t452, A60, H⟩ := H
   replace H : (some (t452, 0)) = some (r1, r2) := H
   have A6 := Aside0.mk A60
   clear A60
   simp only [Option.some.injEq, Prod.mk.injEq] at H
   obtain ⟨rfl, rfl⟩ := H
   go_enter Try.func72, Try.ntmps72
   go_wp2_with (first | ((with_reducible refine gate_callee (f := 76) rfl ?_); refine gol (some 8) Try.func76 #[.string a0] ?_; (with_reducible refine (bocageref01_whole.calls k a0 t445 t446 true _ A2.out).mono ?_); rintro e w7 ⟨v447, rfl, ho0, hb⟩; refine ⟨_, rfl, ?_⟩; have HO448 := Aside0.mk (Kd.R_lower ho0 (below_size (bl HB))); replace HB := bst HB hb; (try clear hb); (try clear hb2); (try clear hk); (try clear hi); (try clear ho0)) | ((with_reducible refine gate_dst (N := 4) rfl ?_); refine bxe (N := 4) (cs := #[.int .i64 0, .slice none 0 0]) (t := 78) ?_; intro gb450 hg w8 hbox hb; replace HO448 := krb HO448 hb; have BK450 := Aside0.mk (hbox); have GW450 := lsz hg HB; have GE450 := lsz hg HB; replace HB := bst HB hb; clear hb hbox hg; obtain ⟨hcz9_0, hcz9_1⟩ := e2 BK450; obtain ⟨hfz9_0, hfz9_1⟩ := f2 BK450; obtain ⟨Ao10, co10, eo10⟩ := Kd.R_slice HO448.out; subst eo10) | (go_at_call 77; (with_reducible refine (bocageref01_Is.calls k t445 _ _ t446 true _ ?side1 ?side2 A4.out).mono ?_); (case side1 => refine (Kd.R_reads' (e := 3) (base := w.heap.size) (ok := fun k_ => True) (n := t446.length) (c := co10) ?_).2.2; exact (by (with_reducible repeat (first | apply Kd.R_alloc | apply Kd.R_drewN | apply Kd.R_drew)); exact (Kd.R_mono (Kd.R_far (p := ⟨gb450, 1, none⟩) (Kd.R_far (p := ⟨gb450, 0, none⟩) (Kd.R_types HO448.out BK450.out (by decide)) (fun _ hk => hk.2) (.int .i64 t445)) (fun _ hk => hk.2) (.slice Ao10 t446.length co10)) (fun _ h_ => h_.1)))); (case side2 => exact (Kd.R_reads' HO448.out).2.1); rintro e w11 ⟨rfl, hb⟩; replace HO448 := Aside0.mk (Kd.R_below (by (with_reducible repeat (first | apply Kd.R_alloc | apply Kd.R_drewN | apply Kd.R_drew)); exact (Kd.R_mono (Kd.R_far (p := ⟨gb450, 1, none⟩) (Kd.R_far (p := ⟨gb450, 0, none⟩) (Kd.R_types HO448.out BK450.out (by decide)) (fun _ hk => hk.2) (.int .i64 t445)) (fun _ hk => hk.2) (.slice Ao10 t446.length co10)) (fun _ h_ => h_.1))) hb); replace BK450 := Aside0.mk (blk_below (g := gb450) (o := .cells #[.int .i64 t445, .slice Ao10 t446.length co10] 78 (0, 0)) (bkp BK450) hb); replace HB := bst HB hb; (try clear hb); (try clear hb2); (try clear hk); (try clear hi); obtain ⟨hcz12_0, hcz12_1⟩ := e2 BK450; obtain ⟨hfz12_0, hfz12_1⟩ := f2 BK450) | ((with_reducible refine gate_callee (f := 78) rfl ?_); refine gol (some 19) Try.func78 #[.agg #[.int .i64 t445, .slice Ao10 t446.length co10]] ?_; (with_reducible refine (bocageref01_End.calls k t445 _ _ t446 t452 _ ?side1 ?side2 A6.out).mono ?_); (case side1 => repeat (first | exact (Kd.R_reads' HO448.out).2.2 | (with_reducible refine Kd.C_alloc ?_ _) | (with_reducible refine Kd.C_drewN ?_ _) | (with_reducible refine Kd.C_drew ?_))); (case side2 => exact (Kd.R_reads' HO448.out).2.1); rintro e w13 ⟨rfl, hb⟩; refine ⟨_, rfl, ?_⟩; replace HO448 := krb HO448 hb; replace BK450 := bkb BK450 hb; replace HB := bst HB hb; (try clear hb); (try clear hb2); (try clear hk); (try clear hi)))
   go_ret2
   exact endB HB
  ·replace c5 := Bool.eq_false_iff.mpr c5
   subst c5
   have H1 : (some (0, 10)) = some (r1, r2) := by rw [if_neg (show ¬ (false = true) by decide)] at H; exact H
   clear H
   have H := H1
   clear H1
   simp only [Option.some.injEq, Prod.mk.injEq] at H
   obtain ⟨rfl, rfl⟩ := H
   go_enter Try.func72, Try.ntmps72
   go_wp2_with (first | ((with_reducible refine gate_callee (f := 76) rfl ?_); refine gol (some 8) Try.func76 #[.string a0] ?_; (with_reducible refine (bocageref01_whole.calls k a0 t445 t446 true _ A2.out).mono ?_); rintro e w14 ⟨v447, rfl, ho0, hb⟩; refine ⟨_, rfl, ?_⟩; have HO448 := Aside0.mk (Kd.R_lower ho0 (below_size (bl HB))); replace HB := bst HB hb; (try clear hb); (try clear hb2); (try clear hk); (try clear hi); (try clear ho0)) | ((with_reducible refine gate_dst (N := 4) rfl ?_); refine bxe (N := 4) (cs := #[.int .i64 0, .slice none 0 0]) (t := 78) ?_; intro gb450 hg w15 hbox hb; replace HO448 := krb HO448 hb; have BK450 := Aside0.mk (hbox); have GW450 := lsz hg HB; have GE450 := lsz hg HB; replace HB := bst HB hb; clear hb hbox hg; obtain ⟨hcz16_0, hcz16_1⟩ := e2 BK450; obtain ⟨hfz16_0, hfz16_1⟩ := f2 BK450; obtain ⟨Ao17, co17, eo17⟩ := Kd.R_slice HO448.out; subst eo17) | (go_at_call 77; (with_reducible refine (bocageref01_Is.calls k t445 _ _ t446 false _ ?side1 ?side2 A4.out).mono ?_); (case side1 => refine (Kd.R_reads' (e := 3) (base := w.heap.size) (ok := fun k_ => True) (n := t446.length) (c := co17) ?_).2.2; exact (by (with_reducible repeat (first | apply Kd.R_alloc | apply Kd.R_drewN | apply Kd.R_drew)); exact (Kd.R_mono (Kd.R_far (p := ⟨gb450, 1, none⟩) (Kd.R_far (p := ⟨gb450, 0, none⟩) (Kd.R_types HO448.out BK450.out (by decide)) (fun _ hk => hk.2) (.int .i64 t445)) (fun _ hk => hk.2) (.slice Ao17 t446.length co17)) (fun _ h_ => h_.1)))); (case side2 => exact (Kd.R_reads' HO448.out).2.1); rintro e w18 ⟨rfl, hb⟩; replace HO448 := Aside0.mk (Kd.R_below (by (with_reducible repeat (first | apply Kd.R_alloc | apply Kd.R_drewN | apply Kd.R_drew)); exact (Kd.R_mono (Kd.R_far (p := ⟨gb450, 1, none⟩) (Kd.R_far (p := ⟨gb450, 0, none⟩) (Kd.R_types HO448.out BK450.out (by decide)) (fun _ hk => hk.2) (.int .i64 t445)) (fun _ hk => hk.2) (.slice Ao17 t446.length co17)) (fun _ h_ => h_.1))) hb); replace BK450 := Aside0.mk (blk_below (g := gb450) (o := .cells #[.int .i64 t445, .slice Ao17 t446.length co17] 78 (0, 0)) (bkp BK450) hb); replace HB := bst HB hb; (try clear hb); (try clear hb2); (try clear hk); (try clear hi)))
   go_ret2
   exact endB HB
 ·replace c3 := Bool.eq_false_iff.mpr c3
  subst c3
  have H1 : (some (0, 10)) = some (r1, r2) := by rw [if_neg (show ¬ (false = true) by decide)] at H; exact H
  clear H
  have H := H1
  clear H1
  simp only [Option.some.injEq, Prod.mk.injEq] at H
  obtain ⟨rfl, rfl⟩ := H
  go_enter Try.func72, Try.ntmps72
  go_wp2_with (first | ((with_reducible refine gate_callee (f := 76) rfl ?_); refine gol (some 8) Try.func76 #[.string a0] ?_; (with_reducible refine (bocageref01_whole.calls k a0 t445 t446 false _ A2.out).mono ?_); rintro e w19 ⟨v447, rfl, ho0, hb⟩; refine ⟨_, rfl, ?_⟩; have HO448 := Aside0.mk (Kd.R_lower ho0 (below_size (bl HB))); replace HB := bst HB hb; (try clear hb); (try clear hb2); (try clear hk); (try clear hi); (try clear ho0)) | ((with_reducible refine gate_dst (N := 4) rfl ?_); refine bxe (N := 4) (cs := #[.int .i64 0, .slice none 0 0]) (t := 78) ?_; intro gb450 hg w20 hbox hb; replace HO448 := krb HO448 hb; have BK450 := Aside0.mk (hbox); have GW450 := lsz hg HB; have GE450 := lsz hg HB; replace HB := bst HB hb; clear hb hbox hg; obtain ⟨hcz21_0, hcz21_1⟩ := e2 BK450; obtain ⟨hfz21_0, hfz21_1⟩ := f2 BK450; obtain ⟨Ao22, co22, eo22⟩ := Kd.R_slice HO448.out; subst eo22))
  go_ret2
  exact endB HB
/-! ### bocageref01_Read: function 66 -/
mutual
def bocageref01_Read.j0 : Nat → ByteArray → Int → Option (Int × Int)
 | 0, _, _ => none
 | k + 1, x0, x4 => bocageref01_Read.l0 k x0 x4
def bocageref01_Read.l0 : Nat → ByteArray → Int → Option (Int × Int)
 | 0, _, _ => none
 | k + 1, x0, x5 => if x5 > 0 then (if 0 ≤ x5 then (if x5 ≤ (x0.size : Int) then ((bocageref01_Parse.f k (x0.extract 0 (x5 : Int).toNat)).bind fun bt453 => (if bt453.2 = 0 then (some (bt453.1, x5)) else (bocageref01_Read.l0 k x0 (wrap64 (x5 - 1))))) else (none)) else (none)) else (some (0, 0))
end
def bocageref01_Read.f (k : Nat) (a0 : ByteArray) : Option (Int × Int) := if (a0.size : Int) > 20 then (bocageref01_Read.j0 k a0 20) else (bocageref01_Read.j0 k a0 (a0.size : Int))
theorem bocageref01_Read.mono_l : ∀ k, (∀ y0 y1, LeO (bocageref01_Read.j0 k y0 y1) (bocageref01_Read.j0 (k + 1) y0 y1)) ∧ (∀ y0 y1, LeO (bocageref01_Read.l0 k y0 y1) (bocageref01_Read.l0 (k + 1) y0 y1))
 | 0 => ⟨fun _ _ r h => by simp [bocageref01_Read.j0] at h, fun _ _ r h => by simp [bocageref01_Read.l0] at h⟩
 | k + 1 => by
  obtain ⟨ih0, ih1⟩ := bocageref01_Read.mono_l k
  refine ⟨?_, ?_⟩
  ·intro y0 y1
   unfold bocageref01_Read.j0
   repeat' first
   | (with_reducible exact ih0 _ _)
   | (with_reducible exact ih1 _ _)
   | (with_reducible exact bocageref01_Parse.mono _ _)
   | (with_reducible exact LeO.refl _)
   | (with_reducible exact LeO.none _)
   | (with_reducible refine LeO.ite ?_ ?_)
   | (with_reducible refine LeO.bind ?_ (fun _ => ?_))
   | exact ih0 _ _
   | exact ih1 _ _
   | exact bocageref01_Parse.mono _ _
   | exact LeO.none _
   | refine LeO.ite ?_ ?_
   | refine LeO.bind ?_ (fun _ => ?_)
  ·intro y0 y1
   unfold bocageref01_Read.l0
   repeat' first
   | (with_reducible exact ih0 _ _)
   | (with_reducible exact ih1 _ _)
   | (with_reducible exact bocageref01_Parse.mono _ _)
   | (with_reducible exact LeO.refl _)
   | (with_reducible exact LeO.none _)
   | (with_reducible refine LeO.ite ?_ ?_)
   | (with_reducible refine LeO.bind ?_ (fun _ => ?_))
   | exact ih0 _ _
   | exact ih1 _ _
   | exact bocageref01_Parse.mono _ _
   | exact LeO.none _
   | refine LeO.ite ?_ ?_
   | refine LeO.bind ?_ (fun _ => ?_)
theorem bocageref01_Read.mono : ∀ a0 k, LeO (bocageref01_Read.f k a0) (bocageref01_Read.f (k + 1) a0) := by
 intro a0 k
 obtain ⟨ih0, ih1⟩ := bocageref01_Read.mono_l k
 unfold bocageref01_Read.f
 repeat' first
   | (with_reducible exact ih0 _ _)
   | (with_reducible exact ih1 _ _)
   | (with_reducible exact bocageref01_Parse.mono _ _)
   | (with_reducible exact LeO.refl _)
   | (with_reducible exact LeO.none _)
   | (with_reducible refine LeO.ite ?_ ?_)
   | (with_reducible refine LeO.bind ?_ (fun _ => ?_))
   | exact ih0 _ _
   | exact ih1 _ _
   | exact bocageref01_Parse.mono _ _
   | exact LeO.none _
   | refine LeO.ite ?_ ?_
   | refine LeO.bind ?_ (fun _ => ?_)
set_option maxHeartbeats 8000000 in
set_option maxRecDepth 100000 in
theorem bocageref01_Read.calls (k : Nat) (a0 : ByteArray) (r1 : Int) (r2 : Int) (w : World) (h : bocageref01_Read.f k a0 = some (r1, r2)) :
  Calls Try.prog 66 #[.string a0] w fun e w' => e = .returned (.tuple #[.int .i64 r1, .int .i64 r2]) ∧ Below w.heap.size w w' := by
 have HB := Aside0.mk (Below.refl w.heap.size w)
 have H : (if (a0.size : Int) > 20 then (bocageref01_Read.j0 k a0 20) else (bocageref01_Read.j0 k a0 (a0.size : Int))) = some (r1, r2) := h
 clear h
 have HC2 := Aside0.mk H
 clear H
 go_enter Try.func66, Try.ntmps66
 go_upto_if 11 with (fail)
 go_cut [4] (fun v4 wc => ∃ (kq : Nat) (x4_1 : Int), v4 = .int .i64 x4_1 ∧ Aside0 (bocageref01_Read.j0 kq a0 x4_1 = some (r1, r2)) ∧ Aside0 (kq ≤ k) ∧ Aside0 (Below w.heap.size w wc))
 case first =>
  have H := HC2.out
  clear HC2
  by_cases c3 : (a0.size : Int) > 20
  ·rw [if_pos c3] at H
   have c3b0 : decide (20 < (a0.size : Int)) = true := decide_eq_true c3
   have c3b1 : decide (20 < a0.size) = true := decide_eq_true (by omega)
   clear c3
   (first | rw [c3b0] | (simp only [i64_w, i32_w]; rw [c3b0]) | skip)
   have H' := Aside0.mk H
   clear H
   go_wp2
   go_meet
   case rel => exact ⟨_, (20), (by first | rfl | (simp; done) | (simp [*]; done)), H', ⟨by first | omega | exact Nat.le_refl _⟩, ⟨bl HB⟩⟩
  ·rw [if_neg c3] at H
   have c3b0 : decide (20 < (a0.size : Int)) = false := decide_eq_false c3
   have c3b1 : decide (20 < a0.size) = false := decide_eq_false (by omega)
   clear c3
   (first | rw [c3b0] | (simp only [i64_w, i32_w]; rw [c3b0]) | skip)
   have H' := Aside0.mk H
   clear H
   go_wp2
   go_meet
   case rel => exact ⟨_, ((a0.size : Int)), (by first | rfl | (simp; done) | (simp [*]; done)), H', ⟨by first | omega | exact Nat.le_refl _⟩, ⟨bl HB⟩⟩
 case rest =>
  clear HC2
  obtain ⟨kq, x4_1, rfl, HA, HJ1, HB⟩ := hcut
  cases kq with
  | zero => exact absurd HA.out (by simp [bocageref01_Read.j0])
  | succ kj1 =>
   have H := HA.out
   clear HA
   simp only [bocageref01_Read.j0] at H
   have H' := Aside0.mk H
   clear H
   go_wp2
   go_loopg [5] kj1 (fun kq v5 w' => ∃ (x5_2 : Int), v5 = .int .i64 x5_2 ∧ Aside0 (bocageref01_Read.l0 kq a0 x5_2 = some (r1, r2)) ∧ Aside0 (kq ≤ kj1) ∧ Aside0 (Below w.heap.size w w'))
   case atStart => exact ⟨(x4_1), (by first | rfl | (simp; done) | (simp [*]; done)), H', ⟨Nat.le_refl _⟩, ⟨bl HB⟩⟩
   case round =>
    clear H'
    obtain ⟨x5_2, rfl, HA, HK2, HB⟩ := hrel
    cases gk with
    | zero => exact absurd HA.out (by simp [bocageref01_Read.l0])
    | succ k2 =>
     have H := HA.out
     clear HA
     simp only [bocageref01_Read.l0] at H
     by_cases c4 : x5_2 > 0
     ·rw [if_pos c4] at H
      have c4b0 : decide (0 < x5_2) = true := decide_eq_true c4
      clear c4
      by_cases c5 : 0 ≤ x5_2
      ·rw [if_pos c5] at H
       have c5b0 := eq_true c5
       have c5b1 : decide (0 ≤ x5_2) = true := decide_eq_true c5
       clear c5
       by_cases c6 : x5_2 ≤ (a0.size : Int)
       ·rw [if_pos c6] at H
        have c6b0 := eq_true c6
        have c6b1 : decide (x5_2 ≤ (a0.size : Int)) = true := decide_eq_true c6
        clear c6
        replace H := Option.bind_eq_some_iff.mp H
        obtain ⟨⟨t453, t454⟩, A70, H⟩ := H
        replace H : (if t454 = 0 then (some (t453, x5_2)) else (bocageref01_Read.l0 k2 a0 (wrap64 (x5_2 - 1)))) = some (r1, r2) := H
        have A7 := Aside0.mk A70
        clear A70
        by_cases c8 : t454 = 0
        ·rw [if_pos c8] at H
         have c8b0 : (t454 == 0) = true := beq_iff_eq.mpr c8
         have c8b1 : (t454 != 0) = false := bne_eq_false_iff_eq.mpr c8
         clear c8
         simp only [Option.some.injEq, Prod.mk.injEq] at H
         obtain ⟨rfl, rfl⟩ := H
         go_wp2_with (first | ((with_reducible refine gate_callee (f := 72) rfl ?_); refine gol (some 21) Try.func72 #[.string (a0.extract 0 (x5_2 : Int).toNat)] ?_; (with_reducible refine (bocageref01_Parse.calls k2 (a0.extract 0 (x5_2 : Int).toNat) t453 t454 _ A7.out).mono ?_); rintro e w9 ⟨rfl, hb⟩; refine ⟨_, rfl, ?_⟩; replace HB := bst HB hb; (try clear hb); (try clear hb2); (try clear hk); (try clear hi)))
         go_ret2
         exact endB HB
        ·rw [if_neg c8] at H
         have c8b0 : (t454 == 0) = false := beq_eq_false_iff_ne.mpr c8
         have c8b1 : (t454 != 0) = true := bne_iff_ne.mpr c8
         have H' := Aside0.mk H
         clear H
         go_wp2_with (first | ((with_reducible refine gate_callee (f := 72) rfl ?_); refine gol (some 21) Try.func72 #[.string (a0.extract 0 (x5_2 : Int).toNat)] ?_; (with_reducible refine (bocageref01_Parse.calls k2 (a0.extract 0 (x5_2 : Int).toNat) t453 t454 _ A7.out).mono ?_); rintro e w10 ⟨rfl, hb⟩; refine ⟨_, rfl, ?_⟩; replace HB := bst HB hb; (try clear hb); (try clear hb2); (try clear hk); (try clear hi)))
         go_roundg k2
         case measure => have := HJ1.out; have := HK2.out; omega
         case rel => exact ⟨(wrap64 (x5_2 - 1)), (by first | rfl | (simp; done) | (simp [*]; done)), H', ⟨by have := HJ1.out; have := HK2.out; omega⟩, ⟨bl HB⟩⟩
       ·rw [if_neg c6] at H
        exact absurd H (by simp)
      ·rw [if_neg c5] at H
       exact absurd H (by simp)
     ·rw [if_neg c4] at H
      have c4b0 : decide (0 < x5_2) = false := decide_eq_false c4
      clear c4
      simp only [Option.some.injEq, Prod.mk.injEq] at H
      obtain ⟨rfl, rfl⟩ := H
      go_wp2
      go_ret2
      exact endB HB
/-! ### bocageref02_parse: function 73 -/
def bocageref02_parse.f (k : Nat) (a0 : ByteArray) : Option (Int × Int × Bool) := if a0.toList = ([45, 105, 110, 102] : List UInt8) then (some ((-1), 0, true)) else (if a0.toList = ([43, 105, 110, 102] : List UInt8) then (some (1, 0, true)) else ((bocageref01_Parse.f k a0).bind fun bt456 => (if bt456.2 = 0 then ((bocageref02_Least64.f).bind fun t458 => (some (0, bt456.1, (bt456.1 != t458)))) else (some (0, bt456.1, false)))))
theorem bocageref02_parse.mono : ∀ a0 k, LeO (bocageref02_parse.f k a0) (bocageref02_parse.f (k + 1) a0) := by
 intro a0 k
 unfold bocageref02_parse.f
 repeat' first
   | (with_reducible exact bocageref01_Parse.mono _ _)
   | (with_reducible exact LeO.refl _)
   | (with_reducible exact LeO.none _)
   | (with_reducible refine LeO.ite ?_ ?_)
   | (with_reducible refine LeO.bind ?_ (fun _ => ?_))
   | exact bocageref01_Parse.mono _ _
   | exact LeO.none _
   | refine LeO.ite ?_ ?_
   | refine LeO.bind ?_ (fun _ => ?_)
set_option maxHeartbeats 8000000 in
set_option maxRecDepth 100000 in
theorem bocageref02_parse.calls (k : Nat) (a0 : ByteArray) (r1 : Int) (r2 : Int) (r3 : Bool) (w : World) (h : bocageref02_parse.f k a0 = some (r1, r2, r3)) :
  Calls Try.prog 73 #[.string a0] w fun e w' => e = .returned (.tuple #[.agg #[.int .i64 r1, .int .i64 r2], .bool r3]) ∧ Below w.heap.size w w' := by
 have hu25 := Try.underlying25
 have HB := Aside0.mk (Below.refl w.heap.size w)
 have H : (if a0.toList = ([45, 105, 110, 102] : List UInt8) then (some ((-1), 0, true)) else (if a0.toList = ([43, 105, 110, 102] : List UInt8) then (some (1, 0, true)) else ((bocageref01_Parse.f k a0).bind fun bt456 => (if bt456.2 = 0 then ((bocageref02_Least64.f).bind fun t458 => (some (0, bt456.1, (bt456.1 != t458)))) else (some (0, bt456.1, false)))))) = some (r1, r2, r3) := h
 clear h
 by_cases c2 : a0.toList = ([45, 105, 110, 102] : List UInt8)
 ·rw [if_pos c2] at H
  have c2b0 : (a0.toList == ([45, 105, 110, 102] : List UInt8)) = true := beq_iff_eq.mpr c2
  have c2b1 : (a0.toList != ([45, 105, 110, 102] : List UInt8)) = false := bne_eq_false_iff_eq.mpr c2
  clear c2
  simp only [Option.some.injEq, Prod.mk.injEq] at H
  obtain ⟨rfl, rfl, rfl⟩ := H
  go_enter Try.func73, Try.ntmps73
  go_wp2_with (first | ((with_reducible refine gate_dst (N := 2) rfl ?_); refine bxe (N := 2) (cs := #[.int .i64 0, .int .i64 0]) (t := 25) ?_; intro gb455 hg w3 hbox hb; have BK455 := Aside0.mk (hbox); have GW455 := lsz hg HB; have GE455 := lsz hg HB; replace HB := bst HB hb; clear hb hbox hg; obtain ⟨hcz4_0, hcz4_1⟩ := e2 BK455; obtain ⟨hfz4_0, hfz4_1⟩ := f2 BK455))
  refine bodyPost_ret (results_ct rfl _ _ gb455 25 #[.int .i64 (-1), .int .i64 0] (0, 0) _ rfl (bkp BK455) Try.underlying25 rfl (by kernel_rfl)) rfl ?_
  exact endB HB
 ·rw [if_neg c2] at H
  have c2b0 : (a0.toList == ([45, 105, 110, 102] : List UInt8)) = false := beq_eq_false_iff_ne.mpr c2
  have c2b1 : (a0.toList != ([45, 105, 110, 102] : List UInt8)) = true := bne_iff_ne.mpr c2
  by_cases c5 : a0.toList = ([43, 105, 110, 102] : List UInt8)
  ·rw [if_pos c5] at H
   have c5b0 : (a0.toList == ([43, 105, 110, 102] : List UInt8)) = true := beq_iff_eq.mpr c5
   have c5b1 : (a0.toList != ([43, 105, 110, 102] : List UInt8)) = false := bne_eq_false_iff_eq.mpr c5
   clear c5
   simp only [Option.some.injEq, Prod.mk.injEq] at H
   obtain ⟨rfl, rfl, rfl⟩ := H
   go_enter Try.func73, Try.ntmps73
   go_wp2_with (first | ((with_reducible refine gate_dst (N := 2) rfl ?_); refine bxe (N := 2) (cs := #[.int .i64 0, .int .i64 0]) (t := 25) ?_; intro gb455 hg w6 hbox hb; have BK455 := Aside0.mk (hbox); have GW455 := lsz hg HB; have GE455 := lsz hg HB; replace HB := bst HB hb; clear hb hbox hg; obtain ⟨hcz7_0, hcz7_1⟩ := e2 BK455; obtain ⟨hfz7_0, hfz7_1⟩ := f2 BK455))
   refine bodyPost_ret (results_ct rfl _ _ gb455 25 #[.int .i64 1, .int .i64 0] (0, 0) _ rfl (bkp BK455) Try.underlying25 rfl (by kernel_rfl)) rfl ?_
   exact endB HB
  ·rw [if_neg c5] at H
   have c5b0 : (a0.toList == ([43, 105, 110, 102] : List UInt8)) = false := beq_eq_false_iff_ne.mpr c5
   have c5b1 : (a0.toList != ([43, 105, 110, 102] : List UInt8)) = true := bne_iff_ne.mpr c5
   replace H := Option.bind_eq_some_iff.mp H
   obtain ⟨⟨t456, t457⟩, A80, H⟩ := H
   replace H : (if t457 = 0 then ((bocageref02_Least64.f).bind fun t458 => (some (0, t456, (t456 != t458)))) else (some (0, t456, false))) = some (r1, r2, r3) := H
   have A8 := Aside0.mk A80
   clear A80
   by_cases c9 : t457 = 0
   ·rw [if_pos c9] at H
    have c9b0 : (t457 == 0) = true := beq_iff_eq.mpr c9
    have c9b1 : (t457 != 0) = false := bne_eq_false_iff_eq.mpr c9
    clear c9
    replace H := Option.bind_eq_some_iff.mp H
    obtain ⟨t458, A100, H⟩ := H
    replace H : (some (0, t456, (t456 != t458))) = some (r1, r2, r3) := H
    have A10 := Aside0.mk A100
    clear A100
    simp only [Option.some.injEq, Prod.mk.injEq] at H
    obtain ⟨rfl, rfl, rfl⟩ := H
    go_enter Try.func73, Try.ntmps73
    go_wp2_with (first | ((with_reducible refine gate_dst (N := 2) rfl ?_); refine bxe (N := 2) (cs := #[.int .i64 0, .int .i64 0]) (t := 25) ?_; intro gb455 hg w11 hbox hb; have BK455 := Aside0.mk (hbox); have GW455 := lsz hg HB; have GE455 := lsz hg HB; replace HB := bst HB hb; clear hb hbox hg) | ((with_reducible refine gate_callee (f := 72) rfl ?_); refine gol (some 14) Try.func72 #[.string a0] ?_; (with_reducible refine (bocageref01_Parse.calls k a0 t456 t457 _ A8.out).mono ?_); rintro e w12 ⟨rfl, hb⟩; refine ⟨_, rfl, ?_⟩; replace BK455 := bkb BK455 hb; replace HB := bst HB hb; (try clear hb); (try clear hb2); (try clear hk); (try clear hi)) | (go_at_call 63; (with_reducible refine (bocageref02_Least64.calls  t458 _ A10.out).mono ?_); rintro e w' ⟨rfl, ⟨nd, rfl⟩⟩; (try (rw [drewN_self w12]; generalize hq_ : World.drewN w12 _ = w12; have n0_ : Aside0 (w12.heap[gb455]? = some (.cells #[.int .i64 0, .int .i64 0] 25 (0, 0))) := ⟨by rw [← hq_]; exact (bk BK455)⟩; have n1_ : Aside0 (Below w.heap.size w w12) := ⟨by rw [← hq_]; exact (bl HB)⟩; clear BK455 HB hq_; have BK455 := n0_; have HB := n1_; clear n0_ n1_)); obtain ⟨hcz13_0, hcz13_1⟩ := e2 BK455; obtain ⟨hfz13_0, hfz13_1⟩ := f2 BK455))
    refine bodyPost_ret (results_ct rfl _ _ gb455 25 #[.int .i64 0, .int .i64 t456] (0, 0) _ rfl (bkp BK455) Try.underlying25 rfl (by kernel_rfl)) rfl ?_
    exact endB HB
   ·rw [if_neg c9] at H
    have c9b0 : (t457 == 0) = false := beq_eq_false_iff_ne.mpr c9
    have c9b1 : (t457 != 0) = true := bne_iff_ne.mpr c9
    simp only [Option.some.injEq, Prod.mk.injEq] at H
    obtain ⟨rfl, rfl, rfl⟩ := H
    go_enter Try.func73, Try.ntmps73
    go_wp2_with (first | ((with_reducible refine gate_dst (N := 2) rfl ?_); refine bxe (N := 2) (cs := #[.int .i64 0, .int .i64 0]) (t := 25) ?_; intro gb455 hg w14 hbox hb; have BK455 := Aside0.mk (hbox); have GW455 := lsz hg HB; have GE455 := lsz hg HB; replace HB := bst HB hb; clear hb hbox hg) | ((with_reducible refine gate_callee (f := 72) rfl ?_); refine gol (some 14) Try.func72 #[.string a0] ?_; (with_reducible refine (bocageref01_Parse.calls k a0 t456 t457 _ A8.out).mono ?_); rintro e w15 ⟨rfl, hb⟩; refine ⟨_, rfl, ?_⟩; replace BK455 := bkb BK455 hb; replace HB := bst HB hb; (try clear hb); (try clear hb2); (try clear hk); (try clear hi); obtain ⟨hcz16_0, hcz16_1⟩ := e2 BK455; obtain ⟨hfz16_0, hfz16_1⟩ := f2 BK455))
    refine bodyPost_ret (results_ct rfl _ _ gb455 25 #[.int .i64 0, .int .i64 t456] (0, 0) _ rfl (bkp BK455) Try.underlying25 rfl (by kernel_rfl)) rfl ?_
    exact endB HB
/-! ### bocageref02_Read: function 67 -/
mutual
def bocageref02_Read.j0 : Nat → ByteArray → Int → Option (Int × Int × Int)
 | 0, _, _ => none
 | k + 1, x0, x4 => bocageref02_Read.l0 k x0 x4
def bocageref02_Read.l0 : Nat → ByteArray → Int → Option (Int × Int × Int)
 | 0, _, _ => none
 | k + 1, x0, x5 => if x5 > 0 then (if 0 ≤ x5 then (if x5 ≤ (x0.size : Int) then ((bocageref02_parse.f k (x0.extract 0 (x5 : Int).toNat)).bind fun bt460 => (if bt460.2.2 = true then (some (bt460.1, bt460.2.1, x5)) else (bocageref02_Read.l0 k x0 (wrap64 (x5 - 1))))) else (none)) else (none)) else (some (0, 0, 0))
end
def bocageref02_Read.f (k : Nat) (a0 : ByteArray) : Option (Int × Int × Int) := if (a0.size : Int) > 20 then (bocageref02_Read.j0 k a0 20) else (bocageref02_Read.j0 k a0 (a0.size : Int))
theorem bocageref02_Read.mono_l : ∀ k, (∀ y0 y1, LeO (bocageref02_Read.j0 k y0 y1) (bocageref02_Read.j0 (k + 1) y0 y1)) ∧ (∀ y0 y1, LeO (bocageref02_Read.l0 k y0 y1) (bocageref02_Read.l0 (k + 1) y0 y1))
 | 0 => ⟨fun _ _ r h => by simp [bocageref02_Read.j0] at h, fun _ _ r h => by simp [bocageref02_Read.l0] at h⟩
 | k + 1 => by
  obtain ⟨ih0, ih1⟩ := bocageref02_Read.mono_l k
  refine ⟨?_, ?_⟩
  ·intro y0 y1
   unfold bocageref02_Read.j0
   repeat' first
   | (with_reducible exact ih0 _ _)
   | (with_reducible exact ih1 _ _)
   | (with_reducible exact bocageref02_parse.mono _ _)
   | (with_reducible exact LeO.refl _)
   | (with_reducible exact LeO.none _)
   | (with_reducible refine LeO.ite ?_ ?_)
   | (with_reducible refine LeO.bind ?_ (fun _ => ?_))
   | exact ih0 _ _
   | exact ih1 _ _
   | exact bocageref02_parse.mono _ _
   | exact LeO.none _
   | refine LeO.ite ?_ ?_
   | refine LeO.bind ?_ (fun _ => ?_)
  ·intro y0 y1
   unfold bocageref02_Read.l0
   repeat' first
   | (with_reducible exact ih0 _ _)
   | (with_reducible exact ih1 _ _)
   | (with_reducible exact bocageref02_parse.mono _ _)
   | (with_reducible exact LeO.refl _)
   | (with_reducible exact LeO.none _)
   | (with_reducible refine LeO.ite ?_ ?_)
   | (with_reducible refine LeO.bind ?_ (fun _ => ?_))
   | exact ih0 _ _
   | exact ih1 _ _
   | exact bocageref02_parse.mono _ _
   | exact LeO.none _
   | refine LeO.ite ?_ ?_
   | refine LeO.bind ?_ (fun _ => ?_)
theorem bocageref02_Read.mono : ∀ a0 k, LeO (bocageref02_Read.f k a0) (bocageref02_Read.f (k + 1) a0) := by
 intro a0 k
 obtain ⟨ih0, ih1⟩ := bocageref02_Read.mono_l k
 unfold bocageref02_Read.f
 repeat' first
   | (with_reducible exact ih0 _ _)
   | (with_reducible exact ih1 _ _)
   | (with_reducible exact bocageref02_parse.mono _ _)
   | (with_reducible exact LeO.refl _)
   | (with_reducible exact LeO.none _)
   | (with_reducible refine LeO.ite ?_ ?_)
   | (with_reducible refine LeO.bind ?_ (fun _ => ?_))
   | exact ih0 _ _
   | exact ih1 _ _
   | exact bocageref02_parse.mono _ _
   | exact LeO.none _
   | refine LeO.ite ?_ ?_
   | refine LeO.bind ?_ (fun _ => ?_)
set_option maxHeartbeats 8000000 in
set_option maxRecDepth 100000 in
theorem bocageref02_Read.calls (k : Nat) (a0 : ByteArray) (r1 : Int) (r2 : Int) (r3 : Int) (w : World) (h : bocageref02_Read.f k a0 = some (r1, r2, r3)) :
  Calls Try.prog 67 #[.string a0] w fun e w' => e = .returned (.tuple #[.agg #[.int .i64 r1, .int .i64 r2], .int .i64 r3]) ∧ Below w.heap.size w w' := by
 have hu25 := Try.underlying25
 have HB := Aside0.mk (Below.refl w.heap.size w)
 have H : (if (a0.size : Int) > 20 then (bocageref02_Read.j0 k a0 20) else (bocageref02_Read.j0 k a0 (a0.size : Int))) = some (r1, r2, r3) := h
 clear h
 have HC2 := Aside0.mk H
 clear H
 go_enter Try.func67, Try.ntmps67
 go_upto_if 11 with (first | ((with_reducible refine gate_dst (N := 2) rfl ?_); refine bxe (N := 2) (cs := #[.int .i64 0, .int .i64 0]) (t := 25) ?_; intro gb459 hg w3 hbox hb; have BK459 := Aside0.mk (hbox); have GW459 := lsz hg HB; have GE459 := lsz hg HB; replace HB := bst HB hb; clear hb hbox hg))
 (try simp only [Act.put, List.setIfInBounds_toArray, List.set_cons_zero, List.set_cons_succ])
 go_cut [4] (fun v4 wc => ∃ (kq : Nat) (x4_1 : Int), v4 = .int .i64 x4_1 ∧ Aside0 (bocageref02_Read.j0 kq a0 x4_1 = some (r1, r2, r3)) ∧ Aside0 (kq ≤ k) ∧ Aside0 (wc.heap[gb459]? = some (.cells #[.int .i64 0, .int .i64 0] 25 (0, 0))) ∧ Aside0 (Below w.heap.size w wc))
 case first =>
  have H := HC2.out
  clear HC2
  by_cases c4 : (a0.size : Int) > 20
  ·rw [if_pos c4] at H
   have c4b0 : decide (20 < (a0.size : Int)) = true := decide_eq_true c4
   have c4b1 : decide (20 < a0.size) = true := decide_eq_true (by omega)
   clear c4
   (first | rw [c4b0] | (simp only [i64_w, i32_w]; rw [c4b0]) | skip)
   have H' := Aside0.mk H
   clear H
   go_wp2
   go_meet
   case rel => exact ⟨_, (20), (by first | rfl | (simp; done) | (simp [*]; done)), H', ⟨by first | omega | exact Nat.le_refl _⟩, ⟨bk BK459⟩, ⟨bl HB⟩⟩
  ·rw [if_neg c4] at H
   have c4b0 : decide (20 < (a0.size : Int)) = false := decide_eq_false c4
   have c4b1 : decide (20 < a0.size) = false := decide_eq_false (by omega)
   clear c4
   (first | rw [c4b0] | (simp only [i64_w, i32_w]; rw [c4b0]) | skip)
   have H' := Aside0.mk H
   clear H
   go_wp2
   go_meet
   case rel => exact ⟨_, ((a0.size : Int)), (by first | rfl | (simp; done) | (simp [*]; done)), H', ⟨by first | omega | exact Nat.le_refl _⟩, ⟨bk BK459⟩, ⟨bl HB⟩⟩
 case rest =>
  clear HC2
  obtain ⟨kq, x4_1, rfl, HA, HJ1, BK459, HB⟩ := hcut
  cases kq with
  | zero => exact absurd HA.out (by simp [bocageref02_Read.j0])
  | succ kj1 =>
   have H := HA.out
   clear HA
   simp only [bocageref02_Read.j0] at H
   have H' := Aside0.mk H
   clear H
   go_wp2
   go_loopg [5] kj1 (fun kq v5 w' => ∃ (x5_2 : Int) (x460000_2 : Int) (x460001_2 : Int), v5 = .int .i64 x5_2 ∧ Aside0 (bocageref02_Read.l0 kq a0 x5_2 = some (r1, r2, r3)) ∧ Aside0 (kq ≤ kj1) ∧ Aside0 (w'.heap[gb459]? = some (.cells #[.int .i64 x460000_2, .int .i64 x460001_2] 25 (0, 0))) ∧ Aside0 (Below w.heap.size w w'))
   case atStart => exact ⟨(x4_1), (0), (0), (by first | rfl | (simp; done) | (simp [*]; done)), H', ⟨Nat.le_refl _⟩, ⟨bk BK459⟩, ⟨bl HB⟩⟩
   case round =>
    clear H'
    obtain ⟨x5_2, x460000_2, x460001_2, rfl, HA, HK2, BK459, HB⟩ := hrel
    cases gk with
    | zero => exact absurd HA.out (by simp [bocageref02_Read.l0])
    | succ k2 =>
     have H := HA.out
     clear HA
     simp only [bocageref02_Read.l0] at H
     by_cases c5 : x5_2 > 0
     ·rw [if_pos c5] at H
      have c5b0 : decide (0 < x5_2) = true := decide_eq_true c5
      clear c5
      by_cases c6 : 0 ≤ x5_2
      ·rw [if_pos c6] at H
       have c6b0 := eq_true c6
       have c6b1 : decide (0 ≤ x5_2) = true := decide_eq_true c6
       clear c6
       by_cases c7 : x5_2 ≤ (a0.size : Int)
       ·rw [if_pos c7] at H
        have c7b0 := eq_true c7
        have c7b1 : decide (x5_2 ≤ (a0.size : Int)) = true := decide_eq_true c7
        clear c7
        replace H := Option.bind_eq_some_iff.mp H
        obtain ⟨⟨t460, t461, t462⟩, A80, H⟩ := H
        replace H : (if t462 = true then (some (t460, t461, x5_2)) else (bocageref02_Read.l0 k2 a0 (wrap64 (x5_2 - 1)))) = some (r1, r2, r3) := H
        have A8 := Aside0.mk A80
        clear A80
        by_cases c9 : t462 = true
        ·subst c9
         have H1 : (some (t460, t461, x5_2)) = some (r1, r2, r3) := by rw [if_pos rfl] at H; exact H
         clear H
         have H := H1
         clear H1
         simp only [Option.some.injEq, Prod.mk.injEq] at H
         obtain ⟨rfl, rfl, rfl⟩ := H
         go_wp2_with (first | ((with_reducible refine gate_callee (f := 73) rfl ?_); refine gol (some 21) Try.func73 #[.string (a0.extract 0 (x5_2 : Int).toNat)] ?_; (with_reducible refine (bocageref02_parse.calls k2 (a0.extract 0 (x5_2 : Int).toNat) t460 t461 true _ A8.out).mono ?_); rintro e w10 ⟨rfl, hb⟩; refine ⟨_, rfl, ?_⟩; replace BK459 := bkb BK459 hb; replace HB := bst HB hb; (try clear hb); (try clear hb2); (try clear hk); (try clear hi)) | ((with_reducible refine gate_dst (N := 6) rfl ?_); refine bxe (N := 6) (cs := #[.int .i64 0, .int .i64 0]) (t := 25) ?_; intro gb463 hg w11 hbox hb; have BK463 := Aside0.mk (hbox); have GW463 := lsz hg HB; have GE463 := lsz hg HB; replace HB := bst HB hb; have NB459_463 := nlt hg BK459; have NB463_459 := ngt hg BK459; replace BK459 := bkb BK459 hb; clear hb hbox hg; have hnb12 := NB463_459.out; have hnc12 := NB459_463.out; obtain ⟨hcz13_0, hcz13_1⟩ := e2 BK463; obtain ⟨hfz13_0, hfz13_1⟩ := f2 BK463; obtain ⟨hcz14_0, hcz14_1⟩ := e2 BK459; obtain ⟨hfz14_0, hfz14_1⟩ := f2 BK459))
         refine bodyPost_ret (results_ct rfl _ _ gb459 25 #[.int .i64 t460, .int .i64 t461] (0, 0) _ rfl (by (with_reducible repeat (first | refine blk_drewN ?_ _ | refine blk_drew ?_ | refine blk_alloc ?_ _)); refine blk_put (cs := #[.int .i64 t460, .int .i64 x460001_2]) ?_ 1 _ rfl; (with_reducible repeat (first | refine blk_drewN ?_ _ | refine blk_drew ?_ | refine blk_alloc ?_ _)); refine blk_put (cs := #[.int .i64 x460000_2, .int .i64 x460001_2]) ?_ 0 _ rfl; (with_reducible repeat (first | refine blk_drewN ?_ _ | refine blk_drew ?_ | refine blk_alloc ?_ _)); refine blk_far ?_ NB459_463.out _; (with_reducible repeat (first | refine blk_drewN ?_ _ | refine blk_drew ?_ | refine blk_alloc ?_ _)); refine blk_far ?_ NB459_463.out _; (with_reducible repeat (first | refine blk_drewN ?_ _ | refine blk_drew ?_ | refine blk_alloc ?_ _)); exact BK459.out) Try.underlying25 rfl (by kernel_rfl)) rfl ?_
         exact endB HB
        ·replace c9 := Bool.eq_false_iff.mpr c9
         subst c9
         have H1 : (bocageref02_Read.l0 k2 a0 (wrap64 (x5_2 - 1))) = some (r1, r2, r3) := by rw [if_neg (show ¬ (false = true) by decide)] at H; exact H
         clear H
         have H := H1
         clear H1
         have H' := Aside0.mk H
         clear H
         go_wp2_with (first | ((with_reducible refine gate_callee (f := 73) rfl ?_); refine gol (some 21) Try.func73 #[.string (a0.extract 0 (x5_2 : Int).toNat)] ?_; (with_reducible refine (bocageref02_parse.calls k2 (a0.extract 0 (x5_2 : Int).toNat) t460 t461 false _ A8.out).mono ?_); rintro e w15 ⟨rfl, hb⟩; refine ⟨_, rfl, ?_⟩; replace BK459 := bkb BK459 hb; replace HB := bst HB hb; (try clear hb); (try clear hb2); (try clear hk); (try clear hi)) | ((with_reducible refine gate_dst (N := 6) rfl ?_); refine bxe (N := 6) (cs := #[.int .i64 0, .int .i64 0]) (t := 25) ?_; intro gb463 hg w16 hbox hb; have BK463 := Aside0.mk (hbox); have GW463 := lsz hg HB; have GE463 := lsz hg HB; replace HB := bst HB hb; have NB459_463 := nlt hg BK459; have NB463_459 := ngt hg BK459; replace BK459 := bkb BK459 hb; clear hb hbox hg; have hnb17 := NB463_459.out; have hnc17 := NB459_463.out; obtain ⟨hcz18_0, hcz18_1⟩ := e2 BK463; obtain ⟨hfz18_0, hfz18_1⟩ := f2 BK463))
         go_roundg k2
         case measure => have := HJ1.out; have := HK2.out; omega
         case rel => exact ⟨(wrap64 (x5_2 - 1)), (x460000_2), (x460001_2), (by first | rfl | (simp; done) | (simp [*]; done)), H', ⟨by have := HJ1.out; have := HK2.out; omega⟩, ⟨by (with_reducible repeat (first | refine blk_drewN ?_ _ | refine blk_drew ?_ | refine blk_alloc ?_ _)); refine blk_far ?_ NB459_463.out _; (with_reducible repeat (first | refine blk_drewN ?_ _ | refine blk_drew ?_ | refine blk_alloc ?_ _)); refine blk_far ?_ NB459_463.out _; (with_reducible repeat (first | refine blk_drewN ?_ _ | refine blk_drew ?_ | refine blk_alloc ?_ _)); exact BK459.out⟩, ⟨bl HB⟩⟩
       ·rw [if_neg c7] at H
        exact absurd H (by simp)
      ·rw [if_neg c6] at H
       exact absurd H (by simp)
     ·rw [if_neg c5] at H
      have c5b0 : decide (0 < x5_2) = false := decide_eq_false c5
      clear c5
      simp only [Option.some.injEq, Prod.mk.injEq] at H
      obtain ⟨rfl, rfl, rfl⟩ := H
      have hcz19_0 : wr.cell? ⟨gb459, 0, none⟩ = some (.int .i64 x460000_2) := (blk_cell BK459.out 0).trans rfl
      have hcz19_1 : wr.cell? ⟨gb459, 1, none⟩ = some (.int .i64 x460001_2) := (blk_cell BK459.out 1).trans rfl
      have hfz19_0 := blk_frozen BK459.out 0
      have hfz19_1 := blk_frozen BK459.out 1
      go_wp2
      refine bodyPost_ret (results_ct rfl _ _ gb459 25 #[.int .i64 0, .int .i64 0] (0, 0) _ rfl (bkp BK459) Try.underlying25 rfl (by kernel_rfl)) rfl ?_
      exact endB HB
end Go.Proofs.Ytpeidnkbliafkaa.Print
