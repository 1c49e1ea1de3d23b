-- Laid by wip/print/bprint.py of this repo, over the kit's printer, with functions given by hand; not trusted: Lean checks it.
import Derived.Test.YtpeidnkbliafkaaHBnd2
import Derived.Test.YtpeidnkbliafkaaHBnd4
import Derived.Test.YtpeidnkbliafkaaPrint0
import Derived.Test.YtpeidnkbliafkaaPrint5
import Derived.Test.YtpeidnkbliafkaaSh2
namespace Go.Proofs.Ytpeidnkbliafkaa.Print
open Go.RowKit Go.Proofs.YtpeidnkbliafkaaW.PrintWords Go.Proofs.YtpeidnkbliafkaaW.PrintLast Go.Proofs.YtpeidnkbliafkaaW.PrintMore
attribute [local go_sem] max2_int min2_int max_two min_two max_three min_three max_four min_four   -- for this text's walks alone
set_option linter.unusedVariables false
set_option linter.unusedSimpArgs false
/-! ### bocageref01_Of: function 64 -/
mutual
def bocageref01_Of.j0 : Nat → Int → Int → Option (Int × List Int)
 | 0, _, _ => none
 | k + 1, x0, x520000 => bocageref01_Of.l0 k x0 x520000 ([] : List Int)
def bocageref01_Of.l0 : Nat → Int → Int → List Int → Option (Int × List Int)
 | 0, _, _, _ => none
 | k + 1, x0, x520000, x520001 => if x0 = 0 then (if (x520001.length : Int) = 0 then (some (0, x520001)) else (some (x520000, x520001))) else (if (Int.tmod x0 10) < 0 then (if x520001.length < 17592186044416 then (bocageref01_Of.l0 k (wrap64 (Int.tdiv x0 10)) x520000 (x520001 ++ [wrap64 (-(Int.tmod x0 10))])) else (none)) else (if x520001.length < 17592186044416 then (bocageref01_Of.l0 k (wrap64 (Int.tdiv x0 10)) x520000 (x520001 ++ [Int.tmod x0 10])) else (none)))
end
def bocageref01_Of.f (k : Nat) (a0 : Int) : Option (Int × List Int) := if a0 < 0 then (bocageref01_Of.j0 k a0 (-1)) else (bocageref01_Of.j0 k a0 1)
theorem bocageref01_Of.mono_l : ∀ k, (∀ y0 y1, LeO (bocageref01_Of.j0 k y0 y1) (bocageref01_Of.j0 (k + 1) y0 y1)) ∧ (∀ y0 y1 y2, LeO (bocageref01_Of.l0 k y0 y1 y2) (bocageref01_Of.l0 (k + 1) y0 y1 y2))
 | 0 => ⟨fun _ _ r h => by simp [bocageref01_Of.j0] at h, fun _ _ _ r h => by simp [bocageref01_Of.l0] at h⟩
 | k + 1 => by
  obtain ⟨ih0, ih1⟩ := bocageref01_Of.mono_l k
  refine ⟨?_, ?_⟩
  ·intro y0 y1
   unfold bocageref01_Of.j0
   repeat' first
   | (with_reducible exact ih0 _ _)
   | (with_reducible exact ih1 _ _ _)
   | (with_reducible exact LeO.refl _)
   | (with_reducible exact LeO.none _)
   | (with_reducible refine LeO.ite ?_ ?_)
   | (with_reducible refine LeO.bind ?_ (fun _ => ?_))
   | exact ih0 _ _
   | exact ih1 _ _ _
   | exact LeO.none _
   | refine LeO.ite ?_ ?_
   | refine LeO.bind ?_ (fun _ => ?_)
  ·intro y0 y1 y2
   unfold bocageref01_Of.l0
   repeat' first
   | (with_reducible exact ih0 _ _)
   | (with_reducible exact ih1 _ _ _)
   | (with_reducible exact LeO.refl _)
   | (with_reducible exact LeO.none _)
   | (with_reducible refine LeO.ite ?_ ?_)
   | (with_reducible refine LeO.bind ?_ (fun _ => ?_))
   | exact ih0 _ _
   | exact ih1 _ _ _
   | exact LeO.none _
   | refine LeO.ite ?_ ?_
   | refine LeO.bind ?_ (fun _ => ?_)
theorem bocageref01_Of.mono : ∀ a0 k, LeO (bocageref01_Of.f k a0) (bocageref01_Of.f (k + 1) a0) := by
 intro a0 k
 obtain ⟨ih0, ih1⟩ := bocageref01_Of.mono_l k
 unfold bocageref01_Of.f
 repeat' first
   | (with_reducible exact ih0 _ _)
   | (with_reducible exact ih1 _ _ _)
   | (with_reducible exact LeO.refl _)
   | (with_reducible exact LeO.none _)
   | (with_reducible refine LeO.ite ?_ ?_)
   | (with_reducible refine LeO.bind ?_ (fun _ => ?_))
   | exact ih0 _ _
   | exact ih1 _ _ _
   | exact LeO.none _
   | refine LeO.ite ?_ ?_
   | refine LeO.bind ?_ (fun _ => ?_)
set_option maxHeartbeats 8000000 in
set_option maxRecDepth 100000 in
theorem bocageref01_Of.calls (k : Nat) (a0 : Int) (r1 : Int) (r2 : List Int) (w : World) (h : bocageref01_Of.f k a0 = some (r1, r2)) :
  Calls Try.prog 64 #[.int .i64 a0] w fun e w' => ∃ v1_ : Value, e = .returned (.agg #[.int .i64 r1, v1_]) ∧ Kd.R (Kd.int .i64) 3 w' w.heap.size (fun _ => True) v1_ r2 ∧ Below w.heap.size w w' := by
 have hu78 := Try.underlying78
 have HB := Aside0.mk (Below.refl w.heap.size w)
 have H : (if a0 < 0 then (bocageref01_Of.j0 k a0 (-1)) else (bocageref01_Of.j0 k a0 1)) = some (r1, r2) := h
 clear h
 have HC2 := Aside0.mk H
 clear H
 go_enter Try.func64, Try.ntmps64
 go_upto_if 7 with (first | ((with_reducible refine gate_dst (N := 2) rfl ?_); refine bxe (N := 2) (cs := #[.int .i64 0, .slice none 0 0]) (t := 78) ?_; intro gb518 hg w3 hbox hb; have BK518 := Aside0.mk (hbox); have GW518 := lsz hg HB; have GE518 := lsz hg HB; replace HB := bst HB hb; clear hb hbox hg) | ((with_reducible refine gate_dst (N := 3) rfl ?_); refine bxe (N := 3) (cs := #[.int .i64 0, .slice none 0 0]) (t := 78) ?_; intro gb519 hg w4 hbox hb; have BK519 := Aside0.mk (hbox); have GW519 := lsz hg HB; have GE519 := lsz hg HB; replace HB := bst HB hb; have NB518_519 := nlt hg BK518; have NB519_518 := ngt hg BK518; replace BK518 := bkb BK518 hb; clear hb hbox hg; have hnb5 := NB519_518.out; have hnc5 := NB518_519.out; obtain ⟨hcz6_0, hcz6_1⟩ := e2 BK519; obtain ⟨hfz6_0, hfz6_1⟩ := f2 BK519))
 (try simp only [Act.put, List.setIfInBounds_toArray, List.set_cons_zero, List.set_cons_succ])
 go_cut [] (fun wc => ∃ (kq : Nat) (x520000_1 : Int), Aside0 (bocageref01_Of.j0 kq a0 x520000_1 = some (r1, r2)) ∧ Aside0 (kq ≤ k) ∧ Aside0 (wc.heap[gb518]? = some (.cells #[.int .i64 0, (.slice none 0 0)] 78 (0, 0))) ∧ Aside0 (wc.heap[gb519]? = some (.cells #[.int .i64 x520000_1, (.slice none 0 0)] 78 (0, 0))) ∧ Aside0 (Below w.heap.size w wc))
 case first =>
  have H := HC2.out
  clear HC2
  by_cases c7 : a0 < 0
  ·rw [if_pos c7] at H
   have c7b0 : decide (a0 < 0) = true := decide_eq_true c7
   clear c7
   (first | rw [c7b0] | (simp only [i64_w, i32_w]; rw [c7b0]) | skip)
   have H' := Aside0.mk H
   clear H
   have hnb8 := NB519_518.out
   have hnc8 := NB518_519.out
   have hcz9_0 : w4.cell? ⟨gb519, 0, none⟩ = some (.int .i64 0) := (blk_cell BK519.out 0).trans rfl
   have hcz9_1 : w4.cell? ⟨gb519, 1, none⟩ = some (.slice none 0 0) := (blk_cell BK519.out 1).trans rfl
   have hfz9_0 := blk_frozen BK519.out 0
   have hfz9_1 := blk_frozen BK519.out 1
   go_wp2
   go_meet
   case rel => exact ⟨_, ((-1)), H', ⟨by first | omega | exact Nat.le_refl _⟩, ⟨by (with_reducible repeat (first | refine blk_drewN ?_ _ | refine blk_drew ?_ | refine blk_alloc ?_ _)); refine blk_far ?_ NB518_519.out _; (with_reducible repeat (first | refine blk_drewN ?_ _ | refine blk_drew ?_ | refine blk_alloc ?_ _)); refine blk_far ?_ NB518_519.out _; (with_reducible repeat (first | refine blk_drewN ?_ _ | refine blk_drew ?_ | refine blk_alloc ?_ _)); exact BK518.out⟩, ⟨by (with_reducible repeat (first | refine blk_drewN ?_ _ | refine blk_drew ?_ | refine blk_alloc ?_ _)); refine blk_put (cs := #[.int .i64 1, .slice none 0 0]) ?_ 0 _ rfl; (with_reducible repeat (first | refine blk_drewN ?_ _ | refine blk_drew ?_ | refine blk_alloc ?_ _)); refine blk_put (cs := #[.int .i64 0, .slice none 0 0]) ?_ 0 _ rfl; (with_reducible repeat (first | refine blk_drewN ?_ _ | refine blk_drew ?_ | refine blk_alloc ?_ _)); exact BK519.out⟩, ⟨bl HB⟩⟩
  ·rw [if_neg c7] at H
   have c7b0 : decide (a0 < 0) = false := decide_eq_false c7
   clear c7
   (first | rw [c7b0] | (simp only [i64_w, i32_w]; rw [c7b0]) | skip)
   have H' := Aside0.mk H
   clear H
   go_wp2
   go_meet
   case rel => exact ⟨_, (1), H', ⟨by first | omega | exact Nat.le_refl _⟩, ⟨by (with_reducible repeat (first | refine blk_drewN ?_ _ | refine blk_drew ?_ | refine blk_alloc ?_ _)); refine blk_far ?_ NB518_519.out _; (with_reducible repeat (first | refine blk_drewN ?_ _ | refine blk_drew ?_ | refine blk_alloc ?_ _)); exact BK518.out⟩, ⟨by (with_reducible repeat (first | refine blk_drewN ?_ _ | refine blk_drew ?_ | refine blk_alloc ?_ _)); refine blk_put (cs := #[.int .i64 0, .slice none 0 0]) ?_ 0 _ rfl; (with_reducible repeat (first | refine blk_drewN ?_ _ | refine blk_drew ?_ | refine blk_alloc ?_ _)); exact BK519.out⟩, ⟨bl HB⟩⟩
 case rest =>
  clear HC2
  try clear hcz6_0
  try clear hcz6_1
  try clear hfz6_0
  try clear hfz6_1
  obtain ⟨kq, x520000_1, HA, HJ1, BK518, BK519, HB⟩ := hcut
  cases kq with
  | zero => exact absurd HA.out (by simp [bocageref01_Of.j0])
  | succ kj1 =>
   have H := HA.out
   clear HA
   simp only [bocageref01_Of.j0] at H
   have H' := Aside0.mk H
   clear H
   go_wp2
   go_loopg [0] kj1 (fun kq v0 w' => ∃ (x0_2 : Int) (x520001_2 : List Int) (u520001 : Value), v0 = .int .i64 x0_2 ∧ Aside0 (bocageref01_Of.l0 kq x0_2 x520000_1 x520001_2 = some (r1, r2)) ∧ Aside0 (kq ≤ kj1) ∧ Aside0 (Kd.R (Kd.int .i64) 3 w' w.heap.size (fun _ => True) u520001 x520001_2) ∧ Aside0 (w'.heap[gb518]? = some (.cells #[.int .i64 0, (.slice none 0 0)] 78 (0, 0))) ∧ Aside0 (w'.heap[gb519]? = some (.cells #[.int .i64 x520000_1, u520001] 78 (0, 0))) ∧ Aside0 (Below w.heap.size w w'))
   case atStart => exact ⟨(a0), (([] : List Int)), (.slice none 0 0), (by first | rfl | (simp; done) | (simp [*]; done)), H', ⟨Nat.le_refl _⟩, ⟨by first | exact Kd.R_nil _ _ _ _ _ | exact Kd.N_nil _ _ _ _ _ | exact Kd.V_nil _ _ _ _ _ | exact Kd.Q_nil _ _ _ _ _ | exact Kd.S_nil _ _ _ _ _⟩, ⟨bk BK518⟩, ⟨bk BK519⟩, ⟨bl HB⟩⟩
   case round =>
    clear H'
    obtain ⟨x0_2, x520001_2, u520001, rfl, HA, HK2, HO_520001, BK518, BK519, HB⟩ := hrel
    cases gk with
    | zero => exact absurd HA.out (by simp [bocageref01_Of.l0])
    | succ k2 =>
     have H := HA.out
     clear HA
     simp only [bocageref01_Of.l0] at H
     by_cases c10 : x0_2 = 0
     ·rw [if_pos c10] at H
      have c10b0 : (x0_2 == 0) = true := beq_iff_eq.mpr c10
      have c10b1 : (x0_2 != 0) = false := bne_eq_false_iff_eq.mpr c10
      clear c10
      by_cases c11 : (x520001_2.length : Int) = 0
      ·rw [if_pos c11] at H
       have c11b0 : ((x520001_2.length : Int) == 0) = true := beq_iff_eq.mpr c11
       have c11b1 : ((x520001_2.length : Int) != 0) = false := bne_eq_false_iff_eq.mpr c11
       clear c11
       simp only [Option.some.injEq, Prod.mk.injEq] at H
       obtain ⟨rfl, rfl⟩ := H
       have hnb12 := NB519_518.out
       have hnc12 := NB518_519.out
       have hcz13_0 : wr.cell? ⟨gb519, 0, none⟩ = some (.int .i64 x520000_1) := (blk_cell BK519.out 0).trans rfl
       have hcz13_1 : wr.cell? ⟨gb519, 1, none⟩ = some (u520001) := (blk_cell BK519.out 1).trans rfl
       have hfz13_0 := blk_frozen BK519.out 0
       have hfz13_1 := blk_frozen BK519.out 1
       obtain ⟨Ao14, co14, eo14⟩ := Kd.R_slice HO_520001.out
       subst eo14
       have hcz15_0 : wr.cell? ⟨gb518, 0, none⟩ = some (.int .i64 0) := (blk_cell BK518.out 0).trans rfl
       have hcz15_1 : wr.cell? ⟨gb518, 1, none⟩ = some (.slice none 0 0) := (blk_cell BK518.out 1).trans rfl
       have hfz15_0 := blk_frozen BK518.out 0
       have hfz15_1 := blk_frozen BK518.out 1
       go_wp2
       refine bodyPost_ret (results_cell_row rfl _ _ gb518 78 #[.int .i64 0, .slice Ao14 x520001_2.length co14] (0, 0) _ rfl (by (with_reducible repeat (first | refine blk_drewN ?_ _ | refine blk_drew ?_ | refine blk_alloc ?_ _)); refine blk_put (cs := #[.int .i64 0, .slice none 0 0]) ?_ 1 _ rfl; (with_reducible repeat (first | refine blk_drewN ?_ _ | refine blk_drew ?_ | refine blk_alloc ?_ _)); refine blk_put (cs := #[.int .i64 0, .slice none 0 0]) ?_ 0 _ rfl; (with_reducible repeat (first | refine blk_drewN ?_ _ | refine blk_drew ?_ | refine blk_alloc ?_ _)); refine blk_far ?_ NB518_519.out _; (with_reducible repeat (first | refine blk_drewN ?_ _ | refine blk_drew ?_ | refine blk_alloc ?_ _)); exact BK518.out) Try.underlying78 rfl (by kernel_rfl)) rfl ?_
       exact ⟨_, by first | rfl | (simp [errW_none, errW_some] <;> rfl) | (simp [*, errW_none, errW_some] <;> rfl), by (with_reducible repeat (first | apply Kd.R_alloc | apply Kd.R_drewN | apply Kd.R_drew)); exact Kd.R_mono (Kd.R_far (p := ⟨gb518, 1, none⟩) (Kd.R_far (p := ⟨gb518, 0, none⟩) (Kd.R_far (p := ⟨gb519, 0, none⟩) (Kd.R_types (Kd.R_types HO_520001.out BK519.out (by decide)) BK518.out (by decide)) (fun _ hk => hk.1.2) (.int .i64 0)) (fun _ hk => hk.2) (.int .i64 0)) (fun _ hk => hk.2) (.slice Ao14 x520001_2.length co14)) (fun _ hk => trivial), by repeat (first | (with_reducible first | exact HB.out | apply below_alloc | apply pw_below_drewN | apply below_drew1 | refine below_set ?_ GE518.out | refine below_set ?_ GE519.out) | exact HB.out)⟩
      ·rw [if_neg c11] at H
       have c11b0 : ((x520001_2.length : Int) == 0) = false := beq_eq_false_iff_ne.mpr c11
       have c11b1 : ((x520001_2.length : Int) != 0) = true := bne_iff_ne.mpr c11
       have c11b2 : ¬ (x520001_2 = []) := fun h_ => c11 (by rw [h_]; rfl)
       simp only [Option.some.injEq, Prod.mk.injEq] at H
       obtain ⟨rfl, rfl⟩ := H
       have hnb16 := NB519_518.out
       have hnc16 := NB518_519.out
       have hcz17_0 : wr.cell? ⟨gb519, 0, none⟩ = some (.int .i64 x520000_1) := (blk_cell BK519.out 0).trans rfl
       have hcz17_1 : wr.cell? ⟨gb519, 1, none⟩ = some (u520001) := (blk_cell BK519.out 1).trans rfl
       have hfz17_0 := blk_frozen BK519.out 0
       have hfz17_1 := blk_frozen BK519.out 1
       obtain ⟨Ao18, co18, eo18⟩ := Kd.R_slice HO_520001.out
       subst eo18
       have hcz19_0 : wr.cell? ⟨gb518, 0, none⟩ = some (.int .i64 0) := (blk_cell BK518.out 0).trans rfl
       have hcz19_1 : wr.cell? ⟨gb518, 1, none⟩ = some (.slice none 0 0) := (blk_cell BK518.out 1).trans rfl
       have hfz19_0 := blk_frozen BK518.out 0
       have hfz19_1 := blk_frozen BK518.out 1
       go_wp2
       refine bodyPost_ret (results_cell_row rfl _ _ gb518 78 #[.int .i64 x520000_1, .slice Ao18 x520001_2.length co18] (0, 0) _ rfl (bkp BK518) Try.underlying78 rfl (by kernel_rfl)) rfl ?_
       exact ⟨_, by first | rfl | (simp [errW_none, errW_some] <;> rfl) | (simp [*, errW_none, errW_some] <;> rfl), by (with_reducible repeat (first | apply Kd.R_alloc | apply Kd.R_drewN | apply Kd.R_drew)); exact Kd.R_mono (Kd.R_far (p := ⟨gb518, 1, none⟩) (Kd.R_far (p := ⟨gb518, 0, none⟩) (Kd.R_types HO_520001.out BK518.out (by decide)) (fun _ hk => hk.2) (.int .i64 x520000_1)) (fun _ hk => hk.2) (.slice Ao18 x520001_2.length co18)) (fun _ hk => trivial), by repeat (first | (with_reducible first | exact HB.out | apply below_alloc | apply pw_below_drewN | apply below_drew1 | refine below_set ?_ GE518.out | refine below_set ?_ GE519.out) | exact HB.out)⟩
     ·rw [if_neg c10] at H
      have c10b0 : (x0_2 == 0) = false := beq_eq_false_iff_ne.mpr c10
      have c10b1 : (x0_2 != 0) = true := bne_iff_ne.mpr c10
      by_cases c20 : (Int.tmod x0_2 10) < 0
      ·rw [if_pos c20] at H
       have c20b0 : decide ((Int.tmod x0_2 10) < 0) = true := decide_eq_true c20
       clear c20
       by_cases c21 : x520001_2.length < 17592186044416
       ·rw [if_pos c21] at H
        have LMc21 := Aside0.mk c21
        clear c21
        obtain ⟨y520, hy520⟩ : ∃ y_ : List Int, y_ = (x520001_2 ++ [wrap64 (-(Int.tmod x0_2 10))]) := ⟨_, rfl⟩
        replace H : (bocageref01_Of.l0 k2 (wrap64 (Int.tdiv x0_2 10)) x520000_1 y520) = some (r1, r2) := by first | (rw [hy520]; with_reducible exact H) | (have H2_ := (Option.bind_some _ _).symm.trans H; rw [hy520]; with_reducible exact H2_) | (have H2_ := (Option.bind_some _ _).symm.trans H; with_reducible exact H2_) | with_reducible exact H | (rw [hy520]; exact H) | exact H
        have Ny520 := Aside0.mk hy520
        clear hy520
        have H' := Aside0.mk H
        clear H
        have hnb22 := NB519_518.out
        have hnc22 := NB518_519.out
        have hcz23_0 : wr.cell? ⟨gb519, 0, none⟩ = some (.int .i64 x520000_1) := (blk_cell BK519.out 0).trans rfl
        have hcz23_1 : wr.cell? ⟨gb519, 1, none⟩ = some (u520001) := (blk_cell BK519.out 1).trans rfl
        have hfz23_0 := blk_frozen BK519.out 0
        have hfz23_1 := blk_frozen BK519.out 1
        go_wp2_with (first | ((with_reducible refine gate_builtin (b := .append) (xs := #[.tmp 18, .tmp 20]) rfl ?_); at_builtin; refine Kd.R_append (Kd.int .i64) (w0 := w) w.heap.size rfl (.tmp 18) (.tmp 20) 76 3 (.int .i64 0) 8 rfl Try.underlying76 info3 rfl (by decide) (by omega) u520001 x520001_2 (wrap64 (-(Int.tmod x0_2 10))) [.int .i64 (wrap64 (-(Int.tmod x0_2 10)))] (fun _ => True) (fun _ => False) rfl rfl ?aP (fun _ hk => hk.elim) ?aF ?aO ?aB ?aS ?aL ?_; (case aP => exact rfl); (case aB => exact (bl HB)); (case aF => exact (fun _ _ => trivial)); (case aO => exact (kr HO_520001)); (case aS => exact (below_size (bl HB))); (case aL => have := LMc21.out; omega); intro v521 w24 ho hb hg hat; rw [← Ny520.out] at ho; replace BK518 := Aside0.mk (blk_grown (bk BK518) hg (Kd.R_ne HO_520001.out BK518.out (by decide))); replace BK519 := Aside0.mk (blk_grown (bk BK519) hg (Kd.R_ne HO_520001.out BK519.out (by decide))); replace HB := Aside0.mk (hb); have HO522 := Aside0.mk (ho); clear HO_520001; clear ho hb hg hat; obtain ⟨Ao25, co25, eo25⟩ := Kd.R_slice HO522.out; subst eo25; obtain ⟨hcz26_0, hcz26_1⟩ := e2 BK519; obtain ⟨hfz26_0, hfz26_1⟩ := f2 BK519))
        go_roundg k2
        case measure => have := HJ1.out; have := HK2.out; omega
        case rel => exact ⟨(wrap64 (Int.tdiv x0_2 10)), (y520), (.slice Ao25 y520.length co25), (by first | rfl | (simp; done) | (simp [*]; done)), H', ⟨by have := HJ1.out; have := HK2.out; omega⟩, ⟨by (with_reducible repeat (first | apply Kd.R_alloc | apply Kd.R_drewN | apply Kd.R_drew)); exact Kd.R_mono (Kd.R_far (p := ⟨gb519, 1, none⟩) (Kd.R_types HO522.out BK519.out (by decide)) (fun _ hk => hk.2) (.slice Ao25 y520.length co25)) (fun _ hk => trivial)⟩, ⟨by (with_reducible repeat (first | refine blk_drewN ?_ _ | refine blk_drew ?_ | refine blk_alloc ?_ _)); refine blk_far ?_ NB518_519.out _; (with_reducible repeat (first | refine blk_drewN ?_ _ | refine blk_drew ?_ | refine blk_alloc ?_ _)); exact BK518.out⟩, ⟨by (with_reducible repeat (first | refine blk_drewN ?_ _ | refine blk_drew ?_ | refine blk_alloc ?_ _)); refine blk_put (cs := #[.int .i64 x520000_1, u520001]) ?_ 1 _ rfl; (with_reducible repeat (first | refine blk_drewN ?_ _ | refine blk_drew ?_ | refine blk_alloc ?_ _)); exact BK519.out⟩, ⟨bl HB⟩⟩
       ·rw [if_neg c21] at H
        exact absurd H (by simp)
      ·rw [if_neg c20] at H
       have c20b0 : decide ((Int.tmod x0_2 10) < 0) = false := decide_eq_false c20
       clear c20
       by_cases c27 : x520001_2.length < 17592186044416
       ·rw [if_pos c27] at H
        have LMc27 := Aside0.mk c27
        clear c27
        obtain ⟨y523, hy523⟩ : ∃ y_ : List Int, y_ = (x520001_2 ++ [Int.tmod x0_2 10]) := ⟨_, rfl⟩
        replace H : (bocageref01_Of.l0 k2 (wrap64 (Int.tdiv x0_2 10)) x520000_1 y523) = some (r1, r2) := by first | (rw [hy523]; with_reducible exact H) | (have H2_ := (Option.bind_some _ _).symm.trans H; rw [hy523]; with_reducible exact H2_) | (have H2_ := (Option.bind_some _ _).symm.trans H; with_reducible exact H2_) | with_reducible exact H | (rw [hy523]; exact H) | exact H
        have Ny523 := Aside0.mk hy523
        clear hy523
        have H' := Aside0.mk H
        clear H
        have hnb28 := NB519_518.out
        have hnc28 := NB518_519.out
        have hcz29_0 : wr.cell? ⟨gb519, 0, none⟩ = some (.int .i64 x520000_1) := (blk_cell BK519.out 0).trans rfl
        have hcz29_1 : wr.cell? ⟨gb519, 1, none⟩ = some (u520001) := (blk_cell BK519.out 1).trans rfl
        have hfz29_0 := blk_frozen BK519.out 0
        have hfz29_1 := blk_frozen BK519.out 1
        go_wp2_with (first | ((with_reducible refine gate_builtin (b := .append) (xs := #[.tmp 18, .tmp 20]) rfl ?_); at_builtin; refine Kd.R_append (Kd.int .i64) (w0 := w) w.heap.size rfl (.tmp 18) (.tmp 20) 76 3 (.int .i64 0) 8 rfl Try.underlying76 info3 rfl (by decide) (by omega) u520001 x520001_2 (Int.tmod x0_2 10) [.int .i64 (Int.tmod x0_2 10)] (fun _ => True) (fun _ => False) rfl rfl ?aP (fun _ hk => hk.elim) ?aF ?aO ?aB ?aS ?aL ?_; (case aP => exact rfl); (case aB => exact (bl HB)); (case aF => exact (fun _ _ => trivial)); (case aO => exact (kr HO_520001)); (case aS => exact (below_size (bl HB))); (case aL => have := LMc27.out; omega); intro v524 w30 ho hb hg hat; rw [← Ny523.out] at ho; replace BK518 := Aside0.mk (blk_grown (bk BK518) hg (Kd.R_ne HO_520001.out BK518.out (by decide))); replace BK519 := Aside0.mk (blk_grown (bk BK519) hg (Kd.R_ne HO_520001.out BK519.out (by decide))); replace HB := Aside0.mk (hb); have HO525 := Aside0.mk (ho); clear HO_520001; clear ho hb hg hat; obtain ⟨Ao31, co31, eo31⟩ := Kd.R_slice HO525.out; subst eo31; obtain ⟨hcz32_0, hcz32_1⟩ := e2 BK519; obtain ⟨hfz32_0, hfz32_1⟩ := f2 BK519))
        go_roundg k2
        case measure => have := HJ1.out; have := HK2.out; omega
        case rel => exact ⟨(wrap64 (Int.tdiv x0_2 10)), (y523), (.slice Ao31 y523.length co31), (by first | rfl | (simp; done) | (simp [*]; done)), H', ⟨by have := HJ1.out; have := HK2.out; omega⟩, ⟨by (with_reducible repeat (first | apply Kd.R_alloc | apply Kd.R_drewN | apply Kd.R_drew)); exact Kd.R_mono (Kd.R_far (p := ⟨gb519, 1, none⟩) (Kd.R_types HO525.out BK519.out (by decide)) (fun _ hk => hk.2) (.slice Ao31 y523.length co31)) (fun _ hk => trivial)⟩, ⟨by (with_reducible repeat (first | refine blk_drewN ?_ _ | refine blk_drew ?_ | refine blk_alloc ?_ _)); refine blk_far ?_ NB518_519.out _; (with_reducible repeat (first | refine blk_drewN ?_ _ | refine blk_drew ?_ | refine blk_alloc ?_ _)); exact BK518.out⟩, ⟨by (with_reducible repeat (first | refine blk_drewN ?_ _ | refine blk_drew ?_ | refine blk_alloc ?_ _)); refine blk_put (cs := #[.int .i64 x520000_1, u520001]) ?_ 1 _ rfl; (with_reducible repeat (first | refine blk_drewN ?_ _ | refine blk_drew ?_ | refine blk_alloc ?_ _)); exact BK519.out⟩, ⟨bl HB⟩⟩
       ·rw [if_neg c27] at H
        exact absurd H (by simp)
/-! ### bocageref01_Text: function 50 -/
def bocageref01_Text.l0 : Nat → ByteArray → Int → Int → List Int → Option (ByteArray)
 | 0, _, _, _, _ => none
 | k + 1, x4, x5, x531000, x531001 => if x5 < (x531001.length : Int) then (if 0 ≤ x5 then (if 0 ≤ (rd x531001 x5) then (if (rd x531001 x5) ≤ (wrap64 ((rd x531001 x5) + 1)) then (if (wrap64 ((rd x531001 x5) + 1)) ≤ 10 then (if ((⟨#[48, 49, 50, 51, 52, 53, 54, 55, 56, 57]⟩ : ByteArray).extract ((rd x531001 x5) : Int).toNat ((wrap64 ((rd x531001 x5) + 1)) : Int).toNat).size + x4.size ≤ 9223372036854775807 then (bocageref01_Text.l0 k (((⟨#[48, 49, 50, 51, 52, 53, 54, 55, 56, 57]⟩ : ByteArray).extract ((rd x531001 x5) : Int).toNat ((wrap64 ((rd x531001 x5) + 1)) : Int).toNat) ++ x4) (wrap64 (x5 + 1)) x531000 x531001) else (none)) else (none)) else (none)) else (none)) else (none)) else (if x531000 < 0 then (if 1 + x4.size ≤ 9223372036854775807 then (some ((⟨#[45]⟩ : ByteArray) ++ x4)) else (none)) else (if x531000 = 0 then (some (⟨#[48]⟩ : ByteArray)) else (some x4)))
def bocageref01_Text.f (k : Nat) (a0 : Int) : Option (ByteArray) := (bocageref01_Of.f k a0).bind fun bt526 => (bocageref01_Text.l0 k (⟨#[]⟩ : ByteArray) 0 bt526.1 bt526.2)
theorem bocageref01_Text.mono_l : ∀ k, (∀ y0 y1 y2 y3, LeO (bocageref01_Text.l0 k y0 y1 y2 y3) (bocageref01_Text.l0 (k + 1) y0 y1 y2 y3))
 | 0 => fun _ _ _ _ r h => by simp [bocageref01_Text.l0] at h
 | k + 1 => by
  have ih0 := bocageref01_Text.mono_l k
  ·intro y0 y1 y2 y3
   unfold bocageref01_Text.l0
   repeat' first
   | (with_reducible exact ih0 _ _ _ _)
   | (with_reducible exact bocageref01_Of.mono _ _)
   | (with_reducible exact LeO.refl _)
   | (with_reducible exact LeO.none _)
   | (with_reducible refine LeO.ite ?_ ?_)
   | (with_reducible refine LeO.bind ?_ (fun _ => ?_))
   | exact ih0 _ _ _ _
   | exact bocageref01_Of.mono _ _
   | exact LeO.none _
   | refine LeO.ite ?_ ?_
   | refine LeO.bind ?_ (fun _ => ?_)
theorem bocageref01_Text.mono : ∀ a0 k, LeO (bocageref01_Text.f k a0) (bocageref01_Text.f (k + 1) a0) := by
 intro a0 k
 have ih0 := bocageref01_Text.mono_l k
 unfold bocageref01_Text.f
 repeat' first
   | (with_reducible exact ih0 _ _ _ _)
   | (with_reducible exact bocageref01_Of.mono _ _)
   | (with_reducible exact LeO.refl _)
   | (with_reducible exact LeO.none _)
   | (with_reducible refine LeO.ite ?_ ?_)
   | (with_reducible refine LeO.bind ?_ (fun _ => ?_))
   | exact ih0 _ _ _ _
   | exact bocageref01_Of.mono _ _
   | exact LeO.none _
   | refine LeO.ite ?_ ?_
   | refine LeO.bind ?_ (fun _ => ?_)
set_option maxHeartbeats 8000000 in
set_option maxRecDepth 100000 in
theorem bocageref01_Text.calls (k : Nat) (a0 : Int) (r : ByteArray) (w : World) (h : bocageref01_Text.f k a0 = some r) :
  Calls Try.prog 50 #[.int .i64 a0] w fun e w' => e = .returned (.string r) ∧ Below w.heap.size w w' := by
 have hu78 := Try.underlying78
 have HB := Aside0.mk (Below.refl w.heap.size w)
 have H : ((bocageref01_Of.f k a0).bind fun bt526 => (bocageref01_Text.l0 k (⟨#[]⟩ : ByteArray) 0 bt526.1 bt526.2)) = some r := h
 clear h
 replace H := Option.bind_eq_some_iff.mp H
 obtain ⟨⟨t526, t527⟩, A20, H⟩ := H
 replace H : (bocageref01_Text.l0 k (⟨#[]⟩ : ByteArray) 0 t526 t527) = some r := H
 have A2 := Aside0.mk A20
 clear A20
 have H' := Aside0.mk H
 clear H
 go_enter Try.func50, Try.ntmps50
 go_wp2_with (first | (go_at_call 64; (with_reducible refine (bocageref01_Of.calls k a0 t526 t527 _ A2.out).mono ?_); rintro e w3 ⟨v528, rfl, ho0, hb⟩; have HO529 := Aside0.mk (Kd.R_lower ho0 (below_size (bl HB))); replace HB := bst HB hb; (try clear hb); (try clear hb2); (try clear hk); (try clear hi); (try clear ho0)) | ((with_reducible refine gate_dst (N := 3) rfl ?_); refine bxe (N := 3) (cs := #[.int .i64 0, .slice none 0 0]) (t := 78) ?_; intro gb530 hg w4 hbox hb; replace HO529 := krb HO529 hb; have BK530 := Aside0.mk (hbox); have GW530 := lsz hg HB; have GE530 := lsz hg HB; replace HB := bst HB hb; clear hb hbox hg; obtain ⟨hcz5_0, hcz5_1⟩ := e2 BK530; obtain ⟨hfz5_0, hfz5_1⟩ := f2 BK530; obtain ⟨Ao6, co6, eo6⟩ := Kd.R_slice HO529.out; subst eo6))
 repeat (go_quiet (first | (go_at_call 64; (with_reducible refine (bocageref01_Of.calls k a0 t526 t527 _ A2.out).mono ?_); rintro e w3 ⟨v528, rfl, ho0, hb⟩; have HO529 := Aside0.mk (Kd.R_lower ho0 (below_size (bl HB))); replace HB := bst HB hb; (try clear hb); (try clear hb2); (try clear hk); (try clear hi); (try clear ho0)) | ((with_reducible refine gate_dst (N := 3) rfl ?_); refine bxe (N := 3) (cs := #[.int .i64 0, .slice none 0 0]) (t := 78) ?_; intro gb530 hg w4 hbox hb; replace HO529 := krb HO529 hb; have BK530 := Aside0.mk (hbox); have GW530 := lsz hg HB; have GE530 := lsz hg HB; replace HB := bst HB hb; clear hb hbox hg; obtain ⟨hcz5_0, hcz5_1⟩ := e2 BK530; obtain ⟨hfz5_0, hfz5_1⟩ := f2 BK530; obtain ⟨Ao6, co6, eo6⟩ := Kd.R_slice HO529.out; subst eo6)); try go_wp2_with (first | (go_at_call 64; (with_reducible refine (bocageref01_Of.calls k a0 t526 t527 _ A2.out).mono ?_); rintro e w3 ⟨v528, rfl, ho0, hb⟩; have HO529 := Aside0.mk (Kd.R_lower ho0 (below_size (bl HB))); replace HB := bst HB hb; (try clear hb); (try clear hb2); (try clear hk); (try clear hi); (try clear ho0)) | ((with_reducible refine gate_dst (N := 3) rfl ?_); refine bxe (N := 3) (cs := #[.int .i64 0, .slice none 0 0]) (t := 78) ?_; intro gb530 hg w4 hbox hb; replace HO529 := krb HO529 hb; have BK530 := Aside0.mk (hbox); have GW530 := lsz hg HB; have GE530 := lsz hg HB; replace HB := bst HB hb; clear hb hbox hg; obtain ⟨hcz5_0, hcz5_1⟩ := e2 BK530; obtain ⟨hfz5_0, hfz5_1⟩ := f2 BK530; obtain ⟨Ao6, co6, eo6⟩ := Kd.R_slice HO529.out; subst eo6)))
 go_loopg [4, 5] k (fun kq v4 v5 w' => ∃ (x4_1 : ByteArray) (x5_1 : Int), v4 = .string x4_1 ∧ v5 = .int .i64 x5_1 ∧ Aside0 (bocageref01_Text.l0 kq x4_1 x5_1 t526 t527 = some r) ∧ Aside0 (kq ≤ k) ∧ Aside0 (Kd.R (Kd.int .i64) 3 w' w.heap.size (fun _ => True) (.slice Ao6 t527.length co6) t527) ∧ Aside0 (w'.heap[gb530]? = some (.cells #[.int .i64 t526, (.slice Ao6 t527.length co6)] 78 (0, 0))) ∧ Aside0 (Below w.heap.size w w'))
 case atStart => exact ⟨((⟨#[]⟩ : ByteArray)), (0), (by first | rfl | (simp; done) | (simp [*]; done)), (by first | rfl | (simp; done) | (simp [*]; done)), H', ⟨Nat.le_refl _⟩, ⟨by (with_reducible repeat (first | apply Kd.R_alloc | apply Kd.R_drewN | apply Kd.R_drew)); exact Kd.R_mono (Kd.R_far (p := ⟨gb530, 1, none⟩) (Kd.R_far (p := ⟨gb530, 0, none⟩) (Kd.R_types HO529.out BK530.out (by decide)) (fun _ hk => hk.2) (.int .i64 t526)) (fun _ hk => hk.2) (.slice Ao6 t527.length co6)) (fun _ hk => trivial)⟩, ⟨by (with_reducible repeat (first | refine blk_drewN ?_ _ | refine blk_drew ?_ | refine blk_alloc ?_ _)); refine blk_put (cs := #[.int .i64 t526, .slice none 0 0]) ?_ 1 _ rfl; (with_reducible repeat (first | refine blk_drewN ?_ _ | refine blk_drew ?_ | refine blk_alloc ?_ _)); refine blk_put (cs := #[.int .i64 0, .slice none 0 0]) ?_ 0 _ rfl; (with_reducible repeat (first | refine blk_drewN ?_ _ | refine blk_drew ?_ | refine blk_alloc ?_ _)); exact BK530.out⟩, ⟨bl HB⟩⟩
 case round =>
  clear H'
  try clear hcz5_0
  try clear hcz5_1
  try clear hfz5_0
  try clear hfz5_1
  obtain ⟨x4_1, x5_1, rfl, rfl, HA, HK1, HO_531001, BK530, HB⟩ := hrel
  cases gk with
  | zero => exact absurd HA.out (by simp [bocageref01_Text.l0])
  | succ k1 =>
   have H := HA.out
   clear HA
   simp only [bocageref01_Text.l0] at H
   by_cases c7 : x5_1 < (t527.length : Int)
   ·rw [if_pos c7] at H
    have c7b0 : decide (x5_1 < (t527.length : Int)) = true := decide_eq_true c7
    clear c7
    by_cases c8 : 0 ≤ x5_1
    ·rw [if_pos c8] at H
     have c8b0 : decide (0 ≤ x5_1) = true := decide_eq_true c8
     clear c8
     by_cases c9 : 0 ≤ (rd t527 x5_1)
     ·rw [if_pos c9] at H
      have c9b0 := eq_true c9
      have c9b1 : decide (0 ≤ (rd t527 x5_1)) = true := decide_eq_true c9
      clear c9
      by_cases c10 : (rd t527 x5_1) ≤ (wrap64 ((rd t527 x5_1) + 1))
      ·rw [if_pos c10] at H
       have c10b0 := eq_true c10
       have c10b1 : decide ((rd t527 x5_1) ≤ (wrap64 ((rd t527 x5_1) + 1))) = true := decide_eq_true c10
       by_cases c11 : (wrap64 ((rd t527 x5_1) + 1)) ≤ 10
       ·rw [if_pos c11] at H
        have c11b0 := eq_true c11
        have c11b1 : decide ((wrap64 ((rd t527 x5_1) + 1)) ≤ 10) = true := decide_eq_true c11
        by_cases c12 : ((⟨#[48, 49, 50, 51, 52, 53, 54, 55, 56, 57]⟩ : ByteArray).extract ((rd t527 x5_1) : Int).toNat ((wrap64 ((rd t527 x5_1) + 1)) : Int).toNat).size + x4_1.size ≤ 9223372036854775807
        ·rw [if_pos c12] at H
         have c12b0 := eq_true c12
         have c12b1 : decide (((⟨#[48, 49, 50, 51, 52, 53, 54, 55, 56, 57]⟩ : ByteArray).extract ((rd t527 x5_1) : Int).toNat ((wrap64 ((rd t527 x5_1) + 1)) : Int).toNat).size + x4_1.size ≤ 9223372036854775807) = true := decide_eq_true c12
         try have c12b2 : (9223372036854775807 < ((⟨#[48, 49, 50, 51, 52, 53, 54, 55, 56, 57]⟩ : ByteArray).extract ((rd t527 x5_1) : Int).toNat ((wrap64 ((rd t527 x5_1) + 1)) : Int).toNat).size + x4_1.size) = False := eq_false (Nat.not_lt.2 c12)
         have H' := Aside0.mk H
         clear H
         have hcz13_0 : wr.cell? ⟨gb530, 0, none⟩ = some (.int .i64 t526) := (blk_cell BK530.out 0).trans rfl
         have hcz13_1 : wr.cell? ⟨gb530, 1, none⟩ = some (.slice Ao6 t527.length co6) := (blk_cell BK530.out 1).trans rfl
         have hfz13_0 := blk_frozen BK530.out 0
         have hfz13_1 := blk_frozen BK530.out 1
         have p531 : 0 ≤ (x5_1 : Int) := of_decide_eq_true (by first | (with_reducible assumption) | assumption)
         have q531 : x5_1 < (t527.length : Int) := of_decide_eq_true (by first | (with_reducible assumption) | assumption)
         obtain ⟨ad531, e531, hx531_0⟩ := Kd.at_int (Kd.R_reads' HO_531001.out).2.2 x5_1 p531 q531
         cases e531
         replace p531 := eq_true p531
         replace q531 := eq_true q531
         have p532 : 0 ≤ (x5_1 : Int) := of_decide_eq_true (by first | (with_reducible assumption) | assumption)
         have q532 : x5_1 < (t527.length : Int) := of_decide_eq_true (by first | (with_reducible assumption) | assumption)
         obtain ⟨ad532, e532, hx532_0⟩ := Kd.at_int (Kd.R_reads' HO_531001.out).2.2 x5_1 p532 q532
         obtain rfl : ad531 = ad532 := (by injection e532)
         replace p532 := eq_true p532
         replace q532 := eq_true q532
         go_wp2
         repeat (go_quiet (fail); try go_wp2)
         go_roundg k1
         case measure => have := HK1.out; omega
         case rel => exact ⟨(((⟨#[48, 49, 50, 51, 52, 53, 54, 55, 56, 57]⟩ : ByteArray).extract ((rd t527 x5_1) : Int).toNat ((wrap64 ((rd t527 x5_1) + 1)) : Int).toNat) ++ x4_1), (wrap64 (x5_1 + 1)), (by first | rfl | (simp; done) | (simp [*]; done)), (by first | rfl | (simp; done) | (simp [*]; done)), H', ⟨by have := HK1.out; omega⟩, ⟨kr HO_531001⟩, ⟨bk BK530⟩, ⟨bl HB⟩⟩
        ·rw [if_neg c12] at H
         exact absurd H (by simp)
       ·rw [if_neg c11] at H
        exact absurd H (by simp)
      ·rw [if_neg c10] at H
       exact absurd H (by simp)
     ·rw [if_neg c9] at H
      exact absurd H (by simp)
    ·rw [if_neg c8] at H
     exact absurd H (by simp)
   ·rw [if_neg c7] at H
    have c7b0 : decide (x5_1 < (t527.length : Int)) = false := decide_eq_false c7
    clear c7
    by_cases c14 : t526 < 0
    ·rw [if_pos c14] at H
     have c14b0 : decide (t526 < 0) = true := decide_eq_true c14
     clear c14
     by_cases c15 : 1 + x4_1.size ≤ 9223372036854775807
     ·rw [if_pos c15] at H
      have c15b0 := eq_true c15
      have c15b1 : decide (1 + x4_1.size ≤ 9223372036854775807) = true := decide_eq_true c15
      try have c15b2 : (9223372036854775807 < 1 + x4_1.size) = False := eq_false (Nat.not_lt.2 c15)
      obtain rfl := Option.some.inj H
      have hcz16_0 : wr.cell? ⟨gb530, 0, none⟩ = some (.int .i64 t526) := (blk_cell BK530.out 0).trans rfl
      have hcz16_1 : wr.cell? ⟨gb530, 1, none⟩ = some (.slice Ao6 t527.length co6) := (blk_cell BK530.out 1).trans rfl
      have hfz16_0 := blk_frozen BK530.out 0
      have hfz16_1 := blk_frozen BK530.out 1
      go_wp2
      repeat (go_quiet (fail); try go_wp2)
      go_ret
      exact endB HB
     ·rw [if_neg c15] at H
      exact absurd H (by simp)
    ·rw [if_neg c14] at H
     have c14b0 : decide (t526 < 0) = false := decide_eq_false c14
     clear c14
     by_cases c17 : t526 = 0
     ·rw [if_pos c17] at H
      have c17b0 : (t526 == 0) = true := beq_iff_eq.mpr c17
      have c17b1 : (t526 != 0) = false := bne_eq_false_iff_eq.mpr c17
      clear c17
      obtain rfl := Option.some.inj H
      have hcz18_0 : wr.cell? ⟨gb530, 0, none⟩ = some (.int .i64 t526) := (blk_cell BK530.out 0).trans rfl
      have hcz18_1 : wr.cell? ⟨gb530, 1, none⟩ = some (.slice Ao6 t527.length co6) := (blk_cell BK530.out 1).trans rfl
      have hfz18_0 := blk_frozen BK530.out 0
      have hfz18_1 := blk_frozen BK530.out 1
      go_wp2
      repeat (go_quiet (fail); try go_wp2)
      go_ret
      exact endB HB
     ·rw [if_neg c17] at H
      have c17b0 : (t526 == 0) = false := beq_eq_false_iff_ne.mpr c17
      have c17b1 : (t526 != 0) = true := bne_iff_ne.mpr c17
      obtain rfl := Option.some.inj H
      have hcz19_0 : wr.cell? ⟨gb530, 0, none⟩ = some (.int .i64 t526) := (blk_cell BK530.out 0).trans rfl
      have hcz19_1 : wr.cell? ⟨gb530, 1, none⟩ = some (.slice Ao6 t527.length co6) := (blk_cell BK530.out 1).trans rfl
      have hfz19_0 := blk_frozen BK530.out 0
      have hfz19_1 := blk_frozen BK530.out 1
      go_wp2
      repeat (go_quiet (fail); try go_wp2)
      go_ret
      exact endB HB
/-! ### bocageref02_Text: function 48 -/
def bocageref02_Text.f (k : Nat) (a0_0 : Int) (a0_1 : Int) : Option (ByteArray) := (bocageref02_Canon.f k a0_0 a0_1).bind fun bt534 => (if bt534.1 < 0 then (some (⟨#[45, 105, 110, 102]⟩ : ByteArray)) else (if bt534.1 > 0 then (some (⟨#[43, 105, 110, 102]⟩ : ByteArray)) else ((bocageref01_Text.f k bt534.2).bind fun t536 => (some t536))))
theorem bocageref02_Text.mono : ∀ a0 a1 k, LeO (bocageref02_Text.f k a0 a1) (bocageref02_Text.f (k + 1) a0 a1) := by
 intro a0 a1 k
 unfold bocageref02_Text.f
 repeat' first
   | (with_reducible exact bocageref01_Text.mono _ _)
   | (with_reducible exact bocageref02_Canon.mono _ _ _)
   | (with_reducible exact LeO.refl _)
   | (with_reducible exact LeO.none _)
   | (with_reducible refine LeO.ite ?_ ?_)
   | (with_reducible refine LeO.bind ?_ (fun _ => ?_))
   | exact bocageref01_Text.mono _ _
   | exact bocageref02_Canon.mono _ _ _
   | exact LeO.none _
   | refine LeO.ite ?_ ?_
   | refine LeO.bind ?_ (fun _ => ?_)
set_option maxHeartbeats 8000000 in
set_option maxRecDepth 100000 in
theorem bocageref02_Text.calls (k : Nat) (a0_0 : Int) (a0_1 : Int) (r : ByteArray) (w : World) (h : bocageref02_Text.f k a0_0 a0_1 = some r) :
  Calls Try.prog 48 #[.agg #[.int .i64 a0_0, .int .i64 a0_1]] w fun e w' => e = .returned (.string r) ∧ Below w.heap.size w w' := by
 have hu25 := Try.underlying25
 have HB := Aside0.mk (Below.refl w.heap.size w)
 have H : ((bocageref02_Canon.f k a0_0 a0_1).bind fun bt534 => (if bt534.1 < 0 then (some (⟨#[45, 105, 110, 102]⟩ : ByteArray)) else (if bt534.1 > 0 then (some (⟨#[43, 105, 110, 102]⟩ : ByteArray)) else ((bocageref01_Text.f k bt534.2).bind fun t536 => (some t536))))) = some r := h
 clear h
 replace H := Option.bind_eq_some_iff.mp H
 obtain ⟨⟨t534, t535⟩, A20, H⟩ := H
 replace H : (if t534 < 0 then (some (⟨#[45, 105, 110, 102]⟩ : ByteArray)) else (if t534 > 0 then (some (⟨#[43, 105, 110, 102]⟩ : ByteArray)) else ((bocageref01_Text.f k t535).bind fun t536 => (some t536)))) = some r := H
 have A2 := Aside0.mk A20
 clear A20
 by_cases c3 : t534 < 0
 ·rw [if_pos c3] at H
  have c3b0 : decide (t534 < 0) = true := decide_eq_true c3
  clear c3
  obtain rfl := Option.some.inj H
  go_enter Try.func48, Try.ntmps48
  go_wp2_with (first | ((with_reducible refine gate_dst (N := 1) rfl ?_); refine bxe (N := 1) (cs := #[.int .i64 a0_0, .int .i64 a0_1]) (t := 25) ?_; intro gb533 hg w4 hbox hb; have BK533 := Aside0.mk (hbox); have GW533 := lsz hg HB; have GE533 := lsz hg HB; replace HB := bst HB hb; clear hb hbox hg; obtain ⟨hcz5_0, hcz5_1⟩ := e2 BK533; obtain ⟨hfz5_0, hfz5_1⟩ := f2 BK533) | ((with_reducible refine gate_callee (f := 49) rfl ?_); refine gol (some 4) Try.func49 #[.agg #[.int .i64 a0_0, .int .i64 a0_1]] ?_; (with_reducible refine (bocageref02_Canon.calls k a0_0 a0_1 t534 t535 _ A2.out).mono ?_); rintro e w6 ⟨rfl, hb⟩; refine ⟨_, rfl, ?_⟩; replace BK533 := bkb BK533 hb; replace HB := bst HB hb; (try clear hb); (try clear hb2); (try clear hk); (try clear hi); obtain ⟨hcz7_0, hcz7_1⟩ := e2 BK533; obtain ⟨hfz7_0, hfz7_1⟩ := f2 BK533))
  go_ret
  exact endB HB
 ·rw [if_neg c3] at H
  have c3b0 : decide (t534 < 0) = false := decide_eq_false c3
  clear c3
  by_cases c8 : t534 > 0
  ·rw [if_pos c8] at H
   have c8b0 : decide (0 < t534) = true := decide_eq_true c8
   clear c8
   obtain rfl := Option.some.inj H
   go_enter Try.func48, Try.ntmps48
   go_wp2_with (first | ((with_reducible refine gate_dst (N := 1) rfl ?_); refine bxe (N := 1) (cs := #[.int .i64 a0_0, .int .i64 a0_1]) (t := 25) ?_; intro gb533 hg w9 hbox hb; have BK533 := Aside0.mk (hbox); have GW533 := lsz hg HB; have GE533 := lsz hg HB; replace HB := bst HB hb; clear hb hbox hg; obtain ⟨hcz10_0, hcz10_1⟩ := e2 BK533; obtain ⟨hfz10_0, hfz10_1⟩ := f2 BK533) | ((with_reducible refine gate_callee (f := 49) rfl ?_); refine gol (some 4) Try.func49 #[.agg #[.int .i64 a0_0, .int .i64 a0_1]] ?_; (with_reducible refine (bocageref02_Canon.calls k a0_0 a0_1 t534 t535 _ A2.out).mono ?_); rintro e w11 ⟨rfl, hb⟩; refine ⟨_, rfl, ?_⟩; replace BK533 := bkb BK533 hb; replace HB := bst HB hb; (try clear hb); (try clear hb2); (try clear hk); (try clear hi); obtain ⟨hcz12_0, hcz12_1⟩ := e2 BK533; obtain ⟨hfz12_0, hfz12_1⟩ := f2 BK533))
   go_ret
   exact endB HB
  ·rw [if_neg c8] at H
   have c8b0 : decide (0 < t534) = false := decide_eq_false c8
   clear c8
   replace H := Option.bind_eq_some_iff.mp H
   obtain ⟨t536, A130, H⟩ := H
   replace H : (some t536) = some r := H
   have A13 := Aside0.mk A130
   clear A130
   obtain rfl := Option.some.inj H
   go_enter Try.func48, Try.ntmps48
   go_wp2_with (first | ((with_reducible refine gate_dst (N := 1) rfl ?_); refine bxe (N := 1) (cs := #[.int .i64 a0_0, .int .i64 a0_1]) (t := 25) ?_; intro gb533 hg w14 hbox hb; have BK533 := Aside0.mk (hbox); have GW533 := lsz hg HB; have GE533 := lsz hg HB; replace HB := bst HB hb; clear hb hbox hg; obtain ⟨hcz15_0, hcz15_1⟩ := e2 BK533; obtain ⟨hfz15_0, hfz15_1⟩ := f2 BK533) | ((with_reducible refine gate_callee (f := 49) rfl ?_); refine gol (some 4) Try.func49 #[.agg #[.int .i64 a0_0, .int .i64 a0_1]] ?_; (with_reducible refine (bocageref02_Canon.calls k a0_0 a0_1 t534 t535 _ A2.out).mono ?_); rintro e w16 ⟨rfl, hb⟩; refine ⟨_, rfl, ?_⟩; replace BK533 := bkb BK533 hb; replace HB := bst HB hb; (try clear hb); (try clear hb2); (try clear hk); (try clear hi); obtain ⟨hcz17_0, hcz17_1⟩ := e2 BK533; obtain ⟨hfz17_0, hfz17_1⟩ := f2 BK533) | ((with_reducible refine gate_callee (f := 50) rfl ?_); refine gol (some 13) Try.func50 #[.int .i64 t535] ?_; (with_reducible refine (bocageref01_Text.calls k t535 t536 _ A13.out).mono ?_); rintro e w18 ⟨rfl, hb⟩; refine ⟨_, rfl, ?_⟩; replace BK533 := Aside0.mk (blk_below (g := gb533) (o := .cells #[.int .i64 t534, .int .i64 t535] 25 (0, 0)) (bkp BK533) hb); replace HB := bst HB hb; (try clear hb); (try clear hb2); (try clear hk); (try clear hi)))
   go_ret
   exact endB HB
/-! ### bocageref04_Text: function 19 -/
def bocageref04_Text.f (k : Nat) (a0_0 : Int) (a0_1 : Int) (a0_2 : Int) (a0_3 : Int) : Option (ByteArray) := (bocageref03_Right.f k a0_0 a0_1 a0_2 a0_3).bind fun t538 => (if t538 = true then (if a0_0 < 0 then ((bocageref02_Text.f k a0_2 a0_3).bind fun t539 => (if 6 + t539.size ≤ 9223372036854775807 then (if ((⟨#[40, 45, 105, 110, 102, 44]⟩ : ByteArray) ++ t539).size + 1 ≤ 9223372036854775807 then (some (((⟨#[40, 45, 105, 110, 102, 44]⟩ : ByteArray) ++ t539) ++ (⟨#[41]⟩ : ByteArray))) else (none)) else (none))) else ((bocageref02_Text.f k a0_0 a0_1).bind fun t540 => (if 1 + t540.size ≤ 9223372036854775807 then (if ((⟨#[91]⟩ : ByteArray) ++ t540).size + 1 ≤ 9223372036854775807 then ((bocageref02_Text.f k a0_2 a0_3).bind fun t541 => (if (((⟨#[91]⟩ : ByteArray) ++ t540) ++ (⟨#[44]⟩ : ByteArray)).size + t541.size ≤ 9223372036854775807 then (if ((((⟨#[91]⟩ : ByteArray) ++ t540) ++ (⟨#[44]⟩ : ByteArray)) ++ t541).size + 1 ≤ 9223372036854775807 then (some (((((⟨#[91]⟩ : ByteArray) ++ t540) ++ (⟨#[44]⟩ : ByteArray)) ++ t541) ++ (⟨#[41]⟩ : ByteArray))) else (none)) else (none))) else (none)) else (none)))) else (some (⟨#[]⟩ : ByteArray)))
theorem bocageref04_Text.mono : ∀ a0 a1 a2 a3 k, LeO (bocageref04_Text.f k a0 a1 a2 a3) (bocageref04_Text.f (k + 1) a0 a1 a2 a3) := by
 intro a0 a1 a2 a3 k
 unfold bocageref04_Text.f
 repeat' first
   | (with_reducible exact bocageref02_Text.mono _ _ _)
   | (with_reducible exact bocageref03_Right.mono _ _ _ _ _)
   | (with_reducible exact LeO.refl _)
   | (with_reducible exact LeO.none _)
   | (with_reducible refine LeO.ite ?_ ?_)
   | (with_reducible refine LeO.bind ?_ (fun _ => ?_))
   | exact bocageref02_Text.mono _ _ _
   | exact bocageref03_Right.mono _ _ _ _ _
   | exact LeO.none _
   | refine LeO.ite ?_ ?_
   | refine LeO.bind ?_ (fun _ => ?_)
def bocageref04_Text.T5 : Bool × List (List Nat × List Nat) := (true, [([], []), ([0], [0]), ([1], [1]), ([2], [2]), ([3], [3]), ([], []), ([5], [5]), ([6, 2], [6]), ([4, 7], [4, 7]), ([8], [8]), ([9, 7, 0, 1, 2, 3, 4, 5, 6, 7, 8, 9], [9])])
def bocageref04_Text.B5 : List Nat := [0, 1, 3, 7, 15, 0, 32, 103, 255, 511, 1023]
theorem bocageref04_Text.tab5 : rtab .any (opsOf Try.f19 5) = bocageref04_Text.T5 := by kernel_rfl
theorem bocageref04_Text.bits5 : waitsOk bocageref04_Text.T5.2 bocageref04_Text.B5 = true := by kernel_rfl
set_option maxHeartbeats 8000000 in
set_option maxRecDepth 100000 in
theorem bocageref04_Text.calls (k : Nat) (a0_0 : Int) (a0_1 : Int) (a0_2 : Int) (a0_3 : Int) (r : ByteArray) (w : World) (h : bocageref04_Text.f k a0_0 a0_1 a0_2 a0_3 = some r) :
  Calls Try.prog 19 #[.agg #[.int .i64 a0_0, .int .i64 a0_1, .int .i64 a0_2, .int .i64 a0_3]] w fun e w' => e = .returned (.string r) ∧ Below w.heap.size w w' := by
 have hu27 := Try.underlying27
 have hu25 := Try.underlying25
 have HB := Aside0.mk (Below.refl w.heap.size w)
 have H : ((bocageref03_Right.f k a0_0 a0_1 a0_2 a0_3).bind fun t538 => (if t538 = true then (if a0_0 < 0 then ((bocageref02_Text.f k a0_2 a0_3).bind fun t539 => (if 6 + t539.size ≤ 9223372036854775807 then (if ((⟨#[40, 45, 105, 110, 102, 44]⟩ : ByteArray) ++ t539).size + 1 ≤ 9223372036854775807 then (some (((⟨#[40, 45, 105, 110, 102, 44]⟩ : ByteArray) ++ t539) ++ (⟨#[41]⟩ : ByteArray))) else (none)) else (none))) else ((bocageref02_Text.f k a0_0 a0_1).bind fun t540 => (if 1 + t540.size ≤ 9223372036854775807 then (if ((⟨#[91]⟩ : ByteArray) ++ t540).size + 1 ≤ 9223372036854775807 then ((bocageref02_Text.f k a0_2 a0_3).bind fun t541 => (if (((⟨#[91]⟩ : ByteArray) ++ t540) ++ (⟨#[44]⟩ : ByteArray)).size + t541.size ≤ 9223372036854775807 then (if ((((⟨#[91]⟩ : ByteArray) ++ t540) ++ (⟨#[44]⟩ : ByteArray)) ++ t541).size + 1 ≤ 9223372036854775807 then (some (((((⟨#[91]⟩ : ByteArray) ++ t540) ++ (⟨#[44]⟩ : ByteArray)) ++ t541) ++ (⟨#[41]⟩ : ByteArray))) else (none)) else (none))) else (none)) else (none)))) else (some (⟨#[]⟩ : ByteArray)))) = some r := h
 clear h
 replace H := Option.bind_eq_some_iff.mp H
 obtain ⟨t538, A20, H⟩ := H
 replace H : (if t538 = true then (if a0_0 < 0 then ((bocageref02_Text.f k a0_2 a0_3).bind fun t539 => (if 6 + t539.size ≤ 9223372036854775807 then (if ((⟨#[40, 45, 105, 110, 102, 44]⟩ : ByteArray) ++ t539).size + 1 ≤ 9223372036854775807 then (some (((⟨#[40, 45, 105, 110, 102, 44]⟩ : ByteArray) ++ t539) ++ (⟨#[41]⟩ : ByteArray))) else (none)) else (none))) else ((bocageref02_Text.f k a0_0 a0_1).bind fun t540 => (if 1 + t540.size ≤ 9223372036854775807 then (if ((⟨#[91]⟩ : ByteArray) ++ t540).size + 1 ≤ 9223372036854775807 then ((bocageref02_Text.f k a0_2 a0_3).bind fun t541 => (if (((⟨#[91]⟩ : ByteArray) ++ t540) ++ (⟨#[44]⟩ : ByteArray)).size + t541.size ≤ 9223372036854775807 then (if ((((⟨#[91]⟩ : ByteArray) ++ t540) ++ (⟨#[44]⟩ : ByteArray)) ++ t541).size + 1 ≤ 9223372036854775807 then (some (((((⟨#[91]⟩ : ByteArray) ++ t540) ++ (⟨#[44]⟩ : ByteArray)) ++ t541) ++ (⟨#[41]⟩ : ByteArray))) else (none)) else (none))) else (none)) else (none)))) else (some (⟨#[]⟩ : ByteArray))) = some r := H
 have A2 := Aside0.mk A20
 clear A20
 by_cases c3 : t538 = true
 ·subst c3
  have H1 : (if a0_0 < 0 then ((bocageref02_Text.f k a0_2 a0_3).bind fun t539 => (if 6 + t539.size ≤ 9223372036854775807 then (if ((⟨#[40, 45, 105, 110, 102, 44]⟩ : ByteArray) ++ t539).size + 1 ≤ 9223372036854775807 then (some (((⟨#[40, 45, 105, 110, 102, 44]⟩ : ByteArray) ++ t539) ++ (⟨#[41]⟩ : ByteArray))) else (none)) else (none))) else ((bocageref02_Text.f k a0_0 a0_1).bind fun t540 => (if 1 + t540.size ≤ 9223372036854775807 then (if ((⟨#[91]⟩ : ByteArray) ++ t540).size + 1 ≤ 9223372036854775807 then ((bocageref02_Text.f k a0_2 a0_3).bind fun t541 => (if (((⟨#[91]⟩ : ByteArray) ++ t540) ++ (⟨#[44]⟩ : ByteArray)).size + t541.size ≤ 9223372036854775807 then (if ((((⟨#[91]⟩ : ByteArray) ++ t540) ++ (⟨#[44]⟩ : ByteArray)) ++ t541).size + 1 ≤ 9223372036854775807 then (some (((((⟨#[91]⟩ : ByteArray) ++ t540) ++ (⟨#[44]⟩ : ByteArray)) ++ t541) ++ (⟨#[41]⟩ : ByteArray))) else (none)) else (none))) else (none)) else (none)))) = some r := by rw [if_pos rfl] at H; exact H
  clear H
  have H := H1
  clear H1
  by_cases c4 : a0_0 < 0
  ·rw [if_pos c4] at H
   have c4b0 : decide (a0_0 < 0) = true := decide_eq_true c4
   clear c4
   replace H := Option.bind_eq_some_iff.mp H
   obtain ⟨t539, A50, H⟩ := H
   replace H : (if 6 + t539.size ≤ 9223372036854775807 then (if ((⟨#[40, 45, 105, 110, 102, 44]⟩ : ByteArray) ++ t539).size + 1 ≤ 9223372036854775807 then (some (((⟨#[40, 45, 105, 110, 102, 44]⟩ : ByteArray) ++ t539) ++ (⟨#[41]⟩ : ByteArray))) else (none)) else (none)) = some r := H
   have A5 := Aside0.mk A50
   clear A50
   by_cases c6 : 6 + t539.size ≤ 9223372036854775807
   ·rw [if_pos c6] at H
    have c6b0 := eq_true c6
    have c6b1 : decide (6 + t539.size ≤ 9223372036854775807) = true := decide_eq_true c6
    try have c6b2 : (9223372036854775807 < 6 + t539.size) = False := eq_false (Nat.not_lt.2 c6)
    by_cases c7 : ((⟨#[40, 45, 105, 110, 102, 44]⟩ : ByteArray) ++ t539).size + 1 ≤ 9223372036854775807
    ·rw [if_pos c7] at H
     have c7b0 := eq_true c7
     have c7b1 : decide (((⟨#[40, 45, 105, 110, 102, 44]⟩ : ByteArray) ++ t539).size + 1 ≤ 9223372036854775807) = true := decide_eq_true c7
     try have c7b2 : (9223372036854775807 < ((⟨#[40, 45, 105, 110, 102, 44]⟩ : ByteArray) ++ t539).size + 1) = False := eq_false (Nat.not_lt.2 c7)
     try have c7b3 : (9223372036854775807 < 6 + t539.size + 1) = False := eq_false (Nat.not_lt.2 (by have h := c7; simp only [ByteArray.size_append] at h; exact h))
     obtain rfl := Option.some.inj H
     go_enter Try.func19, Try.ntmps19
     go_wp2_with (first | ((with_reducible refine gate_dst (N := 1) rfl ?_); refine bxe (N := 1) (cs := #[.int .i64 a0_0, .int .i64 a0_1, .int .i64 a0_2, .int .i64 a0_3]) (t := 27) ?_; intro gb537 hg w8 hbox hb; have BK537 := Aside0.mk (hbox); have GW537 := lsz hg HB; have GE537 := lsz hg HB; replace HB := bst HB hb; clear hb hbox hg; obtain ⟨hcz9_0, hcz9_1, hcz9_2, hcz9_3⟩ := e4 BK537; obtain ⟨hfz9_0, hfz9_1, hfz9_2, hfz9_3⟩ := f4 BK537) | ((with_reducible refine gate_callee (f := 20) rfl ?_); refine gol (some 4) Try.func20 #[.agg #[.int .i64 a0_0, .int .i64 a0_1, .int .i64 a0_2, .int .i64 a0_3]] ?_; (with_reducible refine (bocageref03_Right.calls k a0_0 a0_1 a0_2 a0_3 true _ A2.out).mono ?_); rintro e w10 ⟨rfl, hb⟩; refine ⟨_, rfl, ?_⟩; replace BK537 := bkb BK537 hb; replace HB := bst HB hb; (try clear hb); (try clear hb2); (try clear hk); (try clear hi); obtain ⟨hcz11_0, hcz11_1, hcz11_2, hcz11_3⟩ := e4 BK537; obtain ⟨hfz11_0, hfz11_1, hfz11_2, hfz11_3⟩ := f4 BK537) | ((with_reducible refine gate_callee (f := 48) rfl ?_); refine gol (some 12) Try.func48 #[.agg #[.int .i64 a0_2, .int .i64 a0_3]] ?_; (with_reducible refine (bocageref02_Text.calls k a0_2 a0_3 t539 _ A5.out).mono ?_); rintro e w12 ⟨rfl, hb⟩; refine ⟨_, rfl, ?_⟩; replace BK537 := bkb BK537 hb; replace HB := bst HB hb; (try clear hb); (try clear hb2); (try clear hk); (try clear hi)))
     go_ret
     exact endB HB
    ·rw [if_neg c7] at H
     exact absurd H (by simp)
   ·rw [if_neg c6] at H
    exact absurd H (by simp)
  ·rw [if_neg c4] at H
   have c4b0 : decide (a0_0 < 0) = false := decide_eq_false c4
   clear c4
   replace H := Option.bind_eq_some_iff.mp H
   obtain ⟨t540, A130, H⟩ := H
   replace H : (if 1 + t540.size ≤ 9223372036854775807 then (if ((⟨#[91]⟩ : ByteArray) ++ t540).size + 1 ≤ 9223372036854775807 then ((bocageref02_Text.f k a0_2 a0_3).bind fun t541 => (if (((⟨#[91]⟩ : ByteArray) ++ t540) ++ (⟨#[44]⟩ : ByteArray)).size + t541.size ≤ 9223372036854775807 then (if ((((⟨#[91]⟩ : ByteArray) ++ t540) ++ (⟨#[44]⟩ : ByteArray)) ++ t541).size + 1 ≤ 9223372036854775807 then (some (((((⟨#[91]⟩ : ByteArray) ++ t540) ++ (⟨#[44]⟩ : ByteArray)) ++ t541) ++ (⟨#[41]⟩ : ByteArray))) else (none)) else (none))) else (none)) else (none)) = some r := H
   have A13 := Aside0.mk A130
   clear A130
   by_cases c14 : 1 + t540.size ≤ 9223372036854775807
   ·rw [if_pos c14] at H
    have c14b0 := eq_true c14
    have c14b1 : decide (1 + t540.size ≤ 9223372036854775807) = true := decide_eq_true c14
    try have c14b2 : (9223372036854775807 < 1 + t540.size) = False := eq_false (Nat.not_lt.2 c14)
    by_cases c15 : ((⟨#[91]⟩ : ByteArray) ++ t540).size + 1 ≤ 9223372036854775807
    ·rw [if_pos c15] at H
     have c15b0 := eq_true c15
     have c15b1 : decide (((⟨#[91]⟩ : ByteArray) ++ t540).size + 1 ≤ 9223372036854775807) = true := decide_eq_true c15
     try have c15b2 : (9223372036854775807 < ((⟨#[91]⟩ : ByteArray) ++ t540).size + 1) = False := eq_false (Nat.not_lt.2 c15)
     try have c15b3 : (9223372036854775807 < 1 + t540.size + 1) = False := eq_false (Nat.not_lt.2 (by have h := c15; simp only [ByteArray.size_append] at h; exact h))
     replace H := Option.bind_eq_some_iff.mp H
     obtain ⟨t541, A160, H⟩ := H
     replace H : (if (((⟨#[91]⟩ : ByteArray) ++ t540) ++ (⟨#[44]⟩ : ByteArray)).size + t541.size ≤ 9223372036854775807 then (if ((((⟨#[91]⟩ : ByteArray) ++ t540) ++ (⟨#[44]⟩ : ByteArray)) ++ t541).size + 1 ≤ 9223372036854775807 then (some (((((⟨#[91]⟩ : ByteArray) ++ t540) ++ (⟨#[44]⟩ : ByteArray)) ++ t541) ++ (⟨#[41]⟩ : ByteArray))) else (none)) else (none)) = some r := H
     have A16 := Aside0.mk A160
     clear A160
     by_cases c17 : (((⟨#[91]⟩ : ByteArray) ++ t540) ++ (⟨#[44]⟩ : ByteArray)).size + t541.size ≤ 9223372036854775807
     ·rw [if_pos c17] at H
      have c17b0 := eq_true c17
      have c17b1 : decide ((((⟨#[91]⟩ : ByteArray) ++ t540) ++ (⟨#[44]⟩ : ByteArray)).size + t541.size ≤ 9223372036854775807) = true := decide_eq_true c17
      try have c17b2 : (9223372036854775807 < (((⟨#[91]⟩ : ByteArray) ++ t540) ++ (⟨#[44]⟩ : ByteArray)).size + t541.size) = False := eq_false (Nat.not_lt.2 c17)
      try have c17b3 : (9223372036854775807 < 1 + t540.size + 1 + t541.size) = False := eq_false (Nat.not_lt.2 (by have h := c17; simp only [ByteArray.size_append] at h; exact h))
      by_cases c18 : ((((⟨#[91]⟩ : ByteArray) ++ t540) ++ (⟨#[44]⟩ : ByteArray)) ++ t541).size + 1 ≤ 9223372036854775807
      ·rw [if_pos c18] at H
       have c18b0 := eq_true c18
       have c18b1 : decide (((((⟨#[91]⟩ : ByteArray) ++ t540) ++ (⟨#[44]⟩ : ByteArray)) ++ t541).size + 1 ≤ 9223372036854775807) = true := decide_eq_true c18
       try have c18b2 : (9223372036854775807 < ((((⟨#[91]⟩ : ByteArray) ++ t540) ++ (⟨#[44]⟩ : ByteArray)) ++ t541).size + 1) = False := eq_false (Nat.not_lt.2 c18)
       try have c18b3 : (9223372036854775807 < 1 + t540.size + 1 + t541.size + 1) = False := eq_false (Nat.not_lt.2 (by have h := c18; simp only [ByteArray.size_append] at h; exact h))
       obtain rfl := Option.some.inj H
       go_enter Try.func19, Try.ntmps19
       try go_wp2_with (first | ((with_reducible refine gate_dst (N := 1) rfl ?_); refine bxe (N := 1) (cs := #[.int .i64 a0_0, .int .i64 a0_1, .int .i64 a0_2, .int .i64 a0_3]) (t := 27) ?_; intro gb537 hg w19 hbox hb; have BK537 := Aside0.mk (hbox); have GW537 := lsz hg HB; have GE537 := lsz hg HB; replace HB := bst HB hb; clear hb hbox hg; obtain ⟨hcz20_0, hcz20_1, hcz20_2, hcz20_3⟩ := e4 BK537; obtain ⟨hfz20_0, hfz20_1, hfz20_2, hfz20_3⟩ := f4 BK537) | ((with_reducible refine gate_callee (f := 20) rfl ?_); refine gol (some 4) Try.func20 #[.agg #[.int .i64 a0_0, .int .i64 a0_1, .int .i64 a0_2, .int .i64 a0_3]] ?_; (with_reducible refine (bocageref03_Right.calls k a0_0 a0_1 a0_2 a0_3 true _ A2.out).mono ?_); rintro e w21 ⟨rfl, hb⟩; refine ⟨_, rfl, ?_⟩; replace BK537 := bkb BK537 hb; replace HB := bst HB hb; (try clear hb); (try clear hb2); (try clear hk); (try clear hi); obtain ⟨hcz22_0, hcz22_1, hcz22_2, hcz22_3⟩ := e4 BK537; obtain ⟨hfz22_0, hfz22_1, hfz22_2, hfz22_3⟩ := f4 BK537))
       replace BK537 := Aside0.mk (blk_drew BK537.out)
       replace HB := Aside0.mk (below_drew1 HB.out)
       refine start_ (n := 11) (S := fun w' => w'.cell? ⟨gb537, 0, none⟩ = some (.int .i64 a0_0) ∧ w'.cell? ⟨gb537, 1, none⟩ = some (.int .i64 a0_1) ∧ w'.cell? ⟨gb537, 2, none⟩ = some (.int .i64 a0_2) ∧ w'.cell? ⟨gb537, 3, none⟩ = some (.int .i64 a0_3)) (ds := []) #[false, false, false, false, false, false, false, false, false, false, false] (by kernel_rfl) rfl rfl (e4 BK537) (fun hHeld => ?_); refine with_tabW bocageref04_Text.tab5 bocageref04_Text.bits5 (fun HT_ HW_ => ?_)
       generalize w21.drew = w23 at BK537 HB hHeld ⊢
       refine pw 0 15 HT_ ?_; refine pw 5 20 HT_ ?_; refine tw4 1 16 HT_ HW_ hHeld ?_; refine tw4 6 21 HT_ HW_ hHeld ?_
       refine one_ (i := 2) (N := some 17) #[true, true, true, false, false, true, true, false, false, false, false] rfl rfl (one_of HT_.out (by kernel_rfl)) (by decide) (fun K hK => ?_)
       refine goes_ Try.func48 (by kernel_rfl) rfl #[.agg #[.int .i64 a0_0, .int .i64 a0_1]] (by rfl) rfl rfl (by (try simp only [List.map_toArray, List.map_cons, List.map_nil]); first | done | rfl | (simp only [List.length_drop, List.length_take]; rfl)) ?_
       with_reducible refine (bocageref02_Text.calls k a0_0 a0_1 t540 _ A13.out).mono ?_
       rintro e w24 ⟨rfl, hb⟩
       refine ⟨_, rfl, ?_⟩
       replace BK537 := bkb BK537 hb
       replace HB := bst HB hb
       (try clear hb)
       (try clear hb2)
       (try clear hk)
       (try clear hi)
       refine hK.out _ _ (e4 BK537) (fun hHeld => ?_)
       clear hK K
       refine nrp 17 ?_
       refine pw 3 18 HT_ ?_; refine pw 4 19 HT_ ?_
       refine one_ (i := 7) (N := some 22) #[true, true, true, true, true, true, true, true, false, false, false] rfl rfl (one_of HT_.out (by kernel_rfl)) (by decide) (fun K hK => ?_)
       refine goes_ Try.func48 (by kernel_rfl) rfl #[.agg #[.int .i64 a0_2, .int .i64 a0_3]] (by rfl) rfl rfl (by (try simp only [List.map_toArray, List.map_cons, List.map_nil]); first | done | rfl | (simp only [List.length_drop, List.length_take]; rfl)) ?_
       with_reducible refine (bocageref02_Text.calls k a0_2 a0_3 t541 _ A16.out).mono ?_
       rintro e w25 ⟨rfl, hb⟩
       refine ⟨_, rfl, ?_⟩
       replace BK537 := bkb BK537 hb
       replace HB := bst HB hb
       (try clear hb)
       refine hK.out _ _ (e4 BK537) (fun hHeld => ?_)
       clear hK K
       refine nrp 22 ?_
       refine pw 8 23 HT_ ?_; refine pw 9 24 HT_ ?_; refine pw 10 2 HT_ ?_
       refine done_ (done_of HT_.out (by kernel_rfl)) ?_
       try go_wp2
       go_ret
       exact endB HB
      ·rw [if_neg c18] at H
       exact absurd H (by simp)
     ·rw [if_neg c17] at H
      exact absurd H (by simp)
    ·rw [if_neg c15] at H
     exact absurd H (by simp)
   ·rw [if_neg c14] at H
    exact absurd H (by simp)
 ·replace c3 := Bool.eq_false_iff.mpr c3
  subst c3
  have H1 : (some (⟨#[]⟩ : ByteArray)) = some r := by rw [if_neg (show ¬ (false = true) by decide)] at H; exact H
  clear H
  have H := H1
  clear H1
  obtain rfl := Option.some.inj H
  go_enter Try.func19, Try.ntmps19
  go_wp2_with (first | ((with_reducible refine gate_dst (N := 1) rfl ?_); refine bxe (N := 1) (cs := #[.int .i64 a0_0, .int .i64 a0_1, .int .i64 a0_2, .int .i64 a0_3]) (t := 27) ?_; intro gb537 hg w26 hbox hb; have BK537 := Aside0.mk (hbox); have GW537 := lsz hg HB; have GE537 := lsz hg HB; replace HB := bst HB hb; clear hb hbox hg; obtain ⟨hcz27_0, hcz27_1, hcz27_2, hcz27_3⟩ := e4 BK537; obtain ⟨hfz27_0, hfz27_1, hfz27_2, hfz27_3⟩ := f4 BK537) | ((with_reducible refine gate_callee (f := 20) rfl ?_); refine gol (some 4) Try.func20 #[.agg #[.int .i64 a0_0, .int .i64 a0_1, .int .i64 a0_2, .int .i64 a0_3]] ?_; (with_reducible refine (bocageref03_Right.calls k a0_0 a0_1 a0_2 a0_3 false _ A2.out).mono ?_); rintro e w28 ⟨rfl, hb⟩; refine ⟨_, rfl, ?_⟩; replace BK537 := bkb BK537 hb; replace HB := bst HB hb; (try clear hb); (try clear hb2); (try clear hk); (try clear hi)))
  go_ret
  exact endB HB
end Go.Proofs.Ytpeidnkbliafkaa.Print
