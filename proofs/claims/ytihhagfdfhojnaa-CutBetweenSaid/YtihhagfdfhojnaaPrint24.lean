-- Laid by wip/print/bprint.py of this repo, over the kit's printer, with functions given by hand; not trusted: Lean checks it.
import Derived.Test.YtihhagfdfhojnaaPrint0
import Derived.Test.YtihhagfdfhojnaaPrint9
import Derived.Test.YtihhagfdfhojnaaPrint10
import Derived.Test.YtihhagfdfhojnaaPrint11
import Derived.Test.YtihhagfdfhojnaaPrint23
namespace Go.Proofs.Ytihhagfdfhojnaa.Print
open Go.RowKit Go.Proofs.YtihhagfdfhojnaaW.PrintWords Go.Proofs.YtihhagfdfhojnaaW.PrintLast Go.Proofs.YtihhagfdfhojnaaW.PrintMore
attribute [local go_sem] max2_int min2_int max_two min_two max_three min_three max_four min_four   -- for this text's walks alone
set_option linter.unusedVariables false
set_option linter.unusedSimpArgs false

/-! ### bocagelaw02_CutBetween: function 5 -/
def bocagelaw02_CutBetween.j0 : Nat → Int → Int → Bool → Bool → Bool → Int → Int → Option (Bool)
  | 0, _, _, _, _, _, _, _ => none
  | k + 1, x1, x5, x6, x8, x34, x301000, x301001 => if x34 = true then (some false) else ((cut_Ahead.f k x1).bind fun bt305 => ((cut_Compare.f k bt305.1 bt305.2 x301000 x301001).bind fun t307 => ((bocagelaw02_alive.f k).bind fun t308 => (if t308 = true then (if x6 = true then (if ((decide (t307 < 0)) == (decide (x1 < x5))) = true then ((cut_Ahead.f k x1).bind fun bt309 => ((cut_Behind.f x1).bind fun bt311 => ((cut_Compare.f k bt309.1 bt309.2 bt311.1 bt311.2).bind fun t313 => (if t313 = (-1) then (some true) else (some false))))) else (some false)) else (if ((decide (t307 < 0)) == true) = true then ((cut_Ahead.f k x1).bind fun bt314 => ((cut_Behind.f x1).bind fun bt316 => ((cut_Compare.f k bt314.1 bt314.2 bt316.1 bt316.2).bind fun t318 => (if t318 = (-1) then (some x8) else (some false))))) else (some false))) else (some false)))))
def bocagelaw02_CutBetween.f (k : Nat) (a0_0 : Int) (a0_1 : Int) (a1 : Int) : Option (Bool) := (cut_Next.f k a0_0 a0_1).bind fun bt301 => ((cut_Prev.f k a0_0 a0_1).bind fun bt303 => (if bt301.2 = true then (if bt303.2 = true then (if bt303.1 ≥ bt301.1 then (bocagelaw02_CutBetween.j0 k a1 bt301.1 bt301.2 bt303.2 true a0_0 a0_1) else (bocagelaw02_CutBetween.j0 k a1 bt301.1 bt301.2 bt303.2 ((wrap64 (bt303.1 + 1)) != bt301.1) a0_0 a0_1)) else (bocagelaw02_CutBetween.j0 k a1 bt301.1 bt301.2 bt303.2 false a0_0 a0_1)) else (bocagelaw02_CutBetween.j0 k a1 bt301.1 bt301.2 bt303.2 false a0_0 a0_1)))
theorem bocagelaw02_CutBetween.mono_l : ∀ k, (∀ y0 y1 y2 y3 y4 y5 y6, LeO (bocagelaw02_CutBetween.j0 k y0 y1 y2 y3 y4 y5 y6) (bocagelaw02_CutBetween.j0 (k + 1) y0 y1 y2 y3 y4 y5 y6))
  | 0 => fun _ _ _ _ _ _ _ r h => by simp [bocagelaw02_CutBetween.j0] at h
  | k + 1 => by
    have ih0 := bocagelaw02_CutBetween.mono_l k
    · intro y0 y1 y2 y3 y4 y5 y6
      unfold bocagelaw02_CutBetween.j0
      repeat' first
      | (with_reducible exact ih0 _ _ _ _ _ _ _)
      | (with_reducible exact bocagelaw02_alive.mono _)
      | (with_reducible exact cut_Ahead.mono _ _)
      | (with_reducible exact cut_Compare.mono _ _ _ _ _)
      | (with_reducible exact cut_Next.mono _ _ _)
      | (with_reducible exact cut_Prev.mono _ _ _)
      | (with_reducible exact LeO.refl _)
      | (with_reducible exact LeO.none _)
      | (with_reducible refine LeO.ite ?_ ?_)
      | (with_reducible refine LeO.bind ?_ (fun _ => ?_))
      | exact ih0 _ _ _ _ _ _ _
      | exact bocagelaw02_alive.mono _
      | exact cut_Ahead.mono _ _
      | exact cut_Compare.mono _ _ _ _ _
      | exact cut_Next.mono _ _ _
      | exact cut_Prev.mono _ _ _
      | exact LeO.none _
      | refine LeO.ite ?_ ?_
      | refine LeO.bind ?_ (fun _ => ?_)
theorem bocagelaw02_CutBetween.mono : ∀ a0 a1 a2 k, LeO (bocagelaw02_CutBetween.f k a0 a1 a2) (bocagelaw02_CutBetween.f (k + 1) a0 a1 a2) := by
  intro a0 a1 a2 k
  have ih0 := bocagelaw02_CutBetween.mono_l k
  unfold bocagelaw02_CutBetween.f
  repeat' first
      | (with_reducible exact ih0 _ _ _ _ _ _ _)
      | (with_reducible exact bocagelaw02_alive.mono _)
      | (with_reducible exact cut_Ahead.mono _ _)
      | (with_reducible exact cut_Compare.mono _ _ _ _ _)
      | (with_reducible exact cut_Next.mono _ _ _)
      | (with_reducible exact cut_Prev.mono _ _ _)
      | (with_reducible exact LeO.refl _)
      | (with_reducible exact LeO.none _)
      | (with_reducible refine LeO.ite ?_ ?_)
      | (with_reducible refine LeO.bind ?_ (fun _ => ?_))
      | exact ih0 _ _ _ _ _ _ _
      | exact bocagelaw02_alive.mono _
      | exact cut_Ahead.mono _ _
      | exact cut_Compare.mono _ _ _ _ _
      | exact cut_Next.mono _ _ _
      | exact cut_Prev.mono _ _ _
      | exact LeO.none _
      | refine LeO.ite ?_ ?_
      | refine LeO.bind ?_ (fun _ => ?_)
set_option maxHeartbeats 8000000 in
set_option maxRecDepth 100000 in
theorem bocagelaw02_CutBetween.calls (k : Nat) (a0_0 : Int) (a0_1 : Int) (a1 : Int) (r : Bool) (w : World) (h : bocagelaw02_CutBetween.f k a0_0 a0_1 a1 = some r) (hr : r = true) :
    Calls Try.prog 5 #[.agg #[.int .i64 a0_0, .int .i64 a0_1], .int .i64 a1] w fun e w' => e = .returned (.bool r) ∧ Below w.heap.size w w' := by
  have HRT := Aside0.mk hr
  clear hr
  have hu23 := Try.underlying23
  have HB := Aside0.mk (Below.refl w.heap.size w)
  have H : ((cut_Next.f k a0_0 a0_1).bind fun bt301 => ((cut_Prev.f k a0_0 a0_1).bind fun bt303 => (if bt301.2 = true then (if bt303.2 = true then (if bt303.1 ≥ bt301.1 then (bocagelaw02_CutBetween.j0 k a1 bt301.1 bt301.2 bt303.2 true a0_0 a0_1) else (bocagelaw02_CutBetween.j0 k a1 bt301.1 bt301.2 bt303.2 ((wrap64 (bt303.1 + 1)) != bt301.1) a0_0 a0_1)) else (bocagelaw02_CutBetween.j0 k a1 bt301.1 bt301.2 bt303.2 false a0_0 a0_1)) else (bocagelaw02_CutBetween.j0 k a1 bt301.1 bt301.2 bt303.2 false a0_0 a0_1)))) = some r := h
  clear h
  replace H := Option.bind_eq_some_iff.mp H
  obtain ⟨⟨t301, t302⟩, A30, H⟩ := H
  replace H : ((cut_Prev.f k a0_0 a0_1).bind fun bt303 => (if t302 = true then (if bt303.2 = true then (if bt303.1 ≥ t301 then (bocagelaw02_CutBetween.j0 k a1 t301 t302 bt303.2 true a0_0 a0_1) else (bocagelaw02_CutBetween.j0 k a1 t301 t302 bt303.2 ((wrap64 (bt303.1 + 1)) != t301) a0_0 a0_1)) else (bocagelaw02_CutBetween.j0 k a1 t301 t302 bt303.2 false a0_0 a0_1)) else (bocagelaw02_CutBetween.j0 k a1 t301 t302 bt303.2 false a0_0 a0_1))) = some r := H
  have A3 := Aside0.mk A30
  clear A30
  replace H := Option.bind_eq_some_iff.mp H
  obtain ⟨⟨t303, t304⟩, A40, H⟩ := H
  replace H : (if t302 = true then (if t304 = true then (if t303 ≥ t301 then (bocagelaw02_CutBetween.j0 k a1 t301 t302 t304 true a0_0 a0_1) else (bocagelaw02_CutBetween.j0 k a1 t301 t302 t304 ((wrap64 (t303 + 1)) != t301) a0_0 a0_1)) else (bocagelaw02_CutBetween.j0 k a1 t301 t302 t304 false a0_0 a0_1)) else (bocagelaw02_CutBetween.j0 k a1 t301 t302 t304 false a0_0 a0_1)) = some r := H
  have A4 := Aside0.mk A40
  clear A40
  have HC5 := Aside0.mk H
  clear H
  go_enter Try.func5, Try.ntmps5
  go_upto_region 3 with (first | ((with_reducible refine gate_dst (N := 2) rfl ?_); refine box_event ?hg (N := 2) ?hd (cs := #[.int .i64 a0_0, .int .i64 a0_1]) (t := 23) ?hr ?_; (case hd => rfl); (case hg => rfl); (case hr => first | (go_simp; done) | (go_simp; rfl)); intro gb300 hg w6 hbox hb; have n0_ := Aside0.mk (below_step (by repeat (first | (with_reducible first | exact HB.out | apply below_alloc | apply pw_below_drewN | apply below_drew1) | exact HB.out)) hb); have n1_ := Aside0.mk (hbox); have n2_ := Aside0.mk ((by rw [hg]; exact (below_size (by repeat (first | (with_reducible first | exact HB.out | apply below_alloc | apply pw_below_drewN | apply below_drew1) | exact HB.out))) : w.heap.size ≤ gb300)); have n3_ := Aside0.mk ((by rw [hg]; exact (below_size (by repeat (first | (with_reducible first | exact HB.out | apply below_alloc | apply pw_below_drewN | apply below_drew1) | exact HB.out))) : w.heap.size ≤ gb300)); clear HB; have HB := n0_; have BK300 := n1_; have GW300 := n2_; have GE300 := n3_; clear n0_ n1_ n2_ n3_; clear hb hbox hg; have hcz7_0 : w6.cell? ⟨gb300, 0, none⟩ = some (.int .i64 a0_0) := (blk_cell BK300.out 0).trans rfl; have hcz7_1 : w6.cell? ⟨gb300, 1, none⟩ = some (.int .i64 a0_1) := (blk_cell BK300.out 1).trans rfl; have hfz7_0 := blk_frozen BK300.out 0; have hfz7_1 := blk_frozen BK300.out 1) | ((with_reducible refine gate_callee (f := 17) rfl ?_); refine goesL_ (some 12) rfl rfl Try.func17 (by kernel_rfl) rfl #[.agg #[.int .i64 a0_0, .int .i64 a0_1]] rfl (by (try simp only [List.map_toArray, List.map_cons, List.map_nil]); first | done | rfl | (simp only [List.length_drop, List.length_take]; rfl)) ?_; (with_reducible refine (cut_Next.calls k a0_0 a0_1 t301 t302 _ A3.out).mono ?_); rintro e w8 ⟨rfl, hb⟩; refine ⟨_, rfl, ?_⟩; have n0_ := Aside0.mk (blk_below (g := gb300) (o := .cells #[.int .i64 a0_0, .int .i64 a0_1] 23 (0, 0)) (by (with_reducible repeat (first | refine blk_drewN ?_ _ | refine blk_drew ?_ | refine blk_alloc ?_ _)); exact BK300.out) hb); have n1_ := Aside0.mk (below_step (by repeat (first | (with_reducible first | exact HB.out | apply below_alloc | apply pw_below_drewN | apply below_drew1 | refine below_set ?_ GE300.out) | exact HB.out)) hb); clear BK300; clear HB; have BK300 := n0_; have HB := n1_; clear n0_ n1_; (try clear hb); (try clear hb2); (try clear hk); (try clear hi); have hcz9_0 : w8.cell? ⟨gb300, 0, none⟩ = some (.int .i64 a0_0) := (blk_cell BK300.out 0).trans rfl; have hcz9_1 : w8.cell? ⟨gb300, 1, none⟩ = some (.int .i64 a0_1) := (blk_cell BK300.out 1).trans rfl; have hfz9_0 := blk_frozen BK300.out 0; have hfz9_1 := blk_frozen BK300.out 1) | ((with_reducible refine gate_callee (f := 18) rfl ?_); refine goesL_ (some 17) rfl rfl Try.func18 (by kernel_rfl) rfl #[.agg #[.int .i64 a0_0, .int .i64 a0_1]] rfl (by (try simp only [List.map_toArray, List.map_cons, List.map_nil]); first | done | rfl | (simp only [List.length_drop, List.length_take]; rfl)) ?_; (with_reducible refine (cut_Prev.calls k a0_0 a0_1 t303 t304 _ A4.out).mono ?_); rintro e w10 ⟨rfl, hb⟩; refine ⟨_, rfl, ?_⟩; have n0_ := Aside0.mk (blk_below (g := gb300) (o := .cells #[.int .i64 a0_0, .int .i64 a0_1] 23 (0, 0)) (by (with_reducible repeat (first | refine blk_drewN ?_ _ | refine blk_drew ?_ | refine blk_alloc ?_ _)); exact BK300.out) hb); have n1_ := Aside0.mk (below_step (by repeat (first | (with_reducible first | exact HB.out | apply below_alloc | apply pw_below_drewN | apply below_drew1 | refine below_set ?_ GE300.out) | exact HB.out)) hb); clear BK300; clear HB; have BK300 := n0_; have HB := n1_; clear n0_ n1_; (try clear hb); (try clear hb2); (try clear hk); (try clear hi)))
  (try simp only [Act.put, List.setIfInBounds_toArray, List.set_cons_zero, List.set_cons_succ])
  go_cut [34] (fun v34 wc => ∃ (kq : Nat) (x34_4 : Bool), v34 = .bool x34_4 ∧ Aside0 (bocagelaw02_CutBetween.j0 kq a1 t301 t302 t304 x34_4 a0_0 a0_1 = some r) ∧ Aside0 (kq ≤ k) ∧ Aside0 (wc.heap[gb300]? = some (.cells #[.int .i64 a0_0, .int .i64 a0_1] 23 (0, 0))) ∧ Aside0 (Below w.heap.size w wc))
  case first =>
    have H := HC5.out
    clear HC5
    by_cases c11 : t302 = true
    · subst c11
      have H1 : (if t304 = true then (if t303 ≥ t301 then (bocagelaw02_CutBetween.j0 k a1 t301 true t304 true a0_0 a0_1) else (bocagelaw02_CutBetween.j0 k a1 t301 true t304 ((wrap64 (t303 + 1)) != t301) a0_0 a0_1)) else (bocagelaw02_CutBetween.j0 k a1 t301 true t304 false a0_0 a0_1)) = some r := by rw [if_pos rfl] at H; exact H
      clear H
      have H := H1
      clear H1
      by_cases c12 : t304 = true
      · subst c12
        have H1 : (if t303 ≥ t301 then (bocagelaw02_CutBetween.j0 k a1 t301 true true true a0_0 a0_1) else (bocagelaw02_CutBetween.j0 k a1 t301 true true ((wrap64 (t303 + 1)) != t301) a0_0 a0_1)) = some r := by rw [if_pos rfl] at H; exact H
        clear H
        have H := H1
        clear H1
        by_cases c13 : t303 ≥ t301
        · rw [if_pos c13] at H
          have c13b0 : decide (t301 ≤ t303) = true := decide_eq_true c13
          clear c13
          (first | rw [c13b0] | (simp only [i64_w, i32_w]; rw [c13b0]) | skip)
          have H' := Aside0.mk H
          clear H
          go_wp2
          go_meet
          case rel => exact ⟨_, (true), (by first | rfl | (simp; done) | (simp [*]; done)), H', ⟨by first | omega | exact Nat.le_refl _⟩, ⟨by (with_reducible repeat (first | refine blk_drewN ?_ _ | refine blk_drew ?_ | refine blk_alloc ?_ _)); exact BK300.out⟩, ⟨by repeat (first | (with_reducible first | exact HB.out | apply below_alloc | apply pw_below_drewN | apply below_drew1 | refine below_set ?_ GE300.out) | exact HB.out)⟩⟩
        · rw [if_neg c13] at H
          have c13b0 : decide (t301 ≤ t303) = false := decide_eq_false c13
          clear c13
          (first | rw [c13b0] | (simp only [i64_w, i32_w]; rw [c13b0]) | skip)
          have H' := Aside0.mk H
          clear H
          go_wp2
          go_meet
          case rel => exact ⟨_, (((wrap64 (t303 + 1)) != t301)), (by first | rfl | (simp; done) | (simp [*]; done)), H', ⟨by first | omega | exact Nat.le_refl _⟩, ⟨by (with_reducible repeat (first | refine blk_drewN ?_ _ | refine blk_drew ?_ | refine blk_alloc ?_ _)); exact BK300.out⟩, ⟨by repeat (first | (with_reducible first | exact HB.out | apply below_alloc | apply pw_below_drewN | apply below_drew1 | refine below_set ?_ GE300.out) | exact HB.out)⟩⟩
      · replace c12 := Bool.eq_false_iff.mpr c12
        subst c12
        have H1 : (bocagelaw02_CutBetween.j0 k a1 t301 true false false a0_0 a0_1) = some r := by rw [if_neg (show ¬ (false = true) by decide)] at H; exact H
        clear H
        have H := H1
        clear H1
        have H' := Aside0.mk H
        clear H
        go_wp2
        go_meet
        case rel => exact ⟨_, (false), (by first | rfl | (simp; done) | (simp [*]; done)), H', ⟨by first | omega | exact Nat.le_refl _⟩, ⟨by (with_reducible repeat (first | refine blk_drewN ?_ _ | refine blk_drew ?_ | refine blk_alloc ?_ _)); exact BK300.out⟩, ⟨by repeat (first | (with_reducible first | exact HB.out | apply below_alloc | apply pw_below_drewN | apply below_drew1 | refine below_set ?_ GE300.out) | exact HB.out)⟩⟩
    · replace c11 := Bool.eq_false_iff.mpr c11
      subst c11
      have H1 : (bocagelaw02_CutBetween.j0 k a1 t301 false t304 false a0_0 a0_1) = some r := by rw [if_neg (show ¬ (false = true) by decide)] at H; exact H
      clear H
      have H := H1
      clear H1
      have H' := Aside0.mk H
      clear H
      go_wp2
      go_meet
      case rel => exact ⟨_, (false), (by first | rfl | (simp; done) | (simp [*]; done)), H', ⟨by first | omega | exact Nat.le_refl _⟩, ⟨by (with_reducible repeat (first | refine blk_drewN ?_ _ | refine blk_drew ?_ | refine blk_alloc ?_ _)); exact BK300.out⟩, ⟨by repeat (first | (with_reducible first | exact HB.out | apply below_alloc | apply pw_below_drewN | apply below_drew1 | refine below_set ?_ GE300.out) | exact HB.out)⟩⟩
  case rest =>
    clear HC5
    try clear c1
    try clear p2
    try clear c5
    try clear p6
    try clear c11
    try clear c12
    try clear c13
    try clear c13b0
    try clear hcz7_0
    try clear hcz7_1
    try clear hcz9_0
    try clear hcz9_1
    try clear hfz7_0
    try clear hfz7_1
    try clear hfz9_0
    try clear hfz9_1
    obtain ⟨kq, x34_4, rfl, HA, HJ4, BK300, HB⟩ := hcut
    cases kq with
    | zero => exact absurd HA.out (by simp [bocagelaw02_CutBetween.j0])
    | succ kj4 =>
      have H := HA.out
      clear HA
      simp only [bocagelaw02_CutBetween.j0] at H
      by_cases c14 : x34_4 = true
      · subst c14
        have H1 : (some false) = some r := by rw [if_pos rfl] at H; exact H
        exact absurd ((Option.some.inj H1).trans HRT.out) Bool.false_ne_true
      · replace c14 := Bool.eq_false_iff.mpr c14
        subst c14
        have H1 : ((cut_Ahead.f kj4 a1).bind fun bt305 => ((cut_Compare.f kj4 bt305.1 bt305.2 a0_0 a0_1).bind fun t307 => ((bocagelaw02_alive.f kj4).bind fun t308 => (if t308 = true then (if t302 = true then (if ((decide (t307 < 0)) == (decide (a1 < t301))) = true then ((cut_Ahead.f kj4 a1).bind fun bt309 => ((cut_Behind.f a1).bind fun bt311 => ((cut_Compare.f kj4 bt309.1 bt309.2 bt311.1 bt311.2).bind fun t313 => (if t313 = (-1) then (some true) else (some false))))) else (some false)) else (if ((decide (t307 < 0)) == true) = true then ((cut_Ahead.f kj4 a1).bind fun bt314 => ((cut_Behind.f a1).bind fun bt316 => ((cut_Compare.f kj4 bt314.1 bt314.2 bt316.1 bt316.2).bind fun t318 => (if t318 = (-1) then (some t304) else (some false))))) else (some false))) else (some false))))) = some r := by rw [if_neg (show ¬ (false = true) by decide)] at H; exact H
        clear H
        have H := H1
        clear H1
        replace H := Option.bind_eq_some_iff.mp H
        obtain ⟨⟨t305, t306⟩, A150, H⟩ := H
        replace H : ((cut_Compare.f kj4 t305 t306 a0_0 a0_1).bind fun t307 => ((bocagelaw02_alive.f kj4).bind fun t308 => (if t308 = true then (if t302 = true then (if ((decide (t307 < 0)) == (decide (a1 < t301))) = true then ((cut_Ahead.f kj4 a1).bind fun bt309 => ((cut_Behind.f a1).bind fun bt311 => ((cut_Compare.f kj4 bt309.1 bt309.2 bt311.1 bt311.2).bind fun t313 => (if t313 = (-1) then (some true) else (some false))))) else (some false)) else (if ((decide (t307 < 0)) == true) = true then ((cut_Ahead.f kj4 a1).bind fun bt314 => ((cut_Behind.f a1).bind fun bt316 => ((cut_Compare.f kj4 bt314.1 bt314.2 bt316.1 bt316.2).bind fun t318 => (if t318 = (-1) then (some t304) else (some false))))) else (some false))) else (some false)))) = some r := H
        have A15 := Aside0.mk A150
        clear A150
        replace H := Option.bind_eq_some_iff.mp H
        obtain ⟨t307, A160, H⟩ := H
        replace H : ((bocagelaw02_alive.f kj4).bind fun t308 => (if t308 = true then (if t302 = true then (if ((decide (t307 < 0)) == (decide (a1 < t301))) = true then ((cut_Ahead.f kj4 a1).bind fun bt309 => ((cut_Behind.f a1).bind fun bt311 => ((cut_Compare.f kj4 bt309.1 bt309.2 bt311.1 bt311.2).bind fun t313 => (if t313 = (-1) then (some true) else (some false))))) else (some false)) else (if ((decide (t307 < 0)) == true) = true then ((cut_Ahead.f kj4 a1).bind fun bt314 => ((cut_Behind.f a1).bind fun bt316 => ((cut_Compare.f kj4 bt314.1 bt314.2 bt316.1 bt316.2).bind fun t318 => (if t318 = (-1) then (some t304) else (some false))))) else (some false))) else (some false))) = some r := H
        have A16 := Aside0.mk A160
        clear A160
        replace H := Option.bind_eq_some_iff.mp H
        obtain ⟨t308, A170, H⟩ := H
        replace H : (if t308 = true then (if t302 = true then (if ((decide (t307 < 0)) == (decide (a1 < t301))) = true then ((cut_Ahead.f kj4 a1).bind fun bt309 => ((cut_Behind.f a1).bind fun bt311 => ((cut_Compare.f kj4 bt309.1 bt309.2 bt311.1 bt311.2).bind fun t313 => (if t313 = (-1) then (some true) else (some false))))) else (some false)) else (if ((decide (t307 < 0)) == true) = true then ((cut_Ahead.f kj4 a1).bind fun bt314 => ((cut_Behind.f a1).bind fun bt316 => ((cut_Compare.f kj4 bt314.1 bt314.2 bt316.1 bt316.2).bind fun t318 => (if t318 = (-1) then (some t304) else (some false))))) else (some false))) else (some false)) = some r := H
        have A17 := Aside0.mk A170
        clear A170
        by_cases c18 : t308 = true
        · subst c18
          have H1 : (if t302 = true then (if ((decide (t307 < 0)) == (decide (a1 < t301))) = true then ((cut_Ahead.f kj4 a1).bind fun bt309 => ((cut_Behind.f a1).bind fun bt311 => ((cut_Compare.f kj4 bt309.1 bt309.2 bt311.1 bt311.2).bind fun t313 => (if t313 = (-1) then (some true) else (some false))))) else (some false)) else (if ((decide (t307 < 0)) == true) = true then ((cut_Ahead.f kj4 a1).bind fun bt314 => ((cut_Behind.f a1).bind fun bt316 => ((cut_Compare.f kj4 bt314.1 bt314.2 bt316.1 bt316.2).bind fun t318 => (if t318 = (-1) then (some t304) else (some false))))) else (some false))) = some r := by rw [if_pos rfl] at H; exact H
          clear H
          have H := H1
          clear H1
          by_cases c19 : t302 = true
          · subst c19
            have H1 : (if ((decide (t307 < 0)) == (decide (a1 < t301))) = true then ((cut_Ahead.f kj4 a1).bind fun bt309 => ((cut_Behind.f a1).bind fun bt311 => ((cut_Compare.f kj4 bt309.1 bt309.2 bt311.1 bt311.2).bind fun t313 => (if t313 = (-1) then (some true) else (some false))))) else (some false)) = some r := by rw [if_pos rfl] at H; exact H
            clear H
            have H := H1
            clear H1
            by_cases c20 : ((decide (t307 < 0)) == (decide (a1 < t301))) = true
            · rw [if_pos c20] at H
              have c20b0 : ((decide (t307 < 0)) == (decide (a1 < t301))) = true := c20
              (try (have c20b1 : decide ((decide (t307 < 0)) = (decide (a1 < t301))) = true := by simpa using c20))
              (try (have c20b2 : ((decide (t307 < 0)) == (decide (a1 < t301))) = true := by simpa using c20))
              clear c20
              replace H := Option.bind_eq_some_iff.mp H
              obtain ⟨⟨t309, t310⟩, A210, H⟩ := H
              replace H : ((cut_Behind.f a1).bind fun bt311 => ((cut_Compare.f kj4 t309 t310 bt311.1 bt311.2).bind fun t313 => (if t313 = (-1) then (some true) else (some false)))) = some r := H
              have A21 := Aside0.mk A210
              clear A210
              obtain ⟨rfl, rfl⟩ : t305 = t309 ∧ t306 = t310 := by have e_ := Option.some.inj (A15.out.symm.trans A21.out); simpa only [Prod.mk.injEq] using e_
              replace H := Option.bind_eq_some_iff.mp H
              obtain ⟨⟨t311, t312⟩, A220, H⟩ := H
              replace H : ((cut_Compare.f kj4 t305 t306 t311 t312).bind fun t313 => (if t313 = (-1) then (some true) else (some false))) = some r := H
              have A22 := Aside0.mk A220
              clear A220
              replace H := Option.bind_eq_some_iff.mp H
              obtain ⟨t313, A230, H⟩ := H
              replace H : (if t313 = (-1) then (some true) else (some false)) = some r := H
              have A23 := Aside0.mk A230
              clear A230
              by_cases c24 : t313 = (-1)
              · rw [if_pos c24] at H
                have c24b0 : (t313 == (-1)) = true := beq_iff_eq.mpr c24
                have c24b1 : (t313 != (-1)) = false := bne_eq_false_iff_eq.mpr c24
                clear c24
                obtain rfl := Option.some.inj H
                try go_wp2
                have n0_ := Aside0.mk (blk_drew BK300.out)
                have n1_ := Aside0.mk (below_drew1 HB.out)
                clear BK300
                clear HB
                have BK300 := n0_
                have HB := n1_
                clear n0_ n1_
                refine start_ (n := 5) (S := fun w' => w'.cell? ⟨gb300, 0, none⟩ = some (.int .i64 a0_0) ∧ w'.cell? ⟨gb300, 1, none⟩ = some (.int .i64 a0_1)) (ds := []) #[false, false, false, false, false] (by kernel_rfl) rfl rfl ⟨(blk_cell BK300.out 0).trans rfl, (blk_cell BK300.out 1).trans rfl⟩ (fun hHeld => ?_)
                generalize wc.drew = w25 at BK300 HB hHeld ⊢
                refine pure_ (i := 0) (N := some 35) (v := ?_) (a' := ?_) #[true, false, false, false, false] rfl rfl (by kernel_rfl) (fun _ _ _ h => h) (Or.inl ⟨by rfl, ?_⟩) ?_ ?_
                rotate_left
                · intro w'
                  go_simp
                  with_reducible rfl
                rotate_left
                · simp only [Act.put, List.setIfInBounds_toArray, List.set_cons_zero, List.set_cons_succ, i64_w, i32_w]
                  rfl
                refine take_ (i := 2) (N := some 37) (v := ?_) (a' := ?_) #[true, false, true, false, false] rfl rfl (by kernel_rfl) (fun _ _ _ h => h) (Or.inl ⟨by rfl, ?_⟩) hHeld ?_ ?_
                rotate_left
                · rintro w' ⟨s0, s1⟩
                  go_simp
                  with_reducible rfl
                rotate_left
                · simp only [Act.put, List.setIfInBounds_toArray, List.set_cons_zero, List.set_cons_succ, i64_w, i32_w]
                  rfl
                refine one_ (i := 1) (N := some 36) #[true, true, true, false, false] rfl rfl (by kernel_rfl) (by decide) (fun K hK => ?_)
                refine goes_ Try.func19 (by kernel_rfl) rfl #[.int .i64 a1] (by rfl) rfl rfl (by (try simp only [List.map_toArray, List.map_cons, List.map_nil]); first | done | rfl | (simp only [List.length_drop, List.length_take]; rfl)) ?_
                with_reducible refine (cut_Ahead.calls kj4 a1 t305 t306 _ A15.out).mono ?_
                rintro e w26 ⟨rfl, hb⟩
                refine ⟨_, rfl, ?_⟩
                have n0_ := Aside0.mk (blk_below (g := gb300) (o := .cells #[.int .i64 a0_0, .int .i64 a0_1] 23 (0, 0)) (by (with_reducible repeat (first | refine blk_drewN ?_ _ | refine blk_drew ?_ | refine blk_alloc ?_ _)); exact BK300.out) hb)
                have n1_ := Aside0.mk (below_step (by repeat (first | (with_reducible first | exact HB.out | apply below_alloc | apply pw_below_drewN | apply below_drew1 | refine below_set ?_ GE300.out) | exact HB.out)) hb)
                clear BK300
                clear HB
                have BK300 := n0_
                have HB := n1_
                clear n0_ n1_
                (try clear hb)
                (try clear hb2)
                (try clear hk)
                (try clear hi)
                refine hK.out _ _ ⟨(blk_cell BK300.out 0).trans rfl, (blk_cell BK300.out 1).trans rfl⟩ (fun hHeld => ?_)
                clear hK K
                refine norm_ (a' := ?_) ?_ ?_
                rotate_left
                · show Act.put _ (some 36) _ = _
                  simp only [Act.put, List.setIfInBounds_toArray, List.set_cons_zero, List.set_cons_succ, i64_w, i32_w]
                  rfl
                refine one_ (i := 3) (N := some 38) #[true, true, true, true, false] rfl rfl (by kernel_rfl) (by decide) (fun K hK => ?_)
                refine goes_ Try.func16 (by kernel_rfl) rfl #[.agg #[.int .i64 t305, .int .i64 t306], .agg #[.int .i64 a0_0, .int .i64 a0_1]] (by rfl) rfl rfl (by (try simp only [List.map_toArray, List.map_cons, List.map_nil]); first | done | rfl | (simp only [List.length_drop, List.length_take]; rfl)) ?_
                with_reducible refine (cut_Compare.calls kj4 t305 t306 a0_0 a0_1 t307 _ A16.out).mono ?_
                rintro e w27 ⟨rfl, hb⟩
                refine ⟨_, rfl, ?_⟩
                have n0_ := Aside0.mk (blk_below (g := gb300) (o := .cells #[.int .i64 a0_0, .int .i64 a0_1] 23 (0, 0)) (by (with_reducible repeat (first | refine blk_drewN ?_ _ | refine blk_drew ?_ | refine blk_alloc ?_ _)); exact BK300.out) hb)
                have n1_ := Aside0.mk (below_step (by repeat (first | (with_reducible first | exact HB.out | apply below_alloc | apply pw_below_drewN | apply below_drew1 | refine below_set ?_ GE300.out) | exact HB.out)) hb)
                clear BK300
                clear HB
                have BK300 := n0_
                have HB := n1_
                clear n0_ n1_
                (try clear hb)
                (try clear hb2)
                (try clear hk)
                (try clear hi)
                refine hK.out _ _ ⟨(blk_cell BK300.out 0).trans rfl, (blk_cell BK300.out 1).trans rfl⟩ (fun hHeld => ?_)
                clear hK K
                refine norm_ (a' := ?_) ?_ ?_
                rotate_left
                · show Act.put _ (some 38) _ = _
                  simp only [Act.put, List.setIfInBounds_toArray, List.set_cons_zero, List.set_cons_succ, i64_w, i32_w]
                  rfl
                refine pure_ (i := 4) (N := some 9) (v := ?_) (a' := ?_) #[true, true, true, true, true] rfl rfl (by kernel_rfl) (fun _ _ _ h => h) (Or.inl ⟨by rfl, ?_⟩) ?_ ?_
                rotate_left
                · intro w'
                  go_simp
                  with_reducible rfl
                rotate_left
                · simp only [Act.put, List.setIfInBounds_toArray, List.set_cons_zero, List.set_cons_succ, i64_w, i32_w]
                  rfl
                refine done_ (by kernel_rfl) ?_
                try go_wp2_with (first | ((with_reducible refine gate_callee (f := 10) rfl ?_); refine goesL_ (some 39) rfl rfl Try.func10 (by kernel_rfl) rfl #[] rfl (by (try simp only [List.map_toArray, List.map_cons, List.map_nil]); first | done | rfl | (simp only [List.length_drop, List.length_take]; rfl)) ?_; (with_reducible refine (bocagelaw02_alive.calls kj4  true _ A17.out rfl).mono ?_); rintro e w28 ⟨rfl, hb⟩; refine ⟨_, rfl, ?_⟩; have n0_ := Aside0.mk (blk_below (g := gb300) (o := .cells #[.int .i64 a0_0, .int .i64 a0_1] 23 (0, 0)) (by (with_reducible repeat (first | refine blk_drewN ?_ _ | refine blk_drew ?_ | refine blk_alloc ?_ _)); exact BK300.out) hb); have n1_ := Aside0.mk (below_step (by repeat (first | (with_reducible first | exact HB.out | apply below_alloc | apply pw_below_drewN | apply below_drew1 | refine below_set ?_ GE300.out) | exact HB.out)) hb); clear BK300; clear HB; have BK300 := n0_; have HB := n1_; clear n0_ n1_; (try clear hb); (try clear hb2); (try clear hk); (try clear hi)) | (go_at_call 19; (with_reducible refine (cut_Ahead.calls kj4 a1 t305 t306 _ A21.out).mono ?_); rintro e w29 ⟨rfl, hb⟩; have n0_ := Aside0.mk (blk_below (g := gb300) (o := .cells #[.int .i64 a0_0, .int .i64 a0_1] 23 (0, 0)) (by (with_reducible repeat (first | refine blk_drewN ?_ _ | refine blk_drew ?_ | refine blk_alloc ?_ _)); exact BK300.out) hb); have n1_ := Aside0.mk (below_step (by repeat (first | (with_reducible first | exact HB.out | apply below_alloc | apply pw_below_drewN | apply below_drew1 | refine below_set ?_ GE300.out) | exact HB.out)) hb); clear BK300; clear HB; have BK300 := n0_; have HB := n1_; clear n0_ n1_; (try clear hb); (try clear hb2); (try clear hk); (try clear hi)) | (go_at_call 20; (with_reducible refine (cut_Behind.calls a1 t311 t312 _ A22.out).mono ?_); rintro e w30 ⟨rfl, hb⟩; have n0_ := Aside0.mk (blk_below (g := gb300) (o := .cells #[.int .i64 a0_0, .int .i64 a0_1] 23 (0, 0)) (by (with_reducible repeat (first | refine blk_drewN ?_ _ | refine blk_drew ?_ | refine blk_alloc ?_ _)); exact BK300.out) hb); have n1_ := Aside0.mk (below_step (by repeat (first | (with_reducible first | exact HB.out | apply below_alloc | apply pw_below_drewN | apply below_drew1 | refine below_set ?_ GE300.out) | exact HB.out)) hb); clear BK300; clear HB; have BK300 := n0_; have HB := n1_; clear n0_ n1_; (try clear hb); (try clear hb2); (try clear hk); (try clear hi)) | (go_at_call 16; (with_reducible refine (cut_Compare.calls kj4 t305 t306 t311 t312 t313 _ A23.out).mono ?_); rintro e w31 ⟨rfl, hb⟩; have n0_ := Aside0.mk (blk_below (g := gb300) (o := .cells #[.int .i64 a0_0, .int .i64 a0_1] 23 (0, 0)) (by (with_reducible repeat (first | refine blk_drewN ?_ _ | refine blk_drew ?_ | refine blk_alloc ?_ _)); exact BK300.out) hb); have n1_ := Aside0.mk (below_step (by repeat (first | (with_reducible first | exact HB.out | apply below_alloc | apply pw_below_drewN | apply below_drew1 | refine below_set ?_ GE300.out) | exact HB.out)) hb); clear BK300; clear HB; have BK300 := n0_; have HB := n1_; clear n0_ n1_; (try clear hb); (try clear hb2); (try clear hk); (try clear hi)))
                go_ret
                exact ⟨by first | rfl | (simp [errW_none, errW_some] <;> rfl) | (simp [*, errW_none, errW_some] <;> rfl), by repeat (first | (with_reducible first | exact HB.out | apply below_alloc | apply pw_below_drewN | apply below_drew1 | refine below_set ?_ GE300.out) | exact HB.out)⟩
              · rw [if_neg c24] at H
                exact absurd ((Option.some.inj H).trans HRT.out) Bool.false_ne_true
            · rw [if_neg c20] at H
              exact absurd ((Option.some.inj H).trans HRT.out) Bool.false_ne_true
          · replace c19 := Bool.eq_false_iff.mpr c19
            subst c19
            have H1 : (if ((decide (t307 < 0)) == true) = true then ((cut_Ahead.f kj4 a1).bind fun bt314 => ((cut_Behind.f a1).bind fun bt316 => ((cut_Compare.f kj4 bt314.1 bt314.2 bt316.1 bt316.2).bind fun t318 => (if t318 = (-1) then (some t304) else (some false))))) else (some false)) = some r := by rw [if_neg (show ¬ (false = true) by decide)] at H; exact H
            clear H
            have H := H1
            clear H1
            by_cases c43 : ((decide (t307 < 0)) == true) = true
            · rw [if_pos c43] at H
              have c43b0 : ((decide (t307 < 0)) == true) = true := c43
              (try (have c43b1 : decide ((decide (t307 < 0)) = true) = true := by simpa using c43))
              (try (have c43b2 : ((decide (t307 < 0)) == true) = true := by simpa using c43))
              clear c43
              replace H := Option.bind_eq_some_iff.mp H
              obtain ⟨⟨t314, t315⟩, A440, H⟩ := H
              replace H : ((cut_Behind.f a1).bind fun bt316 => ((cut_Compare.f kj4 t314 t315 bt316.1 bt316.2).bind fun t318 => (if t318 = (-1) then (some t304) else (some false)))) = some r := H
              have A44 := Aside0.mk A440
              clear A440
              obtain ⟨rfl, rfl⟩ : t305 = t314 ∧ t306 = t315 := by have e_ := Option.some.inj (A15.out.symm.trans A44.out); simpa only [Prod.mk.injEq] using e_
              replace H := Option.bind_eq_some_iff.mp H
              obtain ⟨⟨t316, t317⟩, A450, H⟩ := H
              replace H : ((cut_Compare.f kj4 t305 t306 t316 t317).bind fun t318 => (if t318 = (-1) then (some t304) else (some false))) = some r := H
              have A45 := Aside0.mk A450
              clear A450
              replace H := Option.bind_eq_some_iff.mp H
              obtain ⟨t318, A460, H⟩ := H
              replace H : (if t318 = (-1) then (some t304) else (some false)) = some r := H
              have A46 := Aside0.mk A460
              clear A460
              by_cases c47 : t318 = (-1)
              · rw [if_pos c47] at H
                have c47b0 : (t318 == (-1)) = true := beq_iff_eq.mpr c47
                have c47b1 : (t318 != (-1)) = false := bne_eq_false_iff_eq.mpr c47
                clear c47
                obtain rfl := Option.some.inj H
                try go_wp2
                have n0_ := Aside0.mk (blk_drew BK300.out)
                have n1_ := Aside0.mk (below_drew1 HB.out)
                clear BK300
                clear HB
                have BK300 := n0_
                have HB := n1_
                clear n0_ n1_
                refine start_ (n := 5) (S := fun w' => w'.cell? ⟨gb300, 0, none⟩ = some (.int .i64 a0_0) ∧ w'.cell? ⟨gb300, 1, none⟩ = some (.int .i64 a0_1)) (ds := []) #[false, false, false, false, false] (by kernel_rfl) rfl rfl ⟨(blk_cell BK300.out 0).trans rfl, (blk_cell BK300.out 1).trans rfl⟩ (fun hHeld => ?_)
                generalize wc.drew = w48 at BK300 HB hHeld ⊢
                refine pure_ (i := 0) (N := some 35) (v := ?_) (a' := ?_) #[true, false, false, false, false] rfl rfl (by kernel_rfl) (fun _ _ _ h => h) (Or.inl ⟨by rfl, ?_⟩) ?_ ?_
                rotate_left
                · intro w'
                  go_simp
                  with_reducible rfl
                rotate_left
                · simp only [Act.put, List.setIfInBounds_toArray, List.set_cons_zero, List.set_cons_succ, i64_w, i32_w]
                  rfl
                refine take_ (i := 2) (N := some 37) (v := ?_) (a' := ?_) #[true, false, true, false, false] rfl rfl (by kernel_rfl) (fun _ _ _ h => h) (Or.inl ⟨by rfl, ?_⟩) hHeld ?_ ?_
                rotate_left
                · rintro w' ⟨s0, s1⟩
                  go_simp
                  with_reducible rfl
                rotate_left
                · simp only [Act.put, List.setIfInBounds_toArray, List.set_cons_zero, List.set_cons_succ, i64_w, i32_w]
                  rfl
                refine one_ (i := 1) (N := some 36) #[true, true, true, false, false] rfl rfl (by kernel_rfl) (by decide) (fun K hK => ?_)
                refine goes_ Try.func19 (by kernel_rfl) rfl #[.int .i64 a1] (by rfl) rfl rfl (by (try simp only [List.map_toArray, List.map_cons, List.map_nil]); first | done | rfl | (simp only [List.length_drop, List.length_take]; rfl)) ?_
                with_reducible refine (cut_Ahead.calls kj4 a1 t305 t306 _ A15.out).mono ?_
                rintro e w49 ⟨rfl, hb⟩
                refine ⟨_, rfl, ?_⟩
                have n0_ := Aside0.mk (blk_below (g := gb300) (o := .cells #[.int .i64 a0_0, .int .i64 a0_1] 23 (0, 0)) (by (with_reducible repeat (first | refine blk_drewN ?_ _ | refine blk_drew ?_ | refine blk_alloc ?_ _)); exact BK300.out) hb)
                have n1_ := Aside0.mk (below_step (by repeat (first | (with_reducible first | exact HB.out | apply below_alloc | apply pw_below_drewN | apply below_drew1 | refine below_set ?_ GE300.out) | exact HB.out)) hb)
                clear BK300
                clear HB
                have BK300 := n0_
                have HB := n1_
                clear n0_ n1_
                (try clear hb)
                (try clear hb2)
                (try clear hk)
                (try clear hi)
                refine hK.out _ _ ⟨(blk_cell BK300.out 0).trans rfl, (blk_cell BK300.out 1).trans rfl⟩ (fun hHeld => ?_)
                clear hK K
                refine norm_ (a' := ?_) ?_ ?_
                rotate_left
                · show Act.put _ (some 36) _ = _
                  simp only [Act.put, List.setIfInBounds_toArray, List.set_cons_zero, List.set_cons_succ, i64_w, i32_w]
                  rfl
                refine one_ (i := 3) (N := some 38) #[true, true, true, true, false] rfl rfl (by kernel_rfl) (by decide) (fun K hK => ?_)
                refine goes_ Try.func16 (by kernel_rfl) rfl #[.agg #[.int .i64 t305, .int .i64 t306], .agg #[.int .i64 a0_0, .int .i64 a0_1]] (by rfl) rfl rfl (by (try simp only [List.map_toArray, List.map_cons, List.map_nil]); first | done | rfl | (simp only [List.length_drop, List.length_take]; rfl)) ?_
                with_reducible refine (cut_Compare.calls kj4 t305 t306 a0_0 a0_1 t307 _ A16.out).mono ?_
                rintro e w50 ⟨rfl, hb⟩
                refine ⟨_, rfl, ?_⟩
                have n0_ := Aside0.mk (blk_below (g := gb300) (o := .cells #[.int .i64 a0_0, .int .i64 a0_1] 23 (0, 0)) (by (with_reducible repeat (first | refine blk_drewN ?_ _ | refine blk_drew ?_ | refine blk_alloc ?_ _)); exact BK300.out) hb)
                have n1_ := Aside0.mk (below_step (by repeat (first | (with_reducible first | exact HB.out | apply below_alloc | apply pw_below_drewN | apply below_drew1 | refine below_set ?_ GE300.out) | exact HB.out)) hb)
                clear BK300
                clear HB
                have BK300 := n0_
                have HB := n1_
                clear n0_ n1_
                (try clear hb)
                (try clear hb2)
                (try clear hk)
                (try clear hi)
                refine hK.out _ _ ⟨(blk_cell BK300.out 0).trans rfl, (blk_cell BK300.out 1).trans rfl⟩ (fun hHeld => ?_)
                clear hK K
                refine norm_ (a' := ?_) ?_ ?_
                rotate_left
                · show Act.put _ (some 38) _ = _
                  simp only [Act.put, List.setIfInBounds_toArray, List.set_cons_zero, List.set_cons_succ, i64_w, i32_w]
                  rfl
                refine pure_ (i := 4) (N := some 9) (v := ?_) (a' := ?_) #[true, true, true, true, true] rfl rfl (by kernel_rfl) (fun _ _ _ h => h) (Or.inl ⟨by rfl, ?_⟩) ?_ ?_
                rotate_left
                · intro w'
                  go_simp
                  with_reducible rfl
                rotate_left
                · simp only [Act.put, List.setIfInBounds_toArray, List.set_cons_zero, List.set_cons_succ, i64_w, i32_w]
                  rfl
                refine done_ (by kernel_rfl) ?_
                try go_wp2_with (first | ((with_reducible refine gate_callee (f := 10) rfl ?_); refine goesL_ (some 39) rfl rfl Try.func10 (by kernel_rfl) rfl #[] rfl (by (try simp only [List.map_toArray, List.map_cons, List.map_nil]); first | done | rfl | (simp only [List.length_drop, List.length_take]; rfl)) ?_; (with_reducible refine (bocagelaw02_alive.calls kj4  true _ A17.out rfl).mono ?_); rintro e w51 ⟨rfl, hb⟩; refine ⟨_, rfl, ?_⟩; have n0_ := Aside0.mk (blk_below (g := gb300) (o := .cells #[.int .i64 a0_0, .int .i64 a0_1] 23 (0, 0)) (by (with_reducible repeat (first | refine blk_drewN ?_ _ | refine blk_drew ?_ | refine blk_alloc ?_ _)); exact BK300.out) hb); have n1_ := Aside0.mk (below_step (by repeat (first | (with_reducible first | exact HB.out | apply below_alloc | apply pw_below_drewN | apply below_drew1 | refine below_set ?_ GE300.out) | exact HB.out)) hb); clear BK300; clear HB; have BK300 := n0_; have HB := n1_; clear n0_ n1_; (try clear hb); (try clear hb2); (try clear hk); (try clear hi)) | (go_at_call 19; (with_reducible refine (cut_Ahead.calls kj4 a1 t305 t306 _ A44.out).mono ?_); rintro e w52 ⟨rfl, hb⟩; have n0_ := Aside0.mk (blk_below (g := gb300) (o := .cells #[.int .i64 a0_0, .int .i64 a0_1] 23 (0, 0)) (by (with_reducible repeat (first | refine blk_drewN ?_ _ | refine blk_drew ?_ | refine blk_alloc ?_ _)); exact BK300.out) hb); have n1_ := Aside0.mk (below_step (by repeat (first | (with_reducible first | exact HB.out | apply below_alloc | apply pw_below_drewN | apply below_drew1 | refine below_set ?_ GE300.out) | exact HB.out)) hb); clear BK300; clear HB; have BK300 := n0_; have HB := n1_; clear n0_ n1_; (try clear hb); (try clear hb2); (try clear hk); (try clear hi)) | (go_at_call 20; (with_reducible refine (cut_Behind.calls a1 t316 t317 _ A45.out).mono ?_); rintro e w53 ⟨rfl, hb⟩; have n0_ := Aside0.mk (blk_below (g := gb300) (o := .cells #[.int .i64 a0_0, .int .i64 a0_1] 23 (0, 0)) (by (with_reducible repeat (first | refine blk_drewN ?_ _ | refine blk_drew ?_ | refine blk_alloc ?_ _)); exact BK300.out) hb); have n1_ := Aside0.mk (below_step (by repeat (first | (with_reducible first | exact HB.out | apply below_alloc | apply pw_below_drewN | apply below_drew1 | refine below_set ?_ GE300.out) | exact HB.out)) hb); clear BK300; clear HB; have BK300 := n0_; have HB := n1_; clear n0_ n1_; (try clear hb); (try clear hb2); (try clear hk); (try clear hi)) | (go_at_call 16; (with_reducible refine (cut_Compare.calls kj4 t305 t306 t316 t317 t318 _ A46.out).mono ?_); rintro e w54 ⟨rfl, hb⟩; have n0_ := Aside0.mk (blk_below (g := gb300) (o := .cells #[.int .i64 a0_0, .int .i64 a0_1] 23 (0, 0)) (by (with_reducible repeat (first | refine blk_drewN ?_ _ | refine blk_drew ?_ | refine blk_alloc ?_ _)); exact BK300.out) hb); have n1_ := Aside0.mk (below_step (by repeat (first | (with_reducible first | exact HB.out | apply below_alloc | apply pw_below_drewN | apply below_drew1 | refine below_set ?_ GE300.out) | exact HB.out)) hb); clear BK300; clear HB; have BK300 := n0_; have HB := n1_; clear n0_ n1_; (try clear hb); (try clear hb2); (try clear hk); (try clear hi)))
                go_ret
                exact ⟨by first | rfl | (simp [errW_none, errW_some] <;> rfl) | (simp [*, errW_none, errW_some] <;> rfl), by repeat (first | (with_reducible first | exact HB.out | apply below_alloc | apply pw_below_drewN | apply below_drew1 | refine below_set ?_ GE300.out) | exact HB.out)⟩
              · rw [if_neg c47] at H
                exact absurd ((Option.some.inj H).trans HRT.out) Bool.false_ne_true
            · rw [if_neg c43] at H
              exact absurd ((Option.some.inj H).trans HRT.out) Bool.false_ne_true
        · replace c18 := Bool.eq_false_iff.mpr c18
          subst c18
          have H1 : (some false) = some r := by rw [if_neg (show ¬ (false = true) by decide)] at H; exact H
          exact absurd ((Option.some.inj H1).trans HRT.out) Bool.false_ne_true
end Go.Proofs.Ytihhagfdfhojnaa.Print
