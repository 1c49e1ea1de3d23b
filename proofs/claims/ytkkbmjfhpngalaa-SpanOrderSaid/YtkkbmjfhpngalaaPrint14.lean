-- Laid by wip/print/bprint.py of this repo, over the kit's printer, with functions given by hand; not trusted: Lean checks it.
import Derived.Test.YtkkbmjfhpngalaaPrint0
import Derived.Test.YtkkbmjfhpngalaaPrint13
import Derived.Test.YtkkbmjfhpngalaaPrint3
import Derived.Test.YtkkbmjfhpngalaaPrint4
import Derived.Test.YtkkbmjfhpngalaaSh
namespace Go.Proofs.Ytkkbmjfhpngalaa.Print
open Go.RowKit Go.Proofs.YtkkbmjfhpngalaaW.PrintWords Go.Proofs.YtkkbmjfhpngalaaW.PrintLast Go.Proofs.YtkkbmjfhpngalaaW.PrintMore
attribute [local go_sem] max2_int min2_int max_two min_two max_three min_three max_four min_four   -- for this text's walks alone
set_option linter.unusedVariables false
set_option linter.unusedSimpArgs false
/-! ### bocagelaw03_SpanOrder: function 6 -/
def bocagelaw03_SpanOrder.f (k : Nat) (a0_0 : Int) (a0_1 : Int) (a0_2 : Int) (a0_3 : Int) (a1_0 : Int) (a1_1 : Int) (a1_2 : Int) (a1_3 : Int) : Option (Bool) := (span_Compare.f k a0_0 a0_1 a0_2 a0_3 a1_0 a1_1 a1_2 a1_3).bind fun t695 => ((bocageref02_Compare.f k a0_0 a0_1 a1_0 a1_1).bind fun t696 => (if t696 = 0 then ((bocageref02_Compare.f k a0_2 a0_3 a1_2 a1_3).bind fun t697 => ((bocagelaw03_alive.f k).bind fun t698 => (if t698 = true then (if t695 = t697 then ((span_Compare.f k a1_0 a1_1 a1_2 a1_3 a0_0 a0_1 a0_2 a0_3).bind fun t699 => (some (t699 == (wrap64 (-t695))))) else (some false)) else (some false)))) else ((bocagelaw03_alive.f k).bind fun t700 => (if t700 = true then (if t695 = t696 then ((span_Compare.f k a1_0 a1_1 a1_2 a1_3 a0_0 a0_1 a0_2 a0_3).bind fun t701 => (some (t701 == (wrap64 (-t695))))) else (some false)) else (some false)))))
theorem bocagelaw03_SpanOrder.mono : ∀ a0 a1 a2 a3 a4 a5 a6 a7 k, LeO (bocagelaw03_SpanOrder.f k a0 a1 a2 a3 a4 a5 a6 a7) (bocagelaw03_SpanOrder.f (k + 1) a0 a1 a2 a3 a4 a5 a6 a7) := by
  intro a0 a1 a2 a3 a4 a5 a6 a7 k
  unfold bocagelaw03_SpanOrder.f
  repeat' first
      | (with_reducible exact bocagelaw03_alive.mono _)
      | (with_reducible exact bocageref02_Compare.mono _ _ _ _ _)
      | (with_reducible exact span_Compare.mono _ _ _ _ _ _ _ _ _)
      | (with_reducible exact LeO.refl _)
      | (with_reducible exact LeO.none _)
      | (with_reducible refine LeO.ite ?_ ?_)
      | (with_reducible refine LeO.bind ?_ (fun _ => ?_))
      | exact bocagelaw03_alive.mono _
      | exact bocageref02_Compare.mono _ _ _ _ _
      | exact span_Compare.mono _ _ _ _ _ _ _ _ _
      | exact LeO.none _
      | refine LeO.ite ?_ ?_
      | refine LeO.bind ?_ (fun _ => ?_)
set_option maxHeartbeats 8000000 in
set_option maxRecDepth 100000 in
theorem bocagelaw03_SpanOrder.calls (k : Nat) (a0_0 : Int) (a0_1 : Int) (a0_2 : Int) (a0_3 : Int) (a1_0 : Int) (a1_1 : Int) (a1_2 : Int) (a1_3 : Int) (r : Bool) (w : World) (h : bocagelaw03_SpanOrder.f k a0_0 a0_1 a0_2 a0_3 a1_0 a1_1 a1_2 a1_3 = some r) (hr : r = true) :
    Calls Try.prog 6 #[.agg #[.int .i64 a0_0, .int .i64 a0_1, .int .i64 a0_2, .int .i64 a0_3], .agg #[.int .i64 a1_0, .int .i64 a1_1, .int .i64 a1_2, .int .i64 a1_3]] w fun e w' => e = .returned (.bool r) ∧ Below w.heap.size w w' := by
  have HRT := Aside0.mk hr
  clear hr
  have hu25 := Try.underlying25
  have hu23 := Try.underlying23
  have HB := Aside0.mk (Below.refl w.heap.size w)
  have H : ((span_Compare.f k a0_0 a0_1 a0_2 a0_3 a1_0 a1_1 a1_2 a1_3).bind fun t695 => ((bocageref02_Compare.f k a0_0 a0_1 a1_0 a1_1).bind fun t696 => (if t696 = 0 then ((bocageref02_Compare.f k a0_2 a0_3 a1_2 a1_3).bind fun t697 => ((bocagelaw03_alive.f k).bind fun t698 => (if t698 = true then (if t695 = t697 then ((span_Compare.f k a1_0 a1_1 a1_2 a1_3 a0_0 a0_1 a0_2 a0_3).bind fun t699 => (some (t699 == (wrap64 (-t695))))) else (some false)) else (some false)))) else ((bocagelaw03_alive.f k).bind fun t700 => (if t700 = true then (if t695 = t696 then ((span_Compare.f k a1_0 a1_1 a1_2 a1_3 a0_0 a0_1 a0_2 a0_3).bind fun t701 => (some (t701 == (wrap64 (-t695))))) else (some false)) else (some false)))))) = some r := h
  clear h
  replace H := Option.bind_eq_some_iff.mp H
  obtain ⟨t695, A30, H⟩ := H
  replace H : ((bocageref02_Compare.f k a0_0 a0_1 a1_0 a1_1).bind fun t696 => (if t696 = 0 then ((bocageref02_Compare.f k a0_2 a0_3 a1_2 a1_3).bind fun t697 => ((bocagelaw03_alive.f k).bind fun t698 => (if t698 = true then (if t695 = t697 then ((span_Compare.f k a1_0 a1_1 a1_2 a1_3 a0_0 a0_1 a0_2 a0_3).bind fun t699 => (some (t699 == (wrap64 (-t695))))) else (some false)) else (some false)))) else ((bocagelaw03_alive.f k).bind fun t700 => (if t700 = true then (if t695 = t696 then ((span_Compare.f k a1_0 a1_1 a1_2 a1_3 a0_0 a0_1 a0_2 a0_3).bind fun t701 => (some (t701 == (wrap64 (-t695))))) else (some false)) else (some false))))) = some r := H
  have A3 := Aside0.mk A30
  clear A30
  replace H := Option.bind_eq_some_iff.mp H
  obtain ⟨t696, A40, H⟩ := H
  replace H : (if t696 = 0 then ((bocageref02_Compare.f k a0_2 a0_3 a1_2 a1_3).bind fun t697 => ((bocagelaw03_alive.f k).bind fun t698 => (if t698 = true then (if t695 = t697 then ((span_Compare.f k a1_0 a1_1 a1_2 a1_3 a0_0 a0_1 a0_2 a0_3).bind fun t699 => (some (t699 == (wrap64 (-t695))))) else (some false)) else (some false)))) else ((bocagelaw03_alive.f k).bind fun t700 => (if t700 = true then (if t695 = t696 then ((span_Compare.f k a1_0 a1_1 a1_2 a1_3 a0_0 a0_1 a0_2 a0_3).bind fun t701 => (some (t701 == (wrap64 (-t695))))) else (some false)) else (some false)))) = some r := H
  have A4 := Aside0.mk A40
  clear A40
  by_cases c5 : t696 = 0
  · rw [if_pos c5] at H
    have c5b0 : (t696 == 0) = true := beq_iff_eq.mpr c5
    have c5b1 : (t696 != 0) = false := bne_eq_false_iff_eq.mpr c5
    clear c5
    replace H := Option.bind_eq_some_iff.mp H
    obtain ⟨t697, A60, H⟩ := H
    replace H : ((bocagelaw03_alive.f k).bind fun t698 => (if t698 = true then (if t695 = t697 then ((span_Compare.f k a1_0 a1_1 a1_2 a1_3 a0_0 a0_1 a0_2 a0_3).bind fun t699 => (some (t699 == (wrap64 (-t695))))) else (some false)) else (some false))) = some r := H
    have A6 := Aside0.mk A60
    clear A60
    replace H := Option.bind_eq_some_iff.mp H
    obtain ⟨t698, A70, H⟩ := H
    replace H : (if t698 = true then (if t695 = t697 then ((span_Compare.f k a1_0 a1_1 a1_2 a1_3 a0_0 a0_1 a0_2 a0_3).bind fun t699 => (some (t699 == (wrap64 (-t695))))) else (some false)) else (some false)) = some r := H
    have A7 := Aside0.mk A70
    clear A70
    by_cases c8 : t698 = true
    · subst c8
      have H1 : (if t695 = t697 then ((span_Compare.f k a1_0 a1_1 a1_2 a1_3 a0_0 a0_1 a0_2 a0_3).bind fun t699 => (some (t699 == (wrap64 (-t695))))) else (some false)) = some r := by rw [if_pos rfl] at H; exact H
      clear H
      have H := H1
      clear H1
      by_cases c9 : t695 = t697
      · rw [if_pos c9] at H
        have c9b0 : (t695 == t697) = true := beq_iff_eq.mpr c9
        have c9b1 : (t695 != t697) = false := bne_eq_false_iff_eq.mpr c9
        clear c9
        replace H := Option.bind_eq_some_iff.mp H
        obtain ⟨t699, A100, H⟩ := H
        replace H : (some (t699 == (wrap64 (-t695)))) = some r := H
        have A10 := Aside0.mk A100
        clear A100
        obtain rfl := Option.some.inj H
        go_enter Try.func6, Try.ntmps6
        go_wp2_with (first | ((with_reducible refine gate_dst (N := 2) rfl ?_); refine bxe (N := 2) (cs := #[.int .i64 a0_0, .int .i64 a0_1, .int .i64 a0_2, .int .i64 a0_3]) (t := 25) ?_; intro gb693 hg w11 hbox hb; have BK693 := Aside0.mk (hbox); have GW693 := lsz hg HB; have GE693 := lsz hg HB; replace HB := bst HB hb; clear hb hbox hg) | ((with_reducible refine gate_dst (N := 3) rfl ?_); refine bxe (N := 3) (cs := #[.int .i64 a1_0, .int .i64 a1_1, .int .i64 a1_2, .int .i64 a1_3]) (t := 25) ?_; intro gb694 hg w12 hbox hb; have BK694 := Aside0.mk (hbox); have GW694 := lsz hg HB; have GE694 := lsz hg HB; replace HB := bst HB hb; have NB693_694 := nlt hg BK693; have NB694_693 := ngt hg BK693; replace BK693 := bkb BK693 hb; clear hb hbox hg; have hnb13 := NB693_694.out; have hnc13 := NB694_693.out; have hcz14_0 : w12.cell? ⟨gb693, 0, none⟩ = some (.int .i64 a0_0) := (blk_cell BK693.out 0).trans rfl; have hcz14_1 : w12.cell? ⟨gb693, 1, none⟩ = some (.int .i64 a0_1) := (blk_cell BK693.out 1).trans rfl; have hcz14_2 : w12.cell? ⟨gb693, 2, none⟩ = some (.int .i64 a0_2) := (blk_cell BK693.out 2).trans rfl; have hcz14_3 : w12.cell? ⟨gb693, 3, none⟩ = some (.int .i64 a0_3) := (blk_cell BK693.out 3).trans rfl; have hfz14_0 := blk_frozen BK693.out 0; have hfz14_1 := blk_frozen BK693.out 1; have hfz14_2 := blk_frozen BK693.out 2; have hfz14_3 := blk_frozen BK693.out 3; have hcz15_0 : w12.cell? ⟨gb694, 0, none⟩ = some (.int .i64 a1_0) := (blk_cell BK694.out 0).trans rfl; have hcz15_1 : w12.cell? ⟨gb694, 1, none⟩ = some (.int .i64 a1_1) := (blk_cell BK694.out 1).trans rfl; have hcz15_2 : w12.cell? ⟨gb694, 2, none⟩ = some (.int .i64 a1_2) := (blk_cell BK694.out 2).trans rfl; have hcz15_3 : w12.cell? ⟨gb694, 3, none⟩ = some (.int .i64 a1_3) := (blk_cell BK694.out 3).trans rfl; have hfz15_0 := blk_frozen BK694.out 0; have hfz15_1 := blk_frozen BK694.out 1; have hfz15_2 := blk_frozen BK694.out 2; have hfz15_3 := blk_frozen BK694.out 3) | ((with_reducible refine gate_callee (f := 38) rfl ?_); refine gol (some 9) Try.func38 #[.agg #[.int .i64 a0_0, .int .i64 a0_1, .int .i64 a0_2, .int .i64 a0_3], .agg #[.int .i64 a1_0, .int .i64 a1_1, .int .i64 a1_2, .int .i64 a1_3]] ?_; (with_reducible refine (span_Compare.calls k a0_0 a0_1 a0_2 a0_3 a1_0 a1_1 a1_2 a1_3 t695 _ A3.out).mono ?_); rintro e w16 ⟨rfl, hb⟩; refine ⟨_, rfl, ?_⟩; replace BK693 := bkb BK693 hb; replace BK694 := bkb BK694 hb; replace HB := bst HB hb; (try clear hb); (try clear hb2); (try clear hk); (try clear hi); have hcz17_0 : w16.cell? ⟨gb693, 0, none⟩ = some (.int .i64 a0_0) := (blk_cell BK693.out 0).trans rfl; have hcz17_1 : w16.cell? ⟨gb693, 1, none⟩ = some (.int .i64 a0_1) := (blk_cell BK693.out 1).trans rfl; have hcz17_2 : w16.cell? ⟨gb693, 2, none⟩ = some (.int .i64 a0_2) := (blk_cell BK693.out 2).trans rfl; have hcz17_3 : w16.cell? ⟨gb693, 3, none⟩ = some (.int .i64 a0_3) := (blk_cell BK693.out 3).trans rfl; have hfz17_0 := blk_frozen BK693.out 0; have hfz17_1 := blk_frozen BK693.out 1; have hfz17_2 := blk_frozen BK693.out 2; have hfz17_3 := blk_frozen BK693.out 3; have hcz18_0 : w16.cell? ⟨gb694, 0, none⟩ = some (.int .i64 a1_0) := (blk_cell BK694.out 0).trans rfl; have hcz18_1 : w16.cell? ⟨gb694, 1, none⟩ = some (.int .i64 a1_1) := (blk_cell BK694.out 1).trans rfl; have hcz18_2 : w16.cell? ⟨gb694, 2, none⟩ = some (.int .i64 a1_2) := (blk_cell BK694.out 2).trans rfl; have hcz18_3 : w16.cell? ⟨gb694, 3, none⟩ = some (.int .i64 a1_3) := (blk_cell BK694.out 3).trans rfl; have hfz18_0 := blk_frozen BK694.out 0; have hfz18_1 := blk_frozen BK694.out 1; have hfz18_2 := blk_frozen BK694.out 2; have hfz18_3 := blk_frozen BK694.out 3) | ((with_reducible refine gate_callee (f := 39) rfl ?_); refine gol (some 14) Try.func39 #[.agg #[.int .i64 a0_0, .int .i64 a0_1], .agg #[.int .i64 a1_0, .int .i64 a1_1]] ?_; (with_reducible refine (bocageref02_Compare.calls k a0_0 a0_1 a1_0 a1_1 t696 _ A4.out).mono ?_); rintro e w19 ⟨rfl, hb⟩; refine ⟨_, rfl, ?_⟩; replace BK693 := bkb BK693 hb; replace BK694 := bkb BK694 hb; replace HB := bst HB hb; (try clear hb); (try clear hb2); (try clear hk); (try clear hi); have hcz20_0 : w19.cell? ⟨gb693, 0, none⟩ = some (.int .i64 a0_0) := (blk_cell BK693.out 0).trans rfl; have hcz20_1 : w19.cell? ⟨gb693, 1, none⟩ = some (.int .i64 a0_1) := (blk_cell BK693.out 1).trans rfl; have hcz20_2 : w19.cell? ⟨gb693, 2, none⟩ = some (.int .i64 a0_2) := (blk_cell BK693.out 2).trans rfl; have hcz20_3 : w19.cell? ⟨gb693, 3, none⟩ = some (.int .i64 a0_3) := (blk_cell BK693.out 3).trans rfl; have hfz20_0 := blk_frozen BK693.out 0; have hfz20_1 := blk_frozen BK693.out 1; have hfz20_2 := blk_frozen BK693.out 2; have hfz20_3 := blk_frozen BK693.out 3; have hcz21_0 : w19.cell? ⟨gb694, 0, none⟩ = some (.int .i64 a1_0) := (blk_cell BK694.out 0).trans rfl; have hcz21_1 : w19.cell? ⟨gb694, 1, none⟩ = some (.int .i64 a1_1) := (blk_cell BK694.out 1).trans rfl; have hcz21_2 : w19.cell? ⟨gb694, 2, none⟩ = some (.int .i64 a1_2) := (blk_cell BK694.out 2).trans rfl; have hcz21_3 : w19.cell? ⟨gb694, 3, none⟩ = some (.int .i64 a1_3) := (blk_cell BK694.out 3).trans rfl; have hfz21_0 := blk_frozen BK694.out 0; have hfz21_1 := blk_frozen BK694.out 1; have hfz21_2 := blk_frozen BK694.out 2; have hfz21_3 := blk_frozen BK694.out 3) | ((with_reducible refine gate_callee (f := 39) rfl ?_); refine gol (some 21) Try.func39 #[.agg #[.int .i64 a0_2, .int .i64 a0_3], .agg #[.int .i64 a1_2, .int .i64 a1_3]] ?_; (with_reducible refine (bocageref02_Compare.calls k a0_2 a0_3 a1_2 a1_3 t697 _ A6.out).mono ?_); rintro e w22 ⟨rfl, hb⟩; refine ⟨_, rfl, ?_⟩; replace BK693 := bkb BK693 hb; replace BK694 := bkb BK694 hb; replace HB := bst HB hb; (try clear hb); (try clear hb2); (try clear hk); (try clear hi)) | ((with_reducible refine gate_callee (f := 18) rfl ?_); refine gol (some 22) Try.func18 #[] ?_; (with_reducible refine (bocagelaw03_alive.calls k  true _ A7.out rfl).mono ?_); rintro e w23 ⟨rfl, hb⟩; refine ⟨_, rfl, ?_⟩; replace BK693 := bkb BK693 hb; replace BK694 := bkb BK694 hb; replace HB := bst HB hb; (try clear hb); (try clear hb2); (try clear hk); (try clear hi); have hcz24_0 : w23.cell? ⟨gb694, 0, none⟩ = some (.int .i64 a1_0) := (blk_cell BK694.out 0).trans rfl; have hcz24_1 : w23.cell? ⟨gb694, 1, none⟩ = some (.int .i64 a1_1) := (blk_cell BK694.out 1).trans rfl; have hcz24_2 : w23.cell? ⟨gb694, 2, none⟩ = some (.int .i64 a1_2) := (blk_cell BK694.out 2).trans rfl; have hcz24_3 : w23.cell? ⟨gb694, 3, none⟩ = some (.int .i64 a1_3) := (blk_cell BK694.out 3).trans rfl; have hfz24_0 := blk_frozen BK694.out 0; have hfz24_1 := blk_frozen BK694.out 1; have hfz24_2 := blk_frozen BK694.out 2; have hfz24_3 := blk_frozen BK694.out 3; have hcz25_0 : w23.cell? ⟨gb693, 0, none⟩ = some (.int .i64 a0_0) := (blk_cell BK693.out 0).trans rfl; have hcz25_1 : w23.cell? ⟨gb693, 1, none⟩ = some (.int .i64 a0_1) := (blk_cell BK693.out 1).trans rfl; have hcz25_2 : w23.cell? ⟨gb693, 2, none⟩ = some (.int .i64 a0_2) := (blk_cell BK693.out 2).trans rfl; have hcz25_3 : w23.cell? ⟨gb693, 3, none⟩ = some (.int .i64 a0_3) := (blk_cell BK693.out 3).trans rfl; have hfz25_0 := blk_frozen BK693.out 0; have hfz25_1 := blk_frozen BK693.out 1; have hfz25_2 := blk_frozen BK693.out 2; have hfz25_3 := blk_frozen BK693.out 3) | (go_at_call 38; (with_reducible refine (span_Compare.calls k a1_0 a1_1 a1_2 a1_3 a0_0 a0_1 a0_2 a0_3 t699 _ A10.out).mono ?_); rintro e w26 ⟨rfl, hb⟩; replace BK693 := bkb BK693 hb; replace BK694 := bkb BK694 hb; replace HB := bst HB hb; (try clear hb); (try clear hb2); (try clear hk); (try clear hi)))
        go_ret
        exact ⟨by first | rfl | (simp [errW_none, errW_some] <;> rfl) | (simp [*, errW_none, errW_some] <;> rfl), by repeat (first | (with_reducible first | exact HB.out | apply below_alloc | apply pw_below_drewN | apply below_drew1 | refine below_set ?_ GE693.out | refine below_set ?_ GE694.out) | exact HB.out)⟩
      · rw [if_neg c9] at H
        exact absurd ((Option.some.inj H).trans HRT.out) Bool.false_ne_true
    · replace c8 := Bool.eq_false_iff.mpr c8
      subst c8
      have H1 : (some false) = some r := by rw [if_neg (show ¬ (false = true) by decide)] at H; exact H
      exact absurd ((Option.some.inj H1).trans HRT.out) Bool.false_ne_true
  · rw [if_neg c5] at H
    have c5b0 : (t696 == 0) = false := beq_eq_false_iff_ne.mpr c5
    have c5b1 : (t696 != 0) = true := bne_iff_ne.mpr c5
    replace H := Option.bind_eq_some_iff.mp H
    obtain ⟨t700, A530, H⟩ := H
    replace H : (if t700 = true then (if t695 = t696 then ((span_Compare.f k a1_0 a1_1 a1_2 a1_3 a0_0 a0_1 a0_2 a0_3).bind fun t701 => (some (t701 == (wrap64 (-t695))))) else (some false)) else (some false)) = some r := H
    have A53 := Aside0.mk A530
    clear A530
    by_cases c54 : t700 = true
    · subst c54
      have H1 : (if t695 = t696 then ((span_Compare.f k a1_0 a1_1 a1_2 a1_3 a0_0 a0_1 a0_2 a0_3).bind fun t701 => (some (t701 == (wrap64 (-t695))))) else (some false)) = some r := by rw [if_pos rfl] at H; exact H
      clear H
      have H := H1
      clear H1
      by_cases c55 : t695 = t696
      · rw [if_pos c55] at H
        have c55b0 : (t695 == t696) = true := beq_iff_eq.mpr c55
        have c55b1 : (t695 != t696) = false := bne_eq_false_iff_eq.mpr c55
        clear c55
        replace H := Option.bind_eq_some_iff.mp H
        obtain ⟨t701, A560, H⟩ := H
        replace H : (some (t701 == (wrap64 (-t695)))) = some r := H
        have A56 := Aside0.mk A560
        clear A560
        obtain rfl := Option.some.inj H
        go_enter Try.func6, Try.ntmps6
        go_wp2_with (first | ((with_reducible refine gate_dst (N := 2) rfl ?_); refine bxe (N := 2) (cs := #[.int .i64 a0_0, .int .i64 a0_1, .int .i64 a0_2, .int .i64 a0_3]) (t := 25) ?_; intro gb693 hg w57 hbox hb; have BK693 := Aside0.mk (hbox); have GW693 := lsz hg HB; have GE693 := lsz hg HB; replace HB := bst HB hb; clear hb hbox hg) | ((with_reducible refine gate_dst (N := 3) rfl ?_); refine bxe (N := 3) (cs := #[.int .i64 a1_0, .int .i64 a1_1, .int .i64 a1_2, .int .i64 a1_3]) (t := 25) ?_; intro gb694 hg w58 hbox hb; have BK694 := Aside0.mk (hbox); have GW694 := lsz hg HB; have GE694 := lsz hg HB; replace HB := bst HB hb; have NB693_694 := nlt hg BK693; have NB694_693 := ngt hg BK693; replace BK693 := bkb BK693 hb; clear hb hbox hg; have hnb59 := NB693_694.out; have hnc59 := NB694_693.out; have hcz60_0 : w58.cell? ⟨gb693, 0, none⟩ = some (.int .i64 a0_0) := (blk_cell BK693.out 0).trans rfl; have hcz60_1 : w58.cell? ⟨gb693, 1, none⟩ = some (.int .i64 a0_1) := (blk_cell BK693.out 1).trans rfl; have hcz60_2 : w58.cell? ⟨gb693, 2, none⟩ = some (.int .i64 a0_2) := (blk_cell BK693.out 2).trans rfl; have hcz60_3 : w58.cell? ⟨gb693, 3, none⟩ = some (.int .i64 a0_3) := (blk_cell BK693.out 3).trans rfl; have hfz60_0 := blk_frozen BK693.out 0; have hfz60_1 := blk_frozen BK693.out 1; have hfz60_2 := blk_frozen BK693.out 2; have hfz60_3 := blk_frozen BK693.out 3; have hcz61_0 : w58.cell? ⟨gb694, 0, none⟩ = some (.int .i64 a1_0) := (blk_cell BK694.out 0).trans rfl; have hcz61_1 : w58.cell? ⟨gb694, 1, none⟩ = some (.int .i64 a1_1) := (blk_cell BK694.out 1).trans rfl; have hcz61_2 : w58.cell? ⟨gb694, 2, none⟩ = some (.int .i64 a1_2) := (blk_cell BK694.out 2).trans rfl; have hcz61_3 : w58.cell? ⟨gb694, 3, none⟩ = some (.int .i64 a1_3) := (blk_cell BK694.out 3).trans rfl; have hfz61_0 := blk_frozen BK694.out 0; have hfz61_1 := blk_frozen BK694.out 1; have hfz61_2 := blk_frozen BK694.out 2; have hfz61_3 := blk_frozen BK694.out 3) | ((with_reducible refine gate_callee (f := 38) rfl ?_); refine gol (some 9) Try.func38 #[.agg #[.int .i64 a0_0, .int .i64 a0_1, .int .i64 a0_2, .int .i64 a0_3], .agg #[.int .i64 a1_0, .int .i64 a1_1, .int .i64 a1_2, .int .i64 a1_3]] ?_; (with_reducible refine (span_Compare.calls k a0_0 a0_1 a0_2 a0_3 a1_0 a1_1 a1_2 a1_3 t695 _ A3.out).mono ?_); rintro e w62 ⟨rfl, hb⟩; refine ⟨_, rfl, ?_⟩; replace BK693 := bkb BK693 hb; replace BK694 := bkb BK694 hb; replace HB := bst HB hb; (try clear hb); (try clear hb2); (try clear hk); (try clear hi); have hcz63_0 : w62.cell? ⟨gb693, 0, none⟩ = some (.int .i64 a0_0) := (blk_cell BK693.out 0).trans rfl; have hcz63_1 : w62.cell? ⟨gb693, 1, none⟩ = some (.int .i64 a0_1) := (blk_cell BK693.out 1).trans rfl; have hcz63_2 : w62.cell? ⟨gb693, 2, none⟩ = some (.int .i64 a0_2) := (blk_cell BK693.out 2).trans rfl; have hcz63_3 : w62.cell? ⟨gb693, 3, none⟩ = some (.int .i64 a0_3) := (blk_cell BK693.out 3).trans rfl; have hfz63_0 := blk_frozen BK693.out 0; have hfz63_1 := blk_frozen BK693.out 1; have hfz63_2 := blk_frozen BK693.out 2; have hfz63_3 := blk_frozen BK693.out 3; have hcz64_0 : w62.cell? ⟨gb694, 0, none⟩ = some (.int .i64 a1_0) := (blk_cell BK694.out 0).trans rfl; have hcz64_1 : w62.cell? ⟨gb694, 1, none⟩ = some (.int .i64 a1_1) := (blk_cell BK694.out 1).trans rfl; have hcz64_2 : w62.cell? ⟨gb694, 2, none⟩ = some (.int .i64 a1_2) := (blk_cell BK694.out 2).trans rfl; have hcz64_3 : w62.cell? ⟨gb694, 3, none⟩ = some (.int .i64 a1_3) := (blk_cell BK694.out 3).trans rfl; have hfz64_0 := blk_frozen BK694.out 0; have hfz64_1 := blk_frozen BK694.out 1; have hfz64_2 := blk_frozen BK694.out 2; have hfz64_3 := blk_frozen BK694.out 3) | ((with_reducible refine gate_callee (f := 39) rfl ?_); refine gol (some 14) Try.func39 #[.agg #[.int .i64 a0_0, .int .i64 a0_1], .agg #[.int .i64 a1_0, .int .i64 a1_1]] ?_; (with_reducible refine (bocageref02_Compare.calls k a0_0 a0_1 a1_0 a1_1 t696 _ A4.out).mono ?_); rintro e w65 ⟨rfl, hb⟩; refine ⟨_, rfl, ?_⟩; replace BK693 := bkb BK693 hb; replace BK694 := bkb BK694 hb; replace HB := bst HB hb; (try clear hb); (try clear hb2); (try clear hk); (try clear hi)) | ((with_reducible refine gate_callee (f := 18) rfl ?_); refine gol (some 22) Try.func18 #[] ?_; (with_reducible refine (bocagelaw03_alive.calls k  true _ A53.out rfl).mono ?_); rintro e w66 ⟨rfl, hb⟩; refine ⟨_, rfl, ?_⟩; replace BK693 := bkb BK693 hb; replace BK694 := bkb BK694 hb; replace HB := bst HB hb; (try clear hb); (try clear hb2); (try clear hk); (try clear hi); have hcz67_0 : w66.cell? ⟨gb694, 0, none⟩ = some (.int .i64 a1_0) := (blk_cell BK694.out 0).trans rfl; have hcz67_1 : w66.cell? ⟨gb694, 1, none⟩ = some (.int .i64 a1_1) := (blk_cell BK694.out 1).trans rfl; have hcz67_2 : w66.cell? ⟨gb694, 2, none⟩ = some (.int .i64 a1_2) := (blk_cell BK694.out 2).trans rfl; have hcz67_3 : w66.cell? ⟨gb694, 3, none⟩ = some (.int .i64 a1_3) := (blk_cell BK694.out 3).trans rfl; have hfz67_0 := blk_frozen BK694.out 0; have hfz67_1 := blk_frozen BK694.out 1; have hfz67_2 := blk_frozen BK694.out 2; have hfz67_3 := blk_frozen BK694.out 3; have hcz68_0 : w66.cell? ⟨gb693, 0, none⟩ = some (.int .i64 a0_0) := (blk_cell BK693.out 0).trans rfl; have hcz68_1 : w66.cell? ⟨gb693, 1, none⟩ = some (.int .i64 a0_1) := (blk_cell BK693.out 1).trans rfl; have hcz68_2 : w66.cell? ⟨gb693, 2, none⟩ = some (.int .i64 a0_2) := (blk_cell BK693.out 2).trans rfl; have hcz68_3 : w66.cell? ⟨gb693, 3, none⟩ = some (.int .i64 a0_3) := (blk_cell BK693.out 3).trans rfl; have hfz68_0 := blk_frozen BK693.out 0; have hfz68_1 := blk_frozen BK693.out 1; have hfz68_2 := blk_frozen BK693.out 2; have hfz68_3 := blk_frozen BK693.out 3) | (go_at_call 38; (with_reducible refine (span_Compare.calls k a1_0 a1_1 a1_2 a1_3 a0_0 a0_1 a0_2 a0_3 t701 _ A56.out).mono ?_); rintro e w69 ⟨rfl, hb⟩; replace BK693 := bkb BK693 hb; replace BK694 := bkb BK694 hb; replace HB := bst HB hb; (try clear hb); (try clear hb2); (try clear hk); (try clear hi)))
        go_ret
        exact ⟨by first | rfl | (simp [errW_none, errW_some] <;> rfl) | (simp [*, errW_none, errW_some] <;> rfl), by repeat (first | (with_reducible first | exact HB.out | apply below_alloc | apply pw_below_drewN | apply below_drew1 | refine below_set ?_ GE693.out | refine below_set ?_ GE694.out) | exact HB.out)⟩
      · rw [if_neg c55] at H
        exact absurd ((Option.some.inj H).trans HRT.out) Bool.false_ne_true
    · replace c54 := Bool.eq_false_iff.mpr c54
      subst c54
      have H1 : (some false) = some r := by rw [if_neg (show ¬ (false = true) by decide)] at H; exact H
      exact absurd ((Option.some.inj H1).trans HRT.out) Bool.false_ne_true
end Go.Proofs.Ytkkbmjfhpngalaa.Print
