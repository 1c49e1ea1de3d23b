-- Laid by wip/print/bprint.py of this repo, over the kit's printer, with functions given by hand; not trusted: Lean checks it.
import Derived.Test.YtpeidnkbliafkaaPrint0
import Derived.Test.YtpeidnkbliafkaaPrint2
import Derived.Test.YtpeidnkbliafkaaPrint4
import Derived.Test.YtpeidnkbliafkaaPrint5
import Derived.Test.YtpeidnkbliafkaaPrint6
import Derived.Test.YtpeidnkbliafkaaPrint7
import Derived.Test.YtpeidnkbliafkaaSh
namespace Go.Proofs.Ytpeidnkbliafkaa.Print
open Go.RowKit Go.Proofs.YtpeidnkbliafkaaW.PrintWords Go.Proofs.YtpeidnkbliafkaaW.PrintLast Go.Proofs.YtpeidnkbliafkaaW.PrintMore
attribute [local go_sem] max2_int min2_int max_two min_two max_three min_three max_four min_four   -- for this text's walks alone
set_option linter.unusedVariables false
set_option linter.unusedSimpArgs false
/-! ### bocageref04_Low: function 24 -/
def bocageref04_Low.f (k : Nat) (a0_0 : Int) (a0_1 : Int) : Option (Int × Int) := (bocageref02_Canon.f k a0_0 a0_1).bind fun bt341 => (if bt341.1 < 0 then (some (0, 0)) else (if bt341.1 > 0 then (some (1, 9223372036854775807)) else (some (2, bt341.2))))
theorem bocageref04_Low.mono : ∀ a0 a1 k, LeO (bocageref04_Low.f k a0 a1) (bocageref04_Low.f (k + 1) a0 a1) := by
  intro a0 a1 k
  unfold bocageref04_Low.f
  repeat' first
      | (with_reducible exact bocageref02_Canon.mono _ _ _)
      | (with_reducible exact LeO.refl _)
      | (with_reducible exact LeO.none _)
      | (with_reducible refine LeO.ite ?_ ?_)
      | (with_reducible refine LeO.bind ?_ (fun _ => ?_))
      | exact bocageref02_Canon.mono _ _ _
      | exact LeO.none _
      | refine LeO.ite ?_ ?_
      | refine LeO.bind ?_ (fun _ => ?_)
set_option maxHeartbeats 8000000 in
set_option maxRecDepth 100000 in
theorem bocageref04_Low.calls (k : Nat) (a0_0 : Int) (a0_1 : Int) (r1 : Int) (r2 : Int) (w : World) (h : bocageref04_Low.f k a0_0 a0_1 = some (r1, r2)) :
    Calls Try.prog 24 #[.agg #[.int .i64 a0_0, .int .i64 a0_1]] w fun e w' => e = .returned (.agg #[.int .i64 r1, .int .i64 r2]) ∧ Below w.heap.size w w' := by
  have hu25 := Try.underlying25
  have hu23 := Try.underlying23
  have HB := Aside0.mk (Below.refl w.heap.size w)
  have H : ((bocageref02_Canon.f k a0_0 a0_1).bind fun bt341 => (if bt341.1 < 0 then (some (0, 0)) else (if bt341.1 > 0 then (some (1, 9223372036854775807)) else (some (2, bt341.2))))) = some (r1, r2) := h
  clear h
  replace H := Option.bind_eq_some_iff.mp H
  obtain ⟨⟨t341, t342⟩, A20, H⟩ := H
  replace H : (if t341 < 0 then (some (0, 0)) else (if t341 > 0 then (some (1, 9223372036854775807)) else (some (2, t342)))) = some (r1, r2) := H
  have A2 := Aside0.mk A20
  clear A20
  by_cases c3 : t341 < 0
  · rw [if_pos c3] at H
    have c3b0 : decide (t341 < 0) = true := decide_eq_true c3
    clear c3
    simp only [Option.some.injEq, Prod.mk.injEq] at H
    obtain ⟨rfl, rfl⟩ := H
    go_enter Try.func24, Try.ntmps24
    go_wp2_with (first | ((with_reducible refine gate_dst (N := 1) rfl ?_); refine bxe (N := 1) (cs := #[.int .i64 a0_0, .int .i64 a0_1]) (t := 25) ?_; intro gb339 hg w4 hbox hb; have BK339 := Aside0.mk (hbox); have GW339 := lsz hg HB; have GE339 := lsz hg HB; replace HB := bst HB hb; clear hb hbox hg) | ((with_reducible refine gate_dst (N := 2) rfl ?_); refine bxe (N := 2) (cs := #[.int .i64 0, .int .i64 0]) (t := 23) ?_; intro gb340 hg w5 hbox hb; have BK340 := Aside0.mk (hbox); have GW340 := lsz hg HB; have GE340 := lsz hg HB; replace HB := bst HB hb; have NB339_340 := nlt hg BK339; have NB340_339 := ngt hg BK339; replace BK339 := bkb BK339 hb; clear hb hbox hg; have hnb6 := NB339_340.out; have hnc6 := NB340_339.out; obtain ⟨hcz7_0, hcz7_1⟩ := e2 BK339; obtain ⟨hfz7_0, hfz7_1⟩ := f2 BK339) | ((with_reducible refine gate_callee (f := 49) rfl ?_); refine gol (some 4) Try.func49 #[.agg #[.int .i64 a0_0, .int .i64 a0_1]] ?_; (with_reducible refine (bocageref02_Canon.calls k a0_0 a0_1 t341 t342 _ A2.out).mono ?_); rintro e w8 ⟨rfl, hb⟩; refine ⟨_, rfl, ?_⟩; replace BK339 := bkb BK339 hb; replace BK340 := bkb BK340 hb; replace HB := bst HB hb; (try clear hb); (try clear hb2); (try clear hk); (try clear hi); obtain ⟨hcz9_0, hcz9_1⟩ := e2 BK339; obtain ⟨hfz9_0, hfz9_1⟩ := f2 BK339; obtain ⟨hcz10_0, hcz10_1⟩ := e2 BK340; obtain ⟨hfz10_0, hfz10_1⟩ := f2 BK340))
    refine bodyPost_ret (results_cell_row rfl _ _ gb340 23 #[.int .i64 0, .int .i64 0] (0, 0) _ rfl (by (with_reducible repeat (first | refine blk_drewN ?_ _ | refine blk_drew ?_ | refine blk_alloc ?_ _)); refine blk_put (cs := #[.int .i64 0, .int .i64 0]) ?_ 1 _ rfl; (with_reducible repeat (first | refine blk_drewN ?_ _ | refine blk_drew ?_ | refine blk_alloc ?_ _)); refine blk_put (cs := #[.int .i64 0, .int .i64 0]) ?_ 0 _ rfl; (with_reducible repeat (first | refine blk_drewN ?_ _ | refine blk_drew ?_ | refine blk_alloc ?_ _)); refine blk_far ?_ NB340_339.out _; (with_reducible repeat (first | refine blk_drewN ?_ _ | refine blk_drew ?_ | refine blk_alloc ?_ _)); refine blk_far ?_ NB340_339.out _; (with_reducible repeat (first | refine blk_drewN ?_ _ | refine blk_drew ?_ | refine blk_alloc ?_ _)); exact BK340.out) Try.underlying23 rfl (by kernel_rfl)) rfl ?_
    exact endB HB
  · rw [if_neg c3] at H
    have c3b0 : decide (t341 < 0) = false := decide_eq_false c3
    clear c3
    by_cases c11 : t341 > 0
    · rw [if_pos c11] at H
      have c11b0 : decide (0 < t341) = true := decide_eq_true c11
      clear c11
      simp only [Option.some.injEq, Prod.mk.injEq] at H
      obtain ⟨rfl, rfl⟩ := H
      go_enter Try.func24, Try.ntmps24
      go_wp2_with (first | ((with_reducible refine gate_dst (N := 1) rfl ?_); refine bxe (N := 1) (cs := #[.int .i64 a0_0, .int .i64 a0_1]) (t := 25) ?_; intro gb339 hg w12 hbox hb; have BK339 := Aside0.mk (hbox); have GW339 := lsz hg HB; have GE339 := lsz hg HB; replace HB := bst HB hb; clear hb hbox hg) | ((with_reducible refine gate_dst (N := 2) rfl ?_); refine bxe (N := 2) (cs := #[.int .i64 0, .int .i64 0]) (t := 23) ?_; intro gb340 hg w13 hbox hb; have BK340 := Aside0.mk (hbox); have GW340 := lsz hg HB; have GE340 := lsz hg HB; replace HB := bst HB hb; have NB339_340 := nlt hg BK339; have NB340_339 := ngt hg BK339; replace BK339 := bkb BK339 hb; clear hb hbox hg; have hnb14 := NB339_340.out; have hnc14 := NB340_339.out; obtain ⟨hcz15_0, hcz15_1⟩ := e2 BK339; obtain ⟨hfz15_0, hfz15_1⟩ := f2 BK339) | ((with_reducible refine gate_callee (f := 49) rfl ?_); refine gol (some 4) Try.func49 #[.agg #[.int .i64 a0_0, .int .i64 a0_1]] ?_; (with_reducible refine (bocageref02_Canon.calls k a0_0 a0_1 t341 t342 _ A2.out).mono ?_); rintro e w16 ⟨rfl, hb⟩; refine ⟨_, rfl, ?_⟩; replace BK339 := bkb BK339 hb; replace BK340 := bkb BK340 hb; replace HB := bst HB hb; (try clear hb); (try clear hb2); (try clear hk); (try clear hi); obtain ⟨hcz17_0, hcz17_1⟩ := e2 BK339; obtain ⟨hfz17_0, hfz17_1⟩ := f2 BK339; obtain ⟨hcz18_0, hcz18_1⟩ := e2 BK340; obtain ⟨hfz18_0, hfz18_1⟩ := f2 BK340))
      refine bodyPost_ret (results_cell_row rfl _ _ gb340 23 #[.int .i64 1, .int .i64 9223372036854775807] (0, 0) _ rfl (by (with_reducible repeat (first | refine blk_drewN ?_ _ | refine blk_drew ?_ | refine blk_alloc ?_ _)); refine blk_put (cs := #[.int .i64 1, .int .i64 0]) ?_ 1 _ rfl; (with_reducible repeat (first | refine blk_drewN ?_ _ | refine blk_drew ?_ | refine blk_alloc ?_ _)); refine blk_put (cs := #[.int .i64 0, .int .i64 0]) ?_ 0 _ rfl; (with_reducible repeat (first | refine blk_drewN ?_ _ | refine blk_drew ?_ | refine blk_alloc ?_ _)); refine blk_far ?_ NB340_339.out _; (with_reducible repeat (first | refine blk_drewN ?_ _ | refine blk_drew ?_ | refine blk_alloc ?_ _)); refine blk_far ?_ NB340_339.out _; (with_reducible repeat (first | refine blk_drewN ?_ _ | refine blk_drew ?_ | refine blk_alloc ?_ _)); exact BK340.out) Try.underlying23 rfl (by kernel_rfl)) rfl ?_
      exact endB HB
    · rw [if_neg c11] at H
      have c11b0 : decide (0 < t341) = false := decide_eq_false c11
      clear c11
      simp only [Option.some.injEq, Prod.mk.injEq] at H
      obtain ⟨rfl, rfl⟩ := H
      go_enter Try.func24, Try.ntmps24
      go_wp2_with (first | ((with_reducible refine gate_dst (N := 1) rfl ?_); refine bxe (N := 1) (cs := #[.int .i64 a0_0, .int .i64 a0_1]) (t := 25) ?_; intro gb339 hg w19 hbox hb; have BK339 := Aside0.mk (hbox); have GW339 := lsz hg HB; have GE339 := lsz hg HB; replace HB := bst HB hb; clear hb hbox hg) | ((with_reducible refine gate_dst (N := 2) rfl ?_); refine bxe (N := 2) (cs := #[.int .i64 0, .int .i64 0]) (t := 23) ?_; intro gb340 hg w20 hbox hb; have BK340 := Aside0.mk (hbox); have GW340 := lsz hg HB; have GE340 := lsz hg HB; replace HB := bst HB hb; have NB339_340 := nlt hg BK339; have NB340_339 := ngt hg BK339; replace BK339 := bkb BK339 hb; clear hb hbox hg; have hnb21 := NB339_340.out; have hnc21 := NB340_339.out; obtain ⟨hcz22_0, hcz22_1⟩ := e2 BK339; obtain ⟨hfz22_0, hfz22_1⟩ := f2 BK339) | ((with_reducible refine gate_callee (f := 49) rfl ?_); refine gol (some 4) Try.func49 #[.agg #[.int .i64 a0_0, .int .i64 a0_1]] ?_; (with_reducible refine (bocageref02_Canon.calls k a0_0 a0_1 t341 t342 _ A2.out).mono ?_); rintro e w23 ⟨rfl, hb⟩; refine ⟨_, rfl, ?_⟩; replace BK339 := bkb BK339 hb; replace BK340 := bkb BK340 hb; replace HB := bst HB hb; (try clear hb); (try clear hb2); (try clear hk); (try clear hi); obtain ⟨hcz24_0, hcz24_1⟩ := e2 BK339; obtain ⟨hfz24_0, hfz24_1⟩ := f2 BK339; obtain ⟨hcz25_0, hcz25_1⟩ := e2 BK340; obtain ⟨hfz25_0, hfz25_1⟩ := f2 BK340))
      refine bodyPost_ret (results_cell_row rfl _ _ gb340 23 #[.int .i64 2, .int .i64 t342] (0, 0) _ rfl (by (with_reducible repeat (first | refine blk_drewN ?_ _ | refine blk_drew ?_ | refine blk_alloc ?_ _)); refine blk_put (cs := #[.int .i64 2, .int .i64 0]) ?_ 1 _ rfl; (with_reducible repeat (first | refine blk_drewN ?_ _ | refine blk_drew ?_ | refine blk_alloc ?_ _)); refine blk_put (cs := #[.int .i64 0, .int .i64 0]) ?_ 0 _ rfl; (with_reducible repeat (first | refine blk_drewN ?_ _ | refine blk_drew ?_ | refine blk_alloc ?_ _)); refine blk_far ?_ NB340_339.out _; (with_reducible repeat (first | refine blk_drewN ?_ _ | refine blk_drew ?_ | refine blk_alloc ?_ _)); refine blk_far ?_ NB340_339.out _; (with_reducible repeat (first | refine blk_drewN ?_ _ | refine blk_drew ?_ | refine blk_alloc ?_ _)); exact BK340.out) Try.underlying23 rfl (by kernel_rfl)) rfl ?_
      exact endB HB
/-! ### bocageref04_High: function 26 -/
def bocageref04_High.f (k : Nat) (a0_0 : Int) (a0_1 : Int) : Option (Int × Int) := (bocageref02_Next.f k a0_0 a0_1).bind fun bt349 => (if bt349.2 = true then (some (1, bt349.1)) else (some (0, 0)))
theorem bocageref04_High.mono : ∀ a0 a1 k, LeO (bocageref04_High.f k a0 a1) (bocageref04_High.f (k + 1) a0 a1) := by
  intro a0 a1 k
  unfold bocageref04_High.f
  repeat' first
      | (with_reducible exact bocageref02_Next.mono _ _ _)
      | (with_reducible exact LeO.refl _)
      | (with_reducible exact LeO.none _)
      | (with_reducible refine LeO.ite ?_ ?_)
      | (with_reducible refine LeO.bind ?_ (fun _ => ?_))
      | exact bocageref02_Next.mono _ _ _
      | exact LeO.none _
      | refine LeO.ite ?_ ?_
      | refine LeO.bind ?_ (fun _ => ?_)
set_option maxHeartbeats 8000000 in
set_option maxRecDepth 100000 in
theorem bocageref04_High.calls (k : Nat) (a0_0 : Int) (a0_1 : Int) (r1 : Int) (r2 : Int) (w : World) (h : bocageref04_High.f k a0_0 a0_1 = some (r1, r2)) :
    Calls Try.prog 26 #[.agg #[.int .i64 a0_0, .int .i64 a0_1]] w fun e w' => e = .returned (.agg #[.int .i64 r1, .int .i64 r2]) ∧ Below w.heap.size w w' := by
  have hu25 := Try.underlying25
  have hu23 := Try.underlying23
  have HB := Aside0.mk (Below.refl w.heap.size w)
  have H : ((bocageref02_Next.f k a0_0 a0_1).bind fun bt349 => (if bt349.2 = true then (some (1, bt349.1)) else (some (0, 0)))) = some (r1, r2) := h
  clear h
  replace H := Option.bind_eq_some_iff.mp H
  obtain ⟨⟨t349, t350⟩, A20, H⟩ := H
  replace H : (if t350 = true then (some (1, t349)) else (some (0, 0))) = some (r1, r2) := H
  have A2 := Aside0.mk A20
  clear A20
  by_cases c3 : t350 = true
  · subst c3
    have H1 : (some (1, t349)) = some (r1, r2) := by rw [if_pos rfl] at H; exact H
    clear H
    have H := H1
    clear H1
    simp only [Option.some.injEq, Prod.mk.injEq] at H
    obtain ⟨rfl, rfl⟩ := H
    go_enter Try.func26, Try.ntmps26
    go_wp2_with (first | ((with_reducible refine gate_dst (N := 1) rfl ?_); refine bxe (N := 1) (cs := #[.int .i64 a0_0, .int .i64 a0_1]) (t := 25) ?_; intro gb347 hg w4 hbox hb; have BK347 := Aside0.mk (hbox); have GW347 := lsz hg HB; have GE347 := lsz hg HB; replace HB := bst HB hb; clear hb hbox hg) | ((with_reducible refine gate_dst (N := 2) rfl ?_); refine bxe (N := 2) (cs := #[.int .i64 0, .int .i64 0]) (t := 23) ?_; intro gb348 hg w5 hbox hb; have BK348 := Aside0.mk (hbox); have GW348 := lsz hg HB; have GE348 := lsz hg HB; replace HB := bst HB hb; have NB347_348 := nlt hg BK347; have NB348_347 := ngt hg BK347; replace BK347 := bkb BK347 hb; clear hb hbox hg; have hnb6 := NB347_348.out; have hnc6 := NB348_347.out; obtain ⟨hcz7_0, hcz7_1⟩ := e2 BK347; obtain ⟨hfz7_0, hfz7_1⟩ := f2 BK347) | ((with_reducible refine gate_callee (f := 54) rfl ?_); refine gol (some 7) Try.func54 #[.agg #[.int .i64 a0_0, .int .i64 a0_1]] ?_; (with_reducible refine (bocageref02_Next.calls k a0_0 a0_1 t349 true _ A2.out).mono ?_); rintro e w8 ⟨rfl, hb⟩; refine ⟨_, rfl, ?_⟩; replace BK347 := bkb BK347 hb; replace BK348 := bkb BK348 hb; replace HB := bst HB hb; (try clear hb); (try clear hb2); (try clear hk); (try clear hi); obtain ⟨hcz9_0, hcz9_1⟩ := e2 BK348; obtain ⟨hfz9_0, hfz9_1⟩ := f2 BK348))
    refine bodyPost_ret (results_cell_row rfl _ _ gb348 23 #[.int .i64 1, .int .i64 t349] (0, 0) _ rfl (bkp BK348) Try.underlying23 rfl (by kernel_rfl)) rfl ?_
    exact endB HB
  · replace c3 := Bool.eq_false_iff.mpr c3
    subst c3
    have H1 : (some (0, 0)) = some (r1, r2) := by rw [if_neg (show ¬ (false = true) by decide)] at H; exact H
    clear H
    have H := H1
    clear H1
    simp only [Option.some.injEq, Prod.mk.injEq] at H
    obtain ⟨rfl, rfl⟩ := H
    go_enter Try.func26, Try.ntmps26
    go_wp2_with (first | ((with_reducible refine gate_dst (N := 1) rfl ?_); refine bxe (N := 1) (cs := #[.int .i64 a0_0, .int .i64 a0_1]) (t := 25) ?_; intro gb347 hg w10 hbox hb; have BK347 := Aside0.mk (hbox); have GW347 := lsz hg HB; have GE347 := lsz hg HB; replace HB := bst HB hb; clear hb hbox hg) | ((with_reducible refine gate_dst (N := 2) rfl ?_); refine bxe (N := 2) (cs := #[.int .i64 0, .int .i64 0]) (t := 23) ?_; intro gb348 hg w11 hbox hb; have BK348 := Aside0.mk (hbox); have GW348 := lsz hg HB; have GE348 := lsz hg HB; replace HB := bst HB hb; have NB347_348 := nlt hg BK347; have NB348_347 := ngt hg BK347; replace BK347 := bkb BK347 hb; clear hb hbox hg; have hnb12 := NB347_348.out; have hnc12 := NB348_347.out; obtain ⟨hcz13_0, hcz13_1⟩ := e2 BK347; obtain ⟨hfz13_0, hfz13_1⟩ := f2 BK347) | ((with_reducible refine gate_callee (f := 54) rfl ?_); refine gol (some 7) Try.func54 #[.agg #[.int .i64 a0_0, .int .i64 a0_1]] ?_; (with_reducible refine (bocageref02_Next.calls k a0_0 a0_1 t349 false _ A2.out).mono ?_); rintro e w14 ⟨rfl, hb⟩; refine ⟨_, rfl, ?_⟩; replace BK347 := bkb BK347 hb; replace BK348 := bkb BK348 hb; replace HB := bst HB hb; (try clear hb); (try clear hb2); (try clear hk); (try clear hi); obtain ⟨hcz15_0, hcz15_1⟩ := e2 BK348; obtain ⟨hfz15_0, hfz15_1⟩ := f2 BK348))
    refine bodyPost_ret (results_cell_row rfl _ _ gb348 23 #[.int .i64 0, .int .i64 0] (0, 0) _ rfl (bkp BK348) Try.underlying23 rfl (by kernel_rfl)) rfl ?_
    exact endB HB
section
attribute [local go_sem high] eqA23 eqA27
/-! ### bocagelaw04_BoundSpans: function 7 -/
def bocagelaw04_BoundSpans.f (k : Nat) (a0_0 : Int) (a0_1 : Int) (a1_0 : Int) (a1_1 : Int) (a2_0 : Int) (a2_1 : Int) : Option (Bool) := (bound_Span.f k a0_0 a0_1 a1_0 a1_1).bind fun bt354 => ((bocageref04_Span.f k a0_0 a0_1 a1_0 a1_1).bind fun bt360 => ((bocagelaw04_alive.f k).bind fun t366 => (if t366 = true then (if ((bt354.1 == bt360.1 && (bt354.2.1 == bt360.2.1)) && ((bt354.2.2.1 == bt360.2.2.1 && (bt354.2.2.2.1 == bt360.2.2.2.1)))) = true then (if bt354.2.2.2.2 = bt360.2.2.2.2 then ((bound_Low.f k a2_0 a2_1).bind fun bt367 => ((bocageref04_Low.f k a2_0 a2_1).bind fun bt369 => (if (bt367.1 == bt369.1 && (bt367.2 == bt369.2)) = true then ((bound_High.f k a2_0 a2_1).bind fun bt371 => ((bocageref04_High.f k a2_0 a2_1).bind fun bt373 => (some (bt371.1 == bt373.1 && (bt371.2 == bt373.2))))) else (some false)))) else (some false)) else (some false)) else (some false))))
theorem bocagelaw04_BoundSpans.mono : ∀ a0 a1 a2 a3 a4 a5 k, LeO (bocagelaw04_BoundSpans.f k a0 a1 a2 a3 a4 a5) (bocagelaw04_BoundSpans.f (k + 1) a0 a1 a2 a3 a4 a5) := by
  intro a0 a1 a2 a3 a4 a5 k
  unfold bocagelaw04_BoundSpans.f
  repeat' first
      | (with_reducible exact bocagelaw04_alive.mono _)
      | (with_reducible exact bocageref04_High.mono _ _ _)
      | (with_reducible exact bocageref04_Low.mono _ _ _)
      | (with_reducible exact bocageref04_Span.mono _ _ _ _ _)
      | (with_reducible exact bound_High.mono _ _ _)
      | (with_reducible exact bound_Low.mono _ _ _)
      | (with_reducible exact bound_Span.mono _ _ _ _ _)
      | (with_reducible exact LeO.refl _)
      | (with_reducible exact LeO.none _)
      | (with_reducible refine LeO.ite ?_ ?_)
      | (with_reducible refine LeO.bind ?_ (fun _ => ?_))
      | exact bocagelaw04_alive.mono _
      | exact bocageref04_High.mono _ _ _
      | exact bocageref04_Low.mono _ _ _
      | exact bocageref04_Span.mono _ _ _ _ _
      | exact bound_High.mono _ _ _
      | exact bound_Low.mono _ _ _
      | exact bound_Span.mono _ _ _ _ _
      | exact LeO.none _
      | refine LeO.ite ?_ ?_
      | refine LeO.bind ?_ (fun _ => ?_)
def bocagelaw04_BoundSpans.T3 : Bool × List (List Nat × List Nat) := (true, [([], []), ([0, 0], [0]), ([1], [1]), ([1], [1]), ([2, 3, 1], [1, 2, 3]), ([1, 4], [1, 4]), ([5, 1], [5]), ([6], [6]), ([6], [6]), ([7, 8, 6], [6, 7, 8]), ([6, 9], [6, 9]), ([10, 6], [10]), ([11], [11]), ([12, 11, 11], [11, 12]), ([11], [11]), ([14, 13, 11], [11, 14]), ([13, 15, 11], [11, 13, 15]), ([11, 16], [11, 16]), ([17, 15], [17]), ([18], [18]), ([19, 18, 18], [18, 19]), ([18], [18]), ([21, 20, 18], [18, 21]), ([20, 22, 18], [18, 20, 22]), ([18, 23], [18, 23]), ([24, 22, 0, 1, 2, 3, 4, 5, 6, 7, 8, 9, 10, 11, 12, 13, 14, 15, 16, 17, 18, 19, 20, 21, 22, 23, 24], [24])])
def bocagelaw04_BoundSpans.B3 : List Nat := [0, 1, 3, 3, 15, 31, 63, 127, 127, 511, 1023, 2047, 4095, 8191, 4095, 32767, 65535, 131071, 262143, 524287, 1048575, 524287, 4194303, 8388607, 16777215, 33554431]
theorem bocagelaw04_BoundSpans.tab3 : rtab .any (opsOf Try.f7 3) = bocagelaw04_BoundSpans.T3 := by kernel_rfl
theorem bocagelaw04_BoundSpans.bits3 : waitsOk bocagelaw04_BoundSpans.T3.2 bocagelaw04_BoundSpans.B3 = true := by kernel_rfl
set_option maxHeartbeats 8000000 in
set_option maxRecDepth 100000 in
theorem bocagelaw04_BoundSpans.calls (k : Nat) (a0_0 : Int) (a0_1 : Int) (a1_0 : Int) (a1_1 : Int) (a2_0 : Int) (a2_1 : Int) (r : Bool) (w : World) (h : bocagelaw04_BoundSpans.f k a0_0 a0_1 a1_0 a1_1 a2_0 a2_1 = some r) (hr : r = true) :
    Calls Try.prog 7 #[.agg #[.int .i64 a0_0, .int .i64 a0_1], .agg #[.int .i64 a1_0, .int .i64 a1_1], .agg #[.int .i64 a2_0, .int .i64 a2_1]] w fun e w' => e = .returned (.bool r) ∧ Below w.heap.size w w' := by
  have HRT := Aside0.mk hr
  clear hr
  have hu23 := Try.underlying23
  have hu25 := Try.underlying25
  have hu27 := Try.underlying27
  have HB := Aside0.mk (Below.refl w.heap.size w)
  have H : ((bound_Span.f k a0_0 a0_1 a1_0 a1_1).bind fun bt354 => ((bocageref04_Span.f k a0_0 a0_1 a1_0 a1_1).bind fun bt360 => ((bocagelaw04_alive.f k).bind fun t366 => (if t366 = true then (if ((bt354.1 == bt360.1 && (bt354.2.1 == bt360.2.1)) && ((bt354.2.2.1 == bt360.2.2.1 && (bt354.2.2.2.1 == bt360.2.2.2.1)))) = true then (if bt354.2.2.2.2 = bt360.2.2.2.2 then ((bound_Low.f k a2_0 a2_1).bind fun bt367 => ((bocageref04_Low.f k a2_0 a2_1).bind fun bt369 => (if (bt367.1 == bt369.1 && (bt367.2 == bt369.2)) = true then ((bound_High.f k a2_0 a2_1).bind fun bt371 => ((bocageref04_High.f k a2_0 a2_1).bind fun bt373 => (some (bt371.1 == bt373.1 && (bt371.2 == bt373.2))))) else (some false)))) else (some false)) else (some false)) else (some false))))) = some r := h
  clear h
  replace H := Option.bind_eq_some_iff.mp H
  obtain ⟨⟨t354, t355, t356, t357, t358⟩, A40, H⟩ := H
  replace H : ((bocageref04_Span.f k a0_0 a0_1 a1_0 a1_1).bind fun bt360 => ((bocagelaw04_alive.f k).bind fun t366 => (if t366 = true then (if ((t354 == bt360.1 && (t355 == bt360.2.1)) && ((t356 == bt360.2.2.1 && (t357 == bt360.2.2.2.1)))) = true then (if t358 = bt360.2.2.2.2 then ((bound_Low.f k a2_0 a2_1).bind fun bt367 => ((bocageref04_Low.f k a2_0 a2_1).bind fun bt369 => (if (bt367.1 == bt369.1 && (bt367.2 == bt369.2)) = true then ((bound_High.f k a2_0 a2_1).bind fun bt371 => ((bocageref04_High.f k a2_0 a2_1).bind fun bt373 => (some (bt371.1 == bt373.1 && (bt371.2 == bt373.2))))) else (some false)))) else (some false)) else (some false)) else (some false)))) = some r := H
  have A4 := Aside0.mk A40
  clear A40
  replace H := Option.bind_eq_some_iff.mp H
  obtain ⟨⟨t360, t361, t362, t363, t364⟩, A50, H⟩ := H
  replace H : ((bocagelaw04_alive.f k).bind fun t366 => (if t366 = true then (if ((t354 == t360 && (t355 == t361)) && ((t356 == t362 && (t357 == t363)))) = true then (if t358 = t364 then ((bound_Low.f k a2_0 a2_1).bind fun bt367 => ((bocageref04_Low.f k a2_0 a2_1).bind fun bt369 => (if (bt367.1 == bt369.1 && (bt367.2 == bt369.2)) = true then ((bound_High.f k a2_0 a2_1).bind fun bt371 => ((bocageref04_High.f k a2_0 a2_1).bind fun bt373 => (some (bt371.1 == bt373.1 && (bt371.2 == bt373.2))))) else (some false)))) else (some false)) else (some false)) else (some false))) = some r := H
  have A5 := Aside0.mk A50
  clear A50
  replace H := Option.bind_eq_some_iff.mp H
  obtain ⟨t366, A60, H⟩ := H
  replace H : (if t366 = true then (if ((t354 == t360 && (t355 == t361)) && ((t356 == t362 && (t357 == t363)))) = true then (if t358 = t364 then ((bound_Low.f k a2_0 a2_1).bind fun bt367 => ((bocageref04_Low.f k a2_0 a2_1).bind fun bt369 => (if (bt367.1 == bt369.1 && (bt367.2 == bt369.2)) = true then ((bound_High.f k a2_0 a2_1).bind fun bt371 => ((bocageref04_High.f k a2_0 a2_1).bind fun bt373 => (some (bt371.1 == bt373.1 && (bt371.2 == bt373.2))))) else (some false)))) else (some false)) else (some false)) else (some false)) = some r := H
  have A6 := Aside0.mk A60
  clear A60
  by_cases c7 : t366 = true
  · subst c7
    have H1 : (if ((t354 == t360 && (t355 == t361)) && ((t356 == t362 && (t357 == t363)))) = true then (if t358 = t364 then ((bound_Low.f k a2_0 a2_1).bind fun bt367 => ((bocageref04_Low.f k a2_0 a2_1).bind fun bt369 => (if (bt367.1 == bt369.1 && (bt367.2 == bt369.2)) = true then ((bound_High.f k a2_0 a2_1).bind fun bt371 => ((bocageref04_High.f k a2_0 a2_1).bind fun bt373 => (some (bt371.1 == bt373.1 && (bt371.2 == bt373.2))))) else (some false)))) else (some false)) else (some false)) = some r := by rw [if_pos rfl] at H; exact H
    clear H
    have H := H1
    clear H1
    by_cases c8 : ((t354 == t360 && (t355 == t361)) && ((t356 == t362 && (t357 == t363)))) = true
    · rw [if_pos c8] at H
      have c8b0 : ((t354 == t360 && (t355 == t361)) && ((t356 == t362 && (t357 == t363)))) = true := c8
      clear c8
      by_cases c9 : t358 = t364
      · rw [if_pos c9] at H
        have c9b0 : (t358 == t364) = true := beq_iff_eq.mpr c9
        have c9b1 : (t358 != t364) = false := bne_eq_false_iff_eq.mpr c9
        clear c9
        replace H := Option.bind_eq_some_iff.mp H
        obtain ⟨⟨t367, t368⟩, A100, H⟩ := H
        replace H : ((bocageref04_Low.f k a2_0 a2_1).bind fun bt369 => (if (t367 == bt369.1 && (t368 == bt369.2)) = true then ((bound_High.f k a2_0 a2_1).bind fun bt371 => ((bocageref04_High.f k a2_0 a2_1).bind fun bt373 => (some (bt371.1 == bt373.1 && (bt371.2 == bt373.2))))) else (some false))) = some r := H
        have A10 := Aside0.mk A100
        clear A100
        replace H := Option.bind_eq_some_iff.mp H
        obtain ⟨⟨t369, t370⟩, A110, H⟩ := H
        replace H : (if (t367 == t369 && (t368 == t370)) = true then ((bound_High.f k a2_0 a2_1).bind fun bt371 => ((bocageref04_High.f k a2_0 a2_1).bind fun bt373 => (some (bt371.1 == bt373.1 && (bt371.2 == bt373.2))))) else (some false)) = some r := H
        have A11 := Aside0.mk A110
        clear A110
        by_cases c12 : (t367 == t369 && (t368 == t370)) = true
        · rw [if_pos c12] at H
          have c12b0 : (t367 == t369 && (t368 == t370)) = true := c12
          (try (have c12b1 : decide (t367 = t369 && (t368 == t370)) = true := by simpa using c12))
          (try (have c12b2 : (t367 == t369 && (t368 == t370)) = true := by simpa using c12))
          clear c12
          replace H := Option.bind_eq_some_iff.mp H
          obtain ⟨⟨t371, t372⟩, A130, H⟩ := H
          replace H : ((bocageref04_High.f k a2_0 a2_1).bind fun bt373 => (some (t371 == bt373.1 && (t372 == bt373.2)))) = some r := H
          have A13 := Aside0.mk A130
          clear A130
          replace H := Option.bind_eq_some_iff.mp H
          obtain ⟨⟨t373, t374⟩, A140, H⟩ := H
          replace H : (some (t371 == t373 && (t372 == t374))) = some r := H
          have A14 := Aside0.mk A140
          clear A140
          obtain rfl := Option.some.inj H
          go_enter Try.func7, Try.ntmps7
          try go_wp2_with (first | ((with_reducible refine gate_dst (N := 3) rfl ?_); refine bxe (N := 3) (cs := #[.int .i64 a0_0, .int .i64 a0_1]) (t := 23) ?_; intro gb351 hg w15 hbox hb; have BK351 := Aside0.mk (hbox); have GW351 := lsz hg HB; have GE351 := lsz hg HB; replace HB := bst HB hb; clear hb hbox hg) | ((with_reducible refine gate_dst (N := 4) rfl ?_); refine bxe (N := 4) (cs := #[.int .i64 a1_0, .int .i64 a1_1]) (t := 23) ?_; intro gb352 hg w16 hbox hb; have BK352 := Aside0.mk (hbox); have GW352 := lsz hg HB; have GE352 := lsz hg HB; replace HB := bst HB hb; have NB351_352 := nlt hg BK351; have NB352_351 := ngt hg BK351; replace BK351 := bkb BK351 hb; clear hb hbox hg) | ((with_reducible refine gate_dst (N := 5) rfl ?_); refine bxe (N := 5) (cs := #[.int .i64 a2_0, .int .i64 a2_1]) (t := 25) ?_; intro gb353 hg w17 hbox hb; have BK353 := Aside0.mk (hbox); have GW353 := lsz hg HB; have GE353 := lsz hg HB; replace HB := bst HB hb; have NB351_353 := nlt hg BK351; have NB353_351 := ngt hg BK351; replace BK351 := bkb BK351 hb; have NB352_353 := nlt hg BK352; have NB353_352 := ngt hg BK352; replace BK352 := bkb BK352 hb; clear hb hbox hg; have hnb18 := NB351_352.out; have hnc18 := NB352_351.out; have hnb19 := NB351_353.out; have hnc19 := NB353_351.out; obtain ⟨hcz20_0, hcz20_1⟩ := e2 BK351; obtain ⟨hfz20_0, hfz20_1⟩ := f2 BK351; have hnb21 := NB352_353.out; have hnc21 := NB353_352.out; obtain ⟨hcz22_0, hcz22_1⟩ := e2 BK352; obtain ⟨hfz22_0, hfz22_1⟩ := f2 BK352) | ((with_reducible refine gate_callee (f := 9) rfl ?_); refine gol (some 14) Try.func9 #[.agg #[.int .i64 a0_0, .int .i64 a0_1], .agg #[.int .i64 a1_0, .int .i64 a1_1]] ?_; (with_reducible refine (bound_Span.calls k a0_0 a0_1 a1_0 a1_1 t354 t355 t356 t357 t358 _ A4.out).mono ?_); rintro e w23 ⟨rfl, hb⟩; refine ⟨_, rfl, ?_⟩; replace BK351 := bkb BK351 hb; replace BK352 := bkb BK352 hb; replace BK353 := bkb BK353 hb; replace HB := bst HB hb; (try clear hb); (try clear hb2); (try clear hk); (try clear hi)) | ((with_reducible refine gate_dst (N := 7) rfl ?_); refine bxe (N := 7) (cs := #[.int .i64 0, .int .i64 0, .int .i64 0, .int .i64 0]) (t := 27) ?_; intro gb359 hg w24 hbox hb; have BK359 := Aside0.mk (hbox); have GW359 := lsz hg HB; have GE359 := lsz hg HB; replace HB := bst HB hb; have NB351_359 := nlt hg BK351; have NB359_351 := ngt hg BK351; replace BK351 := bkb BK351 hb; have NB352_359 := nlt hg BK352; have NB359_352 := ngt hg BK352; replace BK352 := bkb BK352 hb; have NB353_359 := nlt hg BK353; have NB359_353 := ngt hg BK353; replace BK353 := bkb BK353 hb; clear hb hbox hg; have hnb25 := NB359_351.out; have hnc25 := NB351_359.out; have hnb26 := NB359_352.out; have hnc26 := NB352_359.out; have hnb27 := NB359_353.out; have hnc27 := NB353_359.out; obtain ⟨hcz28_0, hcz28_1, hcz28_2, hcz28_3⟩ := e4 BK359; obtain ⟨hfz28_0, hfz28_1, hfz28_2, hfz28_3⟩ := f4 BK359; obtain ⟨hcz29_0, hcz29_1⟩ := e2 BK351; obtain ⟨hfz29_0, hfz29_1⟩ := f2 BK351; obtain ⟨hcz30_0, hcz30_1⟩ := e2 BK352; obtain ⟨hfz30_0, hfz30_1⟩ := f2 BK352) | ((with_reducible refine gate_callee (f := 22) rfl ?_); refine gol (some 20) Try.func22 #[.agg #[.int .i64 a0_0, .int .i64 a0_1], .agg #[.int .i64 a1_0, .int .i64 a1_1]] ?_; (with_reducible refine (bocageref04_Span.calls k a0_0 a0_1 a1_0 a1_1 t360 t361 t362 t363 t364 _ A5.out).mono ?_); rintro e w31 ⟨rfl, hb⟩; refine ⟨_, rfl, ?_⟩; replace BK351 := Aside0.mk (blk_below (bkf BK351 NB351_359) hb); replace BK352 := Aside0.mk (blk_below (bkf BK352 NB352_359) hb); replace BK353 := Aside0.mk (blk_below (bkf BK353 NB353_359) hb); replace BK359 := Aside0.mk (blk_below (g := gb359) (o := .cells #[.int .i64 t354, .int .i64 t355, .int .i64 t356, .int .i64 t357] 27 (0, 0)) (bkp BK359) hb); replace HB := bst HB hb; (try clear hb); (try clear hb2); (try clear hk); (try clear hi)) | ((with_reducible refine gate_dst (N := 9) rfl ?_); refine bxe (N := 9) (cs := #[.int .i64 0, .int .i64 0, .int .i64 0, .int .i64 0]) (t := 27) ?_; intro gb365 hg w32 hbox hb; have BK365 := Aside0.mk (hbox); have GW365 := lsz hg HB; have GE365 := lsz hg HB; replace HB := bst HB hb; have NB351_365 := nlt hg BK351; have NB365_351 := ngt hg BK351; replace BK351 := bkb BK351 hb; have NB352_365 := nlt hg BK352; have NB365_352 := ngt hg BK352; replace BK352 := bkb BK352 hb; have NB353_365 := nlt hg BK353; have NB365_353 := ngt hg BK353; replace BK353 := bkb BK353 hb; have NB359_365 := nlt hg BK359; have NB365_359 := ngt hg BK359; replace BK359 := bkb BK359 hb; clear hb hbox hg; have hnb33 := NB365_351.out; have hnc33 := NB351_365.out; have hnb34 := NB365_352.out; have hnc34 := NB352_365.out; have hnb35 := NB365_353.out; have hnc35 := NB353_365.out; have hnb36 := NB365_359.out; have hnc36 := NB359_365.out; obtain ⟨hcz37_0, hcz37_1, hcz37_2, hcz37_3⟩ := e4 BK365; obtain ⟨hfz37_0, hfz37_1, hfz37_2, hfz37_3⟩ := f4 BK365))
          have n0_ : Aside0 (((((w32.setCell ⟨gb365, 0, none⟩ (.int .i64 t360)).setCell ⟨gb365, 1, none⟩ (.int .i64 t361)).setCell ⟨gb365, 2, none⟩ (.int .i64 t362)).setCell ⟨gb365, 3, none⟩ (.int .i64 t363)).heap[gb351]? = some (.cells #[.int .i64 a0_0, .int .i64 a0_1] 23 (0, 0))) := ⟨by (with_reducible repeat (first | refine blk_drewN ?_ _ | refine blk_drew ?_ | refine blk_alloc ?_ _)); refine blk_far ?_ NB351_365.out _; (with_reducible repeat (first | refine blk_drewN ?_ _ | refine blk_drew ?_ | refine blk_alloc ?_ _)); refine blk_far ?_ NB351_365.out _; (with_reducible repeat (first | refine blk_drewN ?_ _ | refine blk_drew ?_ | refine blk_alloc ?_ _)); refine blk_far ?_ NB351_365.out _; (with_reducible repeat (first | refine blk_drewN ?_ _ | refine blk_drew ?_ | refine blk_alloc ?_ _)); refine blk_far ?_ NB351_365.out _; (with_reducible repeat (first | refine blk_drewN ?_ _ | refine blk_drew ?_ | refine blk_alloc ?_ _)); exact BK351.out⟩
          have n1_ : Aside0 (((((w32.setCell ⟨gb365, 0, none⟩ (.int .i64 t360)).setCell ⟨gb365, 1, none⟩ (.int .i64 t361)).setCell ⟨gb365, 2, none⟩ (.int .i64 t362)).setCell ⟨gb365, 3, none⟩ (.int .i64 t363)).heap[gb352]? = some (.cells #[.int .i64 a1_0, .int .i64 a1_1] 23 (0, 0))) := ⟨by (with_reducible repeat (first | refine blk_drewN ?_ _ | refine blk_drew ?_ | refine blk_alloc ?_ _)); refine blk_far ?_ NB352_365.out _; (with_reducible repeat (first | refine blk_drewN ?_ _ | refine blk_drew ?_ | refine blk_alloc ?_ _)); refine blk_far ?_ NB352_365.out _; (with_reducible repeat (first | refine blk_drewN ?_ _ | refine blk_drew ?_ | refine blk_alloc ?_ _)); refine blk_far ?_ NB352_365.out _; (with_reducible repeat (first | refine blk_drewN ?_ _ | refine blk_drew ?_ | refine blk_alloc ?_ _)); refine blk_far ?_ NB352_365.out _; (with_reducible repeat (first | refine blk_drewN ?_ _ | refine blk_drew ?_ | refine blk_alloc ?_ _)); exact BK352.out⟩
          have n2_ : Aside0 (((((w32.setCell ⟨gb365, 0, none⟩ (.int .i64 t360)).setCell ⟨gb365, 1, none⟩ (.int .i64 t361)).setCell ⟨gb365, 2, none⟩ (.int .i64 t362)).setCell ⟨gb365, 3, none⟩ (.int .i64 t363)).heap[gb353]? = some (.cells #[.int .i64 a2_0, .int .i64 a2_1] 25 (0, 0))) := ⟨by (with_reducible repeat (first | refine blk_drewN ?_ _ | refine blk_drew ?_ | refine blk_alloc ?_ _)); refine blk_far ?_ NB353_365.out _; (with_reducible repeat (first | refine blk_drewN ?_ _ | refine blk_drew ?_ | refine blk_alloc ?_ _)); refine blk_far ?_ NB353_365.out _; (with_reducible repeat (first | refine blk_drewN ?_ _ | refine blk_drew ?_ | refine blk_alloc ?_ _)); refine blk_far ?_ NB353_365.out _; (with_reducible repeat (first | refine blk_drewN ?_ _ | refine blk_drew ?_ | refine blk_alloc ?_ _)); refine blk_far ?_ NB353_365.out _; (with_reducible repeat (first | refine blk_drewN ?_ _ | refine blk_drew ?_ | refine blk_alloc ?_ _)); exact BK353.out⟩
          have n3_ : Aside0 (((((w32.setCell ⟨gb365, 0, none⟩ (.int .i64 t360)).setCell ⟨gb365, 1, none⟩ (.int .i64 t361)).setCell ⟨gb365, 2, none⟩ (.int .i64 t362)).setCell ⟨gb365, 3, none⟩ (.int .i64 t363)).heap[gb359]? = some (.cells #[.int .i64 t354, .int .i64 t355, .int .i64 t356, .int .i64 t357] 27 (0, 0))) := ⟨by (with_reducible repeat (first | refine blk_drewN ?_ _ | refine blk_drew ?_ | refine blk_alloc ?_ _)); refine blk_far ?_ NB359_365.out _; (with_reducible repeat (first | refine blk_drewN ?_ _ | refine blk_drew ?_ | refine blk_alloc ?_ _)); refine blk_far ?_ NB359_365.out _; (with_reducible repeat (first | refine blk_drewN ?_ _ | refine blk_drew ?_ | refine blk_alloc ?_ _)); refine blk_far ?_ NB359_365.out _; (with_reducible repeat (first | refine blk_drewN ?_ _ | refine blk_drew ?_ | refine blk_alloc ?_ _)); refine blk_far ?_ NB359_365.out _; (with_reducible repeat (first | refine blk_drewN ?_ _ | refine blk_drew ?_ | refine blk_alloc ?_ _)); exact BK359.out⟩
          have n4_ : Aside0 (((((w32.setCell ⟨gb365, 0, none⟩ (.int .i64 t360)).setCell ⟨gb365, 1, none⟩ (.int .i64 t361)).setCell ⟨gb365, 2, none⟩ (.int .i64 t362)).setCell ⟨gb365, 3, none⟩ (.int .i64 t363)).heap[gb365]? = some (.cells #[.int .i64 t360, .int .i64 t361, .int .i64 t362, .int .i64 t363] 27 (0, 0))) := ⟨by (with_reducible repeat (first | refine blk_drewN ?_ _ | refine blk_drew ?_ | refine blk_alloc ?_ _)); refine blk_put (cs := #[.int .i64 t360, .int .i64 t361, .int .i64 t362, .int .i64 0]) ?_ 3 _ rfl; (with_reducible repeat (first | refine blk_drewN ?_ _ | refine blk_drew ?_ | refine blk_alloc ?_ _)); refine blk_put (cs := #[.int .i64 t360, .int .i64 t361, .int .i64 0, .int .i64 0]) ?_ 2 _ rfl; (with_reducible repeat (first | refine blk_drewN ?_ _ | refine blk_drew ?_ | refine blk_alloc ?_ _)); refine blk_put (cs := #[.int .i64 t360, .int .i64 0, .int .i64 0, .int .i64 0]) ?_ 1 _ rfl; (with_reducible repeat (first | refine blk_drewN ?_ _ | refine blk_drew ?_ | refine blk_alloc ?_ _)); refine blk_put (cs := #[.int .i64 0, .int .i64 0, .int .i64 0, .int .i64 0]) ?_ 0 _ rfl; (with_reducible repeat (first | refine blk_drewN ?_ _ | refine blk_drew ?_ | refine blk_alloc ?_ _)); exact BK365.out⟩
          have n5_ : Aside0 (Below w.heap.size w ((((w32.setCell ⟨gb365, 0, none⟩ (.int .i64 t360)).setCell ⟨gb365, 1, none⟩ (.int .i64 t361)).setCell ⟨gb365, 2, none⟩ (.int .i64 t362)).setCell ⟨gb365, 3, none⟩ (.int .i64 t363))) := ⟨bl HB⟩
          (try clear BK351)
          (try clear BK352)
          (try clear BK353)
          (try clear BK359)
          (try clear BK365)
          (try clear HB)
          generalize ((((w32.setCell ⟨gb365, 0, none⟩ (.int .i64 t360)).setCell ⟨gb365, 1, none⟩ (.int .i64 t361)).setCell ⟨gb365, 2, none⟩ (.int .i64 t362)).setCell ⟨gb365, 3, none⟩ (.int .i64 t363)) = w38 at n0_ n1_ n2_ n3_ n4_ n5_ ⊢
          have BK351 := n0_
          have BK352 := n1_
          have BK353 := n2_
          have BK359 := n3_
          have BK365 := n4_
          have HB := n5_
          clear n0_ n1_ n2_ n3_ n4_ n5_
          replace BK351 := Aside0.mk (blk_drew BK351.out)
          replace BK352 := Aside0.mk (blk_drew BK352.out)
          replace BK353 := Aside0.mk (blk_drew BK353.out)
          replace BK359 := Aside0.mk (blk_drew BK359.out)
          replace BK365 := Aside0.mk (blk_drew BK365.out)
          replace HB := Aside0.mk (below_drew1 HB.out)
          refine start_ (n := 26) (S := fun w' => w'.cell? ⟨gb359, 0, none⟩ = some (.int .i64 t354) ∧ w'.cell? ⟨gb359, 1, none⟩ = some (.int .i64 t355) ∧ w'.cell? ⟨gb359, 2, none⟩ = some (.int .i64 t356) ∧ w'.cell? ⟨gb359, 3, none⟩ = some (.int .i64 t357) ∧ w'.cell? ⟨gb365, 0, none⟩ = some (.int .i64 t360) ∧ w'.cell? ⟨gb365, 1, none⟩ = some (.int .i64 t361) ∧ w'.cell? ⟨gb365, 2, none⟩ = some (.int .i64 t362) ∧ w'.cell? ⟨gb365, 3, none⟩ = some (.int .i64 t363) ∧ w'.cell? ⟨gb353, 0, none⟩ = some (.int .i64 a2_0) ∧ w'.cell? ⟨gb353, 1, none⟩ = some (.int .i64 a2_1)) (ds := []) #[false, false, false, false, false, false, false, false, false, false, false, false, false, false, false, false, false, false, false, false, false, false, false, false, false, false] (by kernel_rfl) rfl rfl (c4 BK359 (c4 BK365 (e2 BK353))) (fun hHeld => ?_); refine with_tabW bocagelaw04_BoundSpans.tab3 bocagelaw04_BoundSpans.bits3 (fun HT_ HW_ => ?_)
          generalize w38.drew = w39 at BK351 BK352 BK353 BK359 BK365 HB hHeld ⊢
          refine one_ (i := 0) (N := some 23) #[true, false, false, false, false, false, false, false, false, false, false, false, false, false, false, false, false, false, false, false, false, false, false, false, false, false] rfl rfl (one_of HT_.out (by kernel_rfl)) (by decide) (fun K hK => ?_)
          refine goes_ Try.func10 (by kernel_rfl) rfl #[] (by rfl) rfl rfl (by (try simp only [List.map_toArray, List.map_cons, List.map_nil]); first | done | rfl | (simp only [List.length_drop, List.length_take]; rfl)) ?_
          with_reducible refine (bocagelaw04_alive.calls k  true _ A6.out rfl).mono ?_
          rintro e w40 ⟨rfl, hb⟩
          refine ⟨_, rfl, ?_⟩
          replace BK351 := bkb BK351 hb
          replace BK352 := bkb BK352 hb
          replace BK353 := bkb BK353 hb
          replace BK359 := bkb BK359 hb
          replace BK365 := bkb BK365 hb
          replace HB := bst HB hb
          (try clear hb)
          (try clear hb2)
          (try clear hk)
          (try clear hi)
          refine hK.out _ _ (c4 BK359 (c4 BK365 (e2 BK353))) (fun hHeld => ?_)
          clear hK K
          refine nrp 23 ?_
          refine pu 1 (some 24) #[true, true, false, false, false, false, false, false, false, false, false, false, false, false, false, false, false, false, false, false, false, false, false, false, false, false] (any_of HT_.out (by kernel_rfl)) ?_
          refine tk10 2 (some 25) #[true, true, true, false, false, false, false, false, false, false, false, false, false, false, false, false, false, false, false, false, false, false, false, false, false, false] (take_ofW HT_.out HW_.out (by kernel_rfl)) hHeld ?_
          refine tk10 3 (some 26) #[true, true, true, true, false, false, false, false, false, false, false, false, false, false, false, false, false, false, false, false, false, false, false, false, false, false] (take_ofW HT_.out HW_.out (by kernel_rfl)) hHeld ?_
          refine pu 4 (some 27) #[true, true, true, true, true, false, false, false, false, false, false, false, false, false, false, false, false, false, false, false, false, false, false, false, false, false] (any_of HT_.out (by kernel_rfl)) ?_
          refine pu 5 (some 28) #[true, true, true, true, true, true, false, false, false, false, false, false, false, false, false, false, false, false, false, false, false, false, false, false, false, false] (any_of HT_.out (by kernel_rfl)) ?_
          refine pu 6 (some 29) #[true, true, true, true, true, true, true, false, false, false, false, false, false, false, false, false, false, false, false, false, false, false, false, false, false, false] (any_of HT_.out (by kernel_rfl)) ?_
          refine pu 7 (some 30) #[true, true, true, true, true, true, true, true, false, false, false, false, false, false, false, false, false, false, false, false, false, false, false, false, false, false] (any_of HT_.out (by kernel_rfl)) ?_
          refine pu 8 (some 31) #[true, true, true, true, true, true, true, true, true, false, false, false, false, false, false, false, false, false, false, false, false, false, false, false, false, false] (any_of HT_.out (by kernel_rfl)) ?_
          refine pu 9 (some 32) #[true, true, true, true, true, true, true, true, true, true, false, false, false, false, false, false, false, false, false, false, false, false, false, false, false, false] (any_of HT_.out (by kernel_rfl)) ?_
          refine pu 10 (some 33) #[true, true, true, true, true, true, true, true, true, true, true, false, false, false, false, false, false, false, false, false, false, false, false, false, false, false] (any_of HT_.out (by kernel_rfl)) ?_
          refine pu 11 (some 34) #[true, true, true, true, true, true, true, true, true, true, true, true, false, false, false, false, false, false, false, false, false, false, false, false, false, false] (any_of HT_.out (by kernel_rfl)) ?_
          refine tk10 12 (some 35) #[true, true, true, true, true, true, true, true, true, true, true, true, true, false, false, false, false, false, false, false, false, false, false, false, false, false] (take_ofW HT_.out HW_.out (by kernel_rfl)) hHeld ?_
          refine tk10 14 (some 37) #[true, true, true, true, true, true, true, true, true, true, true, true, true, false, true, false, false, false, false, false, false, false, false, false, false, false] (take_ofW HT_.out HW_.out (by kernel_rfl)) hHeld ?_
          refine one_ (i := 13) (N := some 36) #[true, true, true, true, true, true, true, true, true, true, true, true, true, true, true, false, false, false, false, false, false, false, false, false, false, false] rfl rfl (one_of HT_.out (by kernel_rfl)) (by decide) (fun K hK => ?_)
          refine goes_ Try.func23 (by kernel_rfl) rfl #[.agg #[.int .i64 a2_0, .int .i64 a2_1]] (by rfl) rfl rfl (by (try simp only [List.map_toArray, List.map_cons, List.map_nil]); first | done | rfl | (simp only [List.length_drop, List.length_take]; rfl)) ?_
          with_reducible refine (bound_Low.calls k a2_0 a2_1 t367 t368 _ A10.out).mono ?_
          rintro e w41 ⟨rfl, hb⟩
          refine ⟨_, rfl, ?_⟩
          replace BK351 := bkb BK351 hb
          replace BK352 := bkb BK352 hb
          replace BK353 := bkb BK353 hb
          replace BK359 := bkb BK359 hb
          replace BK365 := bkb BK365 hb
          replace HB := bst HB hb
          (try clear hb)
          (try clear hb2)
          (try clear hk)
          (try clear hi)
          refine hK.out _ _ (c4 BK359 (c4 BK365 (e2 BK353))) (fun hHeld => ?_)
          clear hK K
          refine nrp 36 ?_
          refine one_ (i := 15) (N := some 38) #[true, true, true, true, true, true, true, true, true, true, true, true, true, true, true, true, false, false, false, false, false, false, false, false, false, false] rfl rfl (one_of HT_.out (by kernel_rfl)) (by decide) (fun K hK => ?_)
          refine goes_ Try.func24 (by kernel_rfl) rfl #[.agg #[.int .i64 a2_0, .int .i64 a2_1]] (by rfl) rfl rfl (by (try simp only [List.map_toArray, List.map_cons, List.map_nil]); first | done | rfl | (simp only [List.length_drop, List.length_take]; rfl)) ?_
          with_reducible refine (bocageref04_Low.calls k a2_0 a2_1 t369 t370 _ A11.out).mono ?_
          rintro e w42 ⟨rfl, hb⟩
          refine ⟨_, rfl, ?_⟩
          replace BK351 := bkb BK351 hb
          replace BK352 := bkb BK352 hb
          replace BK353 := bkb BK353 hb
          replace BK359 := bkb BK359 hb
          replace BK365 := bkb BK365 hb
          replace HB := bst HB hb
          (try clear hb)
          (try clear hb2)
          (try clear hk)
          (try clear hi)
          refine hK.out _ _ (c4 BK359 (c4 BK365 (e2 BK353))) (fun hHeld => ?_)
          clear hK K
          refine nrp 38 ?_
          refine pu 16 (some 39) #[true, true, true, true, true, true, true, true, true, true, true, true, true, true, true, true, true, false, false, false, false, false, false, false, false, false] (any_of HT_.out (by kernel_rfl)) ?_
          refine pu 17 (some 40) #[true, true, true, true, true, true, true, true, true, true, true, true, true, true, true, true, true, true, false, false, false, false, false, false, false, false] (any_of HT_.out (by kernel_rfl)) ?_
          refine pu 18 (some 41) #[true, true, true, true, true, true, true, true, true, true, true, true, true, true, true, true, true, true, true, false, false, false, false, false, false, false] (any_of HT_.out (by kernel_rfl)) ?_
          refine tk10 19 (some 42) #[true, true, true, true, true, true, true, true, true, true, true, true, true, true, true, true, true, true, true, true, false, false, false, false, false, false] (take_ofW HT_.out HW_.out (by kernel_rfl)) hHeld ?_
          refine tk10 21 (some 44) #[true, true, true, true, true, true, true, true, true, true, true, true, true, true, true, true, true, true, true, true, false, true, false, false, false, false] (take_ofW HT_.out HW_.out (by kernel_rfl)) hHeld ?_
          refine one_ (i := 20) (N := some 43) #[true, true, true, true, true, true, true, true, true, true, true, true, true, true, true, true, true, true, true, true, true, true, false, false, false, false] rfl rfl (one_of HT_.out (by kernel_rfl)) (by decide) (fun K hK => ?_)
          refine goes_ Try.func25 (by kernel_rfl) rfl #[.agg #[.int .i64 a2_0, .int .i64 a2_1]] (by rfl) rfl rfl (by (try simp only [List.map_toArray, List.map_cons, List.map_nil]); first | done | rfl | (simp only [List.length_drop, List.length_take]; rfl)) ?_
          with_reducible refine (bound_High.calls k a2_0 a2_1 t371 t372 _ A13.out).mono ?_
          rintro e w43 ⟨rfl, hb⟩
          refine ⟨_, rfl, ?_⟩
          replace BK351 := bkb BK351 hb
          replace BK352 := bkb BK352 hb
          replace BK353 := bkb BK353 hb
          replace BK359 := bkb BK359 hb
          replace BK365 := bkb BK365 hb
          replace HB := bst HB hb
          (try clear hb)
          (try clear hb2)
          (try clear hk)
          (try clear hi)
          refine hK.out _ _ (c4 BK359 (c4 BK365 (e2 BK353))) (fun hHeld => ?_)
          clear hK K
          refine nrp 43 ?_
          refine one_ (i := 22) (N := some 45) #[true, true, true, true, true, true, true, true, true, true, true, true, true, true, true, true, true, true, true, true, true, true, true, false, false, false] rfl rfl (one_of HT_.out (by kernel_rfl)) (by decide) (fun K hK => ?_)
          refine goes_ Try.func26 (by kernel_rfl) rfl #[.agg #[.int .i64 a2_0, .int .i64 a2_1]] (by rfl) rfl rfl (by (try simp only [List.map_toArray, List.map_cons, List.map_nil]); first | done | rfl | (simp only [List.length_drop, List.length_take]; rfl)) ?_
          with_reducible refine (bocageref04_High.calls k a2_0 a2_1 t373 t374 _ A14.out).mono ?_
          rintro e w44 ⟨rfl, hb⟩
          refine ⟨_, rfl, ?_⟩
          replace BK351 := bkb BK351 hb
          replace BK352 := bkb BK352 hb
          replace BK353 := bkb BK353 hb
          replace BK359 := bkb BK359 hb
          replace BK365 := bkb BK365 hb
          replace HB := bst HB hb
          (try clear hb)
          (try clear hb2)
          (try clear hk)
          (try clear hi)
          refine hK.out _ _ (c4 BK359 (c4 BK365 (e2 BK353))) (fun hHeld => ?_)
          clear hK K
          refine nrp 45 ?_
          refine pu 23 (some 46) #[true, true, true, true, true, true, true, true, true, true, true, true, true, true, true, true, true, true, true, true, true, true, true, true, false, false] (any_of HT_.out (by kernel_rfl)) ?_
          refine pu 24 (some 47) #[true, true, true, true, true, true, true, true, true, true, true, true, true, true, true, true, true, true, true, true, true, true, true, true, true, false] (any_of HT_.out (by kernel_rfl)) ?_
          refine pu 25 (some 6) #[true, true, true, true, true, true, true, true, true, true, true, true, true, true, true, true, true, true, true, true, true, true, true, true, true, true] (any_of HT_.out (by kernel_rfl)) ?_
          refine done_ (done_of HT_.out (by kernel_rfl)) ?_
          try go_wp2
          go_ret
          exact endB HB
        · rw [if_neg c12] at H
          exact absurd ((Option.some.inj H).trans HRT.out) Bool.false_ne_true
      · rw [if_neg c9] at H
        exact absurd ((Option.some.inj H).trans HRT.out) Bool.false_ne_true
    · rw [if_neg c8] at H
      exact absurd ((Option.some.inj H).trans HRT.out) Bool.false_ne_true
  · replace c7 := Bool.eq_false_iff.mpr c7
    subst c7
    have H1 : (some false) = some r := by rw [if_neg (show ¬ (false = true) by decide)] at H; exact H
    exact absurd ((Option.some.inj H1).trans HRT.out) Bool.false_ne_true
end
end Go.Proofs.Ytpeidnkbliafkaa.Print
