-- Laid by wip/print/bprint.py of this repo, over the kit's printer, with functions given by hand; not trusted: Lean checks it.
import Derived.Test.YtpeidnkbliafkaaPrint0
import Derived.Test.YtpeidnkbliafkaaPrint4
import Derived.Test.YtpeidnkbliafkaaPrint5
import Derived.Test.YtpeidnkbliafkaaSh
namespace Go.Proofs.Ytpeidnkbliafkaa.Print
open Go.RowKit Go.Proofs.YtpeidnkbliafkaaW.PrintWords Go.Proofs.YtpeidnkbliafkaaW.PrintLast Go.Proofs.YtpeidnkbliafkaaW.PrintMore
attribute [local go_sem] max2_int min2_int max_two min_two max_three min_three max_four min_four   -- for this text's walks alone
set_option linter.unusedVariables false
set_option linter.unusedSimpArgs false
/-! ### bound_High: function 25 -/
def bound_High.f (k : Nat) (a0_0 : Int) (a0_1 : Int) : Option (Int × Int) := (cut_Next.f k a0_0 a0_1).bind fun bt268 => (if bt268.2 = true then (some (1, bt268.1)) else (some (0, 0)))
theorem bound_High.mono : ∀ a0 a1 k, LeO (bound_High.f k a0 a1) (bound_High.f (k + 1) a0 a1) := by
  intro a0 a1 k
  unfold bound_High.f
  repeat' first
      | (with_reducible exact cut_Next.mono _ _ _)
      | (with_reducible exact LeO.refl _)
      | (with_reducible exact LeO.none _)
      | (with_reducible refine LeO.ite ?_ ?_)
      | (with_reducible refine LeO.bind ?_ (fun _ => ?_))
      | exact cut_Next.mono _ _ _
      | exact LeO.none _
      | refine LeO.ite ?_ ?_
      | refine LeO.bind ?_ (fun _ => ?_)
set_option maxHeartbeats 8000000 in
set_option maxRecDepth 100000 in
theorem bound_High.calls (k : Nat) (a0_0 : Int) (a0_1 : Int) (r1 : Int) (r2 : Int) (w : World) (h : bound_High.f k a0_0 a0_1 = some (r1, r2)) :
    Calls Try.prog 25 #[.agg #[.int .i64 a0_0, .int .i64 a0_1]] w fun e w' => e = .returned (.agg #[.int .i64 r1, .int .i64 r2]) ∧ Below w.heap.size w w' := by
  have hu25 := Try.underlying25
  have hu23 := Try.underlying23
  have HB := Aside0.mk (Below.refl w.heap.size w)
  have H : ((cut_Next.f k a0_0 a0_1).bind fun bt268 => (if bt268.2 = true then (some (1, bt268.1)) else (some (0, 0)))) = some (r1, r2) := h
  clear h
  replace H := Option.bind_eq_some_iff.mp H
  obtain ⟨⟨t268, t269⟩, A20, H⟩ := H
  replace H : (if t269 = true then (some (1, t268)) else (some (0, 0))) = some (r1, r2) := H
  have A2 := Aside0.mk A20
  clear A20
  by_cases c3 : t269 = true
  · subst c3
    have H1 : (some (1, t268)) = some (r1, r2) := by rw [if_pos rfl] at H; exact H
    clear H
    have H := H1
    clear H1
    simp only [Option.some.injEq, Prod.mk.injEq] at H
    obtain ⟨rfl, rfl⟩ := H
    go_enter Try.func25, Try.ntmps25
    go_wp2_with (first | ((with_reducible refine gate_dst (N := 1) rfl ?_); refine bxe (N := 1) (cs := #[.int .i64 a0_0, .int .i64 a0_1]) (t := 25) ?_; intro gb266 hg w4 hbox hb; have BK266 := Aside0.mk (hbox); have GW266 := lsz hg HB; have GE266 := lsz hg HB; replace HB := bst HB hb; clear hb hbox hg) | ((with_reducible refine gate_dst (N := 2) rfl ?_); refine bxe (N := 2) (cs := #[.int .i64 0, .int .i64 0]) (t := 23) ?_; intro gb267 hg w5 hbox hb; have BK267 := Aside0.mk (hbox); have GW267 := lsz hg HB; have GE267 := lsz hg HB; replace HB := bst HB hb; have NB266_267 := nlt hg BK266; have NB267_266 := ngt hg BK266; replace BK266 := bkb BK266 hb; clear hb hbox hg; have hnb6 := NB266_267.out; have hnc6 := NB267_266.out; obtain ⟨hcz7_0, hcz7_1⟩ := e2 BK266; obtain ⟨hfz7_0, hfz7_1⟩ := f2 BK266) | ((with_reducible refine gate_callee (f := 52) rfl ?_); refine gol (some 7) Try.func52 #[.agg #[.int .i64 a0_0, .int .i64 a0_1]] ?_; (with_reducible refine (cut_Next.calls k a0_0 a0_1 t268 true _ A2.out).mono ?_); rintro e w8 ⟨rfl, hb⟩; refine ⟨_, rfl, ?_⟩; replace BK266 := bkb BK266 hb; replace BK267 := bkb BK267 hb; replace HB := bst HB hb; (try clear hb); (try clear hb2); (try clear hk); (try clear hi); obtain ⟨hcz9_0, hcz9_1⟩ := e2 BK267; obtain ⟨hfz9_0, hfz9_1⟩ := f2 BK267))
    refine bodyPost_ret (results_cell_row rfl _ _ gb267 23 #[.int .i64 1, .int .i64 t268] (0, 0) _ rfl (bkp BK267) Try.underlying23 rfl (by kernel_rfl)) rfl ?_
    exact endB HB
  · replace c3 := Bool.eq_false_iff.mpr c3
    subst c3
    have H1 : (some (0, 0)) = some (r1, r2) := by rw [if_neg (show ¬ (false = true) by decide)] at H; exact H
    clear H
    have H := H1
    clear H1
    simp only [Option.some.injEq, Prod.mk.injEq] at H
    obtain ⟨rfl, rfl⟩ := H
    go_enter Try.func25, Try.ntmps25
    go_wp2_with (first | ((with_reducible refine gate_dst (N := 1) rfl ?_); refine bxe (N := 1) (cs := #[.int .i64 a0_0, .int .i64 a0_1]) (t := 25) ?_; intro gb266 hg w10 hbox hb; have BK266 := Aside0.mk (hbox); have GW266 := lsz hg HB; have GE266 := lsz hg HB; replace HB := bst HB hb; clear hb hbox hg) | ((with_reducible refine gate_dst (N := 2) rfl ?_); refine bxe (N := 2) (cs := #[.int .i64 0, .int .i64 0]) (t := 23) ?_; intro gb267 hg w11 hbox hb; have BK267 := Aside0.mk (hbox); have GW267 := lsz hg HB; have GE267 := lsz hg HB; replace HB := bst HB hb; have NB266_267 := nlt hg BK266; have NB267_266 := ngt hg BK266; replace BK266 := bkb BK266 hb; clear hb hbox hg; have hnb12 := NB266_267.out; have hnc12 := NB267_266.out; obtain ⟨hcz13_0, hcz13_1⟩ := e2 BK266; obtain ⟨hfz13_0, hfz13_1⟩ := f2 BK266) | ((with_reducible refine gate_callee (f := 52) rfl ?_); refine gol (some 7) Try.func52 #[.agg #[.int .i64 a0_0, .int .i64 a0_1]] ?_; (with_reducible refine (cut_Next.calls k a0_0 a0_1 t268 false _ A2.out).mono ?_); rintro e w14 ⟨rfl, hb⟩; refine ⟨_, rfl, ?_⟩; replace BK266 := bkb BK266 hb; replace BK267 := bkb BK267 hb; replace HB := bst HB hb; (try clear hb); (try clear hb2); (try clear hk); (try clear hi); obtain ⟨hcz15_0, hcz15_1⟩ := e2 BK267; obtain ⟨hfz15_0, hfz15_1⟩ := f2 BK267))
    refine bodyPost_ret (results_cell_row rfl _ _ gb267 23 #[.int .i64 0, .int .i64 0] (0, 0) _ rfl (bkp BK267) Try.underlying23 rfl (by kernel_rfl)) rfl ?_
    exact endB HB
/-! ### bocageref03_Has: function 11 -/
def bocageref03_Has.f (k : Nat) (a0_0 : Int) (a0_1 : Int) (a0_2 : Int) (a0_3 : Int) (a1 : Int) : Option (Bool) := (bocageref02_Ahead.f k a1).bind fun bt376 => ((bocageref03_Right.f k a0_0 a0_1 a0_2 a0_3).bind fun t379 => (if t379 = true then ((bocageref02_Less.f k bt376.1 bt376.2 a0_0 a0_1).bind fun t380 => (if t380 = true then (some false) else ((bocageref02_Less.f k bt376.1 bt376.2 a0_2 a0_3).bind fun t381 => (some t381)))) else (some false)))
theorem bocageref03_Has.mono : ∀ a0 a1 a2 a3 a4 k, LeO (bocageref03_Has.f k a0 a1 a2 a3 a4) (bocageref03_Has.f (k + 1) a0 a1 a2 a3 a4) := by
  intro a0 a1 a2 a3 a4 k
  unfold bocageref03_Has.f
  repeat' first
      | (with_reducible exact bocageref02_Ahead.mono _ _)
      | (with_reducible exact bocageref02_Less.mono _ _ _ _ _)
      | (with_reducible exact bocageref03_Right.mono _ _ _ _ _)
      | (with_reducible exact LeO.refl _)
      | (with_reducible exact LeO.none _)
      | (with_reducible refine LeO.ite ?_ ?_)
      | (with_reducible refine LeO.bind ?_ (fun _ => ?_))
      | exact bocageref02_Ahead.mono _ _
      | exact bocageref02_Less.mono _ _ _ _ _
      | exact bocageref03_Right.mono _ _ _ _ _
      | exact LeO.none _
      | refine LeO.ite ?_ ?_
      | refine LeO.bind ?_ (fun _ => ?_)
set_option maxHeartbeats 8000000 in
set_option maxRecDepth 100000 in
theorem bocageref03_Has.calls (k : Nat) (a0_0 : Int) (a0_1 : Int) (a0_2 : Int) (a0_3 : Int) (a1 : Int) (r : Bool) (w : World) (h : bocageref03_Has.f k a0_0 a0_1 a0_2 a0_3 a1 = some r) :
    Calls Try.prog 11 #[.agg #[.int .i64 a0_0, .int .i64 a0_1, .int .i64 a0_2, .int .i64 a0_3], .int .i64 a1] w fun e w' => e = .returned (.bool r) ∧ Below w.heap.size w w' := by
  have hu27 := Try.underlying27
  have hu25 := Try.underlying25
  have HB := Aside0.mk (Below.refl w.heap.size w)
  have H : ((bocageref02_Ahead.f k a1).bind fun bt376 => ((bocageref03_Right.f k a0_0 a0_1 a0_2 a0_3).bind fun t379 => (if t379 = true then ((bocageref02_Less.f k bt376.1 bt376.2 a0_0 a0_1).bind fun t380 => (if t380 = true then (some false) else ((bocageref02_Less.f k bt376.1 bt376.2 a0_2 a0_3).bind fun t381 => (some t381)))) else (some false)))) = some r := h
  clear h
  replace H := Option.bind_eq_some_iff.mp H
  obtain ⟨⟨t376, t377⟩, A30, H⟩ := H
  replace H : ((bocageref03_Right.f k a0_0 a0_1 a0_2 a0_3).bind fun t379 => (if t379 = true then ((bocageref02_Less.f k t376 t377 a0_0 a0_1).bind fun t380 => (if t380 = true then (some false) else ((bocageref02_Less.f k t376 t377 a0_2 a0_3).bind fun t381 => (some t381)))) else (some false))) = some r := H
  have A3 := Aside0.mk A30
  clear A30
  replace H := Option.bind_eq_some_iff.mp H
  obtain ⟨t379, A40, H⟩ := H
  replace H : (if t379 = true then ((bocageref02_Less.f k t376 t377 a0_0 a0_1).bind fun t380 => (if t380 = true then (some false) else ((bocageref02_Less.f k t376 t377 a0_2 a0_3).bind fun t381 => (some t381)))) else (some false)) = some r := H
  have A4 := Aside0.mk A40
  clear A40
  by_cases c5 : t379 = true
  · subst c5
    have H1 : ((bocageref02_Less.f k t376 t377 a0_0 a0_1).bind fun t380 => (if t380 = true then (some false) else ((bocageref02_Less.f k t376 t377 a0_2 a0_3).bind fun t381 => (some t381)))) = some r := by rw [if_pos rfl] at H; exact H
    clear H
    have H := H1
    clear H1
    replace H := Option.bind_eq_some_iff.mp H
    obtain ⟨t380, A60, H⟩ := H
    replace H : (if t380 = true then (some false) else ((bocageref02_Less.f k t376 t377 a0_2 a0_3).bind fun t381 => (some t381))) = some r := H
    have A6 := Aside0.mk A60
    clear A60
    by_cases c7 : t380 = true
    · subst c7
      have H1 : (some false) = some r := by rw [if_pos rfl] at H; exact H
      clear H
      have H := H1
      clear H1
      obtain rfl := Option.some.inj H
      go_enter Try.func11, Try.ntmps11
      go_wp2_with (first | ((with_reducible refine gate_dst (N := 2) rfl ?_); refine bxe (N := 2) (cs := #[.int .i64 a0_0, .int .i64 a0_1, .int .i64 a0_2, .int .i64 a0_3]) (t := 27) ?_; intro gb375 hg w8 hbox hb; have BK375 := Aside0.mk (hbox); have GW375 := lsz hg HB; have GE375 := lsz hg HB; replace HB := bst HB hb; clear hb hbox hg) | ((with_reducible refine gate_callee (f := 35) rfl ?_); refine gol (some 7) Try.func35 #[.int .i64 a1] ?_; (with_reducible refine (bocageref02_Ahead.calls k a1 t376 t377 _ A3.out).mono ?_); rintro e w9 ⟨rfl, hb⟩; refine ⟨_, rfl, ?_⟩; replace BK375 := bkb BK375 hb; replace HB := bst HB hb; (try clear hb); (try clear hb2); (try clear hk); (try clear hi)) | ((with_reducible refine gate_dst (N := 5) rfl ?_); refine bxe (N := 5) (cs := #[.int .i64 0, .int .i64 0]) (t := 25) ?_; intro gb378 hg w10 hbox hb; have BK378 := Aside0.mk (hbox); have GW378 := lsz hg HB; have GE378 := lsz hg HB; replace HB := bst HB hb; have NB375_378 := nlt hg BK375; have NB378_375 := ngt hg BK375; replace BK375 := bkb BK375 hb; clear hb hbox hg; have hnb11 := NB378_375.out; have hnc11 := NB375_378.out; obtain ⟨hcz12_0, hcz12_1⟩ := e2 BK378; obtain ⟨hfz12_0, hfz12_1⟩ := f2 BK378; obtain ⟨hcz13_0, hcz13_1, hcz13_2, hcz13_3⟩ := e4 BK375; obtain ⟨hfz13_0, hfz13_1, hfz13_2, hfz13_3⟩ := f4 BK375) | ((with_reducible refine gate_callee (f := 20) rfl ?_); refine gol (some 9) Try.func20 #[.agg #[.int .i64 a0_0, .int .i64 a0_1, .int .i64 a0_2, .int .i64 a0_3]] ?_; (with_reducible refine (bocageref03_Right.calls k a0_0 a0_1 a0_2 a0_3 true _ A4.out).mono ?_); rintro e w14 ⟨rfl, hb⟩; refine ⟨_, rfl, ?_⟩; replace BK375 := Aside0.mk (blk_below (bkf BK375 NB375_378) hb); replace BK378 := Aside0.mk (blk_below (g := gb378) (o := .cells #[.int .i64 t376, .int .i64 t377] 25 (0, 0)) (bkp BK378) hb); replace HB := bst HB hb; (try clear hb); (try clear hb2); (try clear hk); (try clear hi); obtain ⟨hcz15_0, hcz15_1⟩ := e2 BK378; obtain ⟨hfz15_0, hfz15_1⟩ := f2 BK378; obtain ⟨hcz16_0, hcz16_1, hcz16_2, hcz16_3⟩ := e4 BK375; obtain ⟨hfz16_0, hfz16_1, hfz16_2, hfz16_3⟩ := f4 BK375) | (go_at_call 36; (with_reducible refine (bocageref02_Less.calls k t376 t377 a0_0 a0_1 true _ A6.out).mono ?_); rintro e w17 ⟨rfl, hb⟩; replace BK375 := bkb BK375 hb; replace BK378 := bkb BK378 hb; replace HB := bst HB hb; (try clear hb); (try clear hb2); (try clear hk); (try clear hi)))
      go_ret
      exact endB HB
    · replace c7 := Bool.eq_false_iff.mpr c7
      subst c7
      have H1 : ((bocageref02_Less.f k t376 t377 a0_2 a0_3).bind fun t381 => (some t381)) = some r := by rw [if_neg (show ¬ (false = true) by decide)] at H; exact H
      clear H
      have H := H1
      clear H1
      replace H := Option.bind_eq_some_iff.mp H
      obtain ⟨t381, A180, H⟩ := H
      replace H : (some t381) = some r := H
      have A18 := Aside0.mk A180
      clear A180
      obtain rfl := Option.some.inj H
      go_enter Try.func11, Try.ntmps11
      go_wp2_with (first | ((with_reducible refine gate_dst (N := 2) rfl ?_); refine bxe (N := 2) (cs := #[.int .i64 a0_0, .int .i64 a0_1, .int .i64 a0_2, .int .i64 a0_3]) (t := 27) ?_; intro gb375 hg w19 hbox hb; have BK375 := Aside0.mk (hbox); have GW375 := lsz hg HB; have GE375 := lsz hg HB; replace HB := bst HB hb; clear hb hbox hg) | ((with_reducible refine gate_callee (f := 35) rfl ?_); refine gol (some 7) Try.func35 #[.int .i64 a1] ?_; (with_reducible refine (bocageref02_Ahead.calls k a1 t376 t377 _ A3.out).mono ?_); rintro e w20 ⟨rfl, hb⟩; refine ⟨_, rfl, ?_⟩; replace BK375 := bkb BK375 hb; replace HB := bst HB hb; (try clear hb); (try clear hb2); (try clear hk); (try clear hi)) | ((with_reducible refine gate_dst (N := 5) rfl ?_); refine bxe (N := 5) (cs := #[.int .i64 0, .int .i64 0]) (t := 25) ?_; intro gb378 hg w21 hbox hb; have BK378 := Aside0.mk (hbox); have GW378 := lsz hg HB; have GE378 := lsz hg HB; replace HB := bst HB hb; have NB375_378 := nlt hg BK375; have NB378_375 := ngt hg BK375; replace BK375 := bkb BK375 hb; clear hb hbox hg; have hnb22 := NB378_375.out; have hnc22 := NB375_378.out; obtain ⟨hcz23_0, hcz23_1⟩ := e2 BK378; obtain ⟨hfz23_0, hfz23_1⟩ := f2 BK378; obtain ⟨hcz24_0, hcz24_1, hcz24_2, hcz24_3⟩ := e4 BK375; obtain ⟨hfz24_0, hfz24_1, hfz24_2, hfz24_3⟩ := f4 BK375) | ((with_reducible refine gate_callee (f := 20) rfl ?_); refine gol (some 9) Try.func20 #[.agg #[.int .i64 a0_0, .int .i64 a0_1, .int .i64 a0_2, .int .i64 a0_3]] ?_; (with_reducible refine (bocageref03_Right.calls k a0_0 a0_1 a0_2 a0_3 true _ A4.out).mono ?_); rintro e w25 ⟨rfl, hb⟩; refine ⟨_, rfl, ?_⟩; replace BK375 := Aside0.mk (blk_below (bkf BK375 NB375_378) hb); replace BK378 := Aside0.mk (blk_below (g := gb378) (o := .cells #[.int .i64 t376, .int .i64 t377] 25 (0, 0)) (bkp BK378) hb); replace HB := bst HB hb; (try clear hb); (try clear hb2); (try clear hk); (try clear hi); obtain ⟨hcz26_0, hcz26_1⟩ := e2 BK378; obtain ⟨hfz26_0, hfz26_1⟩ := f2 BK378; obtain ⟨hcz27_0, hcz27_1, hcz27_2, hcz27_3⟩ := e4 BK375; obtain ⟨hfz27_0, hfz27_1, hfz27_2, hfz27_3⟩ := f4 BK375) | (go_at_call 36; (with_reducible refine (bocageref02_Less.calls k t376 t377 a0_0 a0_1 false _ A6.out).mono ?_); rintro e w28 ⟨rfl, hb⟩; replace BK375 := bkb BK375 hb; replace BK378 := bkb BK378 hb; replace HB := bst HB hb; (try clear hb); (try clear hb2); (try clear hk); (try clear hi); obtain ⟨hcz29_0, hcz29_1⟩ := e2 BK378; obtain ⟨hfz29_0, hfz29_1⟩ := f2 BK378; obtain ⟨hcz30_0, hcz30_1, hcz30_2, hcz30_3⟩ := e4 BK375; obtain ⟨hfz30_0, hfz30_1, hfz30_2, hfz30_3⟩ := f4 BK375) | (go_at_call 36; (with_reducible refine (bocageref02_Less.calls k t376 t377 a0_2 a0_3 t381 _ A18.out).mono ?_); rintro e w31 ⟨rfl, hb⟩; replace BK375 := bkb BK375 hb; replace BK378 := bkb BK378 hb; replace HB := bst HB hb; (try clear hb); (try clear hb2); (try clear hk); (try clear hi)))
      go_ret
      exact endB HB
  · replace c5 := Bool.eq_false_iff.mpr c5
    subst c5
    have H1 : (some false) = some r := by rw [if_neg (show ¬ (false = true) by decide)] at H; exact H
    clear H
    have H := H1
    clear H1
    obtain rfl := Option.some.inj H
    go_enter Try.func11, Try.ntmps11
    go_wp2_with (first | ((with_reducible refine gate_dst (N := 2) rfl ?_); refine bxe (N := 2) (cs := #[.int .i64 a0_0, .int .i64 a0_1, .int .i64 a0_2, .int .i64 a0_3]) (t := 27) ?_; intro gb375 hg w32 hbox hb; have BK375 := Aside0.mk (hbox); have GW375 := lsz hg HB; have GE375 := lsz hg HB; replace HB := bst HB hb; clear hb hbox hg) | ((with_reducible refine gate_callee (f := 35) rfl ?_); refine gol (some 7) Try.func35 #[.int .i64 a1] ?_; (with_reducible refine (bocageref02_Ahead.calls k a1 t376 t377 _ A3.out).mono ?_); rintro e w33 ⟨rfl, hb⟩; refine ⟨_, rfl, ?_⟩; replace BK375 := bkb BK375 hb; replace HB := bst HB hb; (try clear hb); (try clear hb2); (try clear hk); (try clear hi)) | ((with_reducible refine gate_dst (N := 5) rfl ?_); refine bxe (N := 5) (cs := #[.int .i64 0, .int .i64 0]) (t := 25) ?_; intro gb378 hg w34 hbox hb; have BK378 := Aside0.mk (hbox); have GW378 := lsz hg HB; have GE378 := lsz hg HB; replace HB := bst HB hb; have NB375_378 := nlt hg BK375; have NB378_375 := ngt hg BK375; replace BK375 := bkb BK375 hb; clear hb hbox hg; have hnb35 := NB378_375.out; have hnc35 := NB375_378.out; obtain ⟨hcz36_0, hcz36_1⟩ := e2 BK378; obtain ⟨hfz36_0, hfz36_1⟩ := f2 BK378; obtain ⟨hcz37_0, hcz37_1, hcz37_2, hcz37_3⟩ := e4 BK375; obtain ⟨hfz37_0, hfz37_1, hfz37_2, hfz37_3⟩ := f4 BK375) | ((with_reducible refine gate_callee (f := 20) rfl ?_); refine gol (some 9) Try.func20 #[.agg #[.int .i64 a0_0, .int .i64 a0_1, .int .i64 a0_2, .int .i64 a0_3]] ?_; (with_reducible refine (bocageref03_Right.calls k a0_0 a0_1 a0_2 a0_3 false _ A4.out).mono ?_); rintro e w38 ⟨rfl, hb⟩; refine ⟨_, rfl, ?_⟩; replace BK375 := Aside0.mk (blk_below (bkf BK375 NB375_378) hb); replace BK378 := Aside0.mk (blk_below (g := gb378) (o := .cells #[.int .i64 t376, .int .i64 t377] 25 (0, 0)) (bkp BK378) hb); replace HB := bst HB hb; (try clear hb); (try clear hb2); (try clear hk); (try clear hi)))
    go_ret
    exact endB HB
end Go.Proofs.Ytpeidnkbliafkaa.Print
