-- Laid by wip/print/bprint.py of this repo, over the kit's printer, with functions given by hand; not trusted: Lean checks it.
import Derived.Test.YtpeidnkbliafkaaPrint0
import Derived.Test.YtpeidnkbliafkaaPrint2
import Derived.Test.YtpeidnkbliafkaaPrint4
import Derived.Test.YtpeidnkbliafkaaPrint7
import Derived.Test.YtpeidnkbliafkaaSh
namespace Go.Proofs.Ytpeidnkbliafkaa.Print
open Go.RowKit Go.Proofs.YtpeidnkbliafkaaW.PrintWords Go.Proofs.YtpeidnkbliafkaaW.PrintLast Go.Proofs.YtpeidnkbliafkaaW.PrintMore
attribute [local go_sem] max2_int min2_int max_two min_two max_three min_three max_four min_four   -- for this text's walks alone
set_option linter.unusedVariables false
set_option linter.unusedSimpArgs false
section
attribute [local go_sem high] eqA27
/-! ### bocagelaw04_BoundNumbers: function 3 -/
def bocagelaw04_BoundNumbers.f (k : Nat) (a0_0 : Int) (a0_1 : Int) (a1_0 : Int) (a1_1 : Int) (a2 : Int) : Option (Bool) := (bound_Span.f k a0_0 a0_1 a1_0 a1_1).bind fun bt384 => (if bt384.2.2.2.2 = 40 then ((bocagelaw04_alive.f k).bind fun t390 => (if t390 = true then (some ((bt384.1 == 0 && (bt384.2.1 == 0)) && ((bt384.2.2.1 == 0 && (bt384.2.2.2.1 == 0))))) else (some false))) else (if a0_0 = 0 then (if a1_0 = 0 then ((bocagelaw04_alive.f k).bind fun t391 => (if t391 = true then ((bocageref03_Has.f k bt384.1 bt384.2.1 bt384.2.2.1 bt384.2.2.2.1 a2).bind fun t392 => (some (t392 == true))) else (some false))) else (if a2 < a1_1 then ((bocagelaw04_alive.f k).bind fun t393 => (if t393 = true then ((bocageref03_Has.f k bt384.1 bt384.2.1 bt384.2.2.1 bt384.2.2.2.1 a2).bind fun t394 => (some (t394 == true))) else (some false))) else (if a2 = a1_1 then ((bocagelaw04_alive.f k).bind fun t395 => (if t395 = true then ((bocageref03_Has.f k bt384.1 bt384.2.1 bt384.2.2.1 bt384.2.2.2.1 a2).bind fun t396 => (some (t396 == (a1_0 == 2)))) else (some false))) else ((bocagelaw04_alive.f k).bind fun t397 => (if t397 = true then ((bocageref03_Has.f k bt384.1 bt384.2.1 bt384.2.2.1 bt384.2.2.2.1 a2).bind fun t398 => (some (t398 == false))) else (some false)))))) else (if a2 > a0_1 then (if a1_0 = 0 then ((bocagelaw04_alive.f k).bind fun t399 => (if t399 = true then ((bocageref03_Has.f k bt384.1 bt384.2.1 bt384.2.2.1 bt384.2.2.2.1 a2).bind fun t400 => (some (t400 == true))) else (some false))) else (if a2 < a1_1 then ((bocagelaw04_alive.f k).bind fun t401 => (if t401 = true then ((bocageref03_Has.f k bt384.1 bt384.2.1 bt384.2.2.1 bt384.2.2.2.1 a2).bind fun t402 => (some (t402 == true))) else (some false))) else (if a2 = a1_1 then ((bocagelaw04_alive.f k).bind fun t403 => (if t403 = true then ((bocageref03_Has.f k bt384.1 bt384.2.1 bt384.2.2.1 bt384.2.2.2.1 a2).bind fun t404 => (some (t404 == (a1_0 == 2)))) else (some false))) else ((bocagelaw04_alive.f k).bind fun t405 => (if t405 = true then ((bocageref03_Has.f k bt384.1 bt384.2.1 bt384.2.2.1 bt384.2.2.2.1 a2).bind fun t406 => (some (t406 == false))) else (some false)))))) else (if a2 = a0_1 then (if a1_0 = 0 then ((bocagelaw04_alive.f k).bind fun t407 => (if t407 = true then ((bocageref03_Has.f k bt384.1 bt384.2.1 bt384.2.2.1 bt384.2.2.2.1 a2).bind fun t408 => (if a0_0 = 2 then (some (t408 == true)) else (some (t408 == false)))) else (some false))) else (if a2 < a1_1 then ((bocagelaw04_alive.f k).bind fun t409 => (if t409 = true then ((bocageref03_Has.f k bt384.1 bt384.2.1 bt384.2.2.1 bt384.2.2.2.1 a2).bind fun t410 => (if a0_0 = 2 then (some (t410 == true)) else (some (t410 == false)))) else (some false))) else (if a2 = a1_1 then ((bocagelaw04_alive.f k).bind fun t411 => (if t411 = true then ((bocageref03_Has.f k bt384.1 bt384.2.1 bt384.2.2.1 bt384.2.2.2.1 a2).bind fun t412 => (if a0_0 = 2 then (some (t412 == (a1_0 == 2))) else (some (t412 == false)))) else (some false))) else ((bocagelaw04_alive.f k).bind fun t413 => (if t413 = true then ((bocageref03_Has.f k bt384.1 bt384.2.1 bt384.2.2.1 bt384.2.2.2.1 a2).bind fun t414 => (if a0_0 = 2 then (some (t414 == false)) else (some (t414 == false)))) else (some false)))))) else (if a1_0 = 0 then ((bocagelaw04_alive.f k).bind fun t415 => (if t415 = true then ((bocageref03_Has.f k bt384.1 bt384.2.1 bt384.2.2.1 bt384.2.2.2.1 a2).bind fun t416 => (some (t416 == false))) else (some false))) else (if a2 < a1_1 then ((bocagelaw04_alive.f k).bind fun t417 => (if t417 = true then ((bocageref03_Has.f k bt384.1 bt384.2.1 bt384.2.2.1 bt384.2.2.2.1 a2).bind fun t418 => (some (t418 == false))) else (some false))) else (if a2 = a1_1 then ((bocagelaw04_alive.f k).bind fun t419 => (if t419 = true then ((bocageref03_Has.f k bt384.1 bt384.2.1 bt384.2.2.1 bt384.2.2.2.1 a2).bind fun t420 => (some (t420 == false))) else (some false))) else ((bocagelaw04_alive.f k).bind fun t421 => (if t421 = true then ((bocageref03_Has.f k bt384.1 bt384.2.1 bt384.2.2.1 bt384.2.2.2.1 a2).bind fun t422 => (some (t422 == false))) else (some false))))))))))
theorem bocagelaw04_BoundNumbers.mono : ∀ a0 a1 a2 a3 a4 k, LeO (bocagelaw04_BoundNumbers.f k a0 a1 a2 a3 a4) (bocagelaw04_BoundNumbers.f (k + 1) a0 a1 a2 a3 a4) := by
  intro a0 a1 a2 a3 a4 k
  unfold bocagelaw04_BoundNumbers.f
  repeat' first
      | (with_reducible exact bocagelaw04_alive.mono _)
      | (with_reducible exact bocageref03_Has.mono _ _ _ _ _ _)
      | (with_reducible exact bound_Span.mono _ _ _ _ _)
      | (with_reducible exact LeO.refl _)
      | (with_reducible exact LeO.none _)
      | (with_reducible refine LeO.ite ?_ ?_)
      | (with_reducible refine LeO.bind ?_ (fun _ => ?_))
      | exact bocagelaw04_alive.mono _
      | exact bocageref03_Has.mono _ _ _ _ _ _
      | exact bound_Span.mono _ _ _ _ _
      | exact LeO.none _
      | refine LeO.ite ?_ ?_
      | refine LeO.bind ?_ (fun _ => ?_)
set_option maxHeartbeats 8000000 in
set_option maxRecDepth 100000 in
theorem bocagelaw04_BoundNumbers.calls (k : Nat) (a0_0 : Int) (a0_1 : Int) (a1_0 : Int) (a1_1 : Int) (a2 : Int) (r : Bool) (w : World) (h : bocagelaw04_BoundNumbers.f k a0_0 a0_1 a1_0 a1_1 a2 = some r) (hr : r = true) :
    Calls Try.prog 3 #[.agg #[.int .i64 a0_0, .int .i64 a0_1], .agg #[.int .i64 a1_0, .int .i64 a1_1], .int .i64 a2] w fun e w' => e = .returned (.bool r) ∧ Below w.heap.size w w' := by
  have HRT := Aside0.mk hr
  clear hr
  have hu23 := Try.underlying23
  have hu27 := Try.underlying27
  have HB := Aside0.mk (Below.refl w.heap.size w)
  have H : ((bound_Span.f k a0_0 a0_1 a1_0 a1_1).bind fun bt384 => (if bt384.2.2.2.2 = 40 then ((bocagelaw04_alive.f k).bind fun t390 => (if t390 = true then (some ((bt384.1 == 0 && (bt384.2.1 == 0)) && ((bt384.2.2.1 == 0 && (bt384.2.2.2.1 == 0))))) else (some false))) else (if a0_0 = 0 then (if a1_0 = 0 then ((bocagelaw04_alive.f k).bind fun t391 => (if t391 = true then ((bocageref03_Has.f k bt384.1 bt384.2.1 bt384.2.2.1 bt384.2.2.2.1 a2).bind fun t392 => (some (t392 == true))) else (some false))) else (if a2 < a1_1 then ((bocagelaw04_alive.f k).bind fun t393 => (if t393 = true then ((bocageref03_Has.f k bt384.1 bt384.2.1 bt384.2.2.1 bt384.2.2.2.1 a2).bind fun t394 => (some (t394 == true))) else (some false))) else (if a2 = a1_1 then ((bocagelaw04_alive.f k).bind fun t395 => (if t395 = true then ((bocageref03_Has.f k bt384.1 bt384.2.1 bt384.2.2.1 bt384.2.2.2.1 a2).bind fun t396 => (some (t396 == (a1_0 == 2)))) else (some false))) else ((bocagelaw04_alive.f k).bind fun t397 => (if t397 = true then ((bocageref03_Has.f k bt384.1 bt384.2.1 bt384.2.2.1 bt384.2.2.2.1 a2).bind fun t398 => (some (t398 == false))) else (some false)))))) else (if a2 > a0_1 then (if a1_0 = 0 then ((bocagelaw04_alive.f k).bind fun t399 => (if t399 = true then ((bocageref03_Has.f k bt384.1 bt384.2.1 bt384.2.2.1 bt384.2.2.2.1 a2).bind fun t400 => (some (t400 == true))) else (some false))) else (if a2 < a1_1 then ((bocagelaw04_alive.f k).bind fun t401 => (if t401 = true then ((bocageref03_Has.f k bt384.1 bt384.2.1 bt384.2.2.1 bt384.2.2.2.1 a2).bind fun t402 => (some (t402 == true))) else (some false))) else (if a2 = a1_1 then ((bocagelaw04_alive.f k).bind fun t403 => (if t403 = true then ((bocageref03_Has.f k bt384.1 bt384.2.1 bt384.2.2.1 bt384.2.2.2.1 a2).bind fun t404 => (some (t404 == (a1_0 == 2)))) else (some false))) else ((bocagelaw04_alive.f k).bind fun t405 => (if t405 = true then ((bocageref03_Has.f k bt384.1 bt384.2.1 bt384.2.2.1 bt384.2.2.2.1 a2).bind fun t406 => (some (t406 == false))) else (some false)))))) else (if a2 = a0_1 then (if a1_0 = 0 then ((bocagelaw04_alive.f k).bind fun t407 => (if t407 = true then ((bocageref03_Has.f k bt384.1 bt384.2.1 bt384.2.2.1 bt384.2.2.2.1 a2).bind fun t408 => (if a0_0 = 2 then (some (t408 == true)) else (some (t408 == false)))) else (some false))) else (if a2 < a1_1 then ((bocagelaw04_alive.f k).bind fun t409 => (if t409 = true then ((bocageref03_Has.f k bt384.1 bt384.2.1 bt384.2.2.1 bt384.2.2.2.1 a2).bind fun t410 => (if a0_0 = 2 then (some (t410 == true)) else (some (t410 == false)))) else (some false))) else (if a2 = a1_1 then ((bocagelaw04_alive.f k).bind fun t411 => (if t411 = true then ((bocageref03_Has.f k bt384.1 bt384.2.1 bt384.2.2.1 bt384.2.2.2.1 a2).bind fun t412 => (if a0_0 = 2 then (some (t412 == (a1_0 == 2))) else (some (t412 == false)))) else (some false))) else ((bocagelaw04_alive.f k).bind fun t413 => (if t413 = true then ((bocageref03_Has.f k bt384.1 bt384.2.1 bt384.2.2.1 bt384.2.2.2.1 a2).bind fun t414 => (if a0_0 = 2 then (some (t414 == false)) else (some (t414 == false)))) else (some false)))))) else (if a1_0 = 0 then ((bocagelaw04_alive.f k).bind fun t415 => (if t415 = true then ((bocageref03_Has.f k bt384.1 bt384.2.1 bt384.2.2.1 bt384.2.2.2.1 a2).bind fun t416 => (some (t416 == false))) else (some false))) else (if a2 < a1_1 then ((bocagelaw04_alive.f k).bind fun t417 => (if t417 = true then ((bocageref03_Has.f k bt384.1 bt384.2.1 bt384.2.2.1 bt384.2.2.2.1 a2).bind fun t418 => (some (t418 == false))) else (some false))) else (if a2 = a1_1 then ((bocagelaw04_alive.f k).bind fun t419 => (if t419 = true then ((bocageref03_Has.f k bt384.1 bt384.2.1 bt384.2.2.1 bt384.2.2.2.1 a2).bind fun t420 => (some (t420 == false))) else (some false))) else ((bocagelaw04_alive.f k).bind fun t421 => (if t421 = true then ((bocageref03_Has.f k bt384.1 bt384.2.1 bt384.2.2.1 bt384.2.2.2.1 a2).bind fun t422 => (some (t422 == false))) else (some false))))))))))) = some r := h
  clear h
  replace H := Option.bind_eq_some_iff.mp H
  obtain ⟨⟨t384, t385, t386, t387, t388⟩, A40, H⟩ := H
  (try (set_option simprocs false in dsimp only at H))
  have A4 := Aside0.mk A40
  clear A40
  by_cases c5 : t388 = 40
  · rw [if_pos c5] at H
    have c5b0 : (t388 == 40) = true := beq_iff_eq.mpr c5
    have c5b1 : (t388 != 40) = false := bne_eq_false_iff_eq.mpr c5
    clear c5
    replace H := Option.bind_eq_some_iff.mp H
    obtain ⟨t390, A60, H⟩ := H
    (try (set_option simprocs false in dsimp only at H))
    have A6 := Aside0.mk A60
    clear A60
    by_cases c7 : t390 = true
    · subst c7
      have H1 : (some ((t384 == 0 && (t385 == 0)) && ((t386 == 0 && (t387 == 0))))) = some r := by rw [if_pos rfl] at H; exact H
      clear H
      have H := H1
      clear H1
      obtain rfl := Option.some.inj H
      go_enter Try.func3, Try.ntmps3
      go_wp2_with (first | ((with_reducible refine gate_dst (N := 3) rfl ?_); refine bxe (N := 3) (cs := #[.int .i64 a0_0, .int .i64 a0_1]) (t := 23) ?_; intro gb382 hg w8 hbox hb; have BK382 := Aside0.mk (hbox); have GW382 := lsz hg HB; have GE382 := lsz hg HB; replace HB := bst HB hb; clear hb hbox hg) | ((with_reducible refine gate_dst (N := 4) rfl ?_); refine bxe (N := 4) (cs := #[.int .i64 a1_0, .int .i64 a1_1]) (t := 23) ?_; intro gb383 hg w9 hbox hb; have BK383 := Aside0.mk (hbox); have GW383 := lsz hg HB; have GE383 := lsz hg HB; replace HB := bst HB hb; have NB382_383 := nlt hg BK382; have NB383_382 := ngt hg BK382; replace BK382 := bkb BK382 hb; clear hb hbox hg; have hnb10 := NB382_383.out; have hnc10 := NB383_382.out; obtain ⟨hcz11_0, hcz11_1⟩ := e2 BK382; obtain ⟨hfz11_0, hfz11_1⟩ := f2 BK382; obtain ⟨hcz12_0, hcz12_1⟩ := e2 BK383; obtain ⟨hfz12_0, hfz12_1⟩ := f2 BK383) | ((with_reducible refine gate_callee (f := 9) rfl ?_); refine gol (some 14) Try.func9 #[.agg #[.int .i64 a0_0, .int .i64 a0_1], .agg #[.int .i64 a1_0, .int .i64 a1_1]] ?_; (with_reducible refine (bound_Span.calls k a0_0 a0_1 a1_0 a1_1 t384 t385 t386 t387 t388 _ A4.out).mono ?_); rintro e w13 ⟨rfl, hb⟩; refine ⟨_, rfl, ?_⟩; replace BK382 := bkb BK382 hb; replace BK383 := bkb BK383 hb; replace HB := bst HB hb; (try clear hb); (try clear hb2); (try clear hk); (try clear hi)) | ((with_reducible refine gate_dst (N := 7) rfl ?_); refine bxe (N := 7) (cs := #[.int .i64 0, .int .i64 0, .int .i64 0, .int .i64 0]) (t := 27) ?_; intro gb389 hg w14 hbox hb; have BK389 := Aside0.mk (hbox); have GW389 := lsz hg HB; have GE389 := lsz hg HB; replace HB := bst HB hb; have NB382_389 := nlt hg BK382; have NB389_382 := ngt hg BK382; replace BK382 := bkb BK382 hb; have NB383_389 := nlt hg BK383; have NB389_383 := ngt hg BK383; replace BK383 := bkb BK383 hb; clear hb hbox hg; have hnb15 := NB389_382.out; have hnc15 := NB382_389.out; have hnb16 := NB389_383.out; have hnc16 := NB383_389.out; obtain ⟨hcz17_0, hcz17_1, hcz17_2, hcz17_3⟩ := e4 BK389; obtain ⟨hfz17_0, hfz17_1, hfz17_2, hfz17_3⟩ := f4 BK389) | ((with_reducible refine gate_callee (f := 10) rfl ?_); refine gol (some 19) Try.func10 #[] ?_; (with_reducible refine (bocagelaw04_alive.calls k  true _ A6.out rfl).mono ?_); rintro e w18 ⟨rfl, hb⟩; refine ⟨_, rfl, ?_⟩; replace BK382 := Aside0.mk (blk_below (bkf BK382 NB382_389) hb); replace BK383 := Aside0.mk (blk_below (bkf BK383 NB383_389) hb); replace BK389 := Aside0.mk (blk_below (g := gb389) (o := .cells #[.int .i64 t384, .int .i64 t385, .int .i64 t386, .int .i64 t387] 27 (0, 0)) (bkp BK389) hb); replace HB := bst HB hb; (try clear hb); (try clear hb2); (try clear hk); (try clear hi); obtain ⟨hcz19_0, hcz19_1, hcz19_2, hcz19_3⟩ := e4 BK389; obtain ⟨hfz19_0, hfz19_1, hfz19_2, hfz19_3⟩ := f4 BK389))
      go_ret
      exact endB HB
    · replace c7 := Bool.eq_false_iff.mpr c7
      subst c7
      have H1 : (some false) = some r := by rw [if_neg (show ¬ (false = true) by decide)] at H; exact H
      exact absurd ((Option.some.inj H1).trans HRT.out) Bool.false_ne_true
  · rw [if_neg c5] at H
    have c5b0 : (t388 == 40) = false := beq_eq_false_iff_ne.mpr c5
    have c5b1 : (t388 != 40) = true := bne_iff_ne.mpr c5
    by_cases c31 : a0_0 = 0
    · rw [if_pos c31] at H
      have c31b0 : (a0_0 == 0) = true := beq_iff_eq.mpr c31
      have c31b1 : (a0_0 != 0) = false := bne_eq_false_iff_eq.mpr c31
      clear c31
      by_cases c32 : a1_0 = 0
      · rw [if_pos c32] at H
        have c32b0 : (a1_0 == 0) = true := beq_iff_eq.mpr c32
        have c32b1 : (a1_0 != 0) = false := bne_eq_false_iff_eq.mpr c32
        clear c32
        replace H := Option.bind_eq_some_iff.mp H
        obtain ⟨t391, A330, H⟩ := H
        (try (set_option simprocs false in dsimp only at H))
        have A33 := Aside0.mk A330
        clear A330
        by_cases c34 : t391 = true
        · subst c34
          have H1 : ((bocageref03_Has.f k t384 t385 t386 t387 a2).bind fun t392 => (some (t392 == true))) = some r := by rw [if_pos rfl] at H; exact H
          clear H
          have H := H1
          clear H1
          replace H := Option.bind_eq_some_iff.mp H
          obtain ⟨t392, A350, H⟩ := H
          (try (set_option simprocs false in dsimp only at H))
          have A35 := Aside0.mk A350
          clear A350
          obtain rfl := Option.some.inj H
          go_enter Try.func3, Try.ntmps3
          go_wp2_with (first | ((with_reducible refine gate_dst (N := 3) rfl ?_); refine bxe (N := 3) (cs := #[.int .i64 a0_0, .int .i64 a0_1]) (t := 23) ?_; intro gb382 hg w36 hbox hb; have BK382 := Aside0.mk (hbox); have GW382 := lsz hg HB; have GE382 := lsz hg HB; replace HB := bst HB hb; clear hb hbox hg) | ((with_reducible refine gate_dst (N := 4) rfl ?_); refine bxe (N := 4) (cs := #[.int .i64 a1_0, .int .i64 a1_1]) (t := 23) ?_; intro gb383 hg w37 hbox hb; have BK383 := Aside0.mk (hbox); have GW383 := lsz hg HB; have GE383 := lsz hg HB; replace HB := bst HB hb; have NB382_383 := nlt hg BK382; have NB383_382 := ngt hg BK382; replace BK382 := bkb BK382 hb; clear hb hbox hg; have hnb38 := NB382_383.out; have hnc38 := NB383_382.out; obtain ⟨hcz39_0, hcz39_1⟩ := e2 BK382; obtain ⟨hfz39_0, hfz39_1⟩ := f2 BK382; obtain ⟨hcz40_0, hcz40_1⟩ := e2 BK383; obtain ⟨hfz40_0, hfz40_1⟩ := f2 BK383) | ((with_reducible refine gate_callee (f := 9) rfl ?_); refine gol (some 14) Try.func9 #[.agg #[.int .i64 a0_0, .int .i64 a0_1], .agg #[.int .i64 a1_0, .int .i64 a1_1]] ?_; (with_reducible refine (bound_Span.calls k a0_0 a0_1 a1_0 a1_1 t384 t385 t386 t387 t388 _ A4.out).mono ?_); rintro e w41 ⟨rfl, hb⟩; refine ⟨_, rfl, ?_⟩; replace BK382 := bkb BK382 hb; replace BK383 := bkb BK383 hb; replace HB := bst HB hb; (try clear hb); (try clear hb2); (try clear hk); (try clear hi)) | ((with_reducible refine gate_dst (N := 7) rfl ?_); refine bxe (N := 7) (cs := #[.int .i64 0, .int .i64 0, .int .i64 0, .int .i64 0]) (t := 27) ?_; intro gb389 hg w42 hbox hb; have BK389 := Aside0.mk (hbox); have GW389 := lsz hg HB; have GE389 := lsz hg HB; replace HB := bst HB hb; have NB382_389 := nlt hg BK382; have NB389_382 := ngt hg BK382; replace BK382 := bkb BK382 hb; have NB383_389 := nlt hg BK383; have NB389_383 := ngt hg BK383; replace BK383 := bkb BK383 hb; clear hb hbox hg; have hnb43 := NB389_382.out; have hnc43 := NB382_389.out; have hnb44 := NB389_383.out; have hnc44 := NB383_389.out; obtain ⟨hcz45_0, hcz45_1, hcz45_2, hcz45_3⟩ := e4 BK389; obtain ⟨hfz45_0, hfz45_1, hfz45_2, hfz45_3⟩ := f4 BK389; obtain ⟨hcz46_0, hcz46_1⟩ := e2 BK382; obtain ⟨hfz46_0, hfz46_1⟩ := f2 BK382; obtain ⟨hcz47_0, hcz47_1⟩ := e2 BK383; obtain ⟨hfz47_0, hfz47_1⟩ := f2 BK383) | ((with_reducible refine gate_callee (f := 10) rfl ?_); refine gol (some 65) Try.func10 #[] ?_; (with_reducible refine (bocagelaw04_alive.calls k  true _ A33.out rfl).mono ?_); rintro e w48 ⟨rfl, hb⟩; refine ⟨_, rfl, ?_⟩; replace BK382 := Aside0.mk (blk_below (bkf BK382 NB382_389) hb); replace BK383 := Aside0.mk (blk_below (bkf BK383 NB383_389) hb); replace BK389 := Aside0.mk (blk_below (g := gb389) (o := .cells #[.int .i64 t384, .int .i64 t385, .int .i64 t386, .int .i64 t387] 27 (0, 0)) (bkp BK389) hb); replace HB := bst HB hb; (try clear hb); (try clear hb2); (try clear hk); (try clear hi); obtain ⟨hcz49_0, hcz49_1, hcz49_2, hcz49_3⟩ := e4 BK389; obtain ⟨hfz49_0, hfz49_1, hfz49_2, hfz49_3⟩ := f4 BK389) | (go_at_call 11; (with_reducible refine (bocageref03_Has.calls k t384 t385 t386 t387 a2 t392 _ A35.out).mono ?_); rintro e w50 ⟨rfl, hb⟩; replace BK382 := bkb BK382 hb; replace BK383 := bkb BK383 hb; replace BK389 := bkb BK389 hb; replace HB := bst HB hb; (try clear hb); (try clear hb2); (try clear hk); (try clear hi)))
          go_ret
          exact endB HB
        · replace c34 := Bool.eq_false_iff.mpr c34
          subst c34
          have H1 : (some false) = some r := by rw [if_neg (show ¬ (false = true) by decide)] at H; exact H
          exact absurd ((Option.some.inj H1).trans HRT.out) Bool.false_ne_true
      · rw [if_neg c32] at H
        have c32b0 : (a1_0 == 0) = false := beq_eq_false_iff_ne.mpr c32
        have c32b1 : (a1_0 != 0) = true := bne_iff_ne.mpr c32
        by_cases c64 : a2 < a1_1
        · rw [if_pos c64] at H
          have c64b0 : decide (a2 < a1_1) = true := decide_eq_true c64
          clear c64
          replace H := Option.bind_eq_some_iff.mp H
          obtain ⟨t393, A650, H⟩ := H
          (try (set_option simprocs false in dsimp only at H))
          have A65 := Aside0.mk A650
          clear A650
          by_cases c66 : t393 = true
          · subst c66
            have H1 : ((bocageref03_Has.f k t384 t385 t386 t387 a2).bind fun t394 => (some (t394 == true))) = some r := by rw [if_pos rfl] at H; exact H
            clear H
            have H := H1
            clear H1
            replace H := Option.bind_eq_some_iff.mp H
            obtain ⟨t394, A670, H⟩ := H
            (try (set_option simprocs false in dsimp only at H))
            have A67 := Aside0.mk A670
            clear A670
            obtain rfl := Option.some.inj H
            go_enter Try.func3, Try.ntmps3
            go_wp2_with (first | ((with_reducible refine gate_dst (N := 3) rfl ?_); refine bxe (N := 3) (cs := #[.int .i64 a0_0, .int .i64 a0_1]) (t := 23) ?_; intro gb382 hg w68 hbox hb; have BK382 := Aside0.mk (hbox); have GW382 := lsz hg HB; have GE382 := lsz hg HB; replace HB := bst HB hb; clear hb hbox hg) | ((with_reducible refine gate_dst (N := 4) rfl ?_); refine bxe (N := 4) (cs := #[.int .i64 a1_0, .int .i64 a1_1]) (t := 23) ?_; intro gb383 hg w69 hbox hb; have BK383 := Aside0.mk (hbox); have GW383 := lsz hg HB; have GE383 := lsz hg HB; replace HB := bst HB hb; have NB382_383 := nlt hg BK382; have NB383_382 := ngt hg BK382; replace BK382 := bkb BK382 hb; clear hb hbox hg; have hnb70 := NB382_383.out; have hnc70 := NB383_382.out; obtain ⟨hcz71_0, hcz71_1⟩ := e2 BK382; obtain ⟨hfz71_0, hfz71_1⟩ := f2 BK382; obtain ⟨hcz72_0, hcz72_1⟩ := e2 BK383; obtain ⟨hfz72_0, hfz72_1⟩ := f2 BK383) | ((with_reducible refine gate_callee (f := 9) rfl ?_); refine gol (some 14) Try.func9 #[.agg #[.int .i64 a0_0, .int .i64 a0_1], .agg #[.int .i64 a1_0, .int .i64 a1_1]] ?_; (with_reducible refine (bound_Span.calls k a0_0 a0_1 a1_0 a1_1 t384 t385 t386 t387 t388 _ A4.out).mono ?_); rintro e w73 ⟨rfl, hb⟩; refine ⟨_, rfl, ?_⟩; replace BK382 := bkb BK382 hb; replace BK383 := bkb BK383 hb; replace HB := bst HB hb; (try clear hb); (try clear hb2); (try clear hk); (try clear hi)) | ((with_reducible refine gate_dst (N := 7) rfl ?_); refine bxe (N := 7) (cs := #[.int .i64 0, .int .i64 0, .int .i64 0, .int .i64 0]) (t := 27) ?_; intro gb389 hg w74 hbox hb; have BK389 := Aside0.mk (hbox); have GW389 := lsz hg HB; have GE389 := lsz hg HB; replace HB := bst HB hb; have NB382_389 := nlt hg BK382; have NB389_382 := ngt hg BK382; replace BK382 := bkb BK382 hb; have NB383_389 := nlt hg BK383; have NB389_383 := ngt hg BK383; replace BK383 := bkb BK383 hb; clear hb hbox hg; have hnb75 := NB389_382.out; have hnc75 := NB382_389.out; have hnb76 := NB389_383.out; have hnc76 := NB383_389.out; obtain ⟨hcz77_0, hcz77_1, hcz77_2, hcz77_3⟩ := e4 BK389; obtain ⟨hfz77_0, hfz77_1, hfz77_2, hfz77_3⟩ := f4 BK389; obtain ⟨hcz78_0, hcz78_1⟩ := e2 BK382; obtain ⟨hfz78_0, hfz78_1⟩ := f2 BK382; obtain ⟨hcz79_0, hcz79_1⟩ := e2 BK383; obtain ⟨hfz79_0, hfz79_1⟩ := f2 BK383) | ((with_reducible refine gate_callee (f := 10) rfl ?_); refine gol (some 65) Try.func10 #[] ?_; (with_reducible refine (bocagelaw04_alive.calls k  true _ A65.out rfl).mono ?_); rintro e w80 ⟨rfl, hb⟩; refine ⟨_, rfl, ?_⟩; replace BK382 := Aside0.mk (blk_below (bkf BK382 NB382_389) hb); replace BK383 := Aside0.mk (blk_below (bkf BK383 NB383_389) hb); replace BK389 := Aside0.mk (blk_below (g := gb389) (o := .cells #[.int .i64 t384, .int .i64 t385, .int .i64 t386, .int .i64 t387] 27 (0, 0)) (bkp BK389) hb); replace HB := bst HB hb; (try clear hb); (try clear hb2); (try clear hk); (try clear hi); obtain ⟨hcz81_0, hcz81_1, hcz81_2, hcz81_3⟩ := e4 BK389; obtain ⟨hfz81_0, hfz81_1, hfz81_2, hfz81_3⟩ := f4 BK389) | (go_at_call 11; (with_reducible refine (bocageref03_Has.calls k t384 t385 t386 t387 a2 t394 _ A67.out).mono ?_); rintro e w82 ⟨rfl, hb⟩; replace BK382 := bkb BK382 hb; replace BK383 := bkb BK383 hb; replace BK389 := bkb BK389 hb; replace HB := bst HB hb; (try clear hb); (try clear hb2); (try clear hk); (try clear hi)))
            go_ret
            exact endB HB
          · replace c66 := Bool.eq_false_iff.mpr c66
            subst c66
            have H1 : (some false) = some r := by rw [if_neg (show ¬ (false = true) by decide)] at H; exact H
            exact absurd ((Option.some.inj H1).trans HRT.out) Bool.false_ne_true
        · rw [if_neg c64] at H
          have c64b0 : decide (a2 < a1_1) = false := decide_eq_false c64
          clear c64
          by_cases c96 : a2 = a1_1
          · rw [if_pos c96] at H
            have c96b0 : (a2 == a1_1) = true := beq_iff_eq.mpr c96
            have c96b1 : (a2 != a1_1) = false := bne_eq_false_iff_eq.mpr c96
            clear c96
            replace H := Option.bind_eq_some_iff.mp H
            obtain ⟨t395, A970, H⟩ := H
            (try (set_option simprocs false in dsimp only at H))
            have A97 := Aside0.mk A970
            clear A970
            by_cases c98 : t395 = true
            · subst c98
              have H1 : ((bocageref03_Has.f k t384 t385 t386 t387 a2).bind fun t396 => (some (t396 == (a1_0 == 2)))) = some r := by rw [if_pos rfl] at H; exact H
              clear H
              have H := H1
              clear H1
              replace H := Option.bind_eq_some_iff.mp H
              obtain ⟨t396, A990, H⟩ := H
              (try (set_option simprocs false in dsimp only at H))
              have A99 := Aside0.mk A990
              clear A990
              obtain rfl := Option.some.inj H
              go_enter Try.func3, Try.ntmps3
              go_wp2_with (first | ((with_reducible refine gate_dst (N := 3) rfl ?_); refine bxe (N := 3) (cs := #[.int .i64 a0_0, .int .i64 a0_1]) (t := 23) ?_; intro gb382 hg w100 hbox hb; have BK382 := Aside0.mk (hbox); have GW382 := lsz hg HB; have GE382 := lsz hg HB; replace HB := bst HB hb; clear hb hbox hg) | ((with_reducible refine gate_dst (N := 4) rfl ?_); refine bxe (N := 4) (cs := #[.int .i64 a1_0, .int .i64 a1_1]) (t := 23) ?_; intro gb383 hg w101 hbox hb; have BK383 := Aside0.mk (hbox); have GW383 := lsz hg HB; have GE383 := lsz hg HB; replace HB := bst HB hb; have NB382_383 := nlt hg BK382; have NB383_382 := ngt hg BK382; replace BK382 := bkb BK382 hb; clear hb hbox hg; have hnb102 := NB382_383.out; have hnc102 := NB383_382.out; obtain ⟨hcz103_0, hcz103_1⟩ := e2 BK382; obtain ⟨hfz103_0, hfz103_1⟩ := f2 BK382; obtain ⟨hcz104_0, hcz104_1⟩ := e2 BK383; obtain ⟨hfz104_0, hfz104_1⟩ := f2 BK383) | ((with_reducible refine gate_callee (f := 9) rfl ?_); refine gol (some 14) Try.func9 #[.agg #[.int .i64 a0_0, .int .i64 a0_1], .agg #[.int .i64 a1_0, .int .i64 a1_1]] ?_; (with_reducible refine (bound_Span.calls k a0_0 a0_1 a1_0 a1_1 t384 t385 t386 t387 t388 _ A4.out).mono ?_); rintro e w105 ⟨rfl, hb⟩; refine ⟨_, rfl, ?_⟩; replace BK382 := bkb BK382 hb; replace BK383 := bkb BK383 hb; replace HB := bst HB hb; (try clear hb); (try clear hb2); (try clear hk); (try clear hi)) | ((with_reducible refine gate_dst (N := 7) rfl ?_); refine bxe (N := 7) (cs := #[.int .i64 0, .int .i64 0, .int .i64 0, .int .i64 0]) (t := 27) ?_; intro gb389 hg w106 hbox hb; have BK389 := Aside0.mk (hbox); have GW389 := lsz hg HB; have GE389 := lsz hg HB; replace HB := bst HB hb; have NB382_389 := nlt hg BK382; have NB389_382 := ngt hg BK382; replace BK382 := bkb BK382 hb; have NB383_389 := nlt hg BK383; have NB389_383 := ngt hg BK383; replace BK383 := bkb BK383 hb; clear hb hbox hg; have hnb107 := NB389_382.out; have hnc107 := NB382_389.out; have hnb108 := NB389_383.out; have hnc108 := NB383_389.out; obtain ⟨hcz109_0, hcz109_1, hcz109_2, hcz109_3⟩ := e4 BK389; obtain ⟨hfz109_0, hfz109_1, hfz109_2, hfz109_3⟩ := f4 BK389; obtain ⟨hcz110_0, hcz110_1⟩ := e2 BK382; obtain ⟨hfz110_0, hfz110_1⟩ := f2 BK382; obtain ⟨hcz111_0, hcz111_1⟩ := e2 BK383; obtain ⟨hfz111_0, hfz111_1⟩ := f2 BK383) | ((with_reducible refine gate_callee (f := 10) rfl ?_); refine gol (some 65) Try.func10 #[] ?_; (with_reducible refine (bocagelaw04_alive.calls k  true _ A97.out rfl).mono ?_); rintro e w112 ⟨rfl, hb⟩; refine ⟨_, rfl, ?_⟩; replace BK382 := Aside0.mk (blk_below (bkf BK382 NB382_389) hb); replace BK383 := Aside0.mk (blk_below (bkf BK383 NB383_389) hb); replace BK389 := Aside0.mk (blk_below (g := gb389) (o := .cells #[.int .i64 t384, .int .i64 t385, .int .i64 t386, .int .i64 t387] 27 (0, 0)) (bkp BK389) hb); replace HB := bst HB hb; (try clear hb); (try clear hb2); (try clear hk); (try clear hi); obtain ⟨hcz113_0, hcz113_1, hcz113_2, hcz113_3⟩ := e4 BK389; obtain ⟨hfz113_0, hfz113_1, hfz113_2, hfz113_3⟩ := f4 BK389) | (go_at_call 11; (with_reducible refine (bocageref03_Has.calls k t384 t385 t386 t387 a2 t396 _ A99.out).mono ?_); rintro e w114 ⟨rfl, hb⟩; replace BK382 := bkb BK382 hb; replace BK383 := bkb BK383 hb; replace BK389 := bkb BK389 hb; replace HB := bst HB hb; (try clear hb); (try clear hb2); (try clear hk); (try clear hi)))
              go_ret
              exact endB HB
            · replace c98 := Bool.eq_false_iff.mpr c98
              subst c98
              have H1 : (some false) = some r := by rw [if_neg (show ¬ (false = true) by decide)] at H; exact H
              exact absurd ((Option.some.inj H1).trans HRT.out) Bool.false_ne_true
          · rw [if_neg c96] at H
            have c96b0 : (a2 == a1_1) = false := beq_eq_false_iff_ne.mpr c96
            have c96b1 : (a2 != a1_1) = true := bne_iff_ne.mpr c96
            replace H := Option.bind_eq_some_iff.mp H
            obtain ⟨t397, A1280, H⟩ := H
            (try (set_option simprocs false in dsimp only at H))
            have A128 := Aside0.mk A1280
            clear A1280
            by_cases c129 : t397 = true
            · subst c129
              have H1 : ((bocageref03_Has.f k t384 t385 t386 t387 a2).bind fun t398 => (some (t398 == false))) = some r := by rw [if_pos rfl] at H; exact H
              clear H
              have H := H1
              clear H1
              replace H := Option.bind_eq_some_iff.mp H
              obtain ⟨t398, A1300, H⟩ := H
              (try (set_option simprocs false in dsimp only at H))
              have A130 := Aside0.mk A1300
              clear A1300
              obtain rfl := Option.some.inj H
              go_enter Try.func3, Try.ntmps3
              go_wp2_with (first | ((with_reducible refine gate_dst (N := 3) rfl ?_); refine bxe (N := 3) (cs := #[.int .i64 a0_0, .int .i64 a0_1]) (t := 23) ?_; intro gb382 hg w131 hbox hb; have BK382 := Aside0.mk (hbox); have GW382 := lsz hg HB; have GE382 := lsz hg HB; replace HB := bst HB hb; clear hb hbox hg) | ((with_reducible refine gate_dst (N := 4) rfl ?_); refine bxe (N := 4) (cs := #[.int .i64 a1_0, .int .i64 a1_1]) (t := 23) ?_; intro gb383 hg w132 hbox hb; have BK383 := Aside0.mk (hbox); have GW383 := lsz hg HB; have GE383 := lsz hg HB; replace HB := bst HB hb; have NB382_383 := nlt hg BK382; have NB383_382 := ngt hg BK382; replace BK382 := bkb BK382 hb; clear hb hbox hg; have hnb133 := NB382_383.out; have hnc133 := NB383_382.out; obtain ⟨hcz134_0, hcz134_1⟩ := e2 BK382; obtain ⟨hfz134_0, hfz134_1⟩ := f2 BK382; obtain ⟨hcz135_0, hcz135_1⟩ := e2 BK383; obtain ⟨hfz135_0, hfz135_1⟩ := f2 BK383) | ((with_reducible refine gate_callee (f := 9) rfl ?_); refine gol (some 14) Try.func9 #[.agg #[.int .i64 a0_0, .int .i64 a0_1], .agg #[.int .i64 a1_0, .int .i64 a1_1]] ?_; (with_reducible refine (bound_Span.calls k a0_0 a0_1 a1_0 a1_1 t384 t385 t386 t387 t388 _ A4.out).mono ?_); rintro e w136 ⟨rfl, hb⟩; refine ⟨_, rfl, ?_⟩; replace BK382 := bkb BK382 hb; replace BK383 := bkb BK383 hb; replace HB := bst HB hb; (try clear hb); (try clear hb2); (try clear hk); (try clear hi)) | ((with_reducible refine gate_dst (N := 7) rfl ?_); refine bxe (N := 7) (cs := #[.int .i64 0, .int .i64 0, .int .i64 0, .int .i64 0]) (t := 27) ?_; intro gb389 hg w137 hbox hb; have BK389 := Aside0.mk (hbox); have GW389 := lsz hg HB; have GE389 := lsz hg HB; replace HB := bst HB hb; have NB382_389 := nlt hg BK382; have NB389_382 := ngt hg BK382; replace BK382 := bkb BK382 hb; have NB383_389 := nlt hg BK383; have NB389_383 := ngt hg BK383; replace BK383 := bkb BK383 hb; clear hb hbox hg; have hnb138 := NB389_382.out; have hnc138 := NB382_389.out; have hnb139 := NB389_383.out; have hnc139 := NB383_389.out; obtain ⟨hcz140_0, hcz140_1, hcz140_2, hcz140_3⟩ := e4 BK389; obtain ⟨hfz140_0, hfz140_1, hfz140_2, hfz140_3⟩ := f4 BK389; obtain ⟨hcz141_0, hcz141_1⟩ := e2 BK382; obtain ⟨hfz141_0, hfz141_1⟩ := f2 BK382; obtain ⟨hcz142_0, hcz142_1⟩ := e2 BK383; obtain ⟨hfz142_0, hfz142_1⟩ := f2 BK383) | ((with_reducible refine gate_callee (f := 10) rfl ?_); refine gol (some 65) Try.func10 #[] ?_; (with_reducible refine (bocagelaw04_alive.calls k  true _ A128.out rfl).mono ?_); rintro e w143 ⟨rfl, hb⟩; refine ⟨_, rfl, ?_⟩; replace BK382 := Aside0.mk (blk_below (bkf BK382 NB382_389) hb); replace BK383 := Aside0.mk (blk_below (bkf BK383 NB383_389) hb); replace BK389 := Aside0.mk (blk_below (g := gb389) (o := .cells #[.int .i64 t384, .int .i64 t385, .int .i64 t386, .int .i64 t387] 27 (0, 0)) (bkp BK389) hb); replace HB := bst HB hb; (try clear hb); (try clear hb2); (try clear hk); (try clear hi); obtain ⟨hcz144_0, hcz144_1, hcz144_2, hcz144_3⟩ := e4 BK389; obtain ⟨hfz144_0, hfz144_1, hfz144_2, hfz144_3⟩ := f4 BK389) | (go_at_call 11; (with_reducible refine (bocageref03_Has.calls k t384 t385 t386 t387 a2 t398 _ A130.out).mono ?_); rintro e w145 ⟨rfl, hb⟩; replace BK382 := bkb BK382 hb; replace BK383 := bkb BK383 hb; replace BK389 := bkb BK389 hb; replace HB := bst HB hb; (try clear hb); (try clear hb2); (try clear hk); (try clear hi)))
              go_ret
              exact endB HB
            · replace c129 := Bool.eq_false_iff.mpr c129
              subst c129
              have H1 : (some false) = some r := by rw [if_neg (show ¬ (false = true) by decide)] at H; exact H
              exact absurd ((Option.some.inj H1).trans HRT.out) Bool.false_ne_true
    · rw [if_neg c31] at H
      have c31b0 : (a0_0 == 0) = false := beq_eq_false_iff_ne.mpr c31
      have c31b1 : (a0_0 != 0) = true := bne_iff_ne.mpr c31
      by_cases c159 : a2 > a0_1
      · rw [if_pos c159] at H
        have c159b0 : decide (a0_1 < a2) = true := decide_eq_true c159
        clear c159
        by_cases c160 : a1_0 = 0
        · rw [if_pos c160] at H
          have c160b0 : (a1_0 == 0) = true := beq_iff_eq.mpr c160
          have c160b1 : (a1_0 != 0) = false := bne_eq_false_iff_eq.mpr c160
          clear c160
          replace H := Option.bind_eq_some_iff.mp H
          obtain ⟨t399, A1610, H⟩ := H
          (try (set_option simprocs false in dsimp only at H))
          have A161 := Aside0.mk A1610
          clear A1610
          by_cases c162 : t399 = true
          · subst c162
            have H1 : ((bocageref03_Has.f k t384 t385 t386 t387 a2).bind fun t400 => (some (t400 == true))) = some r := by rw [if_pos rfl] at H; exact H
            clear H
            have H := H1
            clear H1
            replace H := Option.bind_eq_some_iff.mp H
            obtain ⟨t400, A1630, H⟩ := H
            (try (set_option simprocs false in dsimp only at H))
            have A163 := Aside0.mk A1630
            clear A1630
            obtain rfl := Option.some.inj H
            go_enter Try.func3, Try.ntmps3
            go_wp2_with (first | ((with_reducible refine gate_dst (N := 3) rfl ?_); refine bxe (N := 3) (cs := #[.int .i64 a0_0, .int .i64 a0_1]) (t := 23) ?_; intro gb382 hg w164 hbox hb; have BK382 := Aside0.mk (hbox); have GW382 := lsz hg HB; have GE382 := lsz hg HB; replace HB := bst HB hb; clear hb hbox hg) | ((with_reducible refine gate_dst (N := 4) rfl ?_); refine bxe (N := 4) (cs := #[.int .i64 a1_0, .int .i64 a1_1]) (t := 23) ?_; intro gb383 hg w165 hbox hb; have BK383 := Aside0.mk (hbox); have GW383 := lsz hg HB; have GE383 := lsz hg HB; replace HB := bst HB hb; have NB382_383 := nlt hg BK382; have NB383_382 := ngt hg BK382; replace BK382 := bkb BK382 hb; clear hb hbox hg; have hnb166 := NB382_383.out; have hnc166 := NB383_382.out; obtain ⟨hcz167_0, hcz167_1⟩ := e2 BK382; obtain ⟨hfz167_0, hfz167_1⟩ := f2 BK382; obtain ⟨hcz168_0, hcz168_1⟩ := e2 BK383; obtain ⟨hfz168_0, hfz168_1⟩ := f2 BK383) | ((with_reducible refine gate_callee (f := 9) rfl ?_); refine gol (some 14) Try.func9 #[.agg #[.int .i64 a0_0, .int .i64 a0_1], .agg #[.int .i64 a1_0, .int .i64 a1_1]] ?_; (with_reducible refine (bound_Span.calls k a0_0 a0_1 a1_0 a1_1 t384 t385 t386 t387 t388 _ A4.out).mono ?_); rintro e w169 ⟨rfl, hb⟩; refine ⟨_, rfl, ?_⟩; replace BK382 := bkb BK382 hb; replace BK383 := bkb BK383 hb; replace HB := bst HB hb; (try clear hb); (try clear hb2); (try clear hk); (try clear hi)) | ((with_reducible refine gate_dst (N := 7) rfl ?_); refine bxe (N := 7) (cs := #[.int .i64 0, .int .i64 0, .int .i64 0, .int .i64 0]) (t := 27) ?_; intro gb389 hg w170 hbox hb; have BK389 := Aside0.mk (hbox); have GW389 := lsz hg HB; have GE389 := lsz hg HB; replace HB := bst HB hb; have NB382_389 := nlt hg BK382; have NB389_382 := ngt hg BK382; replace BK382 := bkb BK382 hb; have NB383_389 := nlt hg BK383; have NB389_383 := ngt hg BK383; replace BK383 := bkb BK383 hb; clear hb hbox hg; have hnb171 := NB389_382.out; have hnc171 := NB382_389.out; have hnb172 := NB389_383.out; have hnc172 := NB383_389.out; obtain ⟨hcz173_0, hcz173_1, hcz173_2, hcz173_3⟩ := e4 BK389; obtain ⟨hfz173_0, hfz173_1, hfz173_2, hfz173_3⟩ := f4 BK389; obtain ⟨hcz174_0, hcz174_1⟩ := e2 BK382; obtain ⟨hfz174_0, hfz174_1⟩ := f2 BK382; obtain ⟨hcz175_0, hcz175_1⟩ := e2 BK383; obtain ⟨hfz175_0, hfz175_1⟩ := f2 BK383) | ((with_reducible refine gate_callee (f := 10) rfl ?_); refine gol (some 65) Try.func10 #[] ?_; (with_reducible refine (bocagelaw04_alive.calls k  true _ A161.out rfl).mono ?_); rintro e w176 ⟨rfl, hb⟩; refine ⟨_, rfl, ?_⟩; replace BK382 := Aside0.mk (blk_below (bkf BK382 NB382_389) hb); replace BK383 := Aside0.mk (blk_below (bkf BK383 NB383_389) hb); replace BK389 := Aside0.mk (blk_below (g := gb389) (o := .cells #[.int .i64 t384, .int .i64 t385, .int .i64 t386, .int .i64 t387] 27 (0, 0)) (bkp BK389) hb); replace HB := bst HB hb; (try clear hb); (try clear hb2); (try clear hk); (try clear hi); obtain ⟨hcz177_0, hcz177_1, hcz177_2, hcz177_3⟩ := e4 BK389; obtain ⟨hfz177_0, hfz177_1, hfz177_2, hfz177_3⟩ := f4 BK389) | (go_at_call 11; (with_reducible refine (bocageref03_Has.calls k t384 t385 t386 t387 a2 t400 _ A163.out).mono ?_); rintro e w178 ⟨rfl, hb⟩; replace BK382 := bkb BK382 hb; replace BK383 := bkb BK383 hb; replace BK389 := bkb BK389 hb; replace HB := bst HB hb; (try clear hb); (try clear hb2); (try clear hk); (try clear hi)))
            go_ret
            exact endB HB
          · replace c162 := Bool.eq_false_iff.mpr c162
            subst c162
            have H1 : (some false) = some r := by rw [if_neg (show ¬ (false = true) by decide)] at H; exact H
            exact absurd ((Option.some.inj H1).trans HRT.out) Bool.false_ne_true
        · rw [if_neg c160] at H
          have c160b0 : (a1_0 == 0) = false := beq_eq_false_iff_ne.mpr c160
          have c160b1 : (a1_0 != 0) = true := bne_iff_ne.mpr c160
          by_cases c192 : a2 < a1_1
          · rw [if_pos c192] at H
            have c192b0 : decide (a2 < a1_1) = true := decide_eq_true c192
            clear c192
            replace H := Option.bind_eq_some_iff.mp H
            obtain ⟨t401, A1930, H⟩ := H
            (try (set_option simprocs false in dsimp only at H))
            have A193 := Aside0.mk A1930
            clear A1930
            by_cases c194 : t401 = true
            · subst c194
              have H1 : ((bocageref03_Has.f k t384 t385 t386 t387 a2).bind fun t402 => (some (t402 == true))) = some r := by rw [if_pos rfl] at H; exact H
              clear H
              have H := H1
              clear H1
              replace H := Option.bind_eq_some_iff.mp H
              obtain ⟨t402, A1950, H⟩ := H
              (try (set_option simprocs false in dsimp only at H))
              have A195 := Aside0.mk A1950
              clear A1950
              obtain rfl := Option.some.inj H
              go_enter Try.func3, Try.ntmps3
              go_wp2_with (first | ((with_reducible refine gate_dst (N := 3) rfl ?_); refine bxe (N := 3) (cs := #[.int .i64 a0_0, .int .i64 a0_1]) (t := 23) ?_; intro gb382 hg w196 hbox hb; have BK382 := Aside0.mk (hbox); have GW382 := lsz hg HB; have GE382 := lsz hg HB; replace HB := bst HB hb; clear hb hbox hg) | ((with_reducible refine gate_dst (N := 4) rfl ?_); refine bxe (N := 4) (cs := #[.int .i64 a1_0, .int .i64 a1_1]) (t := 23) ?_; intro gb383 hg w197 hbox hb; have BK383 := Aside0.mk (hbox); have GW383 := lsz hg HB; have GE383 := lsz hg HB; replace HB := bst HB hb; have NB382_383 := nlt hg BK382; have NB383_382 := ngt hg BK382; replace BK382 := bkb BK382 hb; clear hb hbox hg; have hnb198 := NB382_383.out; have hnc198 := NB383_382.out; obtain ⟨hcz199_0, hcz199_1⟩ := e2 BK382; obtain ⟨hfz199_0, hfz199_1⟩ := f2 BK382; obtain ⟨hcz200_0, hcz200_1⟩ := e2 BK383; obtain ⟨hfz200_0, hfz200_1⟩ := f2 BK383) | ((with_reducible refine gate_callee (f := 9) rfl ?_); refine gol (some 14) Try.func9 #[.agg #[.int .i64 a0_0, .int .i64 a0_1], .agg #[.int .i64 a1_0, .int .i64 a1_1]] ?_; (with_reducible refine (bound_Span.calls k a0_0 a0_1 a1_0 a1_1 t384 t385 t386 t387 t388 _ A4.out).mono ?_); rintro e w201 ⟨rfl, hb⟩; refine ⟨_, rfl, ?_⟩; replace BK382 := bkb BK382 hb; replace BK383 := bkb BK383 hb; replace HB := bst HB hb; (try clear hb); (try clear hb2); (try clear hk); (try clear hi)) | ((with_reducible refine gate_dst (N := 7) rfl ?_); refine bxe (N := 7) (cs := #[.int .i64 0, .int .i64 0, .int .i64 0, .int .i64 0]) (t := 27) ?_; intro gb389 hg w202 hbox hb; have BK389 := Aside0.mk (hbox); have GW389 := lsz hg HB; have GE389 := lsz hg HB; replace HB := bst HB hb; have NB382_389 := nlt hg BK382; have NB389_382 := ngt hg BK382; replace BK382 := bkb BK382 hb; have NB383_389 := nlt hg BK383; have NB389_383 := ngt hg BK383; replace BK383 := bkb BK383 hb; clear hb hbox hg; have hnb203 := NB389_382.out; have hnc203 := NB382_389.out; have hnb204 := NB389_383.out; have hnc204 := NB383_389.out; obtain ⟨hcz205_0, hcz205_1, hcz205_2, hcz205_3⟩ := e4 BK389; obtain ⟨hfz205_0, hfz205_1, hfz205_2, hfz205_3⟩ := f4 BK389; obtain ⟨hcz206_0, hcz206_1⟩ := e2 BK382; obtain ⟨hfz206_0, hfz206_1⟩ := f2 BK382; obtain ⟨hcz207_0, hcz207_1⟩ := e2 BK383; obtain ⟨hfz207_0, hfz207_1⟩ := f2 BK383) | ((with_reducible refine gate_callee (f := 10) rfl ?_); refine gol (some 65) Try.func10 #[] ?_; (with_reducible refine (bocagelaw04_alive.calls k  true _ A193.out rfl).mono ?_); rintro e w208 ⟨rfl, hb⟩; refine ⟨_, rfl, ?_⟩; replace BK382 := Aside0.mk (blk_below (bkf BK382 NB382_389) hb); replace BK383 := Aside0.mk (blk_below (bkf BK383 NB383_389) hb); replace BK389 := Aside0.mk (blk_below (g := gb389) (o := .cells #[.int .i64 t384, .int .i64 t385, .int .i64 t386, .int .i64 t387] 27 (0, 0)) (bkp BK389) hb); replace HB := bst HB hb; (try clear hb); (try clear hb2); (try clear hk); (try clear hi); obtain ⟨hcz209_0, hcz209_1, hcz209_2, hcz209_3⟩ := e4 BK389; obtain ⟨hfz209_0, hfz209_1, hfz209_2, hfz209_3⟩ := f4 BK389) | (go_at_call 11; (with_reducible refine (bocageref03_Has.calls k t384 t385 t386 t387 a2 t402 _ A195.out).mono ?_); rintro e w210 ⟨rfl, hb⟩; replace BK382 := bkb BK382 hb; replace BK383 := bkb BK383 hb; replace BK389 := bkb BK389 hb; replace HB := bst HB hb; (try clear hb); (try clear hb2); (try clear hk); (try clear hi)))
              go_ret
              exact endB HB
            · replace c194 := Bool.eq_false_iff.mpr c194
              subst c194
              have H1 : (some false) = some r := by rw [if_neg (show ¬ (false = true) by decide)] at H; exact H
              exact absurd ((Option.some.inj H1).trans HRT.out) Bool.false_ne_true
          · rw [if_neg c192] at H
            have c192b0 : decide (a2 < a1_1) = false := decide_eq_false c192
            clear c192
            by_cases c224 : a2 = a1_1
            · rw [if_pos c224] at H
              have c224b0 : (a2 == a1_1) = true := beq_iff_eq.mpr c224
              have c224b1 : (a2 != a1_1) = false := bne_eq_false_iff_eq.mpr c224
              clear c224
              replace H := Option.bind_eq_some_iff.mp H
              obtain ⟨t403, A2250, H⟩ := H
              (try (set_option simprocs false in dsimp only at H))
              have A225 := Aside0.mk A2250
              clear A2250
              by_cases c226 : t403 = true
              · subst c226
                have H1 : ((bocageref03_Has.f k t384 t385 t386 t387 a2).bind fun t404 => (some (t404 == (a1_0 == 2)))) = some r := by rw [if_pos rfl] at H; exact H
                clear H
                have H := H1
                clear H1
                replace H := Option.bind_eq_some_iff.mp H
                obtain ⟨t404, A2270, H⟩ := H
                (try (set_option simprocs false in dsimp only at H))
                have A227 := Aside0.mk A2270
                clear A2270
                obtain rfl := Option.some.inj H
                go_enter Try.func3, Try.ntmps3
                go_wp2_with (first | ((with_reducible refine gate_dst (N := 3) rfl ?_); refine bxe (N := 3) (cs := #[.int .i64 a0_0, .int .i64 a0_1]) (t := 23) ?_; intro gb382 hg w228 hbox hb; have BK382 := Aside0.mk (hbox); have GW382 := lsz hg HB; have GE382 := lsz hg HB; replace HB := bst HB hb; clear hb hbox hg) | ((with_reducible refine gate_dst (N := 4) rfl ?_); refine bxe (N := 4) (cs := #[.int .i64 a1_0, .int .i64 a1_1]) (t := 23) ?_; intro gb383 hg w229 hbox hb; have BK383 := Aside0.mk (hbox); have GW383 := lsz hg HB; have GE383 := lsz hg HB; replace HB := bst HB hb; have NB382_383 := nlt hg BK382; have NB383_382 := ngt hg BK382; replace BK382 := bkb BK382 hb; clear hb hbox hg; have hnb230 := NB382_383.out; have hnc230 := NB383_382.out; obtain ⟨hcz231_0, hcz231_1⟩ := e2 BK382; obtain ⟨hfz231_0, hfz231_1⟩ := f2 BK382; obtain ⟨hcz232_0, hcz232_1⟩ := e2 BK383; obtain ⟨hfz232_0, hfz232_1⟩ := f2 BK383) | ((with_reducible refine gate_callee (f := 9) rfl ?_); refine gol (some 14) Try.func9 #[.agg #[.int .i64 a0_0, .int .i64 a0_1], .agg #[.int .i64 a1_0, .int .i64 a1_1]] ?_; (with_reducible refine (bound_Span.calls k a0_0 a0_1 a1_0 a1_1 t384 t385 t386 t387 t388 _ A4.out).mono ?_); rintro e w233 ⟨rfl, hb⟩; refine ⟨_, rfl, ?_⟩; replace BK382 := bkb BK382 hb; replace BK383 := bkb BK383 hb; replace HB := bst HB hb; (try clear hb); (try clear hb2); (try clear hk); (try clear hi)) | ((with_reducible refine gate_dst (N := 7) rfl ?_); refine bxe (N := 7) (cs := #[.int .i64 0, .int .i64 0, .int .i64 0, .int .i64 0]) (t := 27) ?_; intro gb389 hg w234 hbox hb; have BK389 := Aside0.mk (hbox); have GW389 := lsz hg HB; have GE389 := lsz hg HB; replace HB := bst HB hb; have NB382_389 := nlt hg BK382; have NB389_382 := ngt hg BK382; replace BK382 := bkb BK382 hb; have NB383_389 := nlt hg BK383; have NB389_383 := ngt hg BK383; replace BK383 := bkb BK383 hb; clear hb hbox hg; have hnb235 := NB389_382.out; have hnc235 := NB382_389.out; have hnb236 := NB389_383.out; have hnc236 := NB383_389.out; obtain ⟨hcz237_0, hcz237_1, hcz237_2, hcz237_3⟩ := e4 BK389; obtain ⟨hfz237_0, hfz237_1, hfz237_2, hfz237_3⟩ := f4 BK389; obtain ⟨hcz238_0, hcz238_1⟩ := e2 BK382; obtain ⟨hfz238_0, hfz238_1⟩ := f2 BK382; obtain ⟨hcz239_0, hcz239_1⟩ := e2 BK383; obtain ⟨hfz239_0, hfz239_1⟩ := f2 BK383) | ((with_reducible refine gate_callee (f := 10) rfl ?_); refine gol (some 65) Try.func10 #[] ?_; (with_reducible refine (bocagelaw04_alive.calls k  true _ A225.out rfl).mono ?_); rintro e w240 ⟨rfl, hb⟩; refine ⟨_, rfl, ?_⟩; replace BK382 := Aside0.mk (blk_below (bkf BK382 NB382_389) hb); replace BK383 := Aside0.mk (blk_below (bkf BK383 NB383_389) hb); replace BK389 := Aside0.mk (blk_below (g := gb389) (o := .cells #[.int .i64 t384, .int .i64 t385, .int .i64 t386, .int .i64 t387] 27 (0, 0)) (bkp BK389) hb); replace HB := bst HB hb; (try clear hb); (try clear hb2); (try clear hk); (try clear hi); obtain ⟨hcz241_0, hcz241_1, hcz241_2, hcz241_3⟩ := e4 BK389; obtain ⟨hfz241_0, hfz241_1, hfz241_2, hfz241_3⟩ := f4 BK389) | (go_at_call 11; (with_reducible refine (bocageref03_Has.calls k t384 t385 t386 t387 a2 t404 _ A227.out).mono ?_); rintro e w242 ⟨rfl, hb⟩; replace BK382 := bkb BK382 hb; replace BK383 := bkb BK383 hb; replace BK389 := bkb BK389 hb; replace HB := bst HB hb; (try clear hb); (try clear hb2); (try clear hk); (try clear hi)))
                go_ret
                exact endB HB
              · replace c226 := Bool.eq_false_iff.mpr c226
                subst c226
                have H1 : (some false) = some r := by rw [if_neg (show ¬ (false = true) by decide)] at H; exact H
                exact absurd ((Option.some.inj H1).trans HRT.out) Bool.false_ne_true
            · rw [if_neg c224] at H
              have c224b0 : (a2 == a1_1) = false := beq_eq_false_iff_ne.mpr c224
              have c224b1 : (a2 != a1_1) = true := bne_iff_ne.mpr c224
              replace H := Option.bind_eq_some_iff.mp H
              obtain ⟨t405, A2560, H⟩ := H
              (try (set_option simprocs false in dsimp only at H))
              have A256 := Aside0.mk A2560
              clear A2560
              by_cases c257 : t405 = true
              · subst c257
                have H1 : ((bocageref03_Has.f k t384 t385 t386 t387 a2).bind fun t406 => (some (t406 == false))) = some r := by rw [if_pos rfl] at H; exact H
                clear H
                have H := H1
                clear H1
                replace H := Option.bind_eq_some_iff.mp H
                obtain ⟨t406, A2580, H⟩ := H
                (try (set_option simprocs false in dsimp only at H))
                have A258 := Aside0.mk A2580
                clear A2580
                obtain rfl := Option.some.inj H
                go_enter Try.func3, Try.ntmps3
                go_wp2_with (first | ((with_reducible refine gate_dst (N := 3) rfl ?_); refine bxe (N := 3) (cs := #[.int .i64 a0_0, .int .i64 a0_1]) (t := 23) ?_; intro gb382 hg w259 hbox hb; have BK382 := Aside0.mk (hbox); have GW382 := lsz hg HB; have GE382 := lsz hg HB; replace HB := bst HB hb; clear hb hbox hg) | ((with_reducible refine gate_dst (N := 4) rfl ?_); refine bxe (N := 4) (cs := #[.int .i64 a1_0, .int .i64 a1_1]) (t := 23) ?_; intro gb383 hg w260 hbox hb; have BK383 := Aside0.mk (hbox); have GW383 := lsz hg HB; have GE383 := lsz hg HB; replace HB := bst HB hb; have NB382_383 := nlt hg BK382; have NB383_382 := ngt hg BK382; replace BK382 := bkb BK382 hb; clear hb hbox hg; have hnb261 := NB382_383.out; have hnc261 := NB383_382.out; obtain ⟨hcz262_0, hcz262_1⟩ := e2 BK382; obtain ⟨hfz262_0, hfz262_1⟩ := f2 BK382; obtain ⟨hcz263_0, hcz263_1⟩ := e2 BK383; obtain ⟨hfz263_0, hfz263_1⟩ := f2 BK383) | ((with_reducible refine gate_callee (f := 9) rfl ?_); refine gol (some 14) Try.func9 #[.agg #[.int .i64 a0_0, .int .i64 a0_1], .agg #[.int .i64 a1_0, .int .i64 a1_1]] ?_; (with_reducible refine (bound_Span.calls k a0_0 a0_1 a1_0 a1_1 t384 t385 t386 t387 t388 _ A4.out).mono ?_); rintro e w264 ⟨rfl, hb⟩; refine ⟨_, rfl, ?_⟩; replace BK382 := bkb BK382 hb; replace BK383 := bkb BK383 hb; replace HB := bst HB hb; (try clear hb); (try clear hb2); (try clear hk); (try clear hi)) | ((with_reducible refine gate_dst (N := 7) rfl ?_); refine bxe (N := 7) (cs := #[.int .i64 0, .int .i64 0, .int .i64 0, .int .i64 0]) (t := 27) ?_; intro gb389 hg w265 hbox hb; have BK389 := Aside0.mk (hbox); have GW389 := lsz hg HB; have GE389 := lsz hg HB; replace HB := bst HB hb; have NB382_389 := nlt hg BK382; have NB389_382 := ngt hg BK382; replace BK382 := bkb BK382 hb; have NB383_389 := nlt hg BK383; have NB389_383 := ngt hg BK383; replace BK383 := bkb BK383 hb; clear hb hbox hg; have hnb266 := NB389_382.out; have hnc266 := NB382_389.out; have hnb267 := NB389_383.out; have hnc267 := NB383_389.out; obtain ⟨hcz268_0, hcz268_1, hcz268_2, hcz268_3⟩ := e4 BK389; obtain ⟨hfz268_0, hfz268_1, hfz268_2, hfz268_3⟩ := f4 BK389; obtain ⟨hcz269_0, hcz269_1⟩ := e2 BK382; obtain ⟨hfz269_0, hfz269_1⟩ := f2 BK382; obtain ⟨hcz270_0, hcz270_1⟩ := e2 BK383; obtain ⟨hfz270_0, hfz270_1⟩ := f2 BK383) | ((with_reducible refine gate_callee (f := 10) rfl ?_); refine gol (some 65) Try.func10 #[] ?_; (with_reducible refine (bocagelaw04_alive.calls k  true _ A256.out rfl).mono ?_); rintro e w271 ⟨rfl, hb⟩; refine ⟨_, rfl, ?_⟩; replace BK382 := Aside0.mk (blk_below (bkf BK382 NB382_389) hb); replace BK383 := Aside0.mk (blk_below (bkf BK383 NB383_389) hb); replace BK389 := Aside0.mk (blk_below (g := gb389) (o := .cells #[.int .i64 t384, .int .i64 t385, .int .i64 t386, .int .i64 t387] 27 (0, 0)) (bkp BK389) hb); replace HB := bst HB hb; (try clear hb); (try clear hb2); (try clear hk); (try clear hi); obtain ⟨hcz272_0, hcz272_1, hcz272_2, hcz272_3⟩ := e4 BK389; obtain ⟨hfz272_0, hfz272_1, hfz272_2, hfz272_3⟩ := f4 BK389) | (go_at_call 11; (with_reducible refine (bocageref03_Has.calls k t384 t385 t386 t387 a2 t406 _ A258.out).mono ?_); rintro e w273 ⟨rfl, hb⟩; replace BK382 := bkb BK382 hb; replace BK383 := bkb BK383 hb; replace BK389 := bkb BK389 hb; replace HB := bst HB hb; (try clear hb); (try clear hb2); (try clear hk); (try clear hi)))
                go_ret
                exact endB HB
              · replace c257 := Bool.eq_false_iff.mpr c257
                subst c257
                have H1 : (some false) = some r := by rw [if_neg (show ¬ (false = true) by decide)] at H; exact H
                exact absurd ((Option.some.inj H1).trans HRT.out) Bool.false_ne_true
      · rw [if_neg c159] at H
        have c159b0 : decide (a0_1 < a2) = false := decide_eq_false c159
        clear c159
        by_cases c287 : a2 = a0_1
        · rw [if_pos c287] at H
          have c287b0 : (a2 == a0_1) = true := beq_iff_eq.mpr c287
          have c287b1 : (a2 != a0_1) = false := bne_eq_false_iff_eq.mpr c287
          clear c287
          by_cases c288 : a1_0 = 0
          · rw [if_pos c288] at H
            have c288b0 : (a1_0 == 0) = true := beq_iff_eq.mpr c288
            have c288b1 : (a1_0 != 0) = false := bne_eq_false_iff_eq.mpr c288
            clear c288
            replace H := Option.bind_eq_some_iff.mp H
            obtain ⟨t407, A2890, H⟩ := H
            (try (set_option simprocs false in dsimp only at H))
            have A289 := Aside0.mk A2890
            clear A2890
            by_cases c290 : t407 = true
            · subst c290
              have H1 : ((bocageref03_Has.f k t384 t385 t386 t387 a2).bind fun t408 => (if a0_0 = 2 then (some (t408 == true)) else (some (t408 == false)))) = some r := by rw [if_pos rfl] at H; exact H
              clear H
              have H := H1
              clear H1
              replace H := Option.bind_eq_some_iff.mp H
              obtain ⟨t408, A2910, H⟩ := H
              (try (set_option simprocs false in dsimp only at H))
              have A291 := Aside0.mk A2910
              clear A2910
              by_cases c292 : a0_0 = 2
              · rw [if_pos c292] at H
                have c292b0 : (a0_0 == 2) = true := beq_iff_eq.mpr c292
                have c292b1 : (a0_0 != 2) = false := bne_eq_false_iff_eq.mpr c292
                clear c292
                obtain rfl := Option.some.inj H
                go_enter Try.func3, Try.ntmps3
                go_wp2_with (first | ((with_reducible refine gate_dst (N := 3) rfl ?_); refine bxe (N := 3) (cs := #[.int .i64 a0_0, .int .i64 a0_1]) (t := 23) ?_; intro gb382 hg w293 hbox hb; have BK382 := Aside0.mk (hbox); have GW382 := lsz hg HB; have GE382 := lsz hg HB; replace HB := bst HB hb; clear hb hbox hg) | ((with_reducible refine gate_dst (N := 4) rfl ?_); refine bxe (N := 4) (cs := #[.int .i64 a1_0, .int .i64 a1_1]) (t := 23) ?_; intro gb383 hg w294 hbox hb; have BK383 := Aside0.mk (hbox); have GW383 := lsz hg HB; have GE383 := lsz hg HB; replace HB := bst HB hb; have NB382_383 := nlt hg BK382; have NB383_382 := ngt hg BK382; replace BK382 := bkb BK382 hb; clear hb hbox hg; have hnb295 := NB382_383.out; have hnc295 := NB383_382.out; obtain ⟨hcz296_0, hcz296_1⟩ := e2 BK382; obtain ⟨hfz296_0, hfz296_1⟩ := f2 BK382; obtain ⟨hcz297_0, hcz297_1⟩ := e2 BK383; obtain ⟨hfz297_0, hfz297_1⟩ := f2 BK383) | ((with_reducible refine gate_callee (f := 9) rfl ?_); refine gol (some 14) Try.func9 #[.agg #[.int .i64 a0_0, .int .i64 a0_1], .agg #[.int .i64 a1_0, .int .i64 a1_1]] ?_; (with_reducible refine (bound_Span.calls k a0_0 a0_1 a1_0 a1_1 t384 t385 t386 t387 t388 _ A4.out).mono ?_); rintro e w298 ⟨rfl, hb⟩; refine ⟨_, rfl, ?_⟩; replace BK382 := bkb BK382 hb; replace BK383 := bkb BK383 hb; replace HB := bst HB hb; (try clear hb); (try clear hb2); (try clear hk); (try clear hi)) | ((with_reducible refine gate_dst (N := 7) rfl ?_); refine bxe (N := 7) (cs := #[.int .i64 0, .int .i64 0, .int .i64 0, .int .i64 0]) (t := 27) ?_; intro gb389 hg w299 hbox hb; have BK389 := Aside0.mk (hbox); have GW389 := lsz hg HB; have GE389 := lsz hg HB; replace HB := bst HB hb; have NB382_389 := nlt hg BK382; have NB389_382 := ngt hg BK382; replace BK382 := bkb BK382 hb; have NB383_389 := nlt hg BK383; have NB389_383 := ngt hg BK383; replace BK383 := bkb BK383 hb; clear hb hbox hg; have hnb300 := NB389_382.out; have hnc300 := NB382_389.out; have hnb301 := NB389_383.out; have hnc301 := NB383_389.out; obtain ⟨hcz302_0, hcz302_1, hcz302_2, hcz302_3⟩ := e4 BK389; obtain ⟨hfz302_0, hfz302_1, hfz302_2, hfz302_3⟩ := f4 BK389; obtain ⟨hcz303_0, hcz303_1⟩ := e2 BK382; obtain ⟨hfz303_0, hfz303_1⟩ := f2 BK382; obtain ⟨hcz304_0, hcz304_1⟩ := e2 BK383; obtain ⟨hfz304_0, hfz304_1⟩ := f2 BK383) | ((with_reducible refine gate_callee (f := 10) rfl ?_); refine gol (some 65) Try.func10 #[] ?_; (with_reducible refine (bocagelaw04_alive.calls k  true _ A289.out rfl).mono ?_); rintro e w305 ⟨rfl, hb⟩; refine ⟨_, rfl, ?_⟩; replace BK382 := Aside0.mk (blk_below (bkf BK382 NB382_389) hb); replace BK383 := Aside0.mk (blk_below (bkf BK383 NB383_389) hb); replace BK389 := Aside0.mk (blk_below (g := gb389) (o := .cells #[.int .i64 t384, .int .i64 t385, .int .i64 t386, .int .i64 t387] 27 (0, 0)) (bkp BK389) hb); replace HB := bst HB hb; (try clear hb); (try clear hb2); (try clear hk); (try clear hi); obtain ⟨hcz306_0, hcz306_1, hcz306_2, hcz306_3⟩ := e4 BK389; obtain ⟨hfz306_0, hfz306_1, hfz306_2, hfz306_3⟩ := f4 BK389) | (go_at_call 11; (with_reducible refine (bocageref03_Has.calls k t384 t385 t386 t387 a2 t408 _ A291.out).mono ?_); rintro e w307 ⟨rfl, hb⟩; replace BK382 := bkb BK382 hb; replace BK383 := bkb BK383 hb; replace BK389 := bkb BK389 hb; replace HB := bst HB hb; (try clear hb); (try clear hb2); (try clear hk); (try clear hi)))
                go_ret
                exact endB HB
              · rw [if_neg c292] at H
                have c292b0 : (a0_0 == 2) = false := beq_eq_false_iff_ne.mpr c292
                have c292b1 : (a0_0 != 2) = true := bne_iff_ne.mpr c292
                obtain rfl := Option.some.inj H
                go_enter Try.func3, Try.ntmps3
                go_wp2_with (first | ((with_reducible refine gate_dst (N := 3) rfl ?_); refine bxe (N := 3) (cs := #[.int .i64 a0_0, .int .i64 a0_1]) (t := 23) ?_; intro gb382 hg w308 hbox hb; have BK382 := Aside0.mk (hbox); have GW382 := lsz hg HB; have GE382 := lsz hg HB; replace HB := bst HB hb; clear hb hbox hg) | ((with_reducible refine gate_dst (N := 4) rfl ?_); refine bxe (N := 4) (cs := #[.int .i64 a1_0, .int .i64 a1_1]) (t := 23) ?_; intro gb383 hg w309 hbox hb; have BK383 := Aside0.mk (hbox); have GW383 := lsz hg HB; have GE383 := lsz hg HB; replace HB := bst HB hb; have NB382_383 := nlt hg BK382; have NB383_382 := ngt hg BK382; replace BK382 := bkb BK382 hb; clear hb hbox hg; have hnb310 := NB382_383.out; have hnc310 := NB383_382.out; obtain ⟨hcz311_0, hcz311_1⟩ := e2 BK382; obtain ⟨hfz311_0, hfz311_1⟩ := f2 BK382; obtain ⟨hcz312_0, hcz312_1⟩ := e2 BK383; obtain ⟨hfz312_0, hfz312_1⟩ := f2 BK383) | ((with_reducible refine gate_callee (f := 9) rfl ?_); refine gol (some 14) Try.func9 #[.agg #[.int .i64 a0_0, .int .i64 a0_1], .agg #[.int .i64 a1_0, .int .i64 a1_1]] ?_; (with_reducible refine (bound_Span.calls k a0_0 a0_1 a1_0 a1_1 t384 t385 t386 t387 t388 _ A4.out).mono ?_); rintro e w313 ⟨rfl, hb⟩; refine ⟨_, rfl, ?_⟩; replace BK382 := bkb BK382 hb; replace BK383 := bkb BK383 hb; replace HB := bst HB hb; (try clear hb); (try clear hb2); (try clear hk); (try clear hi)) | ((with_reducible refine gate_dst (N := 7) rfl ?_); refine bxe (N := 7) (cs := #[.int .i64 0, .int .i64 0, .int .i64 0, .int .i64 0]) (t := 27) ?_; intro gb389 hg w314 hbox hb; have BK389 := Aside0.mk (hbox); have GW389 := lsz hg HB; have GE389 := lsz hg HB; replace HB := bst HB hb; have NB382_389 := nlt hg BK382; have NB389_382 := ngt hg BK382; replace BK382 := bkb BK382 hb; have NB383_389 := nlt hg BK383; have NB389_383 := ngt hg BK383; replace BK383 := bkb BK383 hb; clear hb hbox hg; have hnb315 := NB389_382.out; have hnc315 := NB382_389.out; have hnb316 := NB389_383.out; have hnc316 := NB383_389.out; obtain ⟨hcz317_0, hcz317_1, hcz317_2, hcz317_3⟩ := e4 BK389; obtain ⟨hfz317_0, hfz317_1, hfz317_2, hfz317_3⟩ := f4 BK389; obtain ⟨hcz318_0, hcz318_1⟩ := e2 BK382; obtain ⟨hfz318_0, hfz318_1⟩ := f2 BK382; obtain ⟨hcz319_0, hcz319_1⟩ := e2 BK383; obtain ⟨hfz319_0, hfz319_1⟩ := f2 BK383) | ((with_reducible refine gate_callee (f := 10) rfl ?_); refine gol (some 65) Try.func10 #[] ?_; (with_reducible refine (bocagelaw04_alive.calls k  true _ A289.out rfl).mono ?_); rintro e w320 ⟨rfl, hb⟩; refine ⟨_, rfl, ?_⟩; replace BK382 := Aside0.mk (blk_below (bkf BK382 NB382_389) hb); replace BK383 := Aside0.mk (blk_below (bkf BK383 NB383_389) hb); replace BK389 := Aside0.mk (blk_below (g := gb389) (o := .cells #[.int .i64 t384, .int .i64 t385, .int .i64 t386, .int .i64 t387] 27 (0, 0)) (bkp BK389) hb); replace HB := bst HB hb; (try clear hb); (try clear hb2); (try clear hk); (try clear hi); obtain ⟨hcz321_0, hcz321_1, hcz321_2, hcz321_3⟩ := e4 BK389; obtain ⟨hfz321_0, hfz321_1, hfz321_2, hfz321_3⟩ := f4 BK389) | (go_at_call 11; (with_reducible refine (bocageref03_Has.calls k t384 t385 t386 t387 a2 t408 _ A291.out).mono ?_); rintro e w322 ⟨rfl, hb⟩; replace BK382 := bkb BK382 hb; replace BK383 := bkb BK383 hb; replace BK389 := bkb BK389 hb; replace HB := bst HB hb; (try clear hb); (try clear hb2); (try clear hk); (try clear hi)))
                go_ret
                exact endB HB
            · replace c290 := Bool.eq_false_iff.mpr c290
              subst c290
              have H1 : (some false) = some r := by rw [if_neg (show ¬ (false = true) by decide)] at H; exact H
              exact absurd ((Option.some.inj H1).trans HRT.out) Bool.false_ne_true
          · rw [if_neg c288] at H
            have c288b0 : (a1_0 == 0) = false := beq_eq_false_iff_ne.mpr c288
            have c288b1 : (a1_0 != 0) = true := bne_iff_ne.mpr c288
            by_cases c336 : a2 < a1_1
            · rw [if_pos c336] at H
              have c336b0 : decide (a2 < a1_1) = true := decide_eq_true c336
              clear c336
              replace H := Option.bind_eq_some_iff.mp H
              obtain ⟨t409, A3370, H⟩ := H
              (try (set_option simprocs false in dsimp only at H))
              have A337 := Aside0.mk A3370
              clear A3370
              by_cases c338 : t409 = true
              · subst c338
                have H1 : ((bocageref03_Has.f k t384 t385 t386 t387 a2).bind fun t410 => (if a0_0 = 2 then (some (t410 == true)) else (some (t410 == false)))) = some r := by rw [if_pos rfl] at H; exact H
                clear H
                have H := H1
                clear H1
                replace H := Option.bind_eq_some_iff.mp H
                obtain ⟨t410, A3390, H⟩ := H
                (try (set_option simprocs false in dsimp only at H))
                have A339 := Aside0.mk A3390
                clear A3390
                by_cases c340 : a0_0 = 2
                · rw [if_pos c340] at H
                  have c340b0 : (a0_0 == 2) = true := beq_iff_eq.mpr c340
                  have c340b1 : (a0_0 != 2) = false := bne_eq_false_iff_eq.mpr c340
                  clear c340
                  obtain rfl := Option.some.inj H
                  go_enter Try.func3, Try.ntmps3
                  go_wp2_with (first | ((with_reducible refine gate_dst (N := 3) rfl ?_); refine bxe (N := 3) (cs := #[.int .i64 a0_0, .int .i64 a0_1]) (t := 23) ?_; intro gb382 hg w341 hbox hb; have BK382 := Aside0.mk (hbox); have GW382 := lsz hg HB; have GE382 := lsz hg HB; replace HB := bst HB hb; clear hb hbox hg) | ((with_reducible refine gate_dst (N := 4) rfl ?_); refine bxe (N := 4) (cs := #[.int .i64 a1_0, .int .i64 a1_1]) (t := 23) ?_; intro gb383 hg w342 hbox hb; have BK383 := Aside0.mk (hbox); have GW383 := lsz hg HB; have GE383 := lsz hg HB; replace HB := bst HB hb; have NB382_383 := nlt hg BK382; have NB383_382 := ngt hg BK382; replace BK382 := bkb BK382 hb; clear hb hbox hg; have hnb343 := NB382_383.out; have hnc343 := NB383_382.out; obtain ⟨hcz344_0, hcz344_1⟩ := e2 BK382; obtain ⟨hfz344_0, hfz344_1⟩ := f2 BK382; obtain ⟨hcz345_0, hcz345_1⟩ := e2 BK383; obtain ⟨hfz345_0, hfz345_1⟩ := f2 BK383) | ((with_reducible refine gate_callee (f := 9) rfl ?_); refine gol (some 14) Try.func9 #[.agg #[.int .i64 a0_0, .int .i64 a0_1], .agg #[.int .i64 a1_0, .int .i64 a1_1]] ?_; (with_reducible refine (bound_Span.calls k a0_0 a0_1 a1_0 a1_1 t384 t385 t386 t387 t388 _ A4.out).mono ?_); rintro e w346 ⟨rfl, hb⟩; refine ⟨_, rfl, ?_⟩; replace BK382 := bkb BK382 hb; replace BK383 := bkb BK383 hb; replace HB := bst HB hb; (try clear hb); (try clear hb2); (try clear hk); (try clear hi)) | ((with_reducible refine gate_dst (N := 7) rfl ?_); refine bxe (N := 7) (cs := #[.int .i64 0, .int .i64 0, .int .i64 0, .int .i64 0]) (t := 27) ?_; intro gb389 hg w347 hbox hb; have BK389 := Aside0.mk (hbox); have GW389 := lsz hg HB; have GE389 := lsz hg HB; replace HB := bst HB hb; have NB382_389 := nlt hg BK382; have NB389_382 := ngt hg BK382; replace BK382 := bkb BK382 hb; have NB383_389 := nlt hg BK383; have NB389_383 := ngt hg BK383; replace BK383 := bkb BK383 hb; clear hb hbox hg; have hnb348 := NB389_382.out; have hnc348 := NB382_389.out; have hnb349 := NB389_383.out; have hnc349 := NB383_389.out; obtain ⟨hcz350_0, hcz350_1, hcz350_2, hcz350_3⟩ := e4 BK389; obtain ⟨hfz350_0, hfz350_1, hfz350_2, hfz350_3⟩ := f4 BK389; obtain ⟨hcz351_0, hcz351_1⟩ := e2 BK382; obtain ⟨hfz351_0, hfz351_1⟩ := f2 BK382; obtain ⟨hcz352_0, hcz352_1⟩ := e2 BK383; obtain ⟨hfz352_0, hfz352_1⟩ := f2 BK383) | ((with_reducible refine gate_callee (f := 10) rfl ?_); refine gol (some 65) Try.func10 #[] ?_; (with_reducible refine (bocagelaw04_alive.calls k  true _ A337.out rfl).mono ?_); rintro e w353 ⟨rfl, hb⟩; refine ⟨_, rfl, ?_⟩; replace BK382 := Aside0.mk (blk_below (bkf BK382 NB382_389) hb); replace BK383 := Aside0.mk (blk_below (bkf BK383 NB383_389) hb); replace BK389 := Aside0.mk (blk_below (g := gb389) (o := .cells #[.int .i64 t384, .int .i64 t385, .int .i64 t386, .int .i64 t387] 27 (0, 0)) (bkp BK389) hb); replace HB := bst HB hb; (try clear hb); (try clear hb2); (try clear hk); (try clear hi); obtain ⟨hcz354_0, hcz354_1, hcz354_2, hcz354_3⟩ := e4 BK389; obtain ⟨hfz354_0, hfz354_1, hfz354_2, hfz354_3⟩ := f4 BK389) | (go_at_call 11; (with_reducible refine (bocageref03_Has.calls k t384 t385 t386 t387 a2 t410 _ A339.out).mono ?_); rintro e w355 ⟨rfl, hb⟩; replace BK382 := bkb BK382 hb; replace BK383 := bkb BK383 hb; replace BK389 := bkb BK389 hb; replace HB := bst HB hb; (try clear hb); (try clear hb2); (try clear hk); (try clear hi)))
                  go_ret
                  exact endB HB
                · rw [if_neg c340] at H
                  have c340b0 : (a0_0 == 2) = false := beq_eq_false_iff_ne.mpr c340
                  have c340b1 : (a0_0 != 2) = true := bne_iff_ne.mpr c340
                  obtain rfl := Option.some.inj H
                  go_enter Try.func3, Try.ntmps3
                  go_wp2_with (first | ((with_reducible refine gate_dst (N := 3) rfl ?_); refine bxe (N := 3) (cs := #[.int .i64 a0_0, .int .i64 a0_1]) (t := 23) ?_; intro gb382 hg w356 hbox hb; have BK382 := Aside0.mk (hbox); have GW382 := lsz hg HB; have GE382 := lsz hg HB; replace HB := bst HB hb; clear hb hbox hg) | ((with_reducible refine gate_dst (N := 4) rfl ?_); refine bxe (N := 4) (cs := #[.int .i64 a1_0, .int .i64 a1_1]) (t := 23) ?_; intro gb383 hg w357 hbox hb; have BK383 := Aside0.mk (hbox); have GW383 := lsz hg HB; have GE383 := lsz hg HB; replace HB := bst HB hb; have NB382_383 := nlt hg BK382; have NB383_382 := ngt hg BK382; replace BK382 := bkb BK382 hb; clear hb hbox hg; have hnb358 := NB382_383.out; have hnc358 := NB383_382.out; obtain ⟨hcz359_0, hcz359_1⟩ := e2 BK382; obtain ⟨hfz359_0, hfz359_1⟩ := f2 BK382; obtain ⟨hcz360_0, hcz360_1⟩ := e2 BK383; obtain ⟨hfz360_0, hfz360_1⟩ := f2 BK383) | ((with_reducible refine gate_callee (f := 9) rfl ?_); refine gol (some 14) Try.func9 #[.agg #[.int .i64 a0_0, .int .i64 a0_1], .agg #[.int .i64 a1_0, .int .i64 a1_1]] ?_; (with_reducible refine (bound_Span.calls k a0_0 a0_1 a1_0 a1_1 t384 t385 t386 t387 t388 _ A4.out).mono ?_); rintro e w361 ⟨rfl, hb⟩; refine ⟨_, rfl, ?_⟩; replace BK382 := bkb BK382 hb; replace BK383 := bkb BK383 hb; replace HB := bst HB hb; (try clear hb); (try clear hb2); (try clear hk); (try clear hi)) | ((with_reducible refine gate_dst (N := 7) rfl ?_); refine bxe (N := 7) (cs := #[.int .i64 0, .int .i64 0, .int .i64 0, .int .i64 0]) (t := 27) ?_; intro gb389 hg w362 hbox hb; have BK389 := Aside0.mk (hbox); have GW389 := lsz hg HB; have GE389 := lsz hg HB; replace HB := bst HB hb; have NB382_389 := nlt hg BK382; have NB389_382 := ngt hg BK382; replace BK382 := bkb BK382 hb; have NB383_389 := nlt hg BK383; have NB389_383 := ngt hg BK383; replace BK383 := bkb BK383 hb; clear hb hbox hg; have hnb363 := NB389_382.out; have hnc363 := NB382_389.out; have hnb364 := NB389_383.out; have hnc364 := NB383_389.out; obtain ⟨hcz365_0, hcz365_1, hcz365_2, hcz365_3⟩ := e4 BK389; obtain ⟨hfz365_0, hfz365_1, hfz365_2, hfz365_3⟩ := f4 BK389; obtain ⟨hcz366_0, hcz366_1⟩ := e2 BK382; obtain ⟨hfz366_0, hfz366_1⟩ := f2 BK382; obtain ⟨hcz367_0, hcz367_1⟩ := e2 BK383; obtain ⟨hfz367_0, hfz367_1⟩ := f2 BK383) | ((with_reducible refine gate_callee (f := 10) rfl ?_); refine gol (some 65) Try.func10 #[] ?_; (with_reducible refine (bocagelaw04_alive.calls k  true _ A337.out rfl).mono ?_); rintro e w368 ⟨rfl, hb⟩; refine ⟨_, rfl, ?_⟩; replace BK382 := Aside0.mk (blk_below (bkf BK382 NB382_389) hb); replace BK383 := Aside0.mk (blk_below (bkf BK383 NB383_389) hb); replace BK389 := Aside0.mk (blk_below (g := gb389) (o := .cells #[.int .i64 t384, .int .i64 t385, .int .i64 t386, .int .i64 t387] 27 (0, 0)) (bkp BK389) hb); replace HB := bst HB hb; (try clear hb); (try clear hb2); (try clear hk); (try clear hi); obtain ⟨hcz369_0, hcz369_1, hcz369_2, hcz369_3⟩ := e4 BK389; obtain ⟨hfz369_0, hfz369_1, hfz369_2, hfz369_3⟩ := f4 BK389) | (go_at_call 11; (with_reducible refine (bocageref03_Has.calls k t384 t385 t386 t387 a2 t410 _ A339.out).mono ?_); rintro e w370 ⟨rfl, hb⟩; replace BK382 := bkb BK382 hb; replace BK383 := bkb BK383 hb; replace BK389 := bkb BK389 hb; replace HB := bst HB hb; (try clear hb); (try clear hb2); (try clear hk); (try clear hi)))
                  go_ret
                  exact endB HB
              · replace c338 := Bool.eq_false_iff.mpr c338
                subst c338
                have H1 : (some false) = some r := by rw [if_neg (show ¬ (false = true) by decide)] at H; exact H
                exact absurd ((Option.some.inj H1).trans HRT.out) Bool.false_ne_true
            · rw [if_neg c336] at H
              have c336b0 : decide (a2 < a1_1) = false := decide_eq_false c336
              clear c336
              by_cases c384 : a2 = a1_1
              · rw [if_pos c384] at H
                have c384b0 : (a2 == a1_1) = true := beq_iff_eq.mpr c384
                have c384b1 : (a2 != a1_1) = false := bne_eq_false_iff_eq.mpr c384
                clear c384
                replace H := Option.bind_eq_some_iff.mp H
                obtain ⟨t411, A3850, H⟩ := H
                (try (set_option simprocs false in dsimp only at H))
                have A385 := Aside0.mk A3850
                clear A3850
                by_cases c386 : t411 = true
                · subst c386
                  have H1 : ((bocageref03_Has.f k t384 t385 t386 t387 a2).bind fun t412 => (if a0_0 = 2 then (some (t412 == (a1_0 == 2))) else (some (t412 == false)))) = some r := by rw [if_pos rfl] at H; exact H
                  clear H
                  have H := H1
                  clear H1
                  replace H := Option.bind_eq_some_iff.mp H
                  obtain ⟨t412, A3870, H⟩ := H
                  (try (set_option simprocs false in dsimp only at H))
                  have A387 := Aside0.mk A3870
                  clear A3870
                  by_cases c388 : a0_0 = 2
                  · rw [if_pos c388] at H
                    have c388b0 : (a0_0 == 2) = true := beq_iff_eq.mpr c388
                    have c388b1 : (a0_0 != 2) = false := bne_eq_false_iff_eq.mpr c388
                    clear c388
                    obtain rfl := Option.some.inj H
                    go_enter Try.func3, Try.ntmps3
                    go_wp2_with (first | ((with_reducible refine gate_dst (N := 3) rfl ?_); refine bxe (N := 3) (cs := #[.int .i64 a0_0, .int .i64 a0_1]) (t := 23) ?_; intro gb382 hg w389 hbox hb; have BK382 := Aside0.mk (hbox); have GW382 := lsz hg HB; have GE382 := lsz hg HB; replace HB := bst HB hb; clear hb hbox hg) | ((with_reducible refine gate_dst (N := 4) rfl ?_); refine bxe (N := 4) (cs := #[.int .i64 a1_0, .int .i64 a1_1]) (t := 23) ?_; intro gb383 hg w390 hbox hb; have BK383 := Aside0.mk (hbox); have GW383 := lsz hg HB; have GE383 := lsz hg HB; replace HB := bst HB hb; have NB382_383 := nlt hg BK382; have NB383_382 := ngt hg BK382; replace BK382 := bkb BK382 hb; clear hb hbox hg; have hnb391 := NB382_383.out; have hnc391 := NB383_382.out; obtain ⟨hcz392_0, hcz392_1⟩ := e2 BK382; obtain ⟨hfz392_0, hfz392_1⟩ := f2 BK382; obtain ⟨hcz393_0, hcz393_1⟩ := e2 BK383; obtain ⟨hfz393_0, hfz393_1⟩ := f2 BK383) | ((with_reducible refine gate_callee (f := 9) rfl ?_); refine gol (some 14) Try.func9 #[.agg #[.int .i64 a0_0, .int .i64 a0_1], .agg #[.int .i64 a1_0, .int .i64 a1_1]] ?_; (with_reducible refine (bound_Span.calls k a0_0 a0_1 a1_0 a1_1 t384 t385 t386 t387 t388 _ A4.out).mono ?_); rintro e w394 ⟨rfl, hb⟩; refine ⟨_, rfl, ?_⟩; replace BK382 := bkb BK382 hb; replace BK383 := bkb BK383 hb; replace HB := bst HB hb; (try clear hb); (try clear hb2); (try clear hk); (try clear hi)) | ((with_reducible refine gate_dst (N := 7) rfl ?_); refine bxe (N := 7) (cs := #[.int .i64 0, .int .i64 0, .int .i64 0, .int .i64 0]) (t := 27) ?_; intro gb389 hg w395 hbox hb; have BK389 := Aside0.mk (hbox); have GW389 := lsz hg HB; have GE389 := lsz hg HB; replace HB := bst HB hb; have NB382_389 := nlt hg BK382; have NB389_382 := ngt hg BK382; replace BK382 := bkb BK382 hb; have NB383_389 := nlt hg BK383; have NB389_383 := ngt hg BK383; replace BK383 := bkb BK383 hb; clear hb hbox hg; have hnb396 := NB389_382.out; have hnc396 := NB382_389.out; have hnb397 := NB389_383.out; have hnc397 := NB383_389.out; obtain ⟨hcz398_0, hcz398_1, hcz398_2, hcz398_3⟩ := e4 BK389; obtain ⟨hfz398_0, hfz398_1, hfz398_2, hfz398_3⟩ := f4 BK389; obtain ⟨hcz399_0, hcz399_1⟩ := e2 BK382; obtain ⟨hfz399_0, hfz399_1⟩ := f2 BK382; obtain ⟨hcz400_0, hcz400_1⟩ := e2 BK383; obtain ⟨hfz400_0, hfz400_1⟩ := f2 BK383) | ((with_reducible refine gate_callee (f := 10) rfl ?_); refine gol (some 65) Try.func10 #[] ?_; (with_reducible refine (bocagelaw04_alive.calls k  true _ A385.out rfl).mono ?_); rintro e w401 ⟨rfl, hb⟩; refine ⟨_, rfl, ?_⟩; replace BK382 := Aside0.mk (blk_below (bkf BK382 NB382_389) hb); replace BK383 := Aside0.mk (blk_below (bkf BK383 NB383_389) hb); replace BK389 := Aside0.mk (blk_below (g := gb389) (o := .cells #[.int .i64 t384, .int .i64 t385, .int .i64 t386, .int .i64 t387] 27 (0, 0)) (bkp BK389) hb); replace HB := bst HB hb; (try clear hb); (try clear hb2); (try clear hk); (try clear hi); obtain ⟨hcz402_0, hcz402_1, hcz402_2, hcz402_3⟩ := e4 BK389; obtain ⟨hfz402_0, hfz402_1, hfz402_2, hfz402_3⟩ := f4 BK389) | (go_at_call 11; (with_reducible refine (bocageref03_Has.calls k t384 t385 t386 t387 a2 t412 _ A387.out).mono ?_); rintro e w403 ⟨rfl, hb⟩; replace BK382 := bkb BK382 hb; replace BK383 := bkb BK383 hb; replace BK389 := bkb BK389 hb; replace HB := bst HB hb; (try clear hb); (try clear hb2); (try clear hk); (try clear hi)))
                    go_ret
                    exact endB HB
                  · rw [if_neg c388] at H
                    have c388b0 : (a0_0 == 2) = false := beq_eq_false_iff_ne.mpr c388
                    have c388b1 : (a0_0 != 2) = true := bne_iff_ne.mpr c388
                    obtain rfl := Option.some.inj H
                    go_enter Try.func3, Try.ntmps3
                    go_wp2_with (first | ((with_reducible refine gate_dst (N := 3) rfl ?_); refine bxe (N := 3) (cs := #[.int .i64 a0_0, .int .i64 a0_1]) (t := 23) ?_; intro gb382 hg w404 hbox hb; have BK382 := Aside0.mk (hbox); have GW382 := lsz hg HB; have GE382 := lsz hg HB; replace HB := bst HB hb; clear hb hbox hg) | ((with_reducible refine gate_dst (N := 4) rfl ?_); refine bxe (N := 4) (cs := #[.int .i64 a1_0, .int .i64 a1_1]) (t := 23) ?_; intro gb383 hg w405 hbox hb; have BK383 := Aside0.mk (hbox); have GW383 := lsz hg HB; have GE383 := lsz hg HB; replace HB := bst HB hb; have NB382_383 := nlt hg BK382; have NB383_382 := ngt hg BK382; replace BK382 := bkb BK382 hb; clear hb hbox hg; have hnb406 := NB382_383.out; have hnc406 := NB383_382.out; obtain ⟨hcz407_0, hcz407_1⟩ := e2 BK382; obtain ⟨hfz407_0, hfz407_1⟩ := f2 BK382; obtain ⟨hcz408_0, hcz408_1⟩ := e2 BK383; obtain ⟨hfz408_0, hfz408_1⟩ := f2 BK383) | ((with_reducible refine gate_callee (f := 9) rfl ?_); refine gol (some 14) Try.func9 #[.agg #[.int .i64 a0_0, .int .i64 a0_1], .agg #[.int .i64 a1_0, .int .i64 a1_1]] ?_; (with_reducible refine (bound_Span.calls k a0_0 a0_1 a1_0 a1_1 t384 t385 t386 t387 t388 _ A4.out).mono ?_); rintro e w409 ⟨rfl, hb⟩; refine ⟨_, rfl, ?_⟩; replace BK382 := bkb BK382 hb; replace BK383 := bkb BK383 hb; replace HB := bst HB hb; (try clear hb); (try clear hb2); (try clear hk); (try clear hi)) | ((with_reducible refine gate_dst (N := 7) rfl ?_); refine bxe (N := 7) (cs := #[.int .i64 0, .int .i64 0, .int .i64 0, .int .i64 0]) (t := 27) ?_; intro gb389 hg w410 hbox hb; have BK389 := Aside0.mk (hbox); have GW389 := lsz hg HB; have GE389 := lsz hg HB; replace HB := bst HB hb; have NB382_389 := nlt hg BK382; have NB389_382 := ngt hg BK382; replace BK382 := bkb BK382 hb; have NB383_389 := nlt hg BK383; have NB389_383 := ngt hg BK383; replace BK383 := bkb BK383 hb; clear hb hbox hg; have hnb411 := NB389_382.out; have hnc411 := NB382_389.out; have hnb412 := NB389_383.out; have hnc412 := NB383_389.out; obtain ⟨hcz413_0, hcz413_1, hcz413_2, hcz413_3⟩ := e4 BK389; obtain ⟨hfz413_0, hfz413_1, hfz413_2, hfz413_3⟩ := f4 BK389; obtain ⟨hcz414_0, hcz414_1⟩ := e2 BK382; obtain ⟨hfz414_0, hfz414_1⟩ := f2 BK382; obtain ⟨hcz415_0, hcz415_1⟩ := e2 BK383; obtain ⟨hfz415_0, hfz415_1⟩ := f2 BK383) | ((with_reducible refine gate_callee (f := 10) rfl ?_); refine gol (some 65) Try.func10 #[] ?_; (with_reducible refine (bocagelaw04_alive.calls k  true _ A385.out rfl).mono ?_); rintro e w416 ⟨rfl, hb⟩; refine ⟨_, rfl, ?_⟩; replace BK382 := Aside0.mk (blk_below (bkf BK382 NB382_389) hb); replace BK383 := Aside0.mk (blk_below (bkf BK383 NB383_389) hb); replace BK389 := Aside0.mk (blk_below (g := gb389) (o := .cells #[.int .i64 t384, .int .i64 t385, .int .i64 t386, .int .i64 t387] 27 (0, 0)) (bkp BK389) hb); replace HB := bst HB hb; (try clear hb); (try clear hb2); (try clear hk); (try clear hi); obtain ⟨hcz417_0, hcz417_1, hcz417_2, hcz417_3⟩ := e4 BK389; obtain ⟨hfz417_0, hfz417_1, hfz417_2, hfz417_3⟩ := f4 BK389) | (go_at_call 11; (with_reducible refine (bocageref03_Has.calls k t384 t385 t386 t387 a2 t412 _ A387.out).mono ?_); rintro e w418 ⟨rfl, hb⟩; replace BK382 := bkb BK382 hb; replace BK383 := bkb BK383 hb; replace BK389 := bkb BK389 hb; replace HB := bst HB hb; (try clear hb); (try clear hb2); (try clear hk); (try clear hi)))
                    go_ret
                    exact endB HB
                · replace c386 := Bool.eq_false_iff.mpr c386
                  subst c386
                  have H1 : (some false) = some r := by rw [if_neg (show ¬ (false = true) by decide)] at H; exact H
                  exact absurd ((Option.some.inj H1).trans HRT.out) Bool.false_ne_true
              · rw [if_neg c384] at H
                have c384b0 : (a2 == a1_1) = false := beq_eq_false_iff_ne.mpr c384
                have c384b1 : (a2 != a1_1) = true := bne_iff_ne.mpr c384
                replace H := Option.bind_eq_some_iff.mp H
                obtain ⟨t413, A4320, H⟩ := H
                (try (set_option simprocs false in dsimp only at H))
                have A432 := Aside0.mk A4320
                clear A4320
                by_cases c433 : t413 = true
                · subst c433
                  have H1 : ((bocageref03_Has.f k t384 t385 t386 t387 a2).bind fun t414 => (if a0_0 = 2 then (some (t414 == false)) else (some (t414 == false)))) = some r := by rw [if_pos rfl] at H; exact H
                  clear H
                  have H := H1
                  clear H1
                  replace H := Option.bind_eq_some_iff.mp H
                  obtain ⟨t414, A4340, H⟩ := H
                  (try (set_option simprocs false in dsimp only at H))
                  have A434 := Aside0.mk A4340
                  clear A4340
                  by_cases c435 : a0_0 = 2
                  · rw [if_pos c435] at H
                    have c435b0 : (a0_0 == 2) = true := beq_iff_eq.mpr c435
                    have c435b1 : (a0_0 != 2) = false := bne_eq_false_iff_eq.mpr c435
                    clear c435
                    obtain rfl := Option.some.inj H
                    go_enter Try.func3, Try.ntmps3
                    go_wp2_with (first | ((with_reducible refine gate_dst (N := 3) rfl ?_); refine bxe (N := 3) (cs := #[.int .i64 a0_0, .int .i64 a0_1]) (t := 23) ?_; intro gb382 hg w436 hbox hb; have BK382 := Aside0.mk (hbox); have GW382 := lsz hg HB; have GE382 := lsz hg HB; replace HB := bst HB hb; clear hb hbox hg) | ((with_reducible refine gate_dst (N := 4) rfl ?_); refine bxe (N := 4) (cs := #[.int .i64 a1_0, .int .i64 a1_1]) (t := 23) ?_; intro gb383 hg w437 hbox hb; have BK383 := Aside0.mk (hbox); have GW383 := lsz hg HB; have GE383 := lsz hg HB; replace HB := bst HB hb; have NB382_383 := nlt hg BK382; have NB383_382 := ngt hg BK382; replace BK382 := bkb BK382 hb; clear hb hbox hg; have hnb438 := NB382_383.out; have hnc438 := NB383_382.out; obtain ⟨hcz439_0, hcz439_1⟩ := e2 BK382; obtain ⟨hfz439_0, hfz439_1⟩ := f2 BK382; obtain ⟨hcz440_0, hcz440_1⟩ := e2 BK383; obtain ⟨hfz440_0, hfz440_1⟩ := f2 BK383) | ((with_reducible refine gate_callee (f := 9) rfl ?_); refine gol (some 14) Try.func9 #[.agg #[.int .i64 a0_0, .int .i64 a0_1], .agg #[.int .i64 a1_0, .int .i64 a1_1]] ?_; (with_reducible refine (bound_Span.calls k a0_0 a0_1 a1_0 a1_1 t384 t385 t386 t387 t388 _ A4.out).mono ?_); rintro e w441 ⟨rfl, hb⟩; refine ⟨_, rfl, ?_⟩; replace BK382 := bkb BK382 hb; replace BK383 := bkb BK383 hb; replace HB := bst HB hb; (try clear hb); (try clear hb2); (try clear hk); (try clear hi)) | ((with_reducible refine gate_dst (N := 7) rfl ?_); refine bxe (N := 7) (cs := #[.int .i64 0, .int .i64 0, .int .i64 0, .int .i64 0]) (t := 27) ?_; intro gb389 hg w442 hbox hb; have BK389 := Aside0.mk (hbox); have GW389 := lsz hg HB; have GE389 := lsz hg HB; replace HB := bst HB hb; have NB382_389 := nlt hg BK382; have NB389_382 := ngt hg BK382; replace BK382 := bkb BK382 hb; have NB383_389 := nlt hg BK383; have NB389_383 := ngt hg BK383; replace BK383 := bkb BK383 hb; clear hb hbox hg; have hnb443 := NB389_382.out; have hnc443 := NB382_389.out; have hnb444 := NB389_383.out; have hnc444 := NB383_389.out; obtain ⟨hcz445_0, hcz445_1, hcz445_2, hcz445_3⟩ := e4 BK389; obtain ⟨hfz445_0, hfz445_1, hfz445_2, hfz445_3⟩ := f4 BK389; obtain ⟨hcz446_0, hcz446_1⟩ := e2 BK382; obtain ⟨hfz446_0, hfz446_1⟩ := f2 BK382; obtain ⟨hcz447_0, hcz447_1⟩ := e2 BK383; obtain ⟨hfz447_0, hfz447_1⟩ := f2 BK383) | ((with_reducible refine gate_callee (f := 10) rfl ?_); refine gol (some 65) Try.func10 #[] ?_; (with_reducible refine (bocagelaw04_alive.calls k  true _ A432.out rfl).mono ?_); rintro e w448 ⟨rfl, hb⟩; refine ⟨_, rfl, ?_⟩; replace BK382 := Aside0.mk (blk_below (bkf BK382 NB382_389) hb); replace BK383 := Aside0.mk (blk_below (bkf BK383 NB383_389) hb); replace BK389 := Aside0.mk (blk_below (g := gb389) (o := .cells #[.int .i64 t384, .int .i64 t385, .int .i64 t386, .int .i64 t387] 27 (0, 0)) (bkp BK389) hb); replace HB := bst HB hb; (try clear hb); (try clear hb2); (try clear hk); (try clear hi); obtain ⟨hcz449_0, hcz449_1, hcz449_2, hcz449_3⟩ := e4 BK389; obtain ⟨hfz449_0, hfz449_1, hfz449_2, hfz449_3⟩ := f4 BK389) | (go_at_call 11; (with_reducible refine (bocageref03_Has.calls k t384 t385 t386 t387 a2 t414 _ A434.out).mono ?_); rintro e w450 ⟨rfl, hb⟩; replace BK382 := bkb BK382 hb; replace BK383 := bkb BK383 hb; replace BK389 := bkb BK389 hb; replace HB := bst HB hb; (try clear hb); (try clear hb2); (try clear hk); (try clear hi)))
                    go_ret
                    exact endB HB
                  · rw [if_neg c435] at H
                    have c435b0 : (a0_0 == 2) = false := beq_eq_false_iff_ne.mpr c435
                    have c435b1 : (a0_0 != 2) = true := bne_iff_ne.mpr c435
                    obtain rfl := Option.some.inj H
                    go_enter Try.func3, Try.ntmps3
                    go_wp2_with (first | ((with_reducible refine gate_dst (N := 3) rfl ?_); refine bxe (N := 3) (cs := #[.int .i64 a0_0, .int .i64 a0_1]) (t := 23) ?_; intro gb382 hg w451 hbox hb; have BK382 := Aside0.mk (hbox); have GW382 := lsz hg HB; have GE382 := lsz hg HB; replace HB := bst HB hb; clear hb hbox hg) | ((with_reducible refine gate_dst (N := 4) rfl ?_); refine bxe (N := 4) (cs := #[.int .i64 a1_0, .int .i64 a1_1]) (t := 23) ?_; intro gb383 hg w452 hbox hb; have BK383 := Aside0.mk (hbox); have GW383 := lsz hg HB; have GE383 := lsz hg HB; replace HB := bst HB hb; have NB382_383 := nlt hg BK382; have NB383_382 := ngt hg BK382; replace BK382 := bkb BK382 hb; clear hb hbox hg; have hnb453 := NB382_383.out; have hnc453 := NB383_382.out; obtain ⟨hcz454_0, hcz454_1⟩ := e2 BK382; obtain ⟨hfz454_0, hfz454_1⟩ := f2 BK382; obtain ⟨hcz455_0, hcz455_1⟩ := e2 BK383; obtain ⟨hfz455_0, hfz455_1⟩ := f2 BK383) | ((with_reducible refine gate_callee (f := 9) rfl ?_); refine gol (some 14) Try.func9 #[.agg #[.int .i64 a0_0, .int .i64 a0_1], .agg #[.int .i64 a1_0, .int .i64 a1_1]] ?_; (with_reducible refine (bound_Span.calls k a0_0 a0_1 a1_0 a1_1 t384 t385 t386 t387 t388 _ A4.out).mono ?_); rintro e w456 ⟨rfl, hb⟩; refine ⟨_, rfl, ?_⟩; replace BK382 := bkb BK382 hb; replace BK383 := bkb BK383 hb; replace HB := bst HB hb; (try clear hb); (try clear hb2); (try clear hk); (try clear hi)) | ((with_reducible refine gate_dst (N := 7) rfl ?_); refine bxe (N := 7) (cs := #[.int .i64 0, .int .i64 0, .int .i64 0, .int .i64 0]) (t := 27) ?_; intro gb389 hg w457 hbox hb; have BK389 := Aside0.mk (hbox); have GW389 := lsz hg HB; have GE389 := lsz hg HB; replace HB := bst HB hb; have NB382_389 := nlt hg BK382; have NB389_382 := ngt hg BK382; replace BK382 := bkb BK382 hb; have NB383_389 := nlt hg BK383; have NB389_383 := ngt hg BK383; replace BK383 := bkb BK383 hb; clear hb hbox hg; have hnb458 := NB389_382.out; have hnc458 := NB382_389.out; have hnb459 := NB389_383.out; have hnc459 := NB383_389.out; obtain ⟨hcz460_0, hcz460_1, hcz460_2, hcz460_3⟩ := e4 BK389; obtain ⟨hfz460_0, hfz460_1, hfz460_2, hfz460_3⟩ := f4 BK389; obtain ⟨hcz461_0, hcz461_1⟩ := e2 BK382; obtain ⟨hfz461_0, hfz461_1⟩ := f2 BK382; obtain ⟨hcz462_0, hcz462_1⟩ := e2 BK383; obtain ⟨hfz462_0, hfz462_1⟩ := f2 BK383) | ((with_reducible refine gate_callee (f := 10) rfl ?_); refine gol (some 65) Try.func10 #[] ?_; (with_reducible refine (bocagelaw04_alive.calls k  true _ A432.out rfl).mono ?_); rintro e w463 ⟨rfl, hb⟩; refine ⟨_, rfl, ?_⟩; replace BK382 := Aside0.mk (blk_below (bkf BK382 NB382_389) hb); replace BK383 := Aside0.mk (blk_below (bkf BK383 NB383_389) hb); replace BK389 := Aside0.mk (blk_below (g := gb389) (o := .cells #[.int .i64 t384, .int .i64 t385, .int .i64 t386, .int .i64 t387] 27 (0, 0)) (bkp BK389) hb); replace HB := bst HB hb; (try clear hb); (try clear hb2); (try clear hk); (try clear hi); obtain ⟨hcz464_0, hcz464_1, hcz464_2, hcz464_3⟩ := e4 BK389; obtain ⟨hfz464_0, hfz464_1, hfz464_2, hfz464_3⟩ := f4 BK389) | (go_at_call 11; (with_reducible refine (bocageref03_Has.calls k t384 t385 t386 t387 a2 t414 _ A434.out).mono ?_); rintro e w465 ⟨rfl, hb⟩; replace BK382 := bkb BK382 hb; replace BK383 := bkb BK383 hb; replace BK389 := bkb BK389 hb; replace HB := bst HB hb; (try clear hb); (try clear hb2); (try clear hk); (try clear hi)))
                    go_ret
                    exact endB HB
                · replace c433 := Bool.eq_false_iff.mpr c433
                  subst c433
                  have H1 : (some false) = some r := by rw [if_neg (show ¬ (false = true) by decide)] at H; exact H
                  exact absurd ((Option.some.inj H1).trans HRT.out) Bool.false_ne_true
        · rw [if_neg c287] at H
          have c287b0 : (a2 == a0_1) = false := beq_eq_false_iff_ne.mpr c287
          have c287b1 : (a2 != a0_1) = true := bne_iff_ne.mpr c287
          by_cases c479 : a1_0 = 0
          · rw [if_pos c479] at H
            have c479b0 : (a1_0 == 0) = true := beq_iff_eq.mpr c479
            have c479b1 : (a1_0 != 0) = false := bne_eq_false_iff_eq.mpr c479
            clear c479
            replace H := Option.bind_eq_some_iff.mp H
            obtain ⟨t415, A4800, H⟩ := H
            (try (set_option simprocs false in dsimp only at H))
            have A480 := Aside0.mk A4800
            clear A4800
            by_cases c481 : t415 = true
            · subst c481
              have H1 : ((bocageref03_Has.f k t384 t385 t386 t387 a2).bind fun t416 => (some (t416 == false))) = some r := by rw [if_pos rfl] at H; exact H
              clear H
              have H := H1
              clear H1
              replace H := Option.bind_eq_some_iff.mp H
              obtain ⟨t416, A4820, H⟩ := H
              (try (set_option simprocs false in dsimp only at H))
              have A482 := Aside0.mk A4820
              clear A4820
              obtain rfl := Option.some.inj H
              go_enter Try.func3, Try.ntmps3
              go_wp2_with (first | ((with_reducible refine gate_dst (N := 3) rfl ?_); refine bxe (N := 3) (cs := #[.int .i64 a0_0, .int .i64 a0_1]) (t := 23) ?_; intro gb382 hg w483 hbox hb; have BK382 := Aside0.mk (hbox); have GW382 := lsz hg HB; have GE382 := lsz hg HB; replace HB := bst HB hb; clear hb hbox hg) | ((with_reducible refine gate_dst (N := 4) rfl ?_); refine bxe (N := 4) (cs := #[.int .i64 a1_0, .int .i64 a1_1]) (t := 23) ?_; intro gb383 hg w484 hbox hb; have BK383 := Aside0.mk (hbox); have GW383 := lsz hg HB; have GE383 := lsz hg HB; replace HB := bst HB hb; have NB382_383 := nlt hg BK382; have NB383_382 := ngt hg BK382; replace BK382 := bkb BK382 hb; clear hb hbox hg; have hnb485 := NB382_383.out; have hnc485 := NB383_382.out; obtain ⟨hcz486_0, hcz486_1⟩ := e2 BK382; obtain ⟨hfz486_0, hfz486_1⟩ := f2 BK382; obtain ⟨hcz487_0, hcz487_1⟩ := e2 BK383; obtain ⟨hfz487_0, hfz487_1⟩ := f2 BK383) | ((with_reducible refine gate_callee (f := 9) rfl ?_); refine gol (some 14) Try.func9 #[.agg #[.int .i64 a0_0, .int .i64 a0_1], .agg #[.int .i64 a1_0, .int .i64 a1_1]] ?_; (with_reducible refine (bound_Span.calls k a0_0 a0_1 a1_0 a1_1 t384 t385 t386 t387 t388 _ A4.out).mono ?_); rintro e w488 ⟨rfl, hb⟩; refine ⟨_, rfl, ?_⟩; replace BK382 := bkb BK382 hb; replace BK383 := bkb BK383 hb; replace HB := bst HB hb; (try clear hb); (try clear hb2); (try clear hk); (try clear hi)) | ((with_reducible refine gate_dst (N := 7) rfl ?_); refine bxe (N := 7) (cs := #[.int .i64 0, .int .i64 0, .int .i64 0, .int .i64 0]) (t := 27) ?_; intro gb389 hg w489 hbox hb; have BK389 := Aside0.mk (hbox); have GW389 := lsz hg HB; have GE389 := lsz hg HB; replace HB := bst HB hb; have NB382_389 := nlt hg BK382; have NB389_382 := ngt hg BK382; replace BK382 := bkb BK382 hb; have NB383_389 := nlt hg BK383; have NB389_383 := ngt hg BK383; replace BK383 := bkb BK383 hb; clear hb hbox hg; have hnb490 := NB389_382.out; have hnc490 := NB382_389.out; have hnb491 := NB389_383.out; have hnc491 := NB383_389.out; obtain ⟨hcz492_0, hcz492_1, hcz492_2, hcz492_3⟩ := e4 BK389; obtain ⟨hfz492_0, hfz492_1, hfz492_2, hfz492_3⟩ := f4 BK389; obtain ⟨hcz493_0, hcz493_1⟩ := e2 BK382; obtain ⟨hfz493_0, hfz493_1⟩ := f2 BK382; obtain ⟨hcz494_0, hcz494_1⟩ := e2 BK383; obtain ⟨hfz494_0, hfz494_1⟩ := f2 BK383) | ((with_reducible refine gate_callee (f := 10) rfl ?_); refine gol (some 65) Try.func10 #[] ?_; (with_reducible refine (bocagelaw04_alive.calls k  true _ A480.out rfl).mono ?_); rintro e w495 ⟨rfl, hb⟩; refine ⟨_, rfl, ?_⟩; replace BK382 := Aside0.mk (blk_below (bkf BK382 NB382_389) hb); replace BK383 := Aside0.mk (blk_below (bkf BK383 NB383_389) hb); replace BK389 := Aside0.mk (blk_below (g := gb389) (o := .cells #[.int .i64 t384, .int .i64 t385, .int .i64 t386, .int .i64 t387] 27 (0, 0)) (bkp BK389) hb); replace HB := bst HB hb; (try clear hb); (try clear hb2); (try clear hk); (try clear hi); obtain ⟨hcz496_0, hcz496_1, hcz496_2, hcz496_3⟩ := e4 BK389; obtain ⟨hfz496_0, hfz496_1, hfz496_2, hfz496_3⟩ := f4 BK389) | (go_at_call 11; (with_reducible refine (bocageref03_Has.calls k t384 t385 t386 t387 a2 t416 _ A482.out).mono ?_); rintro e w497 ⟨rfl, hb⟩; replace BK382 := bkb BK382 hb; replace BK383 := bkb BK383 hb; replace BK389 := bkb BK389 hb; replace HB := bst HB hb; (try clear hb); (try clear hb2); (try clear hk); (try clear hi)))
              go_ret
              exact endB HB
            · replace c481 := Bool.eq_false_iff.mpr c481
              subst c481
              have H1 : (some false) = some r := by rw [if_neg (show ¬ (false = true) by decide)] at H; exact H
              exact absurd ((Option.some.inj H1).trans HRT.out) Bool.false_ne_true
          · rw [if_neg c479] at H
            have c479b0 : (a1_0 == 0) = false := beq_eq_false_iff_ne.mpr c479
            have c479b1 : (a1_0 != 0) = true := bne_iff_ne.mpr c479
            by_cases c511 : a2 < a1_1
            · rw [if_pos c511] at H
              have c511b0 : decide (a2 < a1_1) = true := decide_eq_true c511
              clear c511
              replace H := Option.bind_eq_some_iff.mp H
              obtain ⟨t417, A5120, H⟩ := H
              (try (set_option simprocs false in dsimp only at H))
              have A512 := Aside0.mk A5120
              clear A5120
              by_cases c513 : t417 = true
              · subst c513
                have H1 : ((bocageref03_Has.f k t384 t385 t386 t387 a2).bind fun t418 => (some (t418 == false))) = some r := by rw [if_pos rfl] at H; exact H
                clear H
                have H := H1
                clear H1
                replace H := Option.bind_eq_some_iff.mp H
                obtain ⟨t418, A5140, H⟩ := H
                (try (set_option simprocs false in dsimp only at H))
                have A514 := Aside0.mk A5140
                clear A5140
                obtain rfl := Option.some.inj H
                go_enter Try.func3, Try.ntmps3
                go_wp2_with (first | ((with_reducible refine gate_dst (N := 3) rfl ?_); refine bxe (N := 3) (cs := #[.int .i64 a0_0, .int .i64 a0_1]) (t := 23) ?_; intro gb382 hg w515 hbox hb; have BK382 := Aside0.mk (hbox); have GW382 := lsz hg HB; have GE382 := lsz hg HB; replace HB := bst HB hb; clear hb hbox hg) | ((with_reducible refine gate_dst (N := 4) rfl ?_); refine bxe (N := 4) (cs := #[.int .i64 a1_0, .int .i64 a1_1]) (t := 23) ?_; intro gb383 hg w516 hbox hb; have BK383 := Aside0.mk (hbox); have GW383 := lsz hg HB; have GE383 := lsz hg HB; replace HB := bst HB hb; have NB382_383 := nlt hg BK382; have NB383_382 := ngt hg BK382; replace BK382 := bkb BK382 hb; clear hb hbox hg; have hnb517 := NB382_383.out; have hnc517 := NB383_382.out; obtain ⟨hcz518_0, hcz518_1⟩ := e2 BK382; obtain ⟨hfz518_0, hfz518_1⟩ := f2 BK382; obtain ⟨hcz519_0, hcz519_1⟩ := e2 BK383; obtain ⟨hfz519_0, hfz519_1⟩ := f2 BK383) | ((with_reducible refine gate_callee (f := 9) rfl ?_); refine gol (some 14) Try.func9 #[.agg #[.int .i64 a0_0, .int .i64 a0_1], .agg #[.int .i64 a1_0, .int .i64 a1_1]] ?_; (with_reducible refine (bound_Span.calls k a0_0 a0_1 a1_0 a1_1 t384 t385 t386 t387 t388 _ A4.out).mono ?_); rintro e w520 ⟨rfl, hb⟩; refine ⟨_, rfl, ?_⟩; replace BK382 := bkb BK382 hb; replace BK383 := bkb BK383 hb; replace HB := bst HB hb; (try clear hb); (try clear hb2); (try clear hk); (try clear hi)) | ((with_reducible refine gate_dst (N := 7) rfl ?_); refine bxe (N := 7) (cs := #[.int .i64 0, .int .i64 0, .int .i64 0, .int .i64 0]) (t := 27) ?_; intro gb389 hg w521 hbox hb; have BK389 := Aside0.mk (hbox); have GW389 := lsz hg HB; have GE389 := lsz hg HB; replace HB := bst HB hb; have NB382_389 := nlt hg BK382; have NB389_382 := ngt hg BK382; replace BK382 := bkb BK382 hb; have NB383_389 := nlt hg BK383; have NB389_383 := ngt hg BK383; replace BK383 := bkb BK383 hb; clear hb hbox hg; have hnb522 := NB389_382.out; have hnc522 := NB382_389.out; have hnb523 := NB389_383.out; have hnc523 := NB383_389.out; obtain ⟨hcz524_0, hcz524_1, hcz524_2, hcz524_3⟩ := e4 BK389; obtain ⟨hfz524_0, hfz524_1, hfz524_2, hfz524_3⟩ := f4 BK389; obtain ⟨hcz525_0, hcz525_1⟩ := e2 BK382; obtain ⟨hfz525_0, hfz525_1⟩ := f2 BK382; obtain ⟨hcz526_0, hcz526_1⟩ := e2 BK383; obtain ⟨hfz526_0, hfz526_1⟩ := f2 BK383) | ((with_reducible refine gate_callee (f := 10) rfl ?_); refine gol (some 65) Try.func10 #[] ?_; (with_reducible refine (bocagelaw04_alive.calls k  true _ A512.out rfl).mono ?_); rintro e w527 ⟨rfl, hb⟩; refine ⟨_, rfl, ?_⟩; replace BK382 := Aside0.mk (blk_below (bkf BK382 NB382_389) hb); replace BK383 := Aside0.mk (blk_below (bkf BK383 NB383_389) hb); replace BK389 := Aside0.mk (blk_below (g := gb389) (o := .cells #[.int .i64 t384, .int .i64 t385, .int .i64 t386, .int .i64 t387] 27 (0, 0)) (bkp BK389) hb); replace HB := bst HB hb; (try clear hb); (try clear hb2); (try clear hk); (try clear hi); obtain ⟨hcz528_0, hcz528_1, hcz528_2, hcz528_3⟩ := e4 BK389; obtain ⟨hfz528_0, hfz528_1, hfz528_2, hfz528_3⟩ := f4 BK389) | (go_at_call 11; (with_reducible refine (bocageref03_Has.calls k t384 t385 t386 t387 a2 t418 _ A514.out).mono ?_); rintro e w529 ⟨rfl, hb⟩; replace BK382 := bkb BK382 hb; replace BK383 := bkb BK383 hb; replace BK389 := bkb BK389 hb; replace HB := bst HB hb; (try clear hb); (try clear hb2); (try clear hk); (try clear hi)))
                go_ret
                exact endB HB
              · replace c513 := Bool.eq_false_iff.mpr c513
                subst c513
                have H1 : (some false) = some r := by rw [if_neg (show ¬ (false = true) by decide)] at H; exact H
                exact absurd ((Option.some.inj H1).trans HRT.out) Bool.false_ne_true
            · rw [if_neg c511] at H
              have c511b0 : decide (a2 < a1_1) = false := decide_eq_false c511
              clear c511
              by_cases c543 : a2 = a1_1
              · rw [if_pos c543] at H
                have c543b0 : (a2 == a1_1) = true := beq_iff_eq.mpr c543
                have c543b1 : (a2 != a1_1) = false := bne_eq_false_iff_eq.mpr c543
                clear c543
                replace H := Option.bind_eq_some_iff.mp H
                obtain ⟨t419, A5440, H⟩ := H
                (try (set_option simprocs false in dsimp only at H))
                have A544 := Aside0.mk A5440
                clear A5440
                by_cases c545 : t419 = true
                · subst c545
                  have H1 : ((bocageref03_Has.f k t384 t385 t386 t387 a2).bind fun t420 => (some (t420 == false))) = some r := by rw [if_pos rfl] at H; exact H
                  clear H
                  have H := H1
                  clear H1
                  replace H := Option.bind_eq_some_iff.mp H
                  obtain ⟨t420, A5460, H⟩ := H
                  (try (set_option simprocs false in dsimp only at H))
                  have A546 := Aside0.mk A5460
                  clear A5460
                  obtain rfl := Option.some.inj H
                  go_enter Try.func3, Try.ntmps3
                  go_wp2_with (first | ((with_reducible refine gate_dst (N := 3) rfl ?_); refine bxe (N := 3) (cs := #[.int .i64 a0_0, .int .i64 a0_1]) (t := 23) ?_; intro gb382 hg w547 hbox hb; have BK382 := Aside0.mk (hbox); have GW382 := lsz hg HB; have GE382 := lsz hg HB; replace HB := bst HB hb; clear hb hbox hg) | ((with_reducible refine gate_dst (N := 4) rfl ?_); refine bxe (N := 4) (cs := #[.int .i64 a1_0, .int .i64 a1_1]) (t := 23) ?_; intro gb383 hg w548 hbox hb; have BK383 := Aside0.mk (hbox); have GW383 := lsz hg HB; have GE383 := lsz hg HB; replace HB := bst HB hb; have NB382_383 := nlt hg BK382; have NB383_382 := ngt hg BK382; replace BK382 := bkb BK382 hb; clear hb hbox hg; have hnb549 := NB382_383.out; have hnc549 := NB383_382.out; obtain ⟨hcz550_0, hcz550_1⟩ := e2 BK382; obtain ⟨hfz550_0, hfz550_1⟩ := f2 BK382; obtain ⟨hcz551_0, hcz551_1⟩ := e2 BK383; obtain ⟨hfz551_0, hfz551_1⟩ := f2 BK383) | ((with_reducible refine gate_callee (f := 9) rfl ?_); refine gol (some 14) Try.func9 #[.agg #[.int .i64 a0_0, .int .i64 a0_1], .agg #[.int .i64 a1_0, .int .i64 a1_1]] ?_; (with_reducible refine (bound_Span.calls k a0_0 a0_1 a1_0 a1_1 t384 t385 t386 t387 t388 _ A4.out).mono ?_); rintro e w552 ⟨rfl, hb⟩; refine ⟨_, rfl, ?_⟩; replace BK382 := bkb BK382 hb; replace BK383 := bkb BK383 hb; replace HB := bst HB hb; (try clear hb); (try clear hb2); (try clear hk); (try clear hi)) | ((with_reducible refine gate_dst (N := 7) rfl ?_); refine bxe (N := 7) (cs := #[.int .i64 0, .int .i64 0, .int .i64 0, .int .i64 0]) (t := 27) ?_; intro gb389 hg w553 hbox hb; have BK389 := Aside0.mk (hbox); have GW389 := lsz hg HB; have GE389 := lsz hg HB; replace HB := bst HB hb; have NB382_389 := nlt hg BK382; have NB389_382 := ngt hg BK382; replace BK382 := bkb BK382 hb; have NB383_389 := nlt hg BK383; have NB389_383 := ngt hg BK383; replace BK383 := bkb BK383 hb; clear hb hbox hg; have hnb554 := NB389_382.out; have hnc554 := NB382_389.out; have hnb555 := NB389_383.out; have hnc555 := NB383_389.out; obtain ⟨hcz556_0, hcz556_1, hcz556_2, hcz556_3⟩ := e4 BK389; obtain ⟨hfz556_0, hfz556_1, hfz556_2, hfz556_3⟩ := f4 BK389; obtain ⟨hcz557_0, hcz557_1⟩ := e2 BK382; obtain ⟨hfz557_0, hfz557_1⟩ := f2 BK382; obtain ⟨hcz558_0, hcz558_1⟩ := e2 BK383; obtain ⟨hfz558_0, hfz558_1⟩ := f2 BK383) | ((with_reducible refine gate_callee (f := 10) rfl ?_); refine gol (some 65) Try.func10 #[] ?_; (with_reducible refine (bocagelaw04_alive.calls k  true _ A544.out rfl).mono ?_); rintro e w559 ⟨rfl, hb⟩; refine ⟨_, rfl, ?_⟩; replace BK382 := Aside0.mk (blk_below (bkf BK382 NB382_389) hb); replace BK383 := Aside0.mk (blk_below (bkf BK383 NB383_389) hb); replace BK389 := Aside0.mk (blk_below (g := gb389) (o := .cells #[.int .i64 t384, .int .i64 t385, .int .i64 t386, .int .i64 t387] 27 (0, 0)) (bkp BK389) hb); replace HB := bst HB hb; (try clear hb); (try clear hb2); (try clear hk); (try clear hi); obtain ⟨hcz560_0, hcz560_1, hcz560_2, hcz560_3⟩ := e4 BK389; obtain ⟨hfz560_0, hfz560_1, hfz560_2, hfz560_3⟩ := f4 BK389) | (go_at_call 11; (with_reducible refine (bocageref03_Has.calls k t384 t385 t386 t387 a2 t420 _ A546.out).mono ?_); rintro e w561 ⟨rfl, hb⟩; replace BK382 := bkb BK382 hb; replace BK383 := bkb BK383 hb; replace BK389 := bkb BK389 hb; replace HB := bst HB hb; (try clear hb); (try clear hb2); (try clear hk); (try clear hi)))
                  go_ret
                  exact endB HB
                · replace c545 := Bool.eq_false_iff.mpr c545
                  subst c545
                  have H1 : (some false) = some r := by rw [if_neg (show ¬ (false = true) by decide)] at H; exact H
                  exact absurd ((Option.some.inj H1).trans HRT.out) Bool.false_ne_true
              · rw [if_neg c543] at H
                have c543b0 : (a2 == a1_1) = false := beq_eq_false_iff_ne.mpr c543
                have c543b1 : (a2 != a1_1) = true := bne_iff_ne.mpr c543
                replace H := Option.bind_eq_some_iff.mp H
                obtain ⟨t421, A5750, H⟩ := H
                (try (set_option simprocs false in dsimp only at H))
                have A575 := Aside0.mk A5750
                clear A5750
                by_cases c576 : t421 = true
                · subst c576
                  have H1 : ((bocageref03_Has.f k t384 t385 t386 t387 a2).bind fun t422 => (some (t422 == false))) = some r := by rw [if_pos rfl] at H; exact H
                  clear H
                  have H := H1
                  clear H1
                  replace H := Option.bind_eq_some_iff.mp H
                  obtain ⟨t422, A5770, H⟩ := H
                  (try (set_option simprocs false in dsimp only at H))
                  have A577 := Aside0.mk A5770
                  clear A5770
                  obtain rfl := Option.some.inj H
                  go_enter Try.func3, Try.ntmps3
                  go_wp2_with (first | ((with_reducible refine gate_dst (N := 3) rfl ?_); refine bxe (N := 3) (cs := #[.int .i64 a0_0, .int .i64 a0_1]) (t := 23) ?_; intro gb382 hg w578 hbox hb; have BK382 := Aside0.mk (hbox); have GW382 := lsz hg HB; have GE382 := lsz hg HB; replace HB := bst HB hb; clear hb hbox hg) | ((with_reducible refine gate_dst (N := 4) rfl ?_); refine bxe (N := 4) (cs := #[.int .i64 a1_0, .int .i64 a1_1]) (t := 23) ?_; intro gb383 hg w579 hbox hb; have BK383 := Aside0.mk (hbox); have GW383 := lsz hg HB; have GE383 := lsz hg HB; replace HB := bst HB hb; have NB382_383 := nlt hg BK382; have NB383_382 := ngt hg BK382; replace BK382 := bkb BK382 hb; clear hb hbox hg; have hnb580 := NB382_383.out; have hnc580 := NB383_382.out; obtain ⟨hcz581_0, hcz581_1⟩ := e2 BK382; obtain ⟨hfz581_0, hfz581_1⟩ := f2 BK382; obtain ⟨hcz582_0, hcz582_1⟩ := e2 BK383; obtain ⟨hfz582_0, hfz582_1⟩ := f2 BK383) | ((with_reducible refine gate_callee (f := 9) rfl ?_); refine gol (some 14) Try.func9 #[.agg #[.int .i64 a0_0, .int .i64 a0_1], .agg #[.int .i64 a1_0, .int .i64 a1_1]] ?_; (with_reducible refine (bound_Span.calls k a0_0 a0_1 a1_0 a1_1 t384 t385 t386 t387 t388 _ A4.out).mono ?_); rintro e w583 ⟨rfl, hb⟩; refine ⟨_, rfl, ?_⟩; replace BK382 := bkb BK382 hb; replace BK383 := bkb BK383 hb; replace HB := bst HB hb; (try clear hb); (try clear hb2); (try clear hk); (try clear hi)) | ((with_reducible refine gate_dst (N := 7) rfl ?_); refine bxe (N := 7) (cs := #[.int .i64 0, .int .i64 0, .int .i64 0, .int .i64 0]) (t := 27) ?_; intro gb389 hg w584 hbox hb; have BK389 := Aside0.mk (hbox); have GW389 := lsz hg HB; have GE389 := lsz hg HB; replace HB := bst HB hb; have NB382_389 := nlt hg BK382; have NB389_382 := ngt hg BK382; replace BK382 := bkb BK382 hb; have NB383_389 := nlt hg BK383; have NB389_383 := ngt hg BK383; replace BK383 := bkb BK383 hb; clear hb hbox hg; have hnb585 := NB389_382.out; have hnc585 := NB382_389.out; have hnb586 := NB389_383.out; have hnc586 := NB383_389.out; obtain ⟨hcz587_0, hcz587_1, hcz587_2, hcz587_3⟩ := e4 BK389; obtain ⟨hfz587_0, hfz587_1, hfz587_2, hfz587_3⟩ := f4 BK389; obtain ⟨hcz588_0, hcz588_1⟩ := e2 BK382; obtain ⟨hfz588_0, hfz588_1⟩ := f2 BK382; obtain ⟨hcz589_0, hcz589_1⟩ := e2 BK383; obtain ⟨hfz589_0, hfz589_1⟩ := f2 BK383) | ((with_reducible refine gate_callee (f := 10) rfl ?_); refine gol (some 65) Try.func10 #[] ?_; (with_reducible refine (bocagelaw04_alive.calls k  true _ A575.out rfl).mono ?_); rintro e w590 ⟨rfl, hb⟩; refine ⟨_, rfl, ?_⟩; replace BK382 := Aside0.mk (blk_below (bkf BK382 NB382_389) hb); replace BK383 := Aside0.mk (blk_below (bkf BK383 NB383_389) hb); replace BK389 := Aside0.mk (blk_below (g := gb389) (o := .cells #[.int .i64 t384, .int .i64 t385, .int .i64 t386, .int .i64 t387] 27 (0, 0)) (bkp BK389) hb); replace HB := bst HB hb; (try clear hb); (try clear hb2); (try clear hk); (try clear hi); obtain ⟨hcz591_0, hcz591_1, hcz591_2, hcz591_3⟩ := e4 BK389; obtain ⟨hfz591_0, hfz591_1, hfz591_2, hfz591_3⟩ := f4 BK389) | (go_at_call 11; (with_reducible refine (bocageref03_Has.calls k t384 t385 t386 t387 a2 t422 _ A577.out).mono ?_); rintro e w592 ⟨rfl, hb⟩; replace BK382 := bkb BK382 hb; replace BK383 := bkb BK383 hb; replace BK389 := bkb BK389 hb; replace HB := bst HB hb; (try clear hb); (try clear hb2); (try clear hk); (try clear hi)))
                  go_ret
                  exact endB HB
                · replace c576 := Bool.eq_false_iff.mpr c576
                  subst c576
                  have H1 : (some false) = some r := by rw [if_neg (show ¬ (false = true) by decide)] at H; exact H
                  exact absurd ((Option.some.inj H1).trans HRT.out) Bool.false_ne_true
end
end Go.Proofs.Ytpeidnkbliafkaa.Print
