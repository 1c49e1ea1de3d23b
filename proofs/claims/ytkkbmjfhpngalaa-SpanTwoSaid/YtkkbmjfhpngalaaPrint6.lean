-- Laid by wip/print/bprint.py of this repo, over the kit's printer, with functions given by hand; not trusted: Lean checks it.
import Derived.Test.YtkkbmjfhpngalaaPrint0
import Derived.Test.YtkkbmjfhpngalaaPrint4
import Derived.Test.YtkkbmjfhpngalaaPrint5
import Derived.Test.YtkkbmjfhpngalaaSh
namespace Go.Proofs.Ytkkbmjfhpngalaa.Print
open Go.RowKit Go.Proofs.YtkkbmjfhpngalaaW.PrintWords Go.Proofs.YtkkbmjfhpngalaaW.PrintLast Go.Proofs.YtkkbmjfhpngalaaW.PrintMore
attribute [local go_sem] max2_int min2_int max_two min_two max_three min_three max_four min_four   -- for this text's walks alone
set_option linter.unusedVariables false
set_option linter.unusedSimpArgs false
/-! ### bocageref03_Has: function 30 -/
def bocageref03_Has.f (k : Nat) (a0_0 : Int) (a0_1 : Int) (a0_2 : Int) (a0_3 : Int) (a1 : Int) : Option (Bool) := (bocageref02_Ahead.f k a1).bind fun bt124 => ((bocageref03_Right.f k a0_0 a0_1 a0_2 a0_3).bind fun t127 => (if t127 = true then ((bocageref02_Less.f k bt124.1 bt124.2 a0_0 a0_1).bind fun t128 => (if t128 = true then (some false) else ((bocageref02_Less.f k bt124.1 bt124.2 a0_2 a0_3).bind fun t129 => (some t129)))) else (some false)))
theorem bocageref03_Has.mono : ∀ a0 a1 a2 a3 a4 k, LeO (bocageref03_Has.f k a0 a1 a2 a3 a4) (bocageref03_Has.f (k + 1) a0 a1 a2 a3 a4) := by
  intro a0 a1 a2 a3 a4 k
  unfold bocageref03_Has.f
  repeat' first
      | (with_reducible exact bocageref02_Ahead.mono _ _)
      | (with_reducible exact bocageref02_Less.mono _ _ _ _ _)
      | (with_reducible exact bocageref03_Right.mono _ _ _ _ _)
      | (with_reducible exact LeO.refl _)
      | (with_reducible exact LeO.none _)
      | (with_reducible refine LeO.ite ?_ ?_)
      | (with_reducible refine LeO.bind ?_ (fun _ => ?_))
      | exact bocageref02_Ahead.mono _ _
      | exact bocageref02_Less.mono _ _ _ _ _
      | exact bocageref03_Right.mono _ _ _ _ _
      | exact LeO.none _
      | refine LeO.ite ?_ ?_
      | refine LeO.bind ?_ (fun _ => ?_)
set_option maxHeartbeats 8000000 in
set_option maxRecDepth 100000 in
theorem bocageref03_Has.calls (k : Nat) (a0_0 : Int) (a0_1 : Int) (a0_2 : Int) (a0_3 : Int) (a1 : Int) (r : Bool) (w : World) (h : bocageref03_Has.f k a0_0 a0_1 a0_2 a0_3 a1 = some r) :
    Calls Try.prog 30 #[.agg #[.int .i64 a0_0, .int .i64 a0_1, .int .i64 a0_2, .int .i64 a0_3], .int .i64 a1] w fun e w' => e = .returned (.bool r) ∧ Below w.heap.size w w' := by
  have hu25 := Try.underlying25
  have hu23 := Try.underlying23
  have HB := Aside0.mk (Below.refl w.heap.size w)
  have H : ((bocageref02_Ahead.f k a1).bind fun bt124 => ((bocageref03_Right.f k a0_0 a0_1 a0_2 a0_3).bind fun t127 => (if t127 = true then ((bocageref02_Less.f k bt124.1 bt124.2 a0_0 a0_1).bind fun t128 => (if t128 = true then (some false) else ((bocageref02_Less.f k bt124.1 bt124.2 a0_2 a0_3).bind fun t129 => (some t129)))) else (some false)))) = some r := h
  clear h
  replace H := Option.bind_eq_some_iff.mp H
  obtain ⟨⟨t124, t125⟩, A30, H⟩ := H
  (try (set_option simprocs false in dsimp only at H))
  have A3 := Aside0.mk A30
  clear A30
  replace H := Option.bind_eq_some_iff.mp H
  obtain ⟨t127, A40, H⟩ := H
  (try (set_option simprocs false in dsimp only at H))
  have A4 := Aside0.mk A40
  clear A40
  by_cases c5 : t127 = true
  · subst c5
    have H1 : ((bocageref02_Less.f k t124 t125 a0_0 a0_1).bind fun t128 => (if t128 = true then (some false) else ((bocageref02_Less.f k t124 t125 a0_2 a0_3).bind fun t129 => (some t129)))) = some r := by rw [if_pos rfl] at H; exact H
    clear H
    have H := H1
    clear H1
    replace H := Option.bind_eq_some_iff.mp H
    obtain ⟨t128, A60, H⟩ := H
    (try (set_option simprocs false in dsimp only at H))
    have A6 := Aside0.mk A60
    clear A60
    by_cases c7 : t128 = true
    · subst c7
      have H1 : (some false) = some r := by rw [if_pos rfl] at H; exact H
      clear H
      have H := H1
      clear H1
      obtain rfl := Option.some.inj H
      go_enter Try.func30, Try.ntmps30
      go_wp2_with (first | ((with_reducible refine gate_dst (N := 2) rfl ?_); refine bxe (N := 2) (cs := #[.int .i64 a0_0, .int .i64 a0_1, .int .i64 a0_2, .int .i64 a0_3]) (t := 25) ?_; intro gb123 hg w8 hbox hb; have BK123 := Aside0.mk (hbox); have GW123 := lsz hg HB; have GE123 := lsz hg HB; replace HB := bst HB hb; clear hb hbox hg) | ((with_reducible refine gate_callee (f := 35) rfl ?_); refine gol (some 7) Try.func35 #[.int .i64 a1] ?_; (with_reducible refine (bocageref02_Ahead.calls k a1 t124 t125 _ A3.out).mono ?_); rintro e w9 ⟨rfl, hb⟩; refine ⟨_, rfl, ?_⟩; replace BK123 := bkb BK123 hb; replace HB := bst HB hb; (try clear hb); (try clear hb2); (try clear hk); (try clear hi)) | ((with_reducible refine gate_dst (N := 5) rfl ?_); refine bxe (N := 5) (cs := #[.int .i64 0, .int .i64 0]) (t := 23) ?_; intro gb126 hg w10 hbox hb; have BK126 := Aside0.mk (hbox); have GW126 := lsz hg HB; have GE126 := lsz hg HB; replace HB := bst HB hb; have NB123_126 := nlt hg BK123; have NB126_123 := ngt hg BK123; replace BK123 := bkb BK123 hb; clear hb hbox hg; have hnb11 := NB126_123.out; have hnc11 := NB123_126.out; obtain ⟨hcz12_0, hcz12_1⟩ := e2 BK126; obtain ⟨hfz12_0, hfz12_1⟩ := f2 BK126; obtain ⟨hcz13_0, hcz13_1, hcz13_2, hcz13_3⟩ := e4 BK123; obtain ⟨hfz13_0, hfz13_1, hfz13_2, hfz13_3⟩ := f4 BK123) | ((with_reducible refine gate_callee (f := 12) rfl ?_); refine gol (some 9) Try.func12 #[.agg #[.int .i64 a0_0, .int .i64 a0_1, .int .i64 a0_2, .int .i64 a0_3]] ?_; (with_reducible refine (bocageref03_Right.calls k a0_0 a0_1 a0_2 a0_3 true _ A4.out).mono ?_); rintro e w14 ⟨rfl, hb⟩; refine ⟨_, rfl, ?_⟩; replace BK123 := Aside0.mk (blk_below (bkf BK123 NB123_126) hb); replace BK126 := Aside0.mk (blk_below (g := gb126) (o := .cells #[.int .i64 t124, .int .i64 t125] 23 (0, 0)) (bkp BK126) hb); replace HB := bst HB hb; (try clear hb); (try clear hb2); (try clear hk); (try clear hi); obtain ⟨hcz15_0, hcz15_1⟩ := e2 BK126; obtain ⟨hfz15_0, hfz15_1⟩ := f2 BK126; obtain ⟨hcz16_0, hcz16_1, hcz16_2, hcz16_3⟩ := e4 BK123; obtain ⟨hfz16_0, hfz16_1, hfz16_2, hfz16_3⟩ := f4 BK123) | (go_at_call 49; (with_reducible refine (bocageref02_Less.calls k t124 t125 a0_0 a0_1 true _ A6.out).mono ?_); rintro e w17 ⟨rfl, hb⟩; replace BK123 := bkb BK123 hb; replace BK126 := bkb BK126 hb; replace HB := bst HB hb; (try clear hb); (try clear hb2); (try clear hk); (try clear hi)))
      go_ret
      exact endB HB
    · replace c7 := Bool.eq_false_iff.mpr c7
      subst c7
      have H1 : ((bocageref02_Less.f k t124 t125 a0_2 a0_3).bind fun t129 => (some t129)) = some r := by rw [if_neg (show ¬ (false = true) by decide)] at H; exact H
      clear H
      have H := H1
      clear H1
      replace H := Option.bind_eq_some_iff.mp H
      obtain ⟨t129, A180, H⟩ := H
      (try (set_option simprocs false in dsimp only at H))
      have A18 := Aside0.mk A180
      clear A180
      obtain rfl := Option.some.inj H
      go_enter Try.func30, Try.ntmps30
      go_wp2_with (first | ((with_reducible refine gate_dst (N := 2) rfl ?_); refine bxe (N := 2) (cs := #[.int .i64 a0_0, .int .i64 a0_1, .int .i64 a0_2, .int .i64 a0_3]) (t := 25) ?_; intro gb123 hg w19 hbox hb; have BK123 := Aside0.mk (hbox); have GW123 := lsz hg HB; have GE123 := lsz hg HB; replace HB := bst HB hb; clear hb hbox hg) | ((with_reducible refine gate_callee (f := 35) rfl ?_); refine gol (some 7) Try.func35 #[.int .i64 a1] ?_; (with_reducible refine (bocageref02_Ahead.calls k a1 t124 t125 _ A3.out).mono ?_); rintro e w20 ⟨rfl, hb⟩; refine ⟨_, rfl, ?_⟩; replace BK123 := bkb BK123 hb; replace HB := bst HB hb; (try clear hb); (try clear hb2); (try clear hk); (try clear hi)) | ((with_reducible refine gate_dst (N := 5) rfl ?_); refine bxe (N := 5) (cs := #[.int .i64 0, .int .i64 0]) (t := 23) ?_; intro gb126 hg w21 hbox hb; have BK126 := Aside0.mk (hbox); have GW126 := lsz hg HB; have GE126 := lsz hg HB; replace HB := bst HB hb; have NB123_126 := nlt hg BK123; have NB126_123 := ngt hg BK123; replace BK123 := bkb BK123 hb; clear hb hbox hg; have hnb22 := NB126_123.out; have hnc22 := NB123_126.out; obtain ⟨hcz23_0, hcz23_1⟩ := e2 BK126; obtain ⟨hfz23_0, hfz23_1⟩ := f2 BK126; obtain ⟨hcz24_0, hcz24_1, hcz24_2, hcz24_3⟩ := e4 BK123; obtain ⟨hfz24_0, hfz24_1, hfz24_2, hfz24_3⟩ := f4 BK123) | ((with_reducible refine gate_callee (f := 12) rfl ?_); refine gol (some 9) Try.func12 #[.agg #[.int .i64 a0_0, .int .i64 a0_1, .int .i64 a0_2, .int .i64 a0_3]] ?_; (with_reducible refine (bocageref03_Right.calls k a0_0 a0_1 a0_2 a0_3 true _ A4.out).mono ?_); rintro e w25 ⟨rfl, hb⟩; refine ⟨_, rfl, ?_⟩; replace BK123 := Aside0.mk (blk_below (bkf BK123 NB123_126) hb); replace BK126 := Aside0.mk (blk_below (g := gb126) (o := .cells #[.int .i64 t124, .int .i64 t125] 23 (0, 0)) (bkp BK126) hb); replace HB := bst HB hb; (try clear hb); (try clear hb2); (try clear hk); (try clear hi); obtain ⟨hcz26_0, hcz26_1⟩ := e2 BK126; obtain ⟨hfz26_0, hfz26_1⟩ := f2 BK126; obtain ⟨hcz27_0, hcz27_1, hcz27_2, hcz27_3⟩ := e4 BK123; obtain ⟨hfz27_0, hfz27_1, hfz27_2, hfz27_3⟩ := f4 BK123) | (go_at_call 49; (with_reducible refine (bocageref02_Less.calls k t124 t125 a0_0 a0_1 false _ A6.out).mono ?_); rintro e w28 ⟨rfl, hb⟩; replace BK123 := bkb BK123 hb; replace BK126 := bkb BK126 hb; replace HB := bst HB hb; (try clear hb); (try clear hb2); (try clear hk); (try clear hi); obtain ⟨hcz29_0, hcz29_1⟩ := e2 BK126; obtain ⟨hfz29_0, hfz29_1⟩ := f2 BK126; obtain ⟨hcz30_0, hcz30_1, hcz30_2, hcz30_3⟩ := e4 BK123; obtain ⟨hfz30_0, hfz30_1, hfz30_2, hfz30_3⟩ := f4 BK123) | (go_at_call 49; (with_reducible refine (bocageref02_Less.calls k t124 t125 a0_2 a0_3 t129 _ A18.out).mono ?_); rintro e w31 ⟨rfl, hb⟩; replace BK123 := bkb BK123 hb; replace BK126 := bkb BK126 hb; replace HB := bst HB hb; (try clear hb); (try clear hb2); (try clear hk); (try clear hi)))
      go_ret
      exact endB HB
  · replace c5 := Bool.eq_false_iff.mpr c5
    subst c5
    have H1 : (some false) = some r := by rw [if_neg (show ¬ (false = true) by decide)] at H; exact H
    clear H
    have H := H1
    clear H1
    obtain rfl := Option.some.inj H
    go_enter Try.func30, Try.ntmps30
    go_wp2_with (first | ((with_reducible refine gate_dst (N := 2) rfl ?_); refine bxe (N := 2) (cs := #[.int .i64 a0_0, .int .i64 a0_1, .int .i64 a0_2, .int .i64 a0_3]) (t := 25) ?_; intro gb123 hg w32 hbox hb; have BK123 := Aside0.mk (hbox); have GW123 := lsz hg HB; have GE123 := lsz hg HB; replace HB := bst HB hb; clear hb hbox hg) | ((with_reducible refine gate_callee (f := 35) rfl ?_); refine gol (some 7) Try.func35 #[.int .i64 a1] ?_; (with_reducible refine (bocageref02_Ahead.calls k a1 t124 t125 _ A3.out).mono ?_); rintro e w33 ⟨rfl, hb⟩; refine ⟨_, rfl, ?_⟩; replace BK123 := bkb BK123 hb; replace HB := bst HB hb; (try clear hb); (try clear hb2); (try clear hk); (try clear hi)) | ((with_reducible refine gate_dst (N := 5) rfl ?_); refine bxe (N := 5) (cs := #[.int .i64 0, .int .i64 0]) (t := 23) ?_; intro gb126 hg w34 hbox hb; have BK126 := Aside0.mk (hbox); have GW126 := lsz hg HB; have GE126 := lsz hg HB; replace HB := bst HB hb; have NB123_126 := nlt hg BK123; have NB126_123 := ngt hg BK123; replace BK123 := bkb BK123 hb; clear hb hbox hg; have hnb35 := NB126_123.out; have hnc35 := NB123_126.out; obtain ⟨hcz36_0, hcz36_1⟩ := e2 BK126; obtain ⟨hfz36_0, hfz36_1⟩ := f2 BK126; obtain ⟨hcz37_0, hcz37_1, hcz37_2, hcz37_3⟩ := e4 BK123; obtain ⟨hfz37_0, hfz37_1, hfz37_2, hfz37_3⟩ := f4 BK123) | ((with_reducible refine gate_callee (f := 12) rfl ?_); refine gol (some 9) Try.func12 #[.agg #[.int .i64 a0_0, .int .i64 a0_1, .int .i64 a0_2, .int .i64 a0_3]] ?_; (with_reducible refine (bocageref03_Right.calls k a0_0 a0_1 a0_2 a0_3 false _ A4.out).mono ?_); rintro e w38 ⟨rfl, hb⟩; refine ⟨_, rfl, ?_⟩; replace BK123 := Aside0.mk (blk_below (bkf BK123 NB123_126) hb); replace BK126 := Aside0.mk (blk_below (g := gb126) (o := .cells #[.int .i64 t124, .int .i64 t125] 23 (0, 0)) (bkp BK126) hb); replace HB := bst HB hb; (try clear hb); (try clear hb2); (try clear hk); (try clear hi)))
    go_ret
    exact endB HB
end Go.Proofs.Ytkkbmjfhpngalaa.Print
