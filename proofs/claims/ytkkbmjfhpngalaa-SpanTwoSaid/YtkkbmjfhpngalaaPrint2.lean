-- Laid by wip/print/bprint.py of this repo, over the kit's printer, with functions given by hand; not trusted: Lean checks it.
import Derived.Test.YtkkbmjfhpngalaaPrint0
import Derived.Test.YtkkbmjfhpngalaaPrint1
import Derived.Test.YtkkbmjfhpngalaaSh
namespace Go.Proofs.Ytkkbmjfhpngalaa.Print
open Go.RowKit Go.Proofs.YtkkbmjfhpngalaaW.PrintWords Go.Proofs.YtkkbmjfhpngalaaW.PrintLast Go.Proofs.YtkkbmjfhpngalaaW.PrintMore
attribute [local go_sem] max2_int min2_int max_two min_two max_three min_three max_four min_four   -- for this text's walks alone
set_option linter.unusedVariables false
set_option linter.unusedSimpArgs false
/-! ### span_Overlap: function 13 -/
def span_Overlap.f (k : Nat) (a0_0 : Int) (a0_1 : Int) (a0_2 : Int) (a0_3 : Int) (a1_0 : Int) (a1_1 : Int) (a1_2 : Int) (a1_3 : Int) : Option (Bool) := (span_Meet.f k a0_0 a0_1 a0_2 a0_3 a1_0 a1_1 a1_2 a1_3).bind fun bt302 => (some bt302.2.2.2.2)
theorem span_Overlap.mono : ∀ a0 a1 a2 a3 a4 a5 a6 a7 k, LeO (span_Overlap.f k a0 a1 a2 a3 a4 a5 a6 a7) (span_Overlap.f (k + 1) a0 a1 a2 a3 a4 a5 a6 a7) := by
  intro a0 a1 a2 a3 a4 a5 a6 a7 k
  unfold span_Overlap.f
  repeat' first
      | (with_reducible exact span_Meet.mono _ _ _ _ _ _ _ _ _)
      | (with_reducible exact LeO.refl _)
      | (with_reducible exact LeO.none _)
      | (with_reducible refine LeO.ite ?_ ?_)
      | (with_reducible refine LeO.bind ?_ (fun _ => ?_))
      | exact span_Meet.mono _ _ _ _ _ _ _ _ _
      | exact LeO.none _
      | refine LeO.ite ?_ ?_
      | refine LeO.bind ?_ (fun _ => ?_)
set_option maxHeartbeats 8000000 in
set_option maxRecDepth 100000 in
theorem span_Overlap.calls (k : Nat) (a0_0 : Int) (a0_1 : Int) (a0_2 : Int) (a0_3 : Int) (a1_0 : Int) (a1_1 : Int) (a1_2 : Int) (a1_3 : Int) (r : Bool) (w : World) (h : span_Overlap.f k a0_0 a0_1 a0_2 a0_3 a1_0 a1_1 a1_2 a1_3 = some r) :
    Calls Try.prog 13 #[.agg #[.int .i64 a0_0, .int .i64 a0_1, .int .i64 a0_2, .int .i64 a0_3], .agg #[.int .i64 a1_0, .int .i64 a1_1, .int .i64 a1_2, .int .i64 a1_3]] w fun e w' => e = .returned (.bool r) ∧ Below w.heap.size w w' := by
  have hu25 := Try.underlying25
  have HB := Aside0.mk (Below.refl w.heap.size w)
  have H : ((span_Meet.f k a0_0 a0_1 a0_2 a0_3 a1_0 a1_1 a1_2 a1_3).bind fun bt302 => (some bt302.2.2.2.2)) = some r := h
  clear h
  replace H := Option.bind_eq_some_iff.mp H
  obtain ⟨⟨t302, t303, t304, t305, t306⟩, A30, H⟩ := H
  (try (set_option simprocs false in dsimp only at H))
  have A3 := Aside0.mk A30
  clear A30
  obtain rfl := Option.some.inj H
  go_enter Try.func13, Try.ntmps13
  go_wp2_with (first | ((with_reducible refine gate_dst (N := 2) rfl ?_); refine bxe (N := 2) (cs := #[.int .i64 a0_0, .int .i64 a0_1, .int .i64 a0_2, .int .i64 a0_3]) (t := 25) ?_; intro gb300 hg w4 hbox hb; have BK300 := Aside0.mk (hbox); have GW300 := lsz hg HB; have GE300 := lsz hg HB; replace HB := bst HB hb; clear hb hbox hg) | ((with_reducible refine gate_dst (N := 3) rfl ?_); refine bxe (N := 3) (cs := #[.int .i64 a1_0, .int .i64 a1_1, .int .i64 a1_2, .int .i64 a1_3]) (t := 25) ?_; intro gb301 hg w5 hbox hb; have BK301 := Aside0.mk (hbox); have GW301 := lsz hg HB; have GE301 := lsz hg HB; replace HB := bst HB hb; have NB300_301 := nlt hg BK300; have NB301_300 := ngt hg BK300; replace BK300 := bkb BK300 hb; clear hb hbox hg; have hnb6 := NB300_301.out; have hnc6 := NB301_300.out; obtain ⟨hcz7_0, hcz7_1, hcz7_2, hcz7_3⟩ := e4 BK300; obtain ⟨hfz7_0, hfz7_1, hfz7_2, hfz7_3⟩ := f4 BK300; obtain ⟨hcz8_0, hcz8_1, hcz8_2, hcz8_3⟩ := e4 BK301; obtain ⟨hfz8_0, hfz8_1, hfz8_2, hfz8_3⟩ := f4 BK301) | ((with_reducible refine gate_callee (f := 11) rfl ?_); refine gol (some 10) Try.func11 #[.agg #[.int .i64 a0_0, .int .i64 a0_1, .int .i64 a0_2, .int .i64 a0_3], .agg #[.int .i64 a1_0, .int .i64 a1_1, .int .i64 a1_2, .int .i64 a1_3]] ?_; (with_reducible refine (span_Meet.calls k a0_0 a0_1 a0_2 a0_3 a1_0 a1_1 a1_2 a1_3 t302 t303 t304 t305 t306 _ A3.out).mono ?_); rintro e w9 ⟨rfl, hb⟩; refine ⟨_, rfl, ?_⟩; replace BK300 := bkb BK300 hb; replace BK301 := bkb BK301 hb; replace HB := bst HB hb; (try clear hb); (try clear hb2); (try clear hk); (try clear hi)) | ((with_reducible refine gate_dst (N := 5) rfl ?_); refine bxe (N := 5) (cs := #[.int .i64 0, .int .i64 0, .int .i64 0, .int .i64 0]) (t := 25) ?_; intro gb307 hg w10 hbox hb; have BK307 := Aside0.mk (hbox); have GW307 := lsz hg HB; have GE307 := lsz hg HB; replace HB := bst HB hb; have NB300_307 := nlt hg BK300; have NB307_300 := ngt hg BK300; replace BK300 := bkb BK300 hb; have NB301_307 := nlt hg BK301; have NB307_301 := ngt hg BK301; replace BK301 := bkb BK301 hb; clear hb hbox hg; have hnb11 := NB307_300.out; have hnc11 := NB300_307.out; have hnb12 := NB307_301.out; have hnc12 := NB301_307.out; obtain ⟨hcz13_0, hcz13_1, hcz13_2, hcz13_3⟩ := e4 BK307; obtain ⟨hfz13_0, hfz13_1, hfz13_2, hfz13_3⟩ := f4 BK307))
  go_ret
  exact endB HB
/-! ### span_Holds: function 19 -/
def span_Holds.f (k : Nat) (a0_0 : Int) (a0_1 : Int) (a0_2 : Int) (a0_3 : Int) (a1_0 : Int) (a1_1 : Int) (a1_2 : Int) (a1_3 : Int) : Option (Bool) := (span_both.f k a0_0 a0_1 a0_2 a0_3 a1_0 a1_1 a1_2 a1_3).bind fun t326 => (if t326 = true then ((cut_Compare.f k a0_0 a0_1 a1_0 a1_1).bind fun t327 => (if t327 ≤ 0 then ((cut_Compare.f k a1_2 a1_3 a0_2 a0_3).bind fun t328 => (some (decide (t328 ≤ 0)))) else (some false))) else (some false))
theorem span_Holds.mono : ∀ a0 a1 a2 a3 a4 a5 a6 a7 k, LeO (span_Holds.f k a0 a1 a2 a3 a4 a5 a6 a7) (span_Holds.f (k + 1) a0 a1 a2 a3 a4 a5 a6 a7) := by
  intro a0 a1 a2 a3 a4 a5 a6 a7 k
  unfold span_Holds.f
  repeat' first
      | (with_reducible exact cut_Compare.mono _ _ _ _ _)
      | (with_reducible exact span_both.mono _ _ _ _ _ _ _ _ _)
      | (with_reducible exact LeO.refl _)
      | (with_reducible exact LeO.none _)
      | (with_reducible refine LeO.ite ?_ ?_)
      | (with_reducible refine LeO.bind ?_ (fun _ => ?_))
      | exact cut_Compare.mono _ _ _ _ _
      | exact span_both.mono _ _ _ _ _ _ _ _ _
      | exact LeO.none _
      | refine LeO.ite ?_ ?_
      | refine LeO.bind ?_ (fun _ => ?_)
set_option maxHeartbeats 8000000 in
set_option maxRecDepth 100000 in
theorem span_Holds.calls (k : Nat) (a0_0 : Int) (a0_1 : Int) (a0_2 : Int) (a0_3 : Int) (a1_0 : Int) (a1_1 : Int) (a1_2 : Int) (a1_3 : Int) (r : Bool) (w : World) (h : span_Holds.f k a0_0 a0_1 a0_2 a0_3 a1_0 a1_1 a1_2 a1_3 = some r) :
    Calls Try.prog 19 #[.agg #[.int .i64 a0_0, .int .i64 a0_1, .int .i64 a0_2, .int .i64 a0_3], .agg #[.int .i64 a1_0, .int .i64 a1_1, .int .i64 a1_2, .int .i64 a1_3]] w fun e w' => e = .returned (.bool r) ∧ Below w.heap.size w w' := by
  have hu25 := Try.underlying25
  have hu23 := Try.underlying23
  have HB := Aside0.mk (Below.refl w.heap.size w)
  have H : ((span_both.f k a0_0 a0_1 a0_2 a0_3 a1_0 a1_1 a1_2 a1_3).bind fun t326 => (if t326 = true then ((cut_Compare.f k a0_0 a0_1 a1_0 a1_1).bind fun t327 => (if t327 ≤ 0 then ((cut_Compare.f k a1_2 a1_3 a0_2 a0_3).bind fun t328 => (some (decide (t328 ≤ 0)))) else (some false))) else (some false))) = some r := h
  clear h
  replace H := Option.bind_eq_some_iff.mp H
  obtain ⟨t326, A30, H⟩ := H
  (try (set_option simprocs false in dsimp only at H))
  have A3 := Aside0.mk A30
  clear A30
  by_cases c4 : t326 = true
  · subst c4
    have H1 : ((cut_Compare.f k a0_0 a0_1 a1_0 a1_1).bind fun t327 => (if t327 ≤ 0 then ((cut_Compare.f k a1_2 a1_3 a0_2 a0_3).bind fun t328 => (some (decide (t328 ≤ 0)))) else (some false))) = some r := by rw [if_pos rfl] at H; exact H
    clear H
    have H := H1
    clear H1
    replace H := Option.bind_eq_some_iff.mp H
    obtain ⟨t327, A50, H⟩ := H
    (try (set_option simprocs false in dsimp only at H))
    have A5 := Aside0.mk A50
    clear A50
    by_cases c6 : t327 ≤ 0
    · rw [if_pos c6] at H
      have c6b0 : decide (t327 ≤ 0) = true := decide_eq_true c6
      clear c6
      replace H := Option.bind_eq_some_iff.mp H
      obtain ⟨t328, A70, H⟩ := H
      (try (set_option simprocs false in dsimp only at H))
      have A7 := Aside0.mk A70
      clear A70
      obtain rfl := Option.some.inj H
      go_enter Try.func19, Try.ntmps19
      go_wp2_with (first | ((with_reducible refine gate_dst (N := 2) rfl ?_); refine bxe (N := 2) (cs := #[.int .i64 a0_0, .int .i64 a0_1, .int .i64 a0_2, .int .i64 a0_3]) (t := 25) ?_; intro gb324 hg w8 hbox hb; have BK324 := Aside0.mk (hbox); have GW324 := lsz hg HB; have GE324 := lsz hg HB; replace HB := bst HB hb; clear hb hbox hg) | ((with_reducible refine gate_dst (N := 3) rfl ?_); refine bxe (N := 3) (cs := #[.int .i64 a1_0, .int .i64 a1_1, .int .i64 a1_2, .int .i64 a1_3]) (t := 25) ?_; intro gb325 hg w9 hbox hb; have BK325 := Aside0.mk (hbox); have GW325 := lsz hg HB; have GE325 := lsz hg HB; replace HB := bst HB hb; have NB324_325 := nlt hg BK324; have NB325_324 := ngt hg BK324; replace BK324 := bkb BK324 hb; clear hb hbox hg; have hnb10 := NB324_325.out; have hnc10 := NB325_324.out; obtain ⟨hcz11_0, hcz11_1, hcz11_2, hcz11_3⟩ := e4 BK324; obtain ⟨hfz11_0, hfz11_1, hfz11_2, hfz11_3⟩ := f4 BK324; obtain ⟨hcz12_0, hcz12_1, hcz12_2, hcz12_3⟩ := e4 BK325; obtain ⟨hfz12_0, hfz12_1, hfz12_2, hfz12_3⟩ := f4 BK325) | ((with_reducible refine gate_callee (f := 45) rfl ?_); refine gol (some 7) Try.func45 #[.agg #[.int .i64 a0_0, .int .i64 a0_1, .int .i64 a0_2, .int .i64 a0_3], .agg #[.int .i64 a1_0, .int .i64 a1_1, .int .i64 a1_2, .int .i64 a1_3]] ?_; (with_reducible refine (span_both.calls k a0_0 a0_1 a0_2 a0_3 a1_0 a1_1 a1_2 a1_3 true _ A3.out).mono ?_); rintro e w13 ⟨rfl, hb⟩; refine ⟨_, rfl, ?_⟩; replace BK324 := bkb BK324 hb; replace BK325 := bkb BK325 hb; replace HB := bst HB hb; (try clear hb); (try clear hb2); (try clear hk); (try clear hi); obtain ⟨hcz14_0, hcz14_1, hcz14_2, hcz14_3⟩ := e4 BK324; obtain ⟨hfz14_0, hfz14_1, hfz14_2, hfz14_3⟩ := f4 BK324; obtain ⟨hcz15_0, hcz15_1, hcz15_2, hcz15_3⟩ := e4 BK325; obtain ⟨hfz15_0, hfz15_1, hfz15_2, hfz15_3⟩ := f4 BK325) | (go_at_call 53; (with_reducible refine (cut_Compare.calls k a0_0 a0_1 a1_0 a1_1 t327 _ A5.out).mono ?_); rintro e w16 ⟨rfl, hb⟩; replace BK324 := bkb BK324 hb; replace BK325 := bkb BK325 hb; replace HB := bst HB hb; (try clear hb); (try clear hb2); (try clear hk); (try clear hi); obtain ⟨hcz17_0, hcz17_1, hcz17_2, hcz17_3⟩ := e4 BK325; obtain ⟨hfz17_0, hfz17_1, hfz17_2, hfz17_3⟩ := f4 BK325; obtain ⟨hcz18_0, hcz18_1, hcz18_2, hcz18_3⟩ := e4 BK324; obtain ⟨hfz18_0, hfz18_1, hfz18_2, hfz18_3⟩ := f4 BK324) | (go_at_call 53; (with_reducible refine (cut_Compare.calls k a1_2 a1_3 a0_2 a0_3 t328 _ A7.out).mono ?_); rintro e w19 ⟨rfl, hb⟩; replace BK324 := bkb BK324 hb; replace BK325 := bkb BK325 hb; replace HB := bst HB hb; (try clear hb); (try clear hb2); (try clear hk); (try clear hi)))
      go_ret
      exact endB HB
    · rw [if_neg c6] at H
      have c6b0 : decide (t327 ≤ 0) = false := decide_eq_false c6
      clear c6
      obtain rfl := Option.some.inj H
      go_enter Try.func19, Try.ntmps19
      go_wp2_with (first | ((with_reducible refine gate_dst (N := 2) rfl ?_); refine bxe (N := 2) (cs := #[.int .i64 a0_0, .int .i64 a0_1, .int .i64 a0_2, .int .i64 a0_3]) (t := 25) ?_; intro gb324 hg w20 hbox hb; have BK324 := Aside0.mk (hbox); have GW324 := lsz hg HB; have GE324 := lsz hg HB; replace HB := bst HB hb; clear hb hbox hg) | ((with_reducible refine gate_dst (N := 3) rfl ?_); refine bxe (N := 3) (cs := #[.int .i64 a1_0, .int .i64 a1_1, .int .i64 a1_2, .int .i64 a1_3]) (t := 25) ?_; intro gb325 hg w21 hbox hb; have BK325 := Aside0.mk (hbox); have GW325 := lsz hg HB; have GE325 := lsz hg HB; replace HB := bst HB hb; have NB324_325 := nlt hg BK324; have NB325_324 := ngt hg BK324; replace BK324 := bkb BK324 hb; clear hb hbox hg; have hnb22 := NB324_325.out; have hnc22 := NB325_324.out; obtain ⟨hcz23_0, hcz23_1, hcz23_2, hcz23_3⟩ := e4 BK324; obtain ⟨hfz23_0, hfz23_1, hfz23_2, hfz23_3⟩ := f4 BK324; obtain ⟨hcz24_0, hcz24_1, hcz24_2, hcz24_3⟩ := e4 BK325; obtain ⟨hfz24_0, hfz24_1, hfz24_2, hfz24_3⟩ := f4 BK325) | ((with_reducible refine gate_callee (f := 45) rfl ?_); refine gol (some 7) Try.func45 #[.agg #[.int .i64 a0_0, .int .i64 a0_1, .int .i64 a0_2, .int .i64 a0_3], .agg #[.int .i64 a1_0, .int .i64 a1_1, .int .i64 a1_2, .int .i64 a1_3]] ?_; (with_reducible refine (span_both.calls k a0_0 a0_1 a0_2 a0_3 a1_0 a1_1 a1_2 a1_3 true _ A3.out).mono ?_); rintro e w25 ⟨rfl, hb⟩; refine ⟨_, rfl, ?_⟩; replace BK324 := bkb BK324 hb; replace BK325 := bkb BK325 hb; replace HB := bst HB hb; (try clear hb); (try clear hb2); (try clear hk); (try clear hi); obtain ⟨hcz26_0, hcz26_1, hcz26_2, hcz26_3⟩ := e4 BK324; obtain ⟨hfz26_0, hfz26_1, hfz26_2, hfz26_3⟩ := f4 BK324; obtain ⟨hcz27_0, hcz27_1, hcz27_2, hcz27_3⟩ := e4 BK325; obtain ⟨hfz27_0, hfz27_1, hfz27_2, hfz27_3⟩ := f4 BK325) | (go_at_call 53; (with_reducible refine (cut_Compare.calls k a0_0 a0_1 a1_0 a1_1 t327 _ A5.out).mono ?_); rintro e w28 ⟨rfl, hb⟩; replace BK324 := bkb BK324 hb; replace BK325 := bkb BK325 hb; replace HB := bst HB hb; (try clear hb); (try clear hb2); (try clear hk); (try clear hi)))
      go_ret
      exact endB HB
  · replace c4 := Bool.eq_false_iff.mpr c4
    subst c4
    have H1 : (some false) = some r := by rw [if_neg (show ¬ (false = true) by decide)] at H; exact H
    clear H
    have H := H1
    clear H1
    obtain rfl := Option.some.inj H
    go_enter Try.func19, Try.ntmps19
    go_wp2_with (first | ((with_reducible refine gate_dst (N := 2) rfl ?_); refine bxe (N := 2) (cs := #[.int .i64 a0_0, .int .i64 a0_1, .int .i64 a0_2, .int .i64 a0_3]) (t := 25) ?_; intro gb324 hg w29 hbox hb; have BK324 := Aside0.mk (hbox); have GW324 := lsz hg HB; have GE324 := lsz hg HB; replace HB := bst HB hb; clear hb hbox hg) | ((with_reducible refine gate_dst (N := 3) rfl ?_); refine bxe (N := 3) (cs := #[.int .i64 a1_0, .int .i64 a1_1, .int .i64 a1_2, .int .i64 a1_3]) (t := 25) ?_; intro gb325 hg w30 hbox hb; have BK325 := Aside0.mk (hbox); have GW325 := lsz hg HB; have GE325 := lsz hg HB; replace HB := bst HB hb; have NB324_325 := nlt hg BK324; have NB325_324 := ngt hg BK324; replace BK324 := bkb BK324 hb; clear hb hbox hg; have hnb31 := NB324_325.out; have hnc31 := NB325_324.out; obtain ⟨hcz32_0, hcz32_1, hcz32_2, hcz32_3⟩ := e4 BK324; obtain ⟨hfz32_0, hfz32_1, hfz32_2, hfz32_3⟩ := f4 BK324; obtain ⟨hcz33_0, hcz33_1, hcz33_2, hcz33_3⟩ := e4 BK325; obtain ⟨hfz33_0, hfz33_1, hfz33_2, hfz33_3⟩ := f4 BK325) | ((with_reducible refine gate_callee (f := 45) rfl ?_); refine gol (some 7) Try.func45 #[.agg #[.int .i64 a0_0, .int .i64 a0_1, .int .i64 a0_2, .int .i64 a0_3], .agg #[.int .i64 a1_0, .int .i64 a1_1, .int .i64 a1_2, .int .i64 a1_3]] ?_; (with_reducible refine (span_both.calls k a0_0 a0_1 a0_2 a0_3 a1_0 a1_1 a1_2 a1_3 false _ A3.out).mono ?_); rintro e w34 ⟨rfl, hb⟩; refine ⟨_, rfl, ?_⟩; replace BK324 := bkb BK324 hb; replace BK325 := bkb BK325 hb; replace HB := bst HB hb; (try clear hb); (try clear hb2); (try clear hk); (try clear hi)))
    go_ret
    exact endB HB
section
attribute [local go_sem high] eqA23 eqA25
/-! ### span_Touch: function 20 -/
def span_Touch.f (k : Nat) (a0_0 : Int) (a0_1 : Int) (a0_2 : Int) (a0_3 : Int) (a1_0 : Int) (a1_1 : Int) (a1_2 : Int) (a1_3 : Int) : Option (Bool) := (span_both.f k a0_0 a0_1 a0_2 a0_3 a1_0 a1_1 a1_2 a1_3).bind fun t331 => (if t331 = true then (if (a0_2 == a1_0 && (a0_3 == a1_1)) = true then (some true) else (some (a1_2 == a0_0 && (a1_3 == a0_1)))) else (some false))
theorem span_Touch.mono : ∀ a0 a1 a2 a3 a4 a5 a6 a7 k, LeO (span_Touch.f k a0 a1 a2 a3 a4 a5 a6 a7) (span_Touch.f (k + 1) a0 a1 a2 a3 a4 a5 a6 a7) := by
  intro a0 a1 a2 a3 a4 a5 a6 a7 k
  unfold span_Touch.f
  repeat' first
      | (with_reducible exact span_both.mono _ _ _ _ _ _ _ _ _)
      | (with_reducible exact LeO.refl _)
      | (with_reducible exact LeO.none _)
      | (with_reducible refine LeO.ite ?_ ?_)
      | (with_reducible refine LeO.bind ?_ (fun _ => ?_))
      | exact span_both.mono _ _ _ _ _ _ _ _ _
      | exact LeO.none _
      | refine LeO.ite ?_ ?_
      | refine LeO.bind ?_ (fun _ => ?_)
set_option maxHeartbeats 8000000 in
set_option maxRecDepth 100000 in
theorem span_Touch.calls (k : Nat) (a0_0 : Int) (a0_1 : Int) (a0_2 : Int) (a0_3 : Int) (a1_0 : Int) (a1_1 : Int) (a1_2 : Int) (a1_3 : Int) (r : Bool) (w : World) (h : span_Touch.f k a0_0 a0_1 a0_2 a0_3 a1_0 a1_1 a1_2 a1_3 = some r) :
    Calls Try.prog 20 #[.agg #[.int .i64 a0_0, .int .i64 a0_1, .int .i64 a0_2, .int .i64 a0_3], .agg #[.int .i64 a1_0, .int .i64 a1_1, .int .i64 a1_2, .int .i64 a1_3]] w fun e w' => e = .returned (.bool r) ∧ Below w.heap.size w w' := by
  have hu25 := Try.underlying25
  have hu23 := Try.underlying23
  have HB := Aside0.mk (Below.refl w.heap.size w)
  have H : ((span_both.f k a0_0 a0_1 a0_2 a0_3 a1_0 a1_1 a1_2 a1_3).bind fun t331 => (if t331 = true then (if (a0_2 == a1_0 && (a0_3 == a1_1)) = true then (some true) else (some (a1_2 == a0_0 && (a1_3 == a0_1)))) else (some false))) = some r := h
  clear h
  replace H := Option.bind_eq_some_iff.mp H
  obtain ⟨t331, A30, H⟩ := H
  (try (set_option simprocs false in dsimp only at H))
  have A3 := Aside0.mk A30
  clear A30
  by_cases c4 : t331 = true
  · subst c4
    have H1 : (if (a0_2 == a1_0 && (a0_3 == a1_1)) = true then (some true) else (some (a1_2 == a0_0 && (a1_3 == a0_1)))) = some r := by rw [if_pos rfl] at H; exact H
    clear H
    have H := H1
    clear H1
    by_cases c5 : (a0_2 == a1_0 && (a0_3 == a1_1)) = true
    · rw [if_pos c5] at H
      have c5b0 : (a0_2 == a1_0 && (a0_3 == a1_1)) = true := c5
      (try (have c5b1 : decide (a0_2 = a1_0 && (a0_3 == a1_1)) = true := by simpa using c5))
      (try (have c5b2 : (a0_2 == a1_0 && (a0_3 == a1_1)) = true := by simpa using c5))
      clear c5
      obtain rfl := Option.some.inj H
      go_enter Try.func20, Try.ntmps20
      go_wp2_with (first | ((with_reducible refine gate_dst (N := 2) rfl ?_); refine bxe (N := 2) (cs := #[.int .i64 a0_0, .int .i64 a0_1, .int .i64 a0_2, .int .i64 a0_3]) (t := 25) ?_; intro gb329 hg w6 hbox hb; have BK329 := Aside0.mk (hbox); have GW329 := lsz hg HB; have GE329 := lsz hg HB; replace HB := bst HB hb; clear hb hbox hg) | ((with_reducible refine gate_dst (N := 3) rfl ?_); refine bxe (N := 3) (cs := #[.int .i64 a1_0, .int .i64 a1_1, .int .i64 a1_2, .int .i64 a1_3]) (t := 25) ?_; intro gb330 hg w7 hbox hb; have BK330 := Aside0.mk (hbox); have GW330 := lsz hg HB; have GE330 := lsz hg HB; replace HB := bst HB hb; have NB329_330 := nlt hg BK329; have NB330_329 := ngt hg BK329; replace BK329 := bkb BK329 hb; clear hb hbox hg; have hnb8 := NB329_330.out; have hnc8 := NB330_329.out; obtain ⟨hcz9_0, hcz9_1, hcz9_2, hcz9_3⟩ := e4 BK329; obtain ⟨hfz9_0, hfz9_1, hfz9_2, hfz9_3⟩ := f4 BK329; obtain ⟨hcz10_0, hcz10_1, hcz10_2, hcz10_3⟩ := e4 BK330; obtain ⟨hfz10_0, hfz10_1, hfz10_2, hfz10_3⟩ := f4 BK330) | ((with_reducible refine gate_callee (f := 45) rfl ?_); refine gol (some 7) Try.func45 #[.agg #[.int .i64 a0_0, .int .i64 a0_1, .int .i64 a0_2, .int .i64 a0_3], .agg #[.int .i64 a1_0, .int .i64 a1_1, .int .i64 a1_2, .int .i64 a1_3]] ?_; (with_reducible refine (span_both.calls k a0_0 a0_1 a0_2 a0_3 a1_0 a1_1 a1_2 a1_3 true _ A3.out).mono ?_); rintro e w11 ⟨rfl, hb⟩; refine ⟨_, rfl, ?_⟩; replace BK329 := bkb BK329 hb; replace BK330 := bkb BK330 hb; replace HB := bst HB hb; (try clear hb); (try clear hb2); (try clear hk); (try clear hi); obtain ⟨hcz12_0, hcz12_1, hcz12_2, hcz12_3⟩ := e4 BK329; obtain ⟨hfz12_0, hfz12_1, hfz12_2, hfz12_3⟩ := f4 BK329; obtain ⟨hcz13_0, hcz13_1, hcz13_2, hcz13_3⟩ := e4 BK330; obtain ⟨hfz13_0, hfz13_1, hfz13_2, hfz13_3⟩ := f4 BK330))
      go_ret
      exact endB HB
    · rw [if_neg c5] at H
      have c5b0 : (a0_2 == a1_0 && (a0_3 == a1_1)) = false := by simpa using c5
      (try (have c5b1 : decide (a0_2 = a1_0 && (a0_3 == a1_1)) = false := by simpa using c5))
      (try (have c5b2 : (a0_2 == a1_0 && (a0_3 == a1_1)) = false := by simpa using c5))
      (try (have c5b3 : ¬ (a0_2 = a1_0 && (a0_3 == a1_1)) := by simpa using c5))
      clear c5
      obtain rfl := Option.some.inj H
      go_enter Try.func20, Try.ntmps20
      go_wp2_with (first | ((with_reducible refine gate_dst (N := 2) rfl ?_); refine bxe (N := 2) (cs := #[.int .i64 a0_0, .int .i64 a0_1, .int .i64 a0_2, .int .i64 a0_3]) (t := 25) ?_; intro gb329 hg w14 hbox hb; have BK329 := Aside0.mk (hbox); have GW329 := lsz hg HB; have GE329 := lsz hg HB; replace HB := bst HB hb; clear hb hbox hg) | ((with_reducible refine gate_dst (N := 3) rfl ?_); refine bxe (N := 3) (cs := #[.int .i64 a1_0, .int .i64 a1_1, .int .i64 a1_2, .int .i64 a1_3]) (t := 25) ?_; intro gb330 hg w15 hbox hb; have BK330 := Aside0.mk (hbox); have GW330 := lsz hg HB; have GE330 := lsz hg HB; replace HB := bst HB hb; have NB329_330 := nlt hg BK329; have NB330_329 := ngt hg BK329; replace BK329 := bkb BK329 hb; clear hb hbox hg; have hnb16 := NB329_330.out; have hnc16 := NB330_329.out; obtain ⟨hcz17_0, hcz17_1, hcz17_2, hcz17_3⟩ := e4 BK329; obtain ⟨hfz17_0, hfz17_1, hfz17_2, hfz17_3⟩ := f4 BK329; obtain ⟨hcz18_0, hcz18_1, hcz18_2, hcz18_3⟩ := e4 BK330; obtain ⟨hfz18_0, hfz18_1, hfz18_2, hfz18_3⟩ := f4 BK330) | ((with_reducible refine gate_callee (f := 45) rfl ?_); refine gol (some 7) Try.func45 #[.agg #[.int .i64 a0_0, .int .i64 a0_1, .int .i64 a0_2, .int .i64 a0_3], .agg #[.int .i64 a1_0, .int .i64 a1_1, .int .i64 a1_2, .int .i64 a1_3]] ?_; (with_reducible refine (span_both.calls k a0_0 a0_1 a0_2 a0_3 a1_0 a1_1 a1_2 a1_3 true _ A3.out).mono ?_); rintro e w19 ⟨rfl, hb⟩; refine ⟨_, rfl, ?_⟩; replace BK329 := bkb BK329 hb; replace BK330 := bkb BK330 hb; replace HB := bst HB hb; (try clear hb); (try clear hb2); (try clear hk); (try clear hi); obtain ⟨hcz20_0, hcz20_1, hcz20_2, hcz20_3⟩ := e4 BK329; obtain ⟨hfz20_0, hfz20_1, hfz20_2, hfz20_3⟩ := f4 BK329; obtain ⟨hcz21_0, hcz21_1, hcz21_2, hcz21_3⟩ := e4 BK330; obtain ⟨hfz21_0, hfz21_1, hfz21_2, hfz21_3⟩ := f4 BK330))
      go_ret
      exact endB HB
  · replace c4 := Bool.eq_false_iff.mpr c4
    subst c4
    have H1 : (some false) = some r := by rw [if_neg (show ¬ (false = true) by decide)] at H; exact H
    clear H
    have H := H1
    clear H1
    obtain rfl := Option.some.inj H
    go_enter Try.func20, Try.ntmps20
    go_wp2_with (first | ((with_reducible refine gate_dst (N := 2) rfl ?_); refine bxe (N := 2) (cs := #[.int .i64 a0_0, .int .i64 a0_1, .int .i64 a0_2, .int .i64 a0_3]) (t := 25) ?_; intro gb329 hg w22 hbox hb; have BK329 := Aside0.mk (hbox); have GW329 := lsz hg HB; have GE329 := lsz hg HB; replace HB := bst HB hb; clear hb hbox hg) | ((with_reducible refine gate_dst (N := 3) rfl ?_); refine bxe (N := 3) (cs := #[.int .i64 a1_0, .int .i64 a1_1, .int .i64 a1_2, .int .i64 a1_3]) (t := 25) ?_; intro gb330 hg w23 hbox hb; have BK330 := Aside0.mk (hbox); have GW330 := lsz hg HB; have GE330 := lsz hg HB; replace HB := bst HB hb; have NB329_330 := nlt hg BK329; have NB330_329 := ngt hg BK329; replace BK329 := bkb BK329 hb; clear hb hbox hg; have hnb24 := NB329_330.out; have hnc24 := NB330_329.out; obtain ⟨hcz25_0, hcz25_1, hcz25_2, hcz25_3⟩ := e4 BK329; obtain ⟨hfz25_0, hfz25_1, hfz25_2, hfz25_3⟩ := f4 BK329; obtain ⟨hcz26_0, hcz26_1, hcz26_2, hcz26_3⟩ := e4 BK330; obtain ⟨hfz26_0, hfz26_1, hfz26_2, hfz26_3⟩ := f4 BK330) | ((with_reducible refine gate_callee (f := 45) rfl ?_); refine gol (some 7) Try.func45 #[.agg #[.int .i64 a0_0, .int .i64 a0_1, .int .i64 a0_2, .int .i64 a0_3], .agg #[.int .i64 a1_0, .int .i64 a1_1, .int .i64 a1_2, .int .i64 a1_3]] ?_; (with_reducible refine (span_both.calls k a0_0 a0_1 a0_2 a0_3 a1_0 a1_1 a1_2 a1_3 false _ A3.out).mono ?_); rintro e w27 ⟨rfl, hb⟩; refine ⟨_, rfl, ?_⟩; replace BK329 := bkb BK329 hb; replace BK330 := bkb BK330 hb; replace HB := bst HB hb; (try clear hb); (try clear hb2); (try clear hk); (try clear hi)))
    go_ret
    exact endB HB
end
section
attribute [local go_sem high] eqA23 eqA25
/-! ### bocageref03_Same: function 22 -/
def bocageref03_Same.l0 : Nat → List (S25) → List (S25) → Int → Option (Bool)
  | 0, _, _, _ => none
  | k + 1, x0, x1, x5 => if x5 < (x0.length : Int) then (if 0 ≤ x5 then (if x5 < (x1.length : Int) then (if ((!(((rd_T25 x0 x5).f0.f0) == ((rd_T25 x1 x5).f0.f0)) || (!(((rd_T25 x0 x5).f0.f1) == ((rd_T25 x1 x5).f0.f1)))) || ((!(((rd_T25 x0 x5).f1.f0) == ((rd_T25 x1 x5).f1.f0)) || (!(((rd_T25 x0 x5).f1.f1) == ((rd_T25 x1 x5).f1.f1)))))) = true then (some false) else (bocageref03_Same.l0 k x0 x1 (wrap64 (x5 + 1)))) else (none)) else (none)) else (some true)
def bocageref03_Same.f (k : Nat) (l0 : List (S25)) (l1 : List (S25)) : Option (Bool) := if (l0.length : Int) = (l1.length : Int) then (bocageref03_Same.l0 k l0 l1 0) else (some false)
theorem bocageref03_Same.mono_l : ∀ k, (∀ y0 y1 y2, LeO (bocageref03_Same.l0 k y0 y1 y2) (bocageref03_Same.l0 (k + 1) y0 y1 y2))
  | 0 => fun _ _ _ r h => by simp [bocageref03_Same.l0] at h
  | k + 1 => by
    have ih0 := bocageref03_Same.mono_l k
    · intro y0 y1 y2
      unfold bocageref03_Same.l0
      repeat' first
      | (with_reducible exact ih0 _ _ _)
      | (with_reducible exact LeO.refl _)
      | (with_reducible exact LeO.none _)
      | (with_reducible refine LeO.ite ?_ ?_)
      | (with_reducible refine LeO.bind ?_ (fun _ => ?_))
      | exact ih0 _ _ _
      | exact LeO.none _
      | refine LeO.ite ?_ ?_
      | refine LeO.bind ?_ (fun _ => ?_)
theorem bocageref03_Same.mono : ∀ a0 a1 k, LeO (bocageref03_Same.f k a0 a1) (bocageref03_Same.f (k + 1) a0 a1) := by
  intro a0 a1 k
  have ih0 := bocageref03_Same.mono_l k
  unfold bocageref03_Same.f
  repeat' first
      | (with_reducible exact ih0 _ _ _)
      | (with_reducible exact LeO.refl _)
      | (with_reducible exact LeO.none _)
      | (with_reducible refine LeO.ite ?_ ?_)
      | (with_reducible refine LeO.bind ?_ (fun _ => ?_))
      | exact ih0 _ _ _
      | exact LeO.none _
      | refine LeO.ite ?_ ?_
      | refine LeO.bind ?_ (fun _ => ?_)
set_option maxHeartbeats 8000000 in
set_option maxRecDepth 100000 in
theorem bocageref03_Same.calls (k : Nat) (A0 : Option Addr) (c0 : Nat) (l0 : List (S25)) (A1 : Option Addr) (c1 : Nat) (l1 : List (S25)) (r : Bool) (w : World) (hr0 : Kd.C k25 w A0 l0.length l0) (hc0 : l0.length ≤ c0) (hr1 : Kd.C k25 w A1 l1.length l1) (hc1 : l1.length ≤ c1) (h : bocageref03_Same.f k l0 l1 = some r) :
    Calls Try.prog 22 #[.slice A0 l0.length c0, .slice A1 l1.length c1] w fun e w' => e = .returned (.bool r) ∧ Drawn0 w w' := by
  have hu25 := Try.underlying25
  have HR0 := Aside0.mk hr0
  have HC0 := Aside0.mk hc0
  clear hr0 hc0
  have HR1 := Aside0.mk hr1
  have HC1 := Aside0.mk hc1
  clear hr1 hc1
  have H : (if (l0.length : Int) = (l1.length : Int) then (bocageref03_Same.l0 k l0 l1 0) else (some false)) = some r := h
  clear h
  by_cases c3 : (l0.length : Int) = (l1.length : Int)
  · rw [if_pos c3] at H
    have c3b0 : ((l0.length : Int) == (l1.length : Int)) = true := beq_iff_eq.mpr c3
    have c3b1 : ((l0.length : Int) != (l1.length : Int)) = false := bne_eq_false_iff_eq.mpr c3
    have c3b2 : (l0.length == l1.length) = true := by first | simpa using c3 | (simp at c3 ⊢; omega)
    clear c3
    have H' := Aside0.mk H
    clear H
    go_enter Try.func22, Try.ntmps22
    go_wp2
    repeat (go_quiet (fail); try go_wp2)
    go_loopg [5] k (fun kq v5 w' => ∃ (x5_1 : Int), v5 = .int .i64 x5_1 ∧ Aside0 (bocageref03_Same.l0 kq l0 l1 x5_1 = some r) ∧ Aside0 (kq ≤ k) ∧ Drawn0 w w')
    case atStart => exact ⟨(0), (by first | rfl | (simp; done) | (simp [*]; done)), H', ⟨Nat.le_refl _⟩, by repeat (first | exact Drawn0.refl _ | apply Drawn0.step)⟩
    case round =>
      clear H'
      try clear c1
      try clear c2
      try clear p2
      try clear c3
      try clear c3b0
      try clear c3b1
      try clear c3b2
      obtain ⟨x5_1, rfl, HA, HK1, ⟨m1, rfl⟩⟩ := hrel
      cases gk with
      | zero => exact absurd HA.out (by simp [bocageref03_Same.l0])
      | succ k1 =>
        have H := HA.out
        clear HA
        simp only [bocageref03_Same.l0] at H
        by_cases c4 : x5_1 < (l0.length : Int)
        · rw [if_pos c4] at H
          have c4b0 : decide (x5_1 < (l0.length : Int)) = true := decide_eq_true c4
          clear c4
          by_cases c5 : 0 ≤ x5_1
          · rw [if_pos c5] at H
            have c5b0 : decide (0 ≤ x5_1) = true := decide_eq_true c5
            clear c5
            by_cases c6 : x5_1 < (l1.length : Int)
            · rw [if_pos c6] at H
              have c6b0 : decide (x5_1 < (l1.length : Int)) = true := decide_eq_true c6
              clear c6
              by_cases c7 : ((!(((rd_T25 l0 x5_1).f0.f0) == ((rd_T25 l1 x5_1).f0.f0)) || (!(((rd_T25 l0 x5_1).f0.f1) == ((rd_T25 l1 x5_1).f0.f1)))) || ((!(((rd_T25 l0 x5_1).f1.f0) == ((rd_T25 l1 x5_1).f1.f0)) || (!(((rd_T25 l0 x5_1).f1.f1) == ((rd_T25 l1 x5_1).f1.f1)))))) = true
              · rw [if_pos c7] at H
                have c7b0 : ((!(((rd_T25 l0 x5_1).f0.f0) == ((rd_T25 l1 x5_1).f0.f0)) || (!(((rd_T25 l0 x5_1).f0.f1) == ((rd_T25 l1 x5_1).f0.f1)))) || ((!(((rd_T25 l0 x5_1).f1.f0) == ((rd_T25 l1 x5_1).f1.f0)) || (!(((rd_T25 l0 x5_1).f1.f1) == ((rd_T25 l1 x5_1).f1.f1)))))) = true := c7
                clear c7
                obtain rfl := Option.some.inj H
                have p332 : 0 ≤ (x5_1 : Int) := of_decide_eq_true (by first | (with_reducible assumption) | assumption)
                have q332 : x5_1 < (l0.length : Int) := of_decide_eq_true (by first | (with_reducible assumption) | assumption)
                obtain ⟨ad332, e332, hx332_0, hx332_1, hx332_2, hx332_3⟩ := at_T25 HR0.out x5_1 p332 q332
                cases e332
                replace p332 := eq_true p332
                replace q332 := eq_true q332
                have p333 : 0 ≤ (x5_1 : Int) := of_decide_eq_true (by first | (with_reducible assumption) | assumption)
                have q333 : x5_1 < (l1.length : Int) := of_decide_eq_true (by first | (with_reducible assumption) | assumption)
                obtain ⟨ad333, e333, hx333_0, hx333_1, hx333_2, hx333_3⟩ := at_T25 HR1.out x5_1 p333 q333
                cases e333
                replace p333 := eq_true p333
                replace q333 := eq_true q333
                go_wp2
                repeat (go_quiet (fail); try go_wp2)
                go_ret
                exact ⟨by first | rfl | (simp; done) | (simp [*]; done), by repeat (first | exact Drawn0.refl _ | apply Drawn0.step)⟩
              · rw [if_neg c7] at H
                have c7b0 : ((!(((rd_T25 l0 x5_1).f0.f0) == ((rd_T25 l1 x5_1).f0.f0)) || (!(((rd_T25 l0 x5_1).f0.f1) == ((rd_T25 l1 x5_1).f0.f1)))) || ((!(((rd_T25 l0 x5_1).f1.f0) == ((rd_T25 l1 x5_1).f1.f0)) || (!(((rd_T25 l0 x5_1).f1.f1) == ((rd_T25 l1 x5_1).f1.f1)))))) = false := by simpa using c7
                clear c7
                have H' := Aside0.mk H
                clear H
                have p332 : 0 ≤ (x5_1 : Int) := of_decide_eq_true (by first | (with_reducible assumption) | assumption)
                have q332 : x5_1 < (l0.length : Int) := of_decide_eq_true (by first | (with_reducible assumption) | assumption)
                obtain ⟨ad332, e332, hx332_0, hx332_1, hx332_2, hx332_3⟩ := at_T25 HR0.out x5_1 p332 q332
                cases e332
                replace p332 := eq_true p332
                replace q332 := eq_true q332
                have p333 : 0 ≤ (x5_1 : Int) := of_decide_eq_true (by first | (with_reducible assumption) | assumption)
                have q333 : x5_1 < (l1.length : Int) := of_decide_eq_true (by first | (with_reducible assumption) | assumption)
                obtain ⟨ad333, e333, hx333_0, hx333_1, hx333_2, hx333_3⟩ := at_T25 HR1.out x5_1 p333 q333
                cases e333
                replace p333 := eq_true p333
                replace q333 := eq_true q333
                go_wp2
                repeat (go_quiet (fail); try go_wp2)
                go_roundg k1
                case measure => have := HK1.out; omega
                case rel => exact ⟨(wrap64 (x5_1 + 1)), (by first | rfl | (simp; done) | (simp [*]; done)), H', ⟨by have := HK1.out; omega⟩, by repeat (first | exact Drawn0.refl _ | apply Drawn0.step)⟩
            · rw [if_neg c6] at H
              exact absurd H (by simp)
          · rw [if_neg c5] at H
            exact absurd H (by simp)
        · rw [if_neg c4] at H
          have c4b0 : decide (x5_1 < (l0.length : Int)) = false := decide_eq_false c4
          clear c4
          obtain rfl := Option.some.inj H
          go_wp2
          repeat (go_quiet (fail); try go_wp2)
          go_ret
          exact ⟨by first | rfl | (simp; done) | (simp [*]; done), by repeat (first | exact Drawn0.refl _ | apply Drawn0.step)⟩
  · rw [if_neg c3] at H
    have c3b0 : ((l0.length : Int) == (l1.length : Int)) = false := beq_eq_false_iff_ne.mpr c3
    have c3b1 : ((l0.length : Int) != (l1.length : Int)) = true := bne_iff_ne.mpr c3
    have c3b2 : (l0.length == l1.length) = false := by first | simpa using c3 | (simp at c3 ⊢; omega)
    obtain rfl := Option.some.inj H
    go_enter Try.func22, Try.ntmps22
    go_wp2
    repeat (go_quiet (fail); try go_wp2)
    go_ret
    exact ⟨by first | rfl | (simp; done) | (simp [*]; done), by repeat (first | exact Drawn0.refl _ | apply Drawn0.step)⟩
end
/-! ### span_Minus: function 23 -/
set_option maxHeartbeats 8000000 in
set_option maxRecDepth 100000 in
theorem span_Minus_add (k : Nat) (l0 l1 h0 h1 r1 r2 r3 r4 r5 : Int) (h : span_Of.f k l0 l1 h0 h1 = some (r1, r2, r3, r4, r5)) (g base : Nat) (ok : Nat → Prop) (v : Value) (xs : List S25) (w0 W : World) (HBw : Below base w0 W) (hbase : base ≤ W.heap.size)
    (hg : W.heap[g]? = some (.cells #[v] 26 (0, 0))) (hgb : base ≤ g) (HO : Kd.R k25 25 W base ok v xs) (hok : ∀ q, ok q → q ≠ g) (hfr : ∀ q, W.heap.size ≤ q → ok q) (hl : xs.length < 1000) :
    Calls Try.prog 54 #[.agg #[.int .i64 l0, .int .i64 l1], .agg #[.int .i64 h0, .int .i64 h1], .pointer (some ⟨g, 0, none⟩)] W fun e w' => e = .returned (.tuple #[]) ∧
      ∃ v', w'.heap[g]? = some (.cells #[v'] 26 (0, 0)) ∧ Kd.R k25 25 w' base ok v' (xs ++ if r5 = 0 then [⟨⟨r1, r2⟩, ⟨r3, r4⟩⟩] else []) ∧ Below base w0 w' ∧ ∀ (q : Nat) (o : Obj), W.heap[q]? = some o → q ≠ g → some q ≠ v.ownBlock → w'.heap[q]? = some o := by
  have hu25 := Try.underlying25
  have hu23 := Try.underlying23
  have hu26 := Try.underlying26
  have A1 := Aside0.mk h
  have BG := Aside0.mk hg
  have HO0 := Aside0.mk HO
  have HB0 := Aside0.mk HBw
  have HOK := Aside0.mk hok
  have HFR := Aside0.mk hfr
  have HB := Aside0.mk (Below.refl W.heap.size W)
  clear h hg HO HBw hok hfr
  go_enter Try.func54, Try.ntmps54
  go_upto_region 1 with (first
    | ((with_reducible refine gate_dst (N := 3) rfl ?_); refine bxe (N := 3) (cs := #[.int .i64 l0, .int .i64 l1]) (t := 23) ?_; intro ga hga w1 hbox hb; have BA := Aside0.mk hbox; have n0 := bst HB hb; clear HB; have HB := n0; clear n0; clear hb hbox hga)
    | ((with_reducible refine gate_dst (N := 4) rfl ?_); refine bxe (N := 4) (cs := #[.int .i64 h0, .int .i64 h1]) (t := 23) ?_; intro gc hgc w2 hbox hb; have BC := Aside0.mk hbox; have n1 := Aside0.mk (blk_below BA.out hb); have n0 := bst HB hb; clear HB BA; have HB := n0; have BA := n1; clear n0 n1; clear hb hbox hgc))
  have c10 := (blk_cell BA.out 0).trans rfl
  have c11 := (blk_cell BA.out 1).trans rfl
  have c20 := (blk_cell BC.out 0).trans rfl
  have c21 := (blk_cell BC.out 1).trans rfl
  by_cases h5 : r5 = 0
  · have d5 : (r5 == 0) = true := beq_iff_eq.2 h5
    have H5 := Aside0.mk h5
    clear h5
    go_upto_region 3 with (first | (go_at_call 24; (with_reducible refine (span_Of.calls k l0 l1 h0 h1 r1 r2 r3 r4 r5 _ A1.out).mono ?_); rintro e w5 ⟨rfl, hb5⟩; have HB' := bst HB hb5; have BG' := Aside0.mk (blk_below BG.out HB'.out); have cg : w5.cell? ⟨g, 0, none⟩ = some v := (blk_cell BG'.out 0).trans rfl; have hgl5 := blk_lt BG'.out; have hn1 : g ≠ w5.heap.size := Nat.ne_of_lt hgl5; have hn2 : w5.heap.size ≠ g := Nat.ne_of_gt hgl5; have cg1 : ∀ o_, (w5.alloc o_).cell? ⟨g, 0, none⟩ = some v := (fun o_ => (blk_cell (blk_alloc BG'.out o_) 0).trans rfl); have hgl := blk_lt BG.out; have hs5 := HB'.out.size; clear hb5))
    have HK5 := Aside0.mk (fun (q : Nat) (o : Obj) (hq : W.heap[q]? = some o) => blk_alloc (blk_below hq HB'.out) (Obj.cells #[.int .i64 r1, .int .i64 r2, .int .i64 r3, .int .i64 r4] 25))
    have HS5 := Aside0.mk (Nat.le_trans hs5 (below_size (below_alloc (Below.refl _ w5) (Obj.cells #[.int .i64 r1, .int .i64 r2, .int .i64 r3, .int .i64 r4] 25))))
    have BG5 := Aside0.mk (blk_alloc BG'.out (Obj.cells #[.int .i64 r1, .int .i64 r2, .int .i64 r3, .int .i64 r4] 25))
    have BS5 := Aside0.mk (blk_new w5 (Obj.cells #[.int .i64 r1, .int .i64 r2, .int .i64 r3, .int .i64 r4] 25))
    have HO5 := Aside0.mk (Kd.R_alloc (Kd.R_below HO0.out HB'.out) (Obj.cells #[.int .i64 r1, .int .i64 r2, .int .i64 r3, .int .i64 r4] 25))
    have HB5 := Aside0.mk ((HB0.out.trans (HB'.out.mono hbase)).alloc (by omega) (Obj.cells #[.int .i64 r1, .int .i64 r2, .int .i64 r3, .int .i64 r4] 25))
    clear cg cg1 hn1 hn2 hgl5 BG' HB' HB BA BC c10 c11 c20 c21 hs5 hgl
    generalize w5.alloc (Obj.cells #[.int .i64 r1, .int .i64 r2, .int .i64 r3, .int .i64 r4] 25) = W5 at *
    generalize w5.heap.size = gs at *
    have cg : W5.cell? ⟨g, 0, none⟩ = some v := (blk_cell BG5.out 0).trans rfl
    have cs0 : W5.cell? ⟨gs, 0, none⟩ = some (.int .i64 r1) := (blk_cell BS5.out 0).trans rfl
    have cs1 : W5.cell? ⟨gs, 1, none⟩ = some (.int .i64 r2) := (blk_cell BS5.out 1).trans rfl
    have cs2 : W5.cell? ⟨gs, 2, none⟩ = some (.int .i64 r3) := (blk_cell BS5.out 2).trans rfl
    have cs3 : W5.cell? ⟨gs, 3, none⟩ = some (.int .i64 r4) := (blk_cell BS5.out 3).trans rfl
    have hb5s : base ≤ W5.heap.size := by have := blk_lt BG5.out; omega
    go_wp2_with (first | ((with_reducible refine gate_builtin (b := .append) (xs := #[.tmp 15, .tmp 17]) rfl ?_); (try (refine gate_guard (by rfl) ?_; dsimp only)); at_builtin; (refine Kd.R_append k25 (w0 := w0) base rfl (.tmp 15) (.tmp 17) 26 25 (.agg #[(.int .i64 0), (.int .i64 0), (.int .i64 0), (.int .i64 0)]) 32 rfl Try.underlying26 info25 rfl (by decide) (by omega) v xs (⟨⟨r1, r2⟩, ⟨r3, r4⟩⟩ : S25) [.int .i64 r1, .int .i64 r2, .int .i64 r3, .int .i64 r4] ok (fun _ => False) rfl rfl ?aP (fun _ hk => hk.elim) ?aF ?aO ?aB ?aS ?aL ?_; (case aP => exact k25_mkM _ _ _ (⟨⟨r1, r2⟩, ⟨r3, r4⟩⟩ : S25)); (case aF => exact (fun k_ hk => HFR.out k_ (Nat.le_trans HS5.out hk))); (case aO => exact HO5.out); (case aB => exact HB5.out); (case aS => exact hb5s); (case aL => omega); intro v1 w6 ho hb hgr hat; obtain ⟨A6, c6, rfl⟩ := Kd.R_slice ho; have BG6 := Aside0.mk (blk_grown BG5.out hgr (Kd.R_away HO5.out HOK.out)); have HO6 := Aside0.mk ho; have HB6 := Aside0.mk hb; have cg6 : w6.cell? ⟨g, 0, none⟩ = some v := (blk_cell BG6.out 0).trans rfl; have fg6 := blk_frozen BG6.out 0; have HG6 := Aside0.mk hgr; clear ho hb hgr hat)))
    case inl =>
      go_end0
      exact ⟨rfl, _, blk_put BG6.out 0 _ rfl, by have hR := Kd.R_far HO6.out (p := ⟨g, 0, none⟩) HOK.out (Value.slice A6 (xs.length + 1) c6); simpa using hR, HB6.out.setCell hgb _, fun q o hq hne hov => (Below.heap_setCell w6 ⟨g, 0, none⟩ _ q hne).trans (blk_grown (HK5.out q o hq) HG6.out hov)⟩
    case inr => exact absurd H5.out (by assumption)
  · have d5 : (r5 == 0) = false := beq_eq_false_iff_ne.2 h5
    have H5 := Aside0.mk h5
    clear h5
    go_wp2_with (first | (go_at_call 24; (with_reducible refine (span_Of.calls k l0 l1 h0 h1 r1 r2 r3 r4 r5 _ A1.out).mono ?_); rintro e w5 ⟨rfl, hb5⟩; have HB' := bst HB hb5; have BG' := Aside0.mk (blk_below BG.out HB'.out); have cg : w5.cell? ⟨g, 0, none⟩ = some v := (blk_cell BG'.out 0).trans rfl; have hgl5 := blk_lt BG'.out; have hn1 : g ≠ w5.heap.size := Nat.ne_of_lt hgl5; have hn2 : w5.heap.size ≠ g := Nat.ne_of_gt hgl5; have cg1 : ∀ o_, (w5.alloc o_).cell? ⟨g, 0, none⟩ = some v := (fun o_ => (blk_cell (blk_alloc BG'.out o_) 0).trans rfl); have hgl := blk_lt BG.out; have hs5 := HB'.out.size; clear hb5))
    all_goals first
      | (go_end0; exact ⟨rfl, v, blk_alloc BG'.out _, Kd.R_alloc (Kd.R_below HO0.out HB'.out) _, (HB0.out.trans (HB'.out.mono hbase)).alloc (by omega) _, fun q o hq _ _ => blk_alloc (blk_below hq HB'.out) _⟩)
      | exact absurd (by assumption) H5.out
/-- a row of two cuts, just laid, reads as such -/
theorem lit2 (W : World) (x y : S23) : Kd.C k23 (W.alloc (.cells #[.int .i64 x.f0, .int .i64 x.f1, .int .i64 y.f0, .int .i64 y.f1] 23 (0, 0))) (some ⟨W.heap.size, 0, none⟩) 2 [x, y] := by
  have h2 := World.ownsRow_lit (base := W.heap.size) (e := 23) (size := k23.sz) W #[.int .i64 x.f0, .int .i64 x.f1, .int .i64 y.f0, .int .i64 y.f1] 2 (Nat.le_refl _) (by decide) rfl
  have hr : Reps (k23.M W W.heap.size (fun _ => True)) k23.sz [x, y] [.int .i64 x.f0, .int .i64 x.f1, .int .i64 y.f0, .int .i64 y.f1] := (Reps.c2 (show Kd.M k23 _ _ _ x [.int .i64 x.f0, .int .i64 x.f1] from (k23_mkM _ _ _ x)) (Reps.c2 (show Kd.M k23 _ _ _ y [.int .i64 y.f0, .int .i64 y.f1] from (k23_mkM _ _ _ y)) (Reps.none _ _)))
  have R : Kd.R k23 23 (W.alloc (.cells #[.int .i64 x.f0, .int .i64 x.f1, .int .i64 y.f0, .int .i64 y.f1] 23 (0, 0))) W.heap.size (fun _ => True) (.slice (some ⟨W.heap.size, 0, none⟩) 2 2) [x, y] :=
    ⟨fun _ _ => trivial, _, h2, hr.imp_ (fun p c hp => k23.M_mono (fun k hk => ⟨trivial, fun he => by
      have h3 : k = W.heap.size := by simpa [Value.ownBlock] using he
      have := hk.2.2.1
      omega⟩) (Kd.M_below (k23.M_bound hp) (below_alloc (Below.refl _ _) _)))⟩
  exact (Kd.R_reads' R).2.2
theorem least2 (k : Nat) (x y : S23) (r1 r2 : Int) (h : cut_Least.f k [x, y] = some (r1, r2)) (g : Nat) (W : World) (hc : Kd.C k23 W (some ⟨g, 0, none⟩) 2 [x, y]) :
    Calls Try.prog 47 #[.slice (some ⟨g, 0, none⟩) 2 2] W fun e w' => e = .returned (.agg #[.int .i64 r1, .int .i64 r2]) ∧ Below W.heap.size W w' := cut_Least.calls k _ 2 [x, y] r1 r2 W hc (Nat.le_refl 2) h
theorem greatest2 (k : Nat) (x y : S23) (r1 r2 : Int) (h : cut_Greatest.f k [x, y] = some (r1, r2)) (g : Nat) (W : World) (hc : Kd.C k23 W (some ⟨g, 0, none⟩) 2 [x, y]) :
    Calls Try.prog 46 #[.slice (some ⟨g, 0, none⟩) 2 2] W fun e w' => e = .returned (.agg #[.int .i64 r1, .int .i64 r2]) ∧ Below W.heap.size W w' := cut_Greatest.calls k _ 2 [x, y] r1 r2 W hc (Nat.le_refl 2) h
def optS (p1 p2 p3 p4 p5 : Int) : List S25 := if p5 = 0 then [⟨⟨p1, p2⟩, ⟨p3, p4⟩⟩] else []
theorem mkS {ga gb : Nat} {a0 a1 a2 a3 b0 b1 b2 b3 : Int} {W W' : World} (h1 : Aside0 (W.heap[ga]? = some (.cells #[.int .i64 a0, .int .i64 a1, .int .i64 a2, .int .i64 a3] 25 (0, 0)))) (h2 : Aside0 (W.heap[gb]? = some (.cells #[.int .i64 b0, .int .i64 b1, .int .i64 b2, .int .i64 b3] 25 (0, 0)))) (hb : Below W.heap.size W W') : (fun w' => Aside0 (w'.heap[ga]? = some (.cells #[.int .i64 a0, .int .i64 a1, .int .i64 a2, .int .i64 a3] 25 (0, 0))) ∧ Aside0 (w'.heap[gb]? = some (.cells #[.int .i64 b0, .int .i64 b1, .int .i64 b2, .int .i64 b3] 25 (0, 0))) ∧ w'.cell? ⟨ga, 0, none⟩ = some (.int .i64 a0) ∧ w'.cell? ⟨ga, 1, none⟩ = some (.int .i64 a1) ∧ w'.cell? ⟨ga, 2, none⟩ = some (.int .i64 a2) ∧ w'.cell? ⟨ga, 3, none⟩ = some (.int .i64 a3) ∧ w'.cell? ⟨gb, 0, none⟩ = some (.int .i64 b0) ∧ w'.cell? ⟨gb, 1, none⟩ = some (.int .i64 b1) ∧ w'.cell? ⟨gb, 2, none⟩ = some (.int .i64 b2) ∧ w'.cell? ⟨gb, 3, none⟩ = some (.int .i64 b3)) W' := by
  have k1 := blk_below h1.out hb
  have k2 := blk_below h2.out hb
  exact ⟨⟨k1⟩, ⟨k2⟩, (blk_cell k1 0).trans rfl, (blk_cell k1 1).trans rfl, (blk_cell k1 2).trans rfl, (blk_cell k1 3).trans rfl, (blk_cell k2 0).trans rfl, (blk_cell k2 1).trans rfl, (blk_cell k2 2).trans rfl, (blk_cell k2 3).trans rfl⟩
theorem frs {g ga gb : Nat} {o1 o2 o3 : Obj} {W W' : World} (h1 : Aside0 (W.heap[g]? = some o1)) (h2 : Aside0 (W.heap[ga]? = some o2)) (h3 : Aside0 (W.heap[gb]? = some o3)) (hs : W'.heap.size = W.heap.size) : ∀ q, W'.heap.size ≤ q → q ≠ g ∧ q ≠ ga ∧ q ≠ gb := by
  intro q hq
  have l1 := blk_lt h1.out
  have l2 := blk_lt h2.out
  have l3 := blk_lt h3.out
  refine ⟨?_, ?_, ?_⟩ <;> omega
set_option maxHeartbeats 8000000 in
set_option maxRecDepth 100000 in
theorem span_Minus_yes (k : Nat) (a0 a1 a2 a3 b0 b1 b2 b3 : Int) (w : World) (e1 : span_both.f k a0 a1 a2 a3 b0 b1 b2 b3 = some true)
    (l1 l2 p1 p2 p3 p4 p5 m1 m2 q1 q2 q3 q4 q5 : Int) (e2 : cut_Least.f k [⟨a2, a3⟩, ⟨b0, b1⟩] = some (l1, l2)) (e3 : span_Of.f k a0 a1 l1 l2 = some (p1, p2, p3, p4, p5))
    (e4 : cut_Greatest.f k [⟨a0, a1⟩, ⟨b2, b3⟩] = some (m1, m2)) (e5 : span_Of.f k m1 m2 a2 a3 = some (q1, q2, q3, q4, q5)) :
    Calls Try.prog 23 #[.agg #[.int .i64 a0, .int .i64 a1, .int .i64 a2, .int .i64 a3], .agg #[.int .i64 b0, .int .i64 b1, .int .i64 b2, .int .i64 b3]] w fun e w' =>
      ∃ v0_ : Value, e = .returned (v0_) ∧ Kd.R k25 25 w' w.heap.size (fun _ => True) v0_ (optS p1 p2 p3 p4 p5 ++ optS q1 q2 q3 q4 q5) ∧ Below w.heap.size w w' := by
  have E1 := Aside0.mk e1
  have E2 := Aside0.mk e2
  have E3 := Aside0.mk e3
  have E4 := Aside0.mk e4
  have E5 := Aside0.mk e5
  clear e1 e2 e3 e4 e5
  have HB := Aside0.mk (Below.refl w.heap.size w)
  go_enter Try.func23, Try.ntmps23
  go_upto_region 1 with (first | ((with_reducible refine gate_dst (N := 2) rfl ?_); refine bxe (N := 2) (cs := #[.int .i64 a0, .int .i64 a1, .int .i64 a2, .int .i64 a3]) (t := 25) ?_; intro ga hga w2 hbox hb; have n0 := bst HB hb; have Bga := Aside0.mk hbox; have Lga : w.heap.size ≤ ga := (by rw [hga]; have := HB.out.size; first | exact this | (simp; done)); clear HB; have HB := n0; clear n0; clear hb hbox hga) | ((with_reducible refine gate_dst (N := 3) rfl ?_); refine bxe (N := 3) (cs := #[.int .i64 b0, .int .i64 b1, .int .i64 b2, .int .i64 b3]) (t := 25) ?_; intro gb hgb w3 hbox hb; have n0 := bst HB hb; have Bgb := Aside0.mk hbox; have Lgb : w.heap.size ≤ gb := (by rw [hgb]; have := HB.out.size; first | exact this | (simp; done)); have nga := Aside0.mk (blk_below Bga.out hb); clear Bga; have Bga := nga; clear nga; clear HB; have HB := n0; clear n0; clear hb hbox hgb))
  go_upto_region 3 with fail
  have Bg := Aside0.mk (blk_new w3 (Obj.cells #[Value.slice none 0 0] 26))
  have Bga' := Aside0.mk (blk_alloc Bga.out (Obj.cells #[Value.slice none 0 0] 26))
  have Bgb' := Aside0.mk (blk_alloc Bgb.out (Obj.cells #[Value.slice none 0 0] 26))
  have HB' := Aside0.mk (below_alloc HB.out (Obj.cells #[Value.slice none 0 0] 26))
  have Lg : w.heap.size ≤ w3.heap.size := HB.out.size
  have nga : ga ≠ w3.heap.size := Nat.ne_of_lt (blk_lt Bga.out)
  have ngb : gb ≠ w3.heap.size := Nat.ne_of_lt (blk_lt Bgb.out)
  clear Bga Bgb HB
  generalize w3.alloc (Obj.cells #[Value.slice none 0 0] 26) = W3 at *
  generalize w3.heap.size = g at *
  have ca0 := (blk_cell Bga'.out 0).trans rfl
  have ca1 := (blk_cell Bga'.out 1).trans rfl
  have ca2 := (blk_cell Bga'.out 2).trans rfl
  have ca3 := (blk_cell Bga'.out 3).trans rfl
  have cb0 := (blk_cell Bgb'.out 0).trans rfl
  have cb1 := (blk_cell Bgb'.out 1).trans rfl
  have cb2 := (blk_cell Bgb'.out 2).trans rfl
  have cb3 := (blk_cell Bgb'.out 3).trans rfl
  go_upto_region 4 with (go_at_call 45; (with_reducible refine (span_both.calls k a0 a1 a2 a3 b0 b1 b2 b3 true _ E1.out).mono ?_); rintro e w5 ⟨rfl, hb5⟩; have Cga := Aside0.mk (blk_below Bga'.out hb5); have Cgb := Aside0.mk (blk_below Bgb'.out hb5); have Cg := Aside0.mk (blk_below Bg.out hb5); have HC := Aside0.mk (below_step HB'.out hb5); have cg : w5.cell? ⟨g, 0, none⟩ = some (.slice none 0 0) := (blk_cell Cg.out 0).trans rfl; clear hb5)
  clear Bga' Bgb' HB' Bg ca0 ca1 ca2 ca3 cb0 cb1 cb2 cb3
  go_region_held3 (fun w' => Aside0 (w'.heap[ga]? = some (.cells #[.int .i64 a0, .int .i64 a1, .int .i64 a2, .int .i64 a3] 25 (0, 0))) ∧ Aside0 (w'.heap[gb]? = some (.cells #[.int .i64 b0, .int .i64 b1, .int .i64 b2, .int .i64 b3] 25 (0, 0))) ∧ w'.cell? ⟨ga, 0, none⟩ = some (.int .i64 a0) ∧ w'.cell? ⟨ga, 1, none⟩ = some (.int .i64 a1) ∧ w'.cell? ⟨ga, 2, none⟩ = some (.int .i64 a2) ∧ w'.cell? ⟨ga, 3, none⟩ = some (.int .i64 a3) ∧ w'.cell? ⟨gb, 0, none⟩ = some (.int .i64 b0) ∧ w'.cell? ⟨gb, 1, none⟩ = some (.int .i64 b1) ∧ w'.cell? ⟨gb, 2, none⟩ = some (.int .i64 b2) ∧ w'.cell? ⟨gb, 3, none⟩ = some (.int .i64 b3)) (first | exact mkS (by assumption) (by assumption) (by repeat (first | (with_reducible first | exact Below.refl _ _ | apply below_alloc | apply pw_below_drewN | apply below_drew1) | exact Below.refl _ _)))
    ((first
      | (go_at_call 47; (refine (least2 k ⟨a2, a3⟩ ⟨b0, b1⟩ l1 l2 E2.out _ _ ?_).mono ?_); (first | exact lit2 _ ⟨a2, a3⟩ ⟨b0, b1⟩ | exact Kd.C_drew (lit2 _ ⟨a2, a3⟩ ⟨b0, b1⟩) | exact Kd.C_drewN (lit2 _ ⟨a2, a3⟩ ⟨b0, b1⟩) _); rintro e w6 ⟨rfl, hb6⟩; have Y6 := below_step (w := w5) (by repeat (first | (with_reducible first | exact Below.refl _ _ | apply below_alloc | apply pw_below_drewN | apply below_drew1) | exact Below.refl _ _)) hb6; have Cga6 := Aside0.mk (blk_below Cga.out Y6); have Cgb6 := Aside0.mk (blk_below Cgb.out Y6); have Cg6 := Aside0.mk (blk_below Cg.out Y6); have HC6 := Aside0.mk (below_step HC.out Y6); clear Y6 hb6)
      | (go_at_call 54; (refine (span_Minus_add k a0 a1 l1 l2 p1 p2 p3 p4 p5 E3.out g w.heap.size (fun q => q ≠ g ∧ q ≠ ga ∧ q ≠ gb) (.slice none 0 0) [] w _ ?_ ?_ ?_ Lg (Kd.R_nil _ _ _ _ _) (fun _ h_ => h_.1) ?_ (by decide)).mono ?_); (with_reducible first | exact HC6.out | exact below_drew1 HC6.out); (with_reducible first | exact below_size HC6.out | exact below_size (below_drew1 HC6.out)); (with_reducible first | exact Cg6.out | exact blk_drew Cg6.out); (exact frs Cg6 Cga6 Cgb6 (by rfl)); rintro e w7 ⟨rfl, v7, hg7, hr7, hb7, hk7⟩; have Cga7 := Aside0.mk (hk7 ga _ (by first | exact Cga6.out | exact blk_drew Cga6.out) nga (by simp [Value.ownBlock])); have Cgb7 := Aside0.mk (hk7 gb _ (by first | exact Cgb6.out | exact blk_drew Cgb6.out) ngb (by simp [Value.ownBlock])); have Cg7 := Aside0.mk hg7; have HC7 := Aside0.mk hb7; have HR7 := Aside0.mk hr7; have fr7 := hr7.1; clear hg7 hr7 hb7 hk7 Cga6 Cgb6 Cg6 HC6 Cga Cgb Cg HC)))
  have D7 : w.heap.size ≤ w7.heap.size := below_size HC7.out
  have da0 := (blk_cell Cga7.out 0).trans rfl; have da1 := (blk_cell Cga7.out 1).trans rfl; have da2 := (blk_cell Cga7.out 2).trans rfl; have da3 := (blk_cell Cga7.out 3).trans rfl; have db0 := (blk_cell Cgb7.out 0).trans rfl; have db1 := (blk_cell Cgb7.out 1).trans rfl; have db2 := (blk_cell Cgb7.out 2).trans rfl; have db3 := (blk_cell Cgb7.out 3).trans rfl
  go_upto_region 5 with fail
  go_region_held3 (fun w' => Aside0 (w'.heap[ga]? = some (.cells #[.int .i64 a0, .int .i64 a1, .int .i64 a2, .int .i64 a3] 25 (0, 0))) ∧ Aside0 (w'.heap[gb]? = some (.cells #[.int .i64 b0, .int .i64 b1, .int .i64 b2, .int .i64 b3] 25 (0, 0))) ∧ w'.cell? ⟨ga, 0, none⟩ = some (.int .i64 a0) ∧ w'.cell? ⟨ga, 1, none⟩ = some (.int .i64 a1) ∧ w'.cell? ⟨ga, 2, none⟩ = some (.int .i64 a2) ∧ w'.cell? ⟨ga, 3, none⟩ = some (.int .i64 a3) ∧ w'.cell? ⟨gb, 0, none⟩ = some (.int .i64 b0) ∧ w'.cell? ⟨gb, 1, none⟩ = some (.int .i64 b1) ∧ w'.cell? ⟨gb, 2, none⟩ = some (.int .i64 b2) ∧ w'.cell? ⟨gb, 3, none⟩ = some (.int .i64 b3)) (first | exact mkS (by assumption) (by assumption) (by repeat (first | (with_reducible first | exact Below.refl _ _ | apply below_alloc | apply pw_below_drewN | apply below_drew1) | exact Below.refl _ _)))
    ((first
      | (go_at_call 46; (refine (greatest2 k ⟨a0, a1⟩ ⟨b2, b3⟩ m1 m2 E4.out _ _ ?_).mono ?_); (first | exact lit2 _ ⟨a0, a1⟩ ⟨b2, b3⟩ | exact Kd.C_drew (lit2 _ ⟨a0, a1⟩ ⟨b2, b3⟩) | exact Kd.C_drewN (lit2 _ ⟨a0, a1⟩ ⟨b2, b3⟩) _); rintro e w8 ⟨rfl, hb8⟩; have Y8 := below_step (w := w7) (by repeat (first | (with_reducible first | exact Below.refl _ _ | apply below_alloc | apply pw_below_drewN | apply below_drew1) | exact Below.refl _ _)) hb8; have Cga8 := Aside0.mk (blk_below Cga7.out Y8); have Cgb8 := Aside0.mk (blk_below Cgb7.out Y8); have Cg8 := Aside0.mk (blk_below Cg7.out Y8); have HR8 := Aside0.mk (Kd.R_below HR7.out Y8); have HC8 := Aside0.mk (below_step HC7.out Y8); clear Y8 hb8)
      | (go_at_call 54; (refine (span_Minus_add k m1 m2 a2 a3 q1 q2 q3 q4 q5 E5.out g w.heap.size (fun q => q ≠ g ∧ q ≠ ga ∧ q ≠ gb) v7 (([] : List S25) ++ if p5 = 0 then [(⟨⟨p1, p2⟩, ⟨p3, p4⟩⟩ : S25)] else []) w _ ?_ ?_ ?_ Lg ?_ (fun _ h_ => h_.1) ?_ ?_).mono ?_); (with_reducible first | exact HC8.out | exact below_drew1 HC8.out); (with_reducible first | exact below_size HC8.out | exact below_size (below_drew1 HC8.out)); (with_reducible first | exact Cg8.out | exact blk_drew Cg8.out); (first | exact HR8.out | exact Kd.R_drew HR8.out); (exact frs Cg8 Cga8 Cgb8 (by rfl)); (exact (by split <;> simp)); rintro e w9 ⟨rfl, v9, hg9, hr9, hb9, hk9⟩; have Cg9 := Aside0.mk hg9; have HC9 := Aside0.mk hb9; have HR9 := Aside0.mk hr9; have Cga9 := Aside0.mk (hk9 ga _ (by first | exact Cga8.out | exact blk_drew Cga8.out) nga (fun he => (fr7 _ he.symm).2.1 rfl)); have Cgb9 := Aside0.mk (hk9 gb _ (by first | exact Cgb8.out | exact blk_drew Cgb8.out) ngb (fun he => (fr7 _ he.symm).2.2 rfl)); clear hg9 hr9 hb9 hk9)))
  have cg9 : w9.cell? ⟨g, 0, none⟩ = some v9 := (blk_cell Cg9.out 0).trans rfl
  clear Cga9 Cgb9 Cg9 fr7 cg
  go_wp2
  go_ret
  exact ⟨v9, rfl, by have hR := Kd.R_mono HR9.out (ok' := fun _ => True) (fun _ _ => trivial); (rw [List.nil_append] at hR; exact hR), HC9.out⟩
set_option maxHeartbeats 8000000 in
set_option maxRecDepth 100000 in
theorem span_Minus_no (k : Nat) (a0 a1 a2 a3 b0 b1 b2 b3 : Int) (w : World) (e1 : span_both.f k a0 a1 a2 a3 b0 b1 b2 b3 = some false) :
    Calls Try.prog 23 #[.agg #[.int .i64 a0, .int .i64 a1, .int .i64 a2, .int .i64 a3], .agg #[.int .i64 b0, .int .i64 b1, .int .i64 b2, .int .i64 b3]] w fun e w' =>
      ∃ v0_ : Value, e = .returned (v0_) ∧ Kd.R k25 25 w' w.heap.size (fun _ => True) v0_ ([] : List S25) ∧ Below w.heap.size w w' := by
  have E1 := Aside0.mk e1
  clear e1
  have HB := Aside0.mk (Below.refl w.heap.size w)
  go_enter Try.func23, Try.ntmps23
  go_upto_region 1 with (first | ((with_reducible refine gate_dst (N := 2) rfl ?_); refine bxe (N := 2) (cs := #[.int .i64 a0, .int .i64 a1, .int .i64 a2, .int .i64 a3]) (t := 25) ?_; intro ga hga w2 hbox hb; have n0 := bst HB hb; have Bga := Aside0.mk hbox; have Lga : w.heap.size ≤ ga := (by rw [hga]; have := HB.out.size; first | exact this | (simp; done)); clear HB; have HB := n0; clear n0; clear hb hbox hga) | ((with_reducible refine gate_dst (N := 3) rfl ?_); refine bxe (N := 3) (cs := #[.int .i64 b0, .int .i64 b1, .int .i64 b2, .int .i64 b3]) (t := 25) ?_; intro gb hgb w3 hbox hb; have n0 := bst HB hb; have Bgb := Aside0.mk hbox; have Lgb : w.heap.size ≤ gb := (by rw [hgb]; have := HB.out.size; first | exact this | (simp; done)); have nga := Aside0.mk (blk_below Bga.out hb); clear Bga; have Bga := nga; clear nga; clear HB; have HB := n0; clear n0; clear hb hbox hgb))
  go_upto_region 3 with fail
  have Bg := Aside0.mk (blk_new w3 (Obj.cells #[Value.slice none 0 0] 26))
  have Bga' := Aside0.mk (blk_alloc Bga.out (Obj.cells #[Value.slice none 0 0] 26))
  have Bgb' := Aside0.mk (blk_alloc Bgb.out (Obj.cells #[Value.slice none 0 0] 26))
  have HB' := Aside0.mk (below_alloc HB.out (Obj.cells #[Value.slice none 0 0] 26))
  clear Bga Bgb HB
  generalize w3.alloc (Obj.cells #[Value.slice none 0 0] 26) = W3 at *
  generalize w3.heap.size = g at *
  have ca0 := (blk_cell Bga'.out 0).trans rfl
  have ca1 := (blk_cell Bga'.out 1).trans rfl
  have ca2 := (blk_cell Bga'.out 2).trans rfl
  have ca3 := (blk_cell Bga'.out 3).trans rfl
  have cb0 := (blk_cell Bgb'.out 0).trans rfl
  have cb1 := (blk_cell Bgb'.out 1).trans rfl
  have cb2 := (blk_cell Bgb'.out 2).trans rfl
  have cb3 := (blk_cell Bgb'.out 3).trans rfl
  go_wp2_with (go_at_call 45; (with_reducible refine (span_both.calls k a0 a1 a2 a3 b0 b1 b2 b3 false _ E1.out).mono ?_); rintro e w5 ⟨rfl, hb5⟩; have Cga := Aside0.mk (blk_below Bga'.out hb5); have Cgb := Aside0.mk (blk_below Bgb'.out hb5); have Cg := Aside0.mk (blk_below Bg.out hb5); have HC := Aside0.mk (below_step HB'.out hb5); have cg : w5.cell? ⟨g, 0, none⟩ = some (.slice none 0 0) := (blk_cell Cg.out 0).trans rfl; clear hb5)
  go_ret
  exact ⟨_, rfl, Kd.R_nil _ _ _ _ _, HC.out⟩
def span_Minus.f (k : Nat) (a0_0 : Int) (a0_1 : Int) (a0_2 : Int) (a0_3 : Int) (a1_0 : Int) (a1_1 : Int) (a1_2 : Int) (a1_3 : Int) : Option (List S25) := (span_both.f k a0_0 a0_1 a0_2 a0_3 a1_0 a1_1 a1_2 a1_3).bind fun t => (if t = true then ((cut_Least.f k [⟨a0_2, a0_3⟩, ⟨a1_0, a1_1⟩]).bind fun x => ((span_Of.f k a0_0 a0_1 x.1 x.2).bind fun p => ((cut_Greatest.f k [⟨a0_0, a0_1⟩, ⟨a1_2, a1_3⟩]).bind fun y => ((span_Of.f k y.1 y.2 a0_2 a0_3).bind fun q => (some (optS p.1 p.2.1 p.2.2.1 p.2.2.2.1 p.2.2.2.2 ++ optS q.1 q.2.1 q.2.2.1 q.2.2.2.1 q.2.2.2.2)))))) else (some []))
theorem span_Minus.mono : ∀ a0 a1 a2 a3 a4 a5 a6 a7 k, LeO (span_Minus.f k a0 a1 a2 a3 a4 a5 a6 a7) (span_Minus.f (k + 1) a0 a1 a2 a3 a4 a5 a6 a7) := by
  intro a0 a1 a2 a3 a4 a5 a6 a7 k
  unfold span_Minus.f
  refine LeO.bind (span_both.mono _ _ _ _ _ _ _ _ _) (fun t => LeO.ite ?_ (LeO.refl _))
  exact LeO.bind (cut_Least.mono _ _) (fun x => LeO.bind (span_Of.mono _ _ _ _ _) (fun p => LeO.bind (cut_Greatest.mono _ _) (fun y => LeO.bind (span_Of.mono _ _ _ _ _) (fun q => LeO.refl _))))
theorem span_Minus.calls (k : Nat) (a0_0 : Int) (a0_1 : Int) (a0_2 : Int) (a0_3 : Int) (a1_0 : Int) (a1_1 : Int) (a1_2 : Int) (a1_3 : Int) (r : List S25) (w : World) (h : span_Minus.f k a0_0 a0_1 a0_2 a0_3 a1_0 a1_1 a1_2 a1_3 = some r) :
    Calls Try.prog 23 #[.agg #[.int .i64 a0_0, .int .i64 a0_1, .int .i64 a0_2, .int .i64 a0_3], .agg #[.int .i64 a1_0, .int .i64 a1_1, .int .i64 a1_2, .int .i64 a1_3]] w fun e w' =>
      ∃ v0_ : Value, e = .returned (v0_) ∧ Kd.R k25 25 w' w.heap.size (fun _ => True) v0_ r ∧ Below w.heap.size w w' := by
  unfold span_Minus.f at h
  obtain ⟨t, h1, h⟩ := Option.bind_eq_some_iff.mp h
  cases t with
  | false =>
    rw [if_neg Bool.false_ne_true] at h
    obtain rfl := Option.some.inj h
    exact span_Minus_no k a0_0 a0_1 a0_2 a0_3 a1_0 a1_1 a1_2 a1_3 w h1
  | true =>
    rw [if_pos rfl] at h
    obtain ⟨⟨l1, l2⟩, h2, h⟩ := Option.bind_eq_some_iff.mp h
    obtain ⟨⟨p1, p2, p3, p4, p5⟩, h3, h⟩ := Option.bind_eq_some_iff.mp h
    obtain ⟨⟨m1, m2⟩, h4, h⟩ := Option.bind_eq_some_iff.mp h
    obtain ⟨⟨q1, q2, q3, q4, q5⟩, h5, h⟩ := Option.bind_eq_some_iff.mp h
    obtain rfl := Option.some.inj h
    exact span_Minus_yes k a0_0 a0_1 a0_2 a0_3 a1_0 a1_1 a1_2 a1_3 w h1 l1 l2 p1 p2 p3 p4 p5 m1 m2 q1 q2 q3 q4 q5 h2 h3 h4 h5
section
attribute [local go_sem high] eqA23
/-! ### cut_Next: function 60 -/
def cut_Next.f (k : Nat) (a0_0 : Int) (a0_1 : Int) : Option (Int × Bool) := (cut_Canon.f k a0_0 a0_1).bind fun bt335 => ((cut_Last.f).bind fun bt337 => (if (bt335.1 == bt337.1 && (bt335.2 == bt337.2)) = true then (some (0, false)) else ((cut_First.f).bind fun bt339 => (if (bt335.1 == bt339.1 && (bt335.2 == bt339.2)) = true then (some ((-9223372036854775808), true)) else (some (bt335.2, true))))))
theorem cut_Next.mono : ∀ a0 a1 k, LeO (cut_Next.f k a0 a1) (cut_Next.f (k + 1) a0 a1) := by
  intro a0 a1 k
  unfold cut_Next.f
  repeat' first
      | (with_reducible exact cut_Canon.mono _ _ _)
      | (with_reducible exact LeO.refl _)
      | (with_reducible exact LeO.none _)
      | (with_reducible refine LeO.ite ?_ ?_)
      | (with_reducible refine LeO.bind ?_ (fun _ => ?_))
      | exact cut_Canon.mono _ _ _
      | exact LeO.none _
      | refine LeO.ite ?_ ?_
      | refine LeO.bind ?_ (fun _ => ?_)
set_option maxHeartbeats 8000000 in
set_option maxRecDepth 100000 in
theorem cut_Next.calls (k : Nat) (a0_0 : Int) (a0_1 : Int) (r1 : Int) (r2 : Bool) (w : World) (h : cut_Next.f k a0_0 a0_1 = some (r1, r2)) :
    Calls Try.prog 60 #[.agg #[.int .i64 a0_0, .int .i64 a0_1]] w fun e w' => e = .returned (.tuple #[.int .i64 r1, .bool r2]) ∧ Below w.heap.size w w' := by
  have hu23 := Try.underlying23
  have HB := Aside0.mk (Below.refl w.heap.size w)
  have H : ((cut_Canon.f k a0_0 a0_1).bind fun bt335 => ((cut_Last.f).bind fun bt337 => (if (bt335.1 == bt337.1 && (bt335.2 == bt337.2)) = true then (some (0, false)) else ((cut_First.f).bind fun bt339 => (if (bt335.1 == bt339.1 && (bt335.2 == bt339.2)) = true then (some ((-9223372036854775808), true)) else (some (bt335.2, true))))))) = some (r1, r2) := h
  clear h
  replace H := Option.bind_eq_some_iff.mp H
  obtain ⟨⟨t335, t336⟩, A20, H⟩ := H
  (try (set_option simprocs false in dsimp only at H))
  have A2 := Aside0.mk A20
  clear A20
  replace H := Option.bind_eq_some_iff.mp H
  obtain ⟨⟨t337, t338⟩, A30, H⟩ := H
  (try (set_option simprocs false in dsimp only at H))
  have A3 := Aside0.mk A30
  clear A30
  by_cases c4 : (t335 == t337 && (t336 == t338)) = true
  · rw [if_pos c4] at H
    have c4b0 : (t335 == t337 && (t336 == t338)) = true := c4
    (try (have c4b1 : decide (t335 = t337 && (t336 == t338)) = true := by simpa using c4))
    (try (have c4b2 : (t335 == t337 && (t336 == t338)) = true := by simpa using c4))
    clear c4
    simp only [Option.some.injEq, Prod.mk.injEq] at H
    obtain ⟨rfl, rfl⟩ := H
    go_enter Try.func60, Try.ntmps60
    go_wp2_with (first | ((with_reducible refine gate_dst (N := 1) rfl ?_); refine bxe (N := 1) (cs := #[.int .i64 a0_0, .int .i64 a0_1]) (t := 23) ?_; intro gb334 hg w5 hbox hb; have BK334 := Aside0.mk (hbox); have GW334 := lsz hg HB; have GE334 := lsz hg HB; replace HB := bst HB hb; clear hb hbox hg; obtain ⟨hcz6_0, hcz6_1⟩ := e2 BK334; obtain ⟨hfz6_0, hfz6_1⟩ := f2 BK334) | ((with_reducible refine gate_callee (f := 55) rfl ?_); refine gol (some 5) Try.func55 #[.agg #[.int .i64 a0_0, .int .i64 a0_1]] ?_; (with_reducible refine (cut_Canon.calls k a0_0 a0_1 t335 t336 _ A2.out).mono ?_); rintro e w7 ⟨rfl, hb⟩; refine ⟨_, rfl, ?_⟩; replace BK334 := bkb BK334 hb; replace HB := bst HB hb; (try clear hb); (try clear hb2); (try clear hk); (try clear hi); obtain ⟨hcz8_0, hcz8_1⟩ := e2 BK334; obtain ⟨hfz8_0, hfz8_1⟩ := f2 BK334) | ((with_reducible refine gate_callee (f := 70) rfl ?_); refine gol (some 8) Try.func70 #[] ?_; (with_reducible refine (cut_Last.calls  t337 t338 _ A3.out).mono ?_); rintro e w9 ⟨rfl, hb⟩; refine ⟨_, rfl, ?_⟩; replace BK334 := Aside0.mk (blk_below (g := gb334) (o := .cells #[.int .i64 t335, .int .i64 t336] 23 (0, 0)) (bkp BK334) hb); replace HB := bst HB hb; (try clear hb); (try clear hb2); (try clear hk); (try clear hi)))
    go_ret2
    exact endB HB
  · rw [if_neg c4] at H
    have c4b0 : (t335 == t337 && (t336 == t338)) = false := by simpa using c4
    (try (have c4b1 : decide (t335 = t337 && (t336 == t338)) = false := by simpa using c4))
    (try (have c4b2 : (t335 == t337 && (t336 == t338)) = false := by simpa using c4))
    (try (have c4b3 : ¬ (t335 = t337 && (t336 == t338)) := by simpa using c4))
    clear c4
    replace H := Option.bind_eq_some_iff.mp H
    obtain ⟨⟨t339, t340⟩, A100, H⟩ := H
    (try (set_option simprocs false in dsimp only at H))
    have A10 := Aside0.mk A100
    clear A100
    by_cases c11 : (t335 == t339 && (t336 == t340)) = true
    · rw [if_pos c11] at H
      have c11b0 : (t335 == t339 && (t336 == t340)) = true := c11
      (try (have c11b1 : decide (t335 = t339 && (t336 == t340)) = true := by simpa using c11))
      (try (have c11b2 : (t335 == t339 && (t336 == t340)) = true := by simpa using c11))
      clear c11
      simp only [Option.some.injEq, Prod.mk.injEq] at H
      obtain ⟨rfl, rfl⟩ := H
      go_enter Try.func60, Try.ntmps60
      go_wp2_with (first | ((with_reducible refine gate_dst (N := 1) rfl ?_); refine bxe (N := 1) (cs := #[.int .i64 a0_0, .int .i64 a0_1]) (t := 23) ?_; intro gb334 hg w12 hbox hb; have BK334 := Aside0.mk (hbox); have GW334 := lsz hg HB; have GE334 := lsz hg HB; replace HB := bst HB hb; clear hb hbox hg; obtain ⟨hcz13_0, hcz13_1⟩ := e2 BK334; obtain ⟨hfz13_0, hfz13_1⟩ := f2 BK334) | ((with_reducible refine gate_callee (f := 55) rfl ?_); refine gol (some 5) Try.func55 #[.agg #[.int .i64 a0_0, .int .i64 a0_1]] ?_; (with_reducible refine (cut_Canon.calls k a0_0 a0_1 t335 t336 _ A2.out).mono ?_); rintro e w14 ⟨rfl, hb⟩; refine ⟨_, rfl, ?_⟩; replace BK334 := bkb BK334 hb; replace HB := bst HB hb; (try clear hb); (try clear hb2); (try clear hk); (try clear hi); obtain ⟨hcz15_0, hcz15_1⟩ := e2 BK334; obtain ⟨hfz15_0, hfz15_1⟩ := f2 BK334) | ((with_reducible refine gate_callee (f := 70) rfl ?_); refine gol (some 8) Try.func70 #[] ?_; (with_reducible refine (cut_Last.calls  t337 t338 _ A3.out).mono ?_); rintro e w16 ⟨rfl, hb⟩; refine ⟨_, rfl, ?_⟩; replace BK334 := Aside0.mk (blk_below (g := gb334) (o := .cells #[.int .i64 t335, .int .i64 t336] 23 (0, 0)) (bkp BK334) hb); replace HB := bst HB hb; (try clear hb); (try clear hb2); (try clear hk); (try clear hi)) | ((with_reducible refine gate_callee (f := 69) rfl ?_); refine gol (some 11) Try.func69 #[] ?_; (with_reducible refine (cut_First.calls  t339 t340 _ A10.out).mono ?_); rintro e w17 ⟨rfl, hb⟩; refine ⟨_, rfl, ?_⟩; replace BK334 := bkb BK334 hb; replace HB := bst HB hb; (try clear hb); (try clear hb2); (try clear hk); (try clear hi)))
      go_ret2
      exact endB HB
    · rw [if_neg c11] at H
      have c11b0 : (t335 == t339 && (t336 == t340)) = false := by simpa using c11
      (try (have c11b1 : decide (t335 = t339 && (t336 == t340)) = false := by simpa using c11))
      (try (have c11b2 : (t335 == t339 && (t336 == t340)) = false := by simpa using c11))
      (try (have c11b3 : ¬ (t335 = t339 && (t336 == t340)) := by simpa using c11))
      clear c11
      simp only [Option.some.injEq, Prod.mk.injEq] at H
      obtain ⟨rfl, rfl⟩ := H
      go_enter Try.func60, Try.ntmps60
      go_wp2_with (first | ((with_reducible refine gate_dst (N := 1) rfl ?_); refine bxe (N := 1) (cs := #[.int .i64 a0_0, .int .i64 a0_1]) (t := 23) ?_; intro gb334 hg w18 hbox hb; have BK334 := Aside0.mk (hbox); have GW334 := lsz hg HB; have GE334 := lsz hg HB; replace HB := bst HB hb; clear hb hbox hg; obtain ⟨hcz19_0, hcz19_1⟩ := e2 BK334; obtain ⟨hfz19_0, hfz19_1⟩ := f2 BK334) | ((with_reducible refine gate_callee (f := 55) rfl ?_); refine gol (some 5) Try.func55 #[.agg #[.int .i64 a0_0, .int .i64 a0_1]] ?_; (with_reducible refine (cut_Canon.calls k a0_0 a0_1 t335 t336 _ A2.out).mono ?_); rintro e w20 ⟨rfl, hb⟩; refine ⟨_, rfl, ?_⟩; replace BK334 := bkb BK334 hb; replace HB := bst HB hb; (try clear hb); (try clear hb2); (try clear hk); (try clear hi); obtain ⟨hcz21_0, hcz21_1⟩ := e2 BK334; obtain ⟨hfz21_0, hfz21_1⟩ := f2 BK334) | ((with_reducible refine gate_callee (f := 70) rfl ?_); refine gol (some 8) Try.func70 #[] ?_; (with_reducible refine (cut_Last.calls  t337 t338 _ A3.out).mono ?_); rintro e w22 ⟨rfl, hb⟩; refine ⟨_, rfl, ?_⟩; replace BK334 := Aside0.mk (blk_below (g := gb334) (o := .cells #[.int .i64 t335, .int .i64 t336] 23 (0, 0)) (bkp BK334) hb); replace HB := bst HB hb; (try clear hb); (try clear hb2); (try clear hk); (try clear hi)) | ((with_reducible refine gate_callee (f := 69) rfl ?_); refine gol (some 11) Try.func69 #[] ?_; (with_reducible refine (cut_First.calls  t339 t340 _ A10.out).mono ?_); rintro e w23 ⟨rfl, hb⟩; refine ⟨_, rfl, ?_⟩; replace BK334 := bkb BK334 hb; replace HB := bst HB hb; (try clear hb); (try clear hb2); (try clear hk); (try clear hi); obtain ⟨hcz24_0, hcz24_1⟩ := e2 BK334; obtain ⟨hfz24_0, hfz24_1⟩ := f2 BK334))
      go_ret2
      exact endB HB
end
section
attribute [local go_sem high] eqA23
/-! ### cut_Prev: function 61 -/
def cut_Prev.f (k : Nat) (a0_0 : Int) (a0_1 : Int) : Option (Int × Bool) := (cut_Canon.f k a0_0 a0_1).bind fun bt342 => ((cut_First.f).bind fun bt344 => (if (bt342.1 == bt344.1 && (bt342.2 == bt344.2)) = true then (some (0, false)) else ((cut_Last.f).bind fun bt346 => (if (bt342.1 == bt346.1 && (bt342.2 == bt346.2)) = true then (some (9223372036854775807, true)) else (some (wrap64 (bt342.2 - 1), true))))))
theorem cut_Prev.mono : ∀ a0 a1 k, LeO (cut_Prev.f k a0 a1) (cut_Prev.f (k + 1) a0 a1) := by
  intro a0 a1 k
  unfold cut_Prev.f
  repeat' first
      | (with_reducible exact cut_Canon.mono _ _ _)
      | (with_reducible exact LeO.refl _)
      | (with_reducible exact LeO.none _)
      | (with_reducible refine LeO.ite ?_ ?_)
      | (with_reducible refine LeO.bind ?_ (fun _ => ?_))
      | exact cut_Canon.mono _ _ _
      | exact LeO.none _
      | refine LeO.ite ?_ ?_
      | refine LeO.bind ?_ (fun _ => ?_)
set_option maxHeartbeats 8000000 in
set_option maxRecDepth 100000 in
theorem cut_Prev.calls (k : Nat) (a0_0 : Int) (a0_1 : Int) (r1 : Int) (r2 : Bool) (w : World) (h : cut_Prev.f k a0_0 a0_1 = some (r1, r2)) :
    Calls Try.prog 61 #[.agg #[.int .i64 a0_0, .int .i64 a0_1]] w fun e w' => e = .returned (.tuple #[.int .i64 r1, .bool r2]) ∧ Below w.heap.size w w' := by
  have hu23 := Try.underlying23
  have HB := Aside0.mk (Below.refl w.heap.size w)
  have H : ((cut_Canon.f k a0_0 a0_1).bind fun bt342 => ((cut_First.f).bind fun bt344 => (if (bt342.1 == bt344.1 && (bt342.2 == bt344.2)) = true then (some (0, false)) else ((cut_Last.f).bind fun bt346 => (if (bt342.1 == bt346.1 && (bt342.2 == bt346.2)) = true then (some (9223372036854775807, true)) else (some (wrap64 (bt342.2 - 1), true))))))) = some (r1, r2) := h
  clear h
  replace H := Option.bind_eq_some_iff.mp H
  obtain ⟨⟨t342, t343⟩, A20, H⟩ := H
  (try (set_option simprocs false in dsimp only at H))
  have A2 := Aside0.mk A20
  clear A20
  replace H := Option.bind_eq_some_iff.mp H
  obtain ⟨⟨t344, t345⟩, A30, H⟩ := H
  (try (set_option simprocs false in dsimp only at H))
  have A3 := Aside0.mk A30
  clear A30
  by_cases c4 : (t342 == t344 && (t343 == t345)) = true
  · rw [if_pos c4] at H
    have c4b0 : (t342 == t344 && (t343 == t345)) = true := c4
    (try (have c4b1 : decide (t342 = t344 && (t343 == t345)) = true := by simpa using c4))
    (try (have c4b2 : (t342 == t344 && (t343 == t345)) = true := by simpa using c4))
    clear c4
    simp only [Option.some.injEq, Prod.mk.injEq] at H
    obtain ⟨rfl, rfl⟩ := H
    go_enter Try.func61, Try.ntmps61
    go_wp2_with (first | ((with_reducible refine gate_dst (N := 1) rfl ?_); refine bxe (N := 1) (cs := #[.int .i64 a0_0, .int .i64 a0_1]) (t := 23) ?_; intro gb341 hg w5 hbox hb; have BK341 := Aside0.mk (hbox); have GW341 := lsz hg HB; have GE341 := lsz hg HB; replace HB := bst HB hb; clear hb hbox hg; obtain ⟨hcz6_0, hcz6_1⟩ := e2 BK341; obtain ⟨hfz6_0, hfz6_1⟩ := f2 BK341) | ((with_reducible refine gate_callee (f := 55) rfl ?_); refine gol (some 5) Try.func55 #[.agg #[.int .i64 a0_0, .int .i64 a0_1]] ?_; (with_reducible refine (cut_Canon.calls k a0_0 a0_1 t342 t343 _ A2.out).mono ?_); rintro e w7 ⟨rfl, hb⟩; refine ⟨_, rfl, ?_⟩; replace BK341 := bkb BK341 hb; replace HB := bst HB hb; (try clear hb); (try clear hb2); (try clear hk); (try clear hi); obtain ⟨hcz8_0, hcz8_1⟩ := e2 BK341; obtain ⟨hfz8_0, hfz8_1⟩ := f2 BK341) | ((with_reducible refine gate_callee (f := 69) rfl ?_); refine gol (some 8) Try.func69 #[] ?_; (with_reducible refine (cut_First.calls  t344 t345 _ A3.out).mono ?_); rintro e w9 ⟨rfl, hb⟩; refine ⟨_, rfl, ?_⟩; replace BK341 := Aside0.mk (blk_below (g := gb341) (o := .cells #[.int .i64 t342, .int .i64 t343] 23 (0, 0)) (bkp BK341) hb); replace HB := bst HB hb; (try clear hb); (try clear hb2); (try clear hk); (try clear hi)))
    go_ret2
    exact endB HB
  · rw [if_neg c4] at H
    have c4b0 : (t342 == t344 && (t343 == t345)) = false := by simpa using c4
    (try (have c4b1 : decide (t342 = t344 && (t343 == t345)) = false := by simpa using c4))
    (try (have c4b2 : (t342 == t344 && (t343 == t345)) = false := by simpa using c4))
    (try (have c4b3 : ¬ (t342 = t344 && (t343 == t345)) := by simpa using c4))
    clear c4
    replace H := Option.bind_eq_some_iff.mp H
    obtain ⟨⟨t346, t347⟩, A100, H⟩ := H
    (try (set_option simprocs false in dsimp only at H))
    have A10 := Aside0.mk A100
    clear A100
    by_cases c11 : (t342 == t346 && (t343 == t347)) = true
    · rw [if_pos c11] at H
      have c11b0 : (t342 == t346 && (t343 == t347)) = true := c11
      (try (have c11b1 : decide (t342 = t346 && (t343 == t347)) = true := by simpa using c11))
      (try (have c11b2 : (t342 == t346 && (t343 == t347)) = true := by simpa using c11))
      clear c11
      simp only [Option.some.injEq, Prod.mk.injEq] at H
      obtain ⟨rfl, rfl⟩ := H
      go_enter Try.func61, Try.ntmps61
      go_wp2_with (first | ((with_reducible refine gate_dst (N := 1) rfl ?_); refine bxe (N := 1) (cs := #[.int .i64 a0_0, .int .i64 a0_1]) (t := 23) ?_; intro gb341 hg w12 hbox hb; have BK341 := Aside0.mk (hbox); have GW341 := lsz hg HB; have GE341 := lsz hg HB; replace HB := bst HB hb; clear hb hbox hg; obtain ⟨hcz13_0, hcz13_1⟩ := e2 BK341; obtain ⟨hfz13_0, hfz13_1⟩ := f2 BK341) | ((with_reducible refine gate_callee (f := 55) rfl ?_); refine gol (some 5) Try.func55 #[.agg #[.int .i64 a0_0, .int .i64 a0_1]] ?_; (with_reducible refine (cut_Canon.calls k a0_0 a0_1 t342 t343 _ A2.out).mono ?_); rintro e w14 ⟨rfl, hb⟩; refine ⟨_, rfl, ?_⟩; replace BK341 := bkb BK341 hb; replace HB := bst HB hb; (try clear hb); (try clear hb2); (try clear hk); (try clear hi); obtain ⟨hcz15_0, hcz15_1⟩ := e2 BK341; obtain ⟨hfz15_0, hfz15_1⟩ := f2 BK341) | ((with_reducible refine gate_callee (f := 69) rfl ?_); refine gol (some 8) Try.func69 #[] ?_; (with_reducible refine (cut_First.calls  t344 t345 _ A3.out).mono ?_); rintro e w16 ⟨rfl, hb⟩; refine ⟨_, rfl, ?_⟩; replace BK341 := Aside0.mk (blk_below (g := gb341) (o := .cells #[.int .i64 t342, .int .i64 t343] 23 (0, 0)) (bkp BK341) hb); replace HB := bst HB hb; (try clear hb); (try clear hb2); (try clear hk); (try clear hi)) | ((with_reducible refine gate_callee (f := 70) rfl ?_); refine gol (some 11) Try.func70 #[] ?_; (with_reducible refine (cut_Last.calls  t346 t347 _ A10.out).mono ?_); rintro e w17 ⟨rfl, hb⟩; refine ⟨_, rfl, ?_⟩; replace BK341 := bkb BK341 hb; replace HB := bst HB hb; (try clear hb); (try clear hb2); (try clear hk); (try clear hi)))
      go_ret2
      exact endB HB
    · rw [if_neg c11] at H
      have c11b0 : (t342 == t346 && (t343 == t347)) = false := by simpa using c11
      (try (have c11b1 : decide (t342 = t346 && (t343 == t347)) = false := by simpa using c11))
      (try (have c11b2 : (t342 == t346 && (t343 == t347)) = false := by simpa using c11))
      (try (have c11b3 : ¬ (t342 = t346 && (t343 == t347)) := by simpa using c11))
      clear c11
      simp only [Option.some.injEq, Prod.mk.injEq] at H
      obtain ⟨rfl, rfl⟩ := H
      go_enter Try.func61, Try.ntmps61
      go_wp2_with (first | ((with_reducible refine gate_dst (N := 1) rfl ?_); refine bxe (N := 1) (cs := #[.int .i64 a0_0, .int .i64 a0_1]) (t := 23) ?_; intro gb341 hg w18 hbox hb; have BK341 := Aside0.mk (hbox); have GW341 := lsz hg HB; have GE341 := lsz hg HB; replace HB := bst HB hb; clear hb hbox hg; obtain ⟨hcz19_0, hcz19_1⟩ := e2 BK341; obtain ⟨hfz19_0, hfz19_1⟩ := f2 BK341) | ((with_reducible refine gate_callee (f := 55) rfl ?_); refine gol (some 5) Try.func55 #[.agg #[.int .i64 a0_0, .int .i64 a0_1]] ?_; (with_reducible refine (cut_Canon.calls k a0_0 a0_1 t342 t343 _ A2.out).mono ?_); rintro e w20 ⟨rfl, hb⟩; refine ⟨_, rfl, ?_⟩; replace BK341 := bkb BK341 hb; replace HB := bst HB hb; (try clear hb); (try clear hb2); (try clear hk); (try clear hi); obtain ⟨hcz21_0, hcz21_1⟩ := e2 BK341; obtain ⟨hfz21_0, hfz21_1⟩ := f2 BK341) | ((with_reducible refine gate_callee (f := 69) rfl ?_); refine gol (some 8) Try.func69 #[] ?_; (with_reducible refine (cut_First.calls  t344 t345 _ A3.out).mono ?_); rintro e w22 ⟨rfl, hb⟩; refine ⟨_, rfl, ?_⟩; replace BK341 := Aside0.mk (blk_below (g := gb341) (o := .cells #[.int .i64 t342, .int .i64 t343] 23 (0, 0)) (bkp BK341) hb); replace HB := bst HB hb; (try clear hb); (try clear hb2); (try clear hk); (try clear hi)) | ((with_reducible refine gate_callee (f := 70) rfl ?_); refine gol (some 11) Try.func70 #[] ?_; (with_reducible refine (cut_Last.calls  t346 t347 _ A10.out).mono ?_); rintro e w23 ⟨rfl, hb⟩; refine ⟨_, rfl, ?_⟩; replace BK341 := bkb BK341 hb; replace HB := bst HB hb; (try clear hb); (try clear hb2); (try clear hk); (try clear hi); obtain ⟨hcz24_0, hcz24_1⟩ := e2 BK341; obtain ⟨hfz24_0, hfz24_1⟩ := f2 BK341))
      go_ret2
      exact endB HB
end
section
attribute [local go_sem high] eqA23
/-! ### span_Ends: function 31 -/
def span_Ends.f (k : Nat) (a0_0 : Int) (a0_1 : Int) (a0_2 : Int) (a0_3 : Int) : Option (Int × Int) := (span_Right.f k a0_0 a0_1 a0_2 a0_3).bind fun t349 => (if t349 = true then ((cut_Next.f k a0_0 a0_1).bind fun bt350 => ((cut_Prev.f k a0_2 a0_3).bind fun bt352 => (some (bt350.1, bt352.1)))) else (some (0, 0)))
theorem span_Ends.mono : ∀ a0 a1 a2 a3 k, LeO (span_Ends.f k a0 a1 a2 a3) (span_Ends.f (k + 1) a0 a1 a2 a3) := by
  intro a0 a1 a2 a3 k
  unfold span_Ends.f
  repeat' first
      | (with_reducible exact cut_Next.mono _ _ _)
      | (with_reducible exact cut_Prev.mono _ _ _)
      | (with_reducible exact span_Right.mono _ _ _ _ _)
      | (with_reducible exact LeO.refl _)
      | (with_reducible exact LeO.none _)
      | (with_reducible refine LeO.ite ?_ ?_)
      | (with_reducible refine LeO.bind ?_ (fun _ => ?_))
      | exact cut_Next.mono _ _ _
      | exact cut_Prev.mono _ _ _
      | exact span_Right.mono _ _ _ _ _
      | exact LeO.none _
      | refine LeO.ite ?_ ?_
      | refine LeO.bind ?_ (fun _ => ?_)
set_option maxHeartbeats 8000000 in
set_option maxRecDepth 100000 in
theorem span_Ends.calls (k : Nat) (a0_0 : Int) (a0_1 : Int) (a0_2 : Int) (a0_3 : Int) (r1 : Int) (r2 : Int) (w : World) (h : span_Ends.f k a0_0 a0_1 a0_2 a0_3 = some (r1, r2)) :
    Calls Try.prog 31 #[.agg #[.int .i64 a0_0, .int .i64 a0_1, .int .i64 a0_2, .int .i64 a0_3]] w fun e w' => e = .returned (.tuple #[.int .i64 r1, .int .i64 r2]) ∧ Below w.heap.size w w' := by
  have hu25 := Try.underlying25
  have hu23 := Try.underlying23
  have HB := Aside0.mk (Below.refl w.heap.size w)
  have H : ((span_Right.f k a0_0 a0_1 a0_2 a0_3).bind fun t349 => (if t349 = true then ((cut_Next.f k a0_0 a0_1).bind fun bt350 => ((cut_Prev.f k a0_2 a0_3).bind fun bt352 => (some (bt350.1, bt352.1)))) else (some (0, 0)))) = some (r1, r2) := h
  clear h
  replace H := Option.bind_eq_some_iff.mp H
  obtain ⟨t349, A20, H⟩ := H
  (try (set_option simprocs false in dsimp only at H))
  have A2 := Aside0.mk A20
  clear A20
  by_cases c3 : t349 = true
  · subst c3
    have H1 : ((cut_Next.f k a0_0 a0_1).bind fun bt350 => ((cut_Prev.f k a0_2 a0_3).bind fun bt352 => (some (bt350.1, bt352.1)))) = some (r1, r2) := by rw [if_pos rfl] at H; exact H
    clear H
    have H := H1
    clear H1
    replace H := Option.bind_eq_some_iff.mp H
    obtain ⟨⟨t350, t351⟩, A40, H⟩ := H
    (try (set_option simprocs false in dsimp only at H))
    have A4 := Aside0.mk A40
    clear A40
    replace H := Option.bind_eq_some_iff.mp H
    obtain ⟨⟨t352, t353⟩, A50, H⟩ := H
    (try (set_option simprocs false in dsimp only at H))
    have A5 := Aside0.mk A50
    clear A50
    simp only [Option.some.injEq, Prod.mk.injEq] at H
    obtain ⟨rfl, rfl⟩ := H
    go_enter Try.func31, Try.ntmps31
    go_wp2_with (first | ((with_reducible refine gate_dst (N := 1) rfl ?_); refine bxe (N := 1) (cs := #[.int .i64 a0_0, .int .i64 a0_1, .int .i64 a0_2, .int .i64 a0_3]) (t := 25) ?_; intro gb348 hg w6 hbox hb; have BK348 := Aside0.mk (hbox); have GW348 := lsz hg HB; have GE348 := lsz hg HB; replace HB := bst HB hb; clear hb hbox hg; obtain ⟨hcz7_0, hcz7_1, hcz7_2, hcz7_3⟩ := e4 BK348; obtain ⟨hfz7_0, hfz7_1, hfz7_2, hfz7_3⟩ := f4 BK348) | ((with_reducible refine gate_callee (f := 28) rfl ?_); refine gol (some 9) Try.func28 #[.agg #[.int .i64 a0_0, .int .i64 a0_1, .int .i64 a0_2, .int .i64 a0_3]] ?_; (with_reducible refine (span_Right.calls k a0_0 a0_1 a0_2 a0_3 true _ A2.out).mono ?_); rintro e w8 ⟨rfl, hb⟩; refine ⟨_, rfl, ?_⟩; replace BK348 := bkb BK348 hb; replace HB := bst HB hb; (try clear hb); (try clear hb2); (try clear hk); (try clear hi); obtain ⟨hcz9_0, hcz9_1, hcz9_2, hcz9_3⟩ := e4 BK348; obtain ⟨hfz9_0, hfz9_1, hfz9_2, hfz9_3⟩ := f4 BK348) | ((with_reducible refine gate_callee (f := 60) rfl ?_); refine gol (some 14) Try.func60 #[.agg #[.int .i64 a0_0, .int .i64 a0_1]] ?_; (with_reducible refine (cut_Next.calls k a0_0 a0_1 t350 t351 _ A4.out).mono ?_); rintro e w10 ⟨rfl, hb⟩; refine ⟨_, rfl, ?_⟩; replace BK348 := bkb BK348 hb; replace HB := bst HB hb; (try clear hb); (try clear hb2); (try clear hk); (try clear hi); obtain ⟨hcz11_0, hcz11_1, hcz11_2, hcz11_3⟩ := e4 BK348; obtain ⟨hfz11_0, hfz11_1, hfz11_2, hfz11_3⟩ := f4 BK348) | ((with_reducible refine gate_callee (f := 61) rfl ?_); refine gol (some 20) Try.func61 #[.agg #[.int .i64 a0_2, .int .i64 a0_3]] ?_; (with_reducible refine (cut_Prev.calls k a0_2 a0_3 t352 t353 _ A5.out).mono ?_); rintro e w12 ⟨rfl, hb⟩; refine ⟨_, rfl, ?_⟩; replace BK348 := bkb BK348 hb; replace HB := bst HB hb; (try clear hb); (try clear hb2); (try clear hk); (try clear hi)))
    go_ret2
    exact endB HB
  · replace c3 := Bool.eq_false_iff.mpr c3
    subst c3
    have H1 : (some (0, 0)) = some (r1, r2) := by rw [if_neg (show ¬ (false = true) by decide)] at H; exact H
    clear H
    have H := H1
    clear H1
    simp only [Option.some.injEq, Prod.mk.injEq] at H
    obtain ⟨rfl, rfl⟩ := H
    go_enter Try.func31, Try.ntmps31
    go_wp2_with (first | ((with_reducible refine gate_dst (N := 1) rfl ?_); refine bxe (N := 1) (cs := #[.int .i64 a0_0, .int .i64 a0_1, .int .i64 a0_2, .int .i64 a0_3]) (t := 25) ?_; intro gb348 hg w13 hbox hb; have BK348 := Aside0.mk (hbox); have GW348 := lsz hg HB; have GE348 := lsz hg HB; replace HB := bst HB hb; clear hb hbox hg; obtain ⟨hcz14_0, hcz14_1, hcz14_2, hcz14_3⟩ := e4 BK348; obtain ⟨hfz14_0, hfz14_1, hfz14_2, hfz14_3⟩ := f4 BK348) | ((with_reducible refine gate_callee (f := 28) rfl ?_); refine gol (some 9) Try.func28 #[.agg #[.int .i64 a0_0, .int .i64 a0_1, .int .i64 a0_2, .int .i64 a0_3]] ?_; (with_reducible refine (span_Right.calls k a0_0 a0_1 a0_2 a0_3 false _ A2.out).mono ?_); rintro e w15 ⟨rfl, hb⟩; refine ⟨_, rfl, ?_⟩; replace BK348 := bkb BK348 hb; replace HB := bst HB hb; (try clear hb); (try clear hb2); (try clear hk); (try clear hi)))
    go_ret2
    exact endB HB
end
/-! ### span_Count: function 26 -/
def span_Count.f (k : Nat) (a0_0 : Int) (a0_1 : Int) (a0_2 : Int) (a0_3 : Int) : Option (Int × Bool) := (span_Right.f k a0_0 a0_1 a0_2 a0_3).bind fun t355 => (if t355 = true then ((span_Ends.f k a0_0 a0_1 a0_2 a0_3).bind fun bt356 => (some (IntKind.u64.wrap ((IntKind.u64.wrap ((IntKind.u64.wrap (bt356.2)) - (IntKind.u64.wrap (bt356.1)))) + 1), decide ((IntKind.u64.wrap ((IntKind.u64.wrap ((IntKind.u64.wrap (bt356.2)) - (IntKind.u64.wrap (bt356.1)))) + 1)) > 0)))) else (some (0, false)))
theorem span_Count.mono : ∀ a0 a1 a2 a3 k, LeO (span_Count.f k a0 a1 a2 a3) (span_Count.f (k + 1) a0 a1 a2 a3) := by
  intro a0 a1 a2 a3 k
  unfold span_Count.f
  repeat' first
      | (with_reducible exact span_Ends.mono _ _ _ _ _)
      | (with_reducible exact span_Right.mono _ _ _ _ _)
      | (with_reducible exact LeO.refl _)
      | (with_reducible exact LeO.none _)
      | (with_reducible refine LeO.ite ?_ ?_)
      | (with_reducible refine LeO.bind ?_ (fun _ => ?_))
      | exact span_Ends.mono _ _ _ _ _
      | exact span_Right.mono _ _ _ _ _
      | exact LeO.none _
      | refine LeO.ite ?_ ?_
      | refine LeO.bind ?_ (fun _ => ?_)
set_option maxHeartbeats 8000000 in
set_option maxRecDepth 100000 in
theorem span_Count.calls (k : Nat) (a0_0 : Int) (a0_1 : Int) (a0_2 : Int) (a0_3 : Int) (r1 : Int) (r2 : Bool) (w : World) (h : span_Count.f k a0_0 a0_1 a0_2 a0_3 = some (r1, r2)) :
    Calls Try.prog 26 #[.agg #[.int .i64 a0_0, .int .i64 a0_1, .int .i64 a0_2, .int .i64 a0_3]] w fun e w' => e = .returned (.tuple #[.int .u64 r1, .bool r2]) ∧ Below w.heap.size w w' := by
  have hu25 := Try.underlying25
  have HB := Aside0.mk (Below.refl w.heap.size w)
  have H : ((span_Right.f k a0_0 a0_1 a0_2 a0_3).bind fun t355 => (if t355 = true then ((span_Ends.f k a0_0 a0_1 a0_2 a0_3).bind fun bt356 => (some (IntKind.u64.wrap ((IntKind.u64.wrap ((IntKind.u64.wrap (bt356.2)) - (IntKind.u64.wrap (bt356.1)))) + 1), decide ((IntKind.u64.wrap ((IntKind.u64.wrap ((IntKind.u64.wrap (bt356.2)) - (IntKind.u64.wrap (bt356.1)))) + 1)) > 0)))) else (some (0, false)))) = some (r1, r2) := h
  clear h
  replace H := Option.bind_eq_some_iff.mp H
  obtain ⟨t355, A20, H⟩ := H
  (try (set_option simprocs false in dsimp only at H))
  have A2 := Aside0.mk A20
  clear A20
  by_cases c3 : t355 = true
  · subst c3
    have H1 : ((span_Ends.f k a0_0 a0_1 a0_2 a0_3).bind fun bt356 => (some (IntKind.u64.wrap ((IntKind.u64.wrap ((IntKind.u64.wrap (bt356.2)) - (IntKind.u64.wrap (bt356.1)))) + 1), decide ((IntKind.u64.wrap ((IntKind.u64.wrap ((IntKind.u64.wrap (bt356.2)) - (IntKind.u64.wrap (bt356.1)))) + 1)) > 0)))) = some (r1, r2) := by rw [if_pos rfl] at H; exact H
    clear H
    have H := H1
    clear H1
    replace H := Option.bind_eq_some_iff.mp H
    obtain ⟨⟨t356, t357⟩, A40, H⟩ := H
    (try (set_option simprocs false in dsimp only at H))
    have A4 := Aside0.mk A40
    clear A40
    simp only [Option.some.injEq, Prod.mk.injEq] at H
    obtain ⟨rfl, rfl⟩ := H
    go_enter Try.func26, Try.ntmps26
    go_wp2_with (first | ((with_reducible refine gate_dst (N := 1) rfl ?_); refine bxe (N := 1) (cs := #[.int .i64 a0_0, .int .i64 a0_1, .int .i64 a0_2, .int .i64 a0_3]) (t := 25) ?_; intro gb354 hg w5 hbox hb; have BK354 := Aside0.mk (hbox); have GW354 := lsz hg HB; have GE354 := lsz hg HB; replace HB := bst HB hb; clear hb hbox hg; obtain ⟨hcz6_0, hcz6_1, hcz6_2, hcz6_3⟩ := e4 BK354; obtain ⟨hfz6_0, hfz6_1, hfz6_2, hfz6_3⟩ := f4 BK354) | ((with_reducible refine gate_callee (f := 28) rfl ?_); refine gol (some 8) Try.func28 #[.agg #[.int .i64 a0_0, .int .i64 a0_1, .int .i64 a0_2, .int .i64 a0_3]] ?_; (with_reducible refine (span_Right.calls k a0_0 a0_1 a0_2 a0_3 true _ A2.out).mono ?_); rintro e w7 ⟨rfl, hb⟩; refine ⟨_, rfl, ?_⟩; replace BK354 := bkb BK354 hb; replace HB := bst HB hb; (try clear hb); (try clear hb2); (try clear hk); (try clear hi); obtain ⟨hcz8_0, hcz8_1, hcz8_2, hcz8_3⟩ := e4 BK354; obtain ⟨hfz8_0, hfz8_1, hfz8_2, hfz8_3⟩ := f4 BK354) | ((with_reducible refine gate_callee (f := 31) rfl ?_); refine gol (some 12) Try.func31 #[.agg #[.int .i64 a0_0, .int .i64 a0_1, .int .i64 a0_2, .int .i64 a0_3]] ?_; (with_reducible refine (span_Ends.calls k a0_0 a0_1 a0_2 a0_3 t356 t357 _ A4.out).mono ?_); rintro e w9 ⟨rfl, hb⟩; refine ⟨_, rfl, ?_⟩; replace BK354 := bkb BK354 hb; replace HB := bst HB hb; (try clear hb); (try clear hb2); (try clear hk); (try clear hi)))
    go_ret2
    exact endB HB
  · replace c3 := Bool.eq_false_iff.mpr c3
    subst c3
    have H1 : (some (0, false)) = some (r1, r2) := by rw [if_neg (show ¬ (false = true) by decide)] at H; exact H
    clear H
    have H := H1
    clear H1
    simp only [Option.some.injEq, Prod.mk.injEq] at H
    obtain ⟨rfl, rfl⟩ := H
    go_enter Try.func26, Try.ntmps26
    go_wp2_with (first | ((with_reducible refine gate_dst (N := 1) rfl ?_); refine bxe (N := 1) (cs := #[.int .i64 a0_0, .int .i64 a0_1, .int .i64 a0_2, .int .i64 a0_3]) (t := 25) ?_; intro gb354 hg w10 hbox hb; have BK354 := Aside0.mk (hbox); have GW354 := lsz hg HB; have GE354 := lsz hg HB; replace HB := bst HB hb; clear hb hbox hg; obtain ⟨hcz11_0, hcz11_1, hcz11_2, hcz11_3⟩ := e4 BK354; obtain ⟨hfz11_0, hfz11_1, hfz11_2, hfz11_3⟩ := f4 BK354) | ((with_reducible refine gate_callee (f := 28) rfl ?_); refine gol (some 8) Try.func28 #[.agg #[.int .i64 a0_0, .int .i64 a0_1, .int .i64 a0_2, .int .i64 a0_3]] ?_; (with_reducible refine (span_Right.calls k a0_0 a0_1 a0_2 a0_3 false _ A2.out).mono ?_); rintro e w12 ⟨rfl, hb⟩; refine ⟨_, rfl, ?_⟩; replace BK354 := bkb BK354 hb; replace HB := bst HB hb; (try clear hb); (try clear hb2); (try clear hk); (try clear hi)))
    go_ret2
    exact endB HB
/-! ### cut_Ahead: function 63 -/
def cut_Ahead.f (k : Nat) (a0 : Int) : Option (Int × Int) := (cut_Canon.f k 0 a0).bind fun bt359 => (some (bt359.1, bt359.2))
theorem cut_Ahead.mono : ∀ a0 k, LeO (cut_Ahead.f k a0) (cut_Ahead.f (k + 1) a0) := by
  intro a0 k
  unfold cut_Ahead.f
  repeat' first
      | (with_reducible exact cut_Canon.mono _ _ _)
      | (with_reducible exact LeO.refl _)
      | (with_reducible exact LeO.none _)
      | (with_reducible refine LeO.ite ?_ ?_)
      | (with_reducible refine LeO.bind ?_ (fun _ => ?_))
      | exact cut_Canon.mono _ _ _
      | exact LeO.none _
      | refine LeO.ite ?_ ?_
      | refine LeO.bind ?_ (fun _ => ?_)
set_option maxHeartbeats 8000000 in
set_option maxRecDepth 100000 in
theorem cut_Ahead.calls (k : Nat) (a0 : Int) (r1 : Int) (r2 : Int) (w : World) (h : cut_Ahead.f k a0 = some (r1, r2)) :
    Calls Try.prog 63 #[.int .i64 a0] w fun e w' => e = .returned (.agg #[.int .i64 r1, .int .i64 r2]) ∧ Below w.heap.size w w' := by
  have hu23 := Try.underlying23
  have HB := Aside0.mk (Below.refl w.heap.size w)
  have H : ((cut_Canon.f k 0 a0).bind fun bt359 => (some (bt359.1, bt359.2))) = some (r1, r2) := h
  clear h
  replace H := Option.bind_eq_some_iff.mp H
  obtain ⟨⟨t359, t360⟩, A20, H⟩ := H
  (try (set_option simprocs false in dsimp only at H))
  have A2 := Aside0.mk A20
  clear A20
  simp only [Option.some.injEq, Prod.mk.injEq] at H
  obtain ⟨rfl, rfl⟩ := H
  go_enter Try.func63, Try.ntmps63
  go_wp2_with (first | ((with_reducible refine gate_dst (N := 2) rfl ?_); refine bxe (N := 2) (cs := #[.int .i64 0, .int .i64 0]) (t := 23) ?_; intro gb358 hg w3 hbox hb; have BK358 := Aside0.mk (hbox); have GW358 := lsz hg HB; have GE358 := lsz hg HB; replace HB := bst HB hb; clear hb hbox hg) | ((with_reducible refine gate_callee (f := 55) rfl ?_); refine gol (some 5) Try.func55 #[.agg #[.int .i64 0, .int .i64 a0]] ?_; (with_reducible refine (cut_Canon.calls k 0 a0 t359 t360 _ A2.out).mono ?_); rintro e w4 ⟨rfl, hb⟩; refine ⟨_, rfl, ?_⟩; replace BK358 := bkb BK358 hb; replace HB := bst HB hb; (try clear hb); (try clear hb2); (try clear hk); (try clear hi); obtain ⟨hcz5_0, hcz5_1⟩ := e2 BK358; obtain ⟨hfz5_0, hfz5_1⟩ := f2 BK358))
  refine bodyPost_ret (results_cell_row rfl _ _ gb358 23 #[.int .i64 t359, .int .i64 t360] (0, 0) _ rfl (bkp BK358) Try.underlying23 rfl (by kernel_rfl)) rfl ?_
  exact endB HB
/-! ### cut_Behind: function 64 -/
def cut_Behind.f (a0 : Int) : Option (Int × Int) := if a0 = 9223372036854775807 then ((cut_Last.f).bind fun bt362 => (some (bt362.1, bt362.2))) else (some (0, wrap64 (a0 + 1)))
set_option maxHeartbeats 8000000 in
set_option maxRecDepth 100000 in
theorem cut_Behind.calls (a0 : Int) (r1 : Int) (r2 : Int) (w : World) (h : cut_Behind.f a0 = some (r1, r2)) :
    Calls Try.prog 64 #[.int .i64 a0] w fun e w' => e = .returned (.agg #[.int .i64 r1, .int .i64 r2]) ∧ Below w.heap.size w w' := by
  have hu23 := Try.underlying23
  have HB := Aside0.mk (Below.refl w.heap.size w)
  have H : (if a0 = 9223372036854775807 then ((cut_Last.f).bind fun bt362 => (some (bt362.1, bt362.2))) else (some (0, wrap64 (a0 + 1)))) = some (r1, r2) := h
  clear h
  by_cases c2 : a0 = 9223372036854775807
  · rw [if_pos c2] at H
    have c2b0 : (a0 == 9223372036854775807) = true := beq_iff_eq.mpr c2
    have c2b1 : (a0 != 9223372036854775807) = false := bne_eq_false_iff_eq.mpr c2
    clear c2
    replace H := Option.bind_eq_some_iff.mp H
    obtain ⟨⟨t362, t363⟩, A30, H⟩ := H
    (try (set_option simprocs false in dsimp only at H))
    have A3 := Aside0.mk A30
    clear A30
    simp only [Option.some.injEq, Prod.mk.injEq] at H
    obtain ⟨rfl, rfl⟩ := H
    go_enter Try.func64, Try.ntmps64
    go_wp2_with (first | ((with_reducible refine gate_dst (N := 2) rfl ?_); refine bxe (N := 2) (cs := #[.int .i64 0, .int .i64 0]) (t := 23) ?_; intro gb361 hg w4 hbox hb; have BK361 := Aside0.mk (hbox); have GW361 := lsz hg HB; have GE361 := lsz hg HB; replace HB := bst HB hb; clear hb hbox hg) | ((with_reducible refine gate_callee (f := 70) rfl ?_); refine gol (some 5) Try.func70 #[] ?_; (with_reducible refine (cut_Last.calls  t362 t363 _ A3.out).mono ?_); rintro e w5 ⟨rfl, hb⟩; refine ⟨_, rfl, ?_⟩; replace BK361 := bkb BK361 hb; replace HB := bst HB hb; (try clear hb); (try clear hb2); (try clear hk); (try clear hi); obtain ⟨hcz6_0, hcz6_1⟩ := e2 BK361; obtain ⟨hfz6_0, hfz6_1⟩ := f2 BK361))
    refine bodyPost_ret (results_cell_row rfl _ _ gb361 23 #[.int .i64 t362, .int .i64 t363] (0, 0) _ rfl (bkp BK361) Try.underlying23 rfl (by kernel_rfl)) rfl ?_
    exact endB HB
  · rw [if_neg c2] at H
    have c2b0 : (a0 == 9223372036854775807) = false := beq_eq_false_iff_ne.mpr c2
    have c2b1 : (a0 != 9223372036854775807) = true := bne_iff_ne.mpr c2
    simp only [Option.some.injEq, Prod.mk.injEq] at H
    obtain ⟨rfl, rfl⟩ := H
    go_enter Try.func64, Try.ntmps64
    go_wp2_with (first | ((with_reducible refine gate_dst (N := 2) rfl ?_); refine bxe (N := 2) (cs := #[.int .i64 0, .int .i64 0]) (t := 23) ?_; intro gb361 hg w7 hbox hb; have BK361 := Aside0.mk (hbox); have GW361 := lsz hg HB; have GE361 := lsz hg HB; replace HB := bst HB hb; clear hb hbox hg; obtain ⟨hcz8_0, hcz8_1⟩ := e2 BK361; obtain ⟨hfz8_0, hfz8_1⟩ := f2 BK361))
    refine bodyPost_ret (results_cell_row rfl _ _ gb361 23 #[.int .i64 0, .int .i64 (wrap64 (a0 + 1))] (0, 0) _ rfl (bkp BK361) Try.underlying23 rfl (by kernel_rfl)) rfl ?_
    exact endB HB
/-! ### span_Point: function 34 -/
def span_Point.f (k : Nat) (a0 : Int) : Option (Int × Int × Int × Int) := (cut_Ahead.f k a0).bind fun bt365 => ((cut_Behind.f a0).bind fun bt367 => (some (bt365.1, bt365.2, bt367.1, bt367.2)))
theorem span_Point.mono : ∀ a0 k, LeO (span_Point.f k a0) (span_Point.f (k + 1) a0) := by
  intro a0 k
  unfold span_Point.f
  repeat' first
      | (with_reducible exact cut_Ahead.mono _ _)
      | (with_reducible exact LeO.refl _)
      | (with_reducible exact LeO.none _)
      | (with_reducible refine LeO.ite ?_ ?_)
      | (with_reducible refine LeO.bind ?_ (fun _ => ?_))
      | exact cut_Ahead.mono _ _
      | exact LeO.none _
      | refine LeO.ite ?_ ?_
      | refine LeO.bind ?_ (fun _ => ?_)
set_option maxHeartbeats 8000000 in
set_option maxRecDepth 100000 in
theorem span_Point.calls (k : Nat) (a0 : Int) (r1 : Int) (r2 : Int) (r3 : Int) (r4 : Int) (w : World) (h : span_Point.f k a0 = some (r1, r2, r3, r4)) :
    Calls Try.prog 34 #[.int .i64 a0] w fun e w' => e = .returned (.agg #[.int .i64 r1, .int .i64 r2, .int .i64 r3, .int .i64 r4]) ∧ Below w.heap.size w w' := by
  have hu25 := Try.underlying25
  have HB := Aside0.mk (Below.refl w.heap.size w)
  have H : ((cut_Ahead.f k a0).bind fun bt365 => ((cut_Behind.f a0).bind fun bt367 => (some (bt365.1, bt365.2, bt367.1, bt367.2)))) = some (r1, r2, r3, r4) := h
  clear h
  replace H := Option.bind_eq_some_iff.mp H
  obtain ⟨⟨t365, t366⟩, A20, H⟩ := H
  (try (set_option simprocs false in dsimp only at H))
  have A2 := Aside0.mk A20
  clear A20
  replace H := Option.bind_eq_some_iff.mp H
  obtain ⟨⟨t367, t368⟩, A30, H⟩ := H
  (try (set_option simprocs false in dsimp only at H))
  have A3 := Aside0.mk A30
  clear A30
  simp only [Option.some.injEq, Prod.mk.injEq] at H
  obtain ⟨rfl, rfl, rfl, rfl⟩ := H
  go_enter Try.func34, Try.ntmps34
  go_wp2_with (first | ((with_reducible refine gate_dst (N := 2) rfl ?_); refine bxe (N := 2) (cs := #[.int .i64 0, .int .i64 0, .int .i64 0, .int .i64 0]) (t := 25) ?_; intro gb364 hg w4 hbox hb; have BK364 := Aside0.mk (hbox); have GW364 := lsz hg HB; have GE364 := lsz hg HB; replace HB := bst HB hb; clear hb hbox hg) | ((with_reducible refine gate_callee (f := 63) rfl ?_); refine gol (some 4) Try.func63 #[.int .i64 a0] ?_; (with_reducible refine (cut_Ahead.calls k a0 t365 t366 _ A2.out).mono ?_); rintro e w5 ⟨rfl, hb⟩; refine ⟨_, rfl, ?_⟩; replace BK364 := bkb BK364 hb; replace HB := bst HB hb; (try clear hb); (try clear hb2); (try clear hk); (try clear hi)) | ((with_reducible refine gate_callee (f := 64) rfl ?_); refine gol (some 6) Try.func64 #[.int .i64 a0] ?_; (with_reducible refine (cut_Behind.calls a0 t367 t368 _ A3.out).mono ?_); rintro e w6 ⟨rfl, hb⟩; refine ⟨_, rfl, ?_⟩; replace BK364 := bkb BK364 hb; replace HB := bst HB hb; (try clear hb); (try clear hb2); (try clear hk); (try clear hi); obtain ⟨hcz7_0, hcz7_1, hcz7_2, hcz7_3⟩ := e4 BK364; obtain ⟨hfz7_0, hfz7_1, hfz7_2, hfz7_3⟩ := f4 BK364))
  refine bodyPost_ret (results_cell_row rfl _ _ gb364 25 #[.int .i64 t365, .int .i64 t366, .int .i64 t367, .int .i64 t368] (0, 0) _ rfl (bkp BK364) Try.underlying25 rfl (by kernel_rfl)) rfl ?_
  exact endB HB
/-! ### span_Has: function 29 -/
def span_Has.f (k : Nat) (a0_0 : Int) (a0_1 : Int) (a0_2 : Int) (a0_3 : Int) (a1 : Int) : Option (Bool) := (span_Point.f k a1).bind fun bt370 => ((span_Holds.f k a0_0 a0_1 a0_2 a0_3 bt370.1 bt370.2.1 bt370.2.2.1 bt370.2.2.2).bind fun t374 => (some t374))
theorem span_Has.mono : ∀ a0 a1 a2 a3 a4 k, LeO (span_Has.f k a0 a1 a2 a3 a4) (span_Has.f (k + 1) a0 a1 a2 a3 a4) := by
  intro a0 a1 a2 a3 a4 k
  unfold span_Has.f
  repeat' first
      | (with_reducible exact span_Holds.mono _ _ _ _ _ _ _ _ _)
      | (with_reducible exact span_Point.mono _ _)
      | (with_reducible exact LeO.refl _)
      | (with_reducible exact LeO.none _)
      | (with_reducible refine LeO.ite ?_ ?_)
      | (with_reducible refine LeO.bind ?_ (fun _ => ?_))
      | exact span_Holds.mono _ _ _ _ _ _ _ _ _
      | exact span_Point.mono _ _
      | exact LeO.none _
      | refine LeO.ite ?_ ?_
      | refine LeO.bind ?_ (fun _ => ?_)
set_option maxHeartbeats 8000000 in
set_option maxRecDepth 100000 in
theorem span_Has.calls (k : Nat) (a0_0 : Int) (a0_1 : Int) (a0_2 : Int) (a0_3 : Int) (a1 : Int) (r : Bool) (w : World) (h : span_Has.f k a0_0 a0_1 a0_2 a0_3 a1 = some r) :
    Calls Try.prog 29 #[.agg #[.int .i64 a0_0, .int .i64 a0_1, .int .i64 a0_2, .int .i64 a0_3], .int .i64 a1] w fun e w' => e = .returned (.bool r) ∧ Below w.heap.size w w' := by
  have hu25 := Try.underlying25
  have HB := Aside0.mk (Below.refl w.heap.size w)
  have H : ((span_Point.f k a1).bind fun bt370 => ((span_Holds.f k a0_0 a0_1 a0_2 a0_3 bt370.1 bt370.2.1 bt370.2.2.1 bt370.2.2.2).bind fun t374 => (some t374))) = some r := h
  clear h
  replace H := Option.bind_eq_some_iff.mp H
  obtain ⟨⟨t370, t371, t372, t373⟩, A30, H⟩ := H
  (try (set_option simprocs false in dsimp only at H))
  have A3 := Aside0.mk A30
  clear A30
  replace H := Option.bind_eq_some_iff.mp H
  obtain ⟨t374, A40, H⟩ := H
  (try (set_option simprocs false in dsimp only at H))
  have A4 := Aside0.mk A40
  clear A40
  obtain rfl := Option.some.inj H
  go_enter Try.func29, Try.ntmps29
  try go_wp2_with (first | ((with_reducible refine gate_dst (N := 2) rfl ?_); refine bxe (N := 2) (cs := #[.int .i64 a0_0, .int .i64 a0_1, .int .i64 a0_2, .int .i64 a0_3]) (t := 25) ?_; intro gb369 hg w5 hbox hb; have BK369 := Aside0.mk (hbox); have GW369 := lsz hg HB; have GE369 := lsz hg HB; replace HB := bst HB hb; clear hb hbox hg))
  replace BK369 := Aside0.mk (blk_drew BK369.out)
  replace HB := Aside0.mk (below_drew1 HB.out)
  refine start_ (n := 5) (S := fun w' => w'.cell? ⟨gb369, 0, none⟩ = some (.int .i64 a0_0) ∧ w'.cell? ⟨gb369, 1, none⟩ = some (.int .i64 a0_1) ∧ w'.cell? ⟨gb369, 2, none⟩ = some (.int .i64 a0_2) ∧ w'.cell? ⟨gb369, 3, none⟩ = some (.int .i64 a0_3)) (ds := []) #[false, false, false, false, false] (by kernel_rfl) rfl rfl (e4 BK369) (fun hHeld => ?_)
  generalize w5.drew = w6 at BK369 HB hHeld ⊢
  refine pu 1 (some 6) #[false, true, false, false, false] (by kernel_rfl) ?_
  refine tk4 0 (some 5) #[true, true, false, false, false] (by kernel_rfl) hHeld ?_
  refine one_ (i := 2) (N := some 7) #[true, true, true, false, false] rfl rfl (by kernel_rfl) (by decide) (fun K hK => ?_)
  refine goes_ Try.func34 (by kernel_rfl) rfl #[.int .i64 a1] (by rfl) rfl rfl (by (try simp only [List.map_toArray, List.map_cons, List.map_nil]); first | done | rfl | (simp only [List.length_drop, List.length_take]; rfl)) ?_
  with_reducible refine (span_Point.calls k a1 t370 t371 t372 t373 _ A3.out).mono ?_
  rintro e w7 ⟨rfl, hb⟩
  refine ⟨_, rfl, ?_⟩
  replace BK369 := bkb BK369 hb
  replace HB := bst HB hb
  (try clear hb)
  (try clear hb2)
  (try clear hk)
  (try clear hi)
  refine hK.out _ _ (e4 BK369) (fun hHeld => ?_)
  clear hK K
  refine nrp 7 ?_
  refine one_ (i := 3) (N := some 8) #[true, true, true, true, false] rfl rfl (by kernel_rfl) (by decide) (fun K hK => ?_)
  refine goes_ Try.func19 (by kernel_rfl) rfl #[.agg #[.int .i64 a0_0, .int .i64 a0_1, .int .i64 a0_2, .int .i64 a0_3], .agg #[.int .i64 t370, .int .i64 t371, .int .i64 t372, .int .i64 t373]] (by rfl) rfl rfl (by (try simp only [List.map_toArray, List.map_cons, List.map_nil]); first | done | rfl | (simp only [List.length_drop, List.length_take]; rfl)) ?_
  with_reducible refine (span_Holds.calls k a0_0 a0_1 a0_2 a0_3 t370 t371 t372 t373 t374 _ A4.out).mono ?_
  rintro e w8 ⟨rfl, hb⟩
  refine ⟨_, rfl, ?_⟩
  replace BK369 := bkb BK369 hb
  replace HB := bst HB hb
  (try clear hb)
  (try clear hb2)
  (try clear hk)
  (try clear hi)
  refine hK.out _ _ (e4 BK369) (fun hHeld => ?_)
  clear hK K
  refine nrp 8 ?_
  refine pu 4 (some 4) #[true, true, true, true, true] (by kernel_rfl) ?_
  refine done_ (by kernel_rfl) ?_
  try go_wp2
  go_ret
  exact endB HB
/-! ### span_Hull: function 21 -/
def span_Hull.f (k : Nat) (a0_0 : Int) (a0_1 : Int) (a0_2 : Int) (a0_3 : Int) (a1_0 : Int) (a1_1 : Int) (a1_2 : Int) (a1_3 : Int) : Option (Int × Int × Int × Int) := (span_both.f k a0_0 a0_1 a0_2 a0_3 a1_0 a1_1 a1_2 a1_3).bind fun t378 => (if t378 = true then ((cut_Least.f k (([(⟨a0_0, a0_1⟩ : S23), (⟨a1_0, a1_1⟩ : S23)] : List (S23)))).bind fun bt382 => ((cut_Greatest.f k (([(⟨a0_2, a0_3⟩ : S23), (⟨a1_2, a1_3⟩ : S23)] : List (S23)))).bind fun bt387 => (some (bt382.1, bt382.2, bt387.1, bt387.2)))) else (some (0, 0, 0, 0)))
theorem span_Hull.mono : ∀ a0 a1 a2 a3 a4 a5 a6 a7 k, LeO (span_Hull.f k a0 a1 a2 a3 a4 a5 a6 a7) (span_Hull.f (k + 1) a0 a1 a2 a3 a4 a5 a6 a7) := by
  intro a0 a1 a2 a3 a4 a5 a6 a7 k
  unfold span_Hull.f
  repeat' first
      | (with_reducible exact cut_Greatest.mono _ _)
      | (with_reducible exact cut_Least.mono _ _)
      | (with_reducible exact span_both.mono _ _ _ _ _ _ _ _ _)
      | (with_reducible exact LeO.refl _)
      | (with_reducible exact LeO.none _)
      | (with_reducible refine LeO.ite ?_ ?_)
      | (with_reducible refine LeO.bind ?_ (fun _ => ?_))
      | exact cut_Greatest.mono _ _
      | exact cut_Least.mono _ _
      | exact span_both.mono _ _ _ _ _ _ _ _ _
      | exact LeO.none _
      | refine LeO.ite ?_ ?_
      | refine LeO.bind ?_ (fun _ => ?_)
def span_Hull.T3 : Bool × List (List Nat × List Nat) := (true, [([], []), ([0], [0]), ([], []), ([2], [2]), ([1, 3], [1, 3]), ([4], [4]), ([], []), ([6], [6]), ([], []), ([8], [8]), ([7, 9], [7, 9]), ([10, 5], [10]), ([5, 11], [5, 11]), ([12, 11, 0, 1, 2, 3, 4, 5, 6, 7, 8, 9, 10, 11, 12], [12])])
def span_Hull.B3 : List Nat := [0, 1, 0, 4, 15, 31, 0, 64, 0, 256, 960, 2047, 4095, 8191]
theorem span_Hull.tab3 : rtab .any (opsOf Try.f21 3) = span_Hull.T3 := by kernel_rfl
theorem span_Hull.bits3 : waitsOk span_Hull.T3.2 span_Hull.B3 = true := by kernel_rfl
set_option maxHeartbeats 8000000 in
set_option maxRecDepth 100000 in
theorem span_Hull.calls (k : Nat) (a0_0 : Int) (a0_1 : Int) (a0_2 : Int) (a0_3 : Int) (a1_0 : Int) (a1_1 : Int) (a1_2 : Int) (a1_3 : Int) (r1 : Int) (r2 : Int) (r3 : Int) (r4 : Int) (w : World) (h : span_Hull.f k a0_0 a0_1 a0_2 a0_3 a1_0 a1_1 a1_2 a1_3 = some (r1, r2, r3, r4)) :
    Calls Try.prog 21 #[.agg #[.int .i64 a0_0, .int .i64 a0_1, .int .i64 a0_2, .int .i64 a0_3], .agg #[.int .i64 a1_0, .int .i64 a1_1, .int .i64 a1_2, .int .i64 a1_3]] w fun e w' => e = .returned (.agg #[.int .i64 r1, .int .i64 r2, .int .i64 r3, .int .i64 r4]) ∧ Below w.heap.size w w' := by
  have hu25 := Try.underlying25
  have hu23 := Try.underlying23
  have HB := Aside0.mk (Below.refl w.heap.size w)
  have H : ((span_both.f k a0_0 a0_1 a0_2 a0_3 a1_0 a1_1 a1_2 a1_3).bind fun t378 => (if t378 = true then ((cut_Least.f k (([(⟨a0_0, a0_1⟩ : S23), (⟨a1_0, a1_1⟩ : S23)] : List (S23)))).bind fun bt382 => ((cut_Greatest.f k (([(⟨a0_2, a0_3⟩ : S23), (⟨a1_2, a1_3⟩ : S23)] : List (S23)))).bind fun bt387 => (some (bt382.1, bt382.2, bt387.1, bt387.2)))) else (some (0, 0, 0, 0)))) = some (r1, r2, r3, r4) := h
  clear h
  replace H := Option.bind_eq_some_iff.mp H
  obtain ⟨t378, A30, H⟩ := H
  (try (set_option simprocs false in dsimp only at H))
  have A3 := Aside0.mk A30
  clear A30
  by_cases c4 : t378 = true
  · subst c4
    have H1 : ((cut_Least.f k (([(⟨a0_0, a0_1⟩ : S23), (⟨a1_0, a1_1⟩ : S23)] : List (S23)))).bind fun bt382 => ((cut_Greatest.f k (([(⟨a0_2, a0_3⟩ : S23), (⟨a1_2, a1_3⟩ : S23)] : List (S23)))).bind fun bt387 => (some (bt382.1, bt382.2, bt387.1, bt387.2)))) = some (r1, r2, r3, r4) := by rw [if_pos rfl] at H; exact H
    clear H
    have H := H1
    clear H1
    obtain ⟨y379, hy379⟩ : ∃ y_ : List (S23), y_ = (([(⟨a0_0, a0_1⟩ : S23), (⟨a1_0, a1_1⟩ : S23)] : List (S23))) := ⟨_, rfl⟩
    replace H : ((cut_Least.f k y379).bind fun bt382 => ((cut_Greatest.f k (([(⟨a0_2, a0_3⟩ : S23), (⟨a1_2, a1_3⟩ : S23)] : List (S23)))).bind fun bt387 => (some (bt382.1, bt382.2, bt387.1, bt387.2)))) = some (r1, r2, r3, r4) := by first | (rw [hy379]; with_reducible exact H) | (have H2_ := (Option.bind_some _ _).symm.trans H; rw [hy379]; with_reducible exact H2_) | (have H2_ := (Option.bind_some _ _).symm.trans H; with_reducible exact H2_) | with_reducible exact H | (rw [hy379]; exact H) | exact H
    have Ny379 := Aside0.mk hy379
    clear hy379
    replace H := Option.bind_eq_some_iff.mp H
    obtain ⟨⟨t382, t383⟩, A50, H⟩ := H
    (try (set_option simprocs false in dsimp only at H))
    have A5 := Aside0.mk A50
    clear A50
    obtain ⟨y384, hy384⟩ : ∃ y_ : List (S23), y_ = (([(⟨a0_2, a0_3⟩ : S23), (⟨a1_2, a1_3⟩ : S23)] : List (S23))) := ⟨_, rfl⟩
    replace H : ((cut_Greatest.f k y384).bind fun bt387 => (some (t382, t383, bt387.1, bt387.2))) = some (r1, r2, r3, r4) := by first | (rw [hy384]; with_reducible exact H) | (have H2_ := (Option.bind_some _ _).symm.trans H; rw [hy384]; with_reducible exact H2_) | (have H2_ := (Option.bind_some _ _).symm.trans H; with_reducible exact H2_) | with_reducible exact H | (rw [hy384]; exact H) | exact H
    have Ny384 := Aside0.mk hy384
    clear hy384
    replace H := Option.bind_eq_some_iff.mp H
    obtain ⟨⟨t387, t388⟩, A60, H⟩ := H
    (try (set_option simprocs false in dsimp only at H))
    have A6 := Aside0.mk A60
    clear A60
    simp only [Option.some.injEq, Prod.mk.injEq] at H
    obtain ⟨rfl, rfl, rfl, rfl⟩ := H
    go_enter Try.func21, Try.ntmps21
    try go_wp2_with (first | ((with_reducible refine gate_dst (N := 2) rfl ?_); refine bxe (N := 2) (cs := #[.int .i64 a0_0, .int .i64 a0_1, .int .i64 a0_2, .int .i64 a0_3]) (t := 25) ?_; intro gb375 hg w7 hbox hb; have BK375 := Aside0.mk (hbox); have GW375 := lsz hg HB; have GE375 := lsz hg HB; replace HB := bst HB hb; clear hb hbox hg) | ((with_reducible refine gate_dst (N := 3) rfl ?_); refine bxe (N := 3) (cs := #[.int .i64 a1_0, .int .i64 a1_1, .int .i64 a1_2, .int .i64 a1_3]) (t := 25) ?_; intro gb376 hg w8 hbox hb; have BK376 := Aside0.mk (hbox); have GW376 := lsz hg HB; have GE376 := lsz hg HB; replace HB := bst HB hb; have NB375_376 := nlt hg BK375; have NB376_375 := ngt hg BK375; replace BK375 := bkb BK375 hb; clear hb hbox hg) | ((with_reducible refine gate_dst (N := 4) rfl ?_); refine bxe (N := 4) (cs := #[.int .i64 0, .int .i64 0, .int .i64 0, .int .i64 0]) (t := 25) ?_; intro gb377 hg w9 hbox hb; have BK377 := Aside0.mk (hbox); have GW377 := lsz hg HB; have GE377 := lsz hg HB; replace HB := bst HB hb; have NB375_377 := nlt hg BK375; have NB377_375 := ngt hg BK375; replace BK375 := bkb BK375 hb; have NB376_377 := nlt hg BK376; have NB377_376 := ngt hg BK376; replace BK376 := bkb BK376 hb; clear hb hbox hg; have hnb10 := NB375_376.out; have hnc10 := NB376_375.out; have hnb11 := NB375_377.out; have hnc11 := NB377_375.out; obtain ⟨hcz12_0, hcz12_1, hcz12_2, hcz12_3⟩ := e4 BK375; obtain ⟨hfz12_0, hfz12_1, hfz12_2, hfz12_3⟩ := f4 BK375; have hnb13 := NB376_377.out; have hnc13 := NB377_376.out; obtain ⟨hcz14_0, hcz14_1, hcz14_2, hcz14_3⟩ := e4 BK376; obtain ⟨hfz14_0, hfz14_1, hfz14_2, hfz14_3⟩ := f4 BK376) | ((with_reducible refine gate_callee (f := 45) rfl ?_); refine gol (some 7) Try.func45 #[.agg #[.int .i64 a0_0, .int .i64 a0_1, .int .i64 a0_2, .int .i64 a0_3], .agg #[.int .i64 a1_0, .int .i64 a1_1, .int .i64 a1_2, .int .i64 a1_3]] ?_; (with_reducible refine (span_both.calls k a0_0 a0_1 a0_2 a0_3 a1_0 a1_1 a1_2 a1_3 true _ A3.out).mono ?_); rintro e w15 ⟨rfl, hb⟩; refine ⟨_, rfl, ?_⟩; replace BK375 := bkb BK375 hb; replace BK376 := bkb BK376 hb; replace BK377 := bkb BK377 hb; replace HB := bst HB hb; (try clear hb); (try clear hb2); (try clear hk); (try clear hi)))
    replace BK375 := Aside0.mk (blk_drew BK375.out)
    replace BK376 := Aside0.mk (blk_drew BK376.out)
    replace BK377 := Aside0.mk (blk_drew BK377.out)
    replace HB := Aside0.mk (below_drew1 HB.out)
    refine start_ (n := 14) (S := fun w' => True) (ds := []) #[false, false, false, false, false, false, false, false, false, false, false, false, false, false] (by kernel_rfl) rfl rfl trivial (fun hHeld => ?_); refine with_tabW span_Hull.tab3 span_Hull.bits3 (fun HT_ HW_ => ?_)
    generalize w15.drew = w16 at BK375 BK376 BK377 HB hHeld ⊢
    refine pu 0 (some 10) #[true, false, false, false, false, false, false, false, false, false, false, false, false, false] (any_of HT_.out (by kernel_rfl)) ?_
    refine pu 2 (some 12) #[true, false, true, false, false, false, false, false, false, false, false, false, false, false] (any_of HT_.out (by kernel_rfl)) ?_
    refine pu 6 (some 16) #[true, false, true, false, false, false, true, false, false, false, false, false, false, false] (any_of HT_.out (by kernel_rfl)) ?_
    refine pu 8 (some 18) #[true, false, true, false, false, false, true, false, true, false, false, false, false, false] (any_of HT_.out (by kernel_rfl)) ?_
    refine inv_at [1, 3, 4, 5, 7, 9, 10, 11, 12, 13] (fun a0_ b a w' => ∃ (v380 : Value) (v385 : Value), a = putSel a0_ b [(1, 11, .agg #[.int .i64 a0_0, .int .i64 a0_1]), (3, 13, .agg #[.int .i64 a1_0, .int .i64 a1_1]), (4, 14, v380), (5, 15, .agg #[.int .i64 t382, .int .i64 t383]), (7, 17, .agg #[.int .i64 a0_2, .int .i64 a0_3]), (9, 19, .agg #[.int .i64 a1_2, .int .i64 a1_3]), (10, 20, v385), (11, 21, .agg #[.int .i64 t387, .int .i64 t388]), (12, 22, .agg #[.int .i64 t382, .int .i64 t383, .int .i64 t387, .int .i64 t388])] ∧ (w'.heap[gb375]? = some (.cells #[.int .i64 a0_0, .int .i64 a0_1, .int .i64 a0_2, .int .i64 a0_3] 25 (0, 0))) ∧ (w'.heap[gb376]? = some (.cells #[.int .i64 a1_0, .int .i64 a1_1, .int .i64 a1_2, .int .i64 a1_3] 25 (0, 0))) ∧ (b 13 = false → w'.heap[gb377]? = some (.cells #[.int .i64 0, .int .i64 0, .int .i64 0, .int .i64 0] 25 (0, 0))) ∧ (Below w.heap.size w w') ∧ (b 4 = true → Kd.R k23 23 w' w.heap.size (fun _ => True) v380 y379) ∧ (b 10 = true → Kd.R k23 23 w' w.heap.size (fun _ => True) v385 y384) ∧ (b 13 = true → w'.heap[gb377]? = some (.cells #[.int .i64 t382, .int .i64 t383, .int .i64 t387, .int .i64 t388] 25 (0, 0)))) HT_.out HW_.out (by kernel_rfl) (by kernel_rfl) ?_ ?_ ?_
    · exact ⟨.bool false, .bool false, by simp only [putSel, Bool.false_eq_true, if_false], BK375.out, BK376.out, fun _ => BK377.out, HB.out, fun h_ => absurd h_ (by decide), fun h_ => absurd h_ (by decide), fun h_ => absurd h_ (by decide)⟩
    · skip
      clear BK375 BK376 BK377 HB
      refine steps_cons ?_ ?_
      · rintro b a w' ⟨v380, v385, ha, Q_BK375, Q_BK376, Q_BK377, Q_HB, Q_HO381, Q_HO386, Q_BK377_e13⟩ hb_ hon hoff
        refine ⟨_, rfl, fun K hK => ?_⟩
        have e10 : a.tmps[10]? = some (.pointer (some ⟨gb375, 0, none⟩)) := by rw [ha]; exact (putSel_off rfl).trans rfl
        replace ha := Aside0.mk ha
        have BK375 := Aside0.mk Q_BK375
        have BK376 := Aside0.mk Q_BK376
        have BK377 := Aside0.mk (Q_BK377 (hoff 13 (by kernel_rfl)))
        have HB := Aside0.mk Q_HB
        have hc0_ : w'.cell? ⟨gb375, 0, none⟩ = some (.int .i64 a0_0) := (blk_cell BK375.out 0).trans rfl
        have hc1_ : w'.cell? ⟨gb375, 1, none⟩ = some (.int .i64 a0_1) := (blk_cell BK375.out 1).trans rfl
        have hc2_ : w'.cell? ⟨gb375, 2, none⟩ = some (.int .i64 a0_2) := (blk_cell BK375.out 2).trans rfl
        have hc3_ : w'.cell? ⟨gb375, 3, none⟩ = some (.int .i64 a0_3) := (blk_cell BK375.out 3).trans rfl
        refine value_ (w1 := w') (v := .agg #[.int .i64 a0_0, .int .i64 a0_1]) (by rfl) rfl ?_ ?_
        · go_simp
          (try simp only [i64_w])
          try rfl
        refine hK.out _ _ ⟨v380, v385, (by rw [ha.out]; exact putSel_upk 0 hb_ rfl rfl rfl), Q_BK375, Q_BK376, Q_BK377, Q_HB, fun h0_ => absurd ((hoff 4 (by kernel_rfl)).symm.trans h0_) (by decide), Q_HO386, fun h0_ => absurd ((hoff 13 (by kernel_rfl)).symm.trans h0_) (by decide)⟩
      refine steps_cons ?_ ?_
      · rintro b a w' ⟨v380, v385, ha, Q_BK375, Q_BK376, Q_BK377, Q_HB, Q_HO381, Q_HO386, Q_BK377_e13⟩ hb_ hon hoff
        refine ⟨_, rfl, fun K hK => ?_⟩
        have e12 : a.tmps[12]? = some (.pointer (some ⟨gb376, 0, none⟩)) := by rw [ha]; exact (putSel_off rfl).trans rfl
        replace ha := Aside0.mk ha
        have BK375 := Aside0.mk Q_BK375
        have BK376 := Aside0.mk Q_BK376
        have BK377 := Aside0.mk (Q_BK377 (hoff 13 (by kernel_rfl)))
        have HB := Aside0.mk Q_HB
        have hc0_ : w'.cell? ⟨gb376, 0, none⟩ = some (.int .i64 a1_0) := (blk_cell BK376.out 0).trans rfl
        have hc1_ : w'.cell? ⟨gb376, 1, none⟩ = some (.int .i64 a1_1) := (blk_cell BK376.out 1).trans rfl
        have hc2_ : w'.cell? ⟨gb376, 2, none⟩ = some (.int .i64 a1_2) := (blk_cell BK376.out 2).trans rfl
        have hc3_ : w'.cell? ⟨gb376, 3, none⟩ = some (.int .i64 a1_3) := (blk_cell BK376.out 3).trans rfl
        refine value_ (w1 := w') (v := .agg #[.int .i64 a1_0, .int .i64 a1_1]) (by rfl) rfl ?_ ?_
        · go_simp
          (try simp only [i64_w])
          try rfl
        refine hK.out _ _ ⟨v380, v385, (by rw [ha.out]; exact putSel_upk 1 hb_ rfl rfl rfl), Q_BK375, Q_BK376, Q_BK377, Q_HB, fun h0_ => absurd ((hoff 4 (by kernel_rfl)).symm.trans h0_) (by decide), Q_HO386, fun h0_ => absurd ((hoff 13 (by kernel_rfl)).symm.trans h0_) (by decide)⟩
      refine steps_cons ?_ ?_
      · rintro b a w' ⟨v380, v385, ha, Q_BK375, Q_BK376, Q_BK377, Q_HB, Q_HO381, Q_HO386, Q_BK377_e13⟩ hb_ hon hoff
        refine ⟨_, rfl, fun K hK => ?_⟩
        have e11 : a.tmps[11]? = some (.agg #[.int .i64 a0_0, .int .i64 a0_1]) := by rw [ha]; exact putSel_on (e := (1, 11, .agg #[.int .i64 a0_0, .int .i64 a0_1])) 0 rfl rfl (hon 1 (by kernel_rfl)) rfl
        have e13 : a.tmps[13]? = some (.agg #[.int .i64 a1_0, .int .i64 a1_1]) := by rw [ha]; exact putSel_on (e := (3, 13, .agg #[.int .i64 a1_0, .int .i64 a1_1])) 1 rfl rfl (hon 3 (by kernel_rfl)) rfl
        replace ha := Aside0.mk ha
        have BK375 := Aside0.mk Q_BK375
        have BK376 := Aside0.mk Q_BK376
        have BK377 := Aside0.mk (Q_BK377 (hoff 13 (by kernel_rfl)))
        have HB := Aside0.mk Q_HB
        refine Kd.R_lit_step k23 _ 23 ?hg (N := 14) ?hd (xs := ([(⟨a0_0, a0_1⟩ : S23), (⟨a1_0, a1_1⟩ : S23)] : List (S23))) (inner := [.int .i64 a0_0, .int .i64 a0_1, .int .i64 a1_0, .int .i64 a1_1]) (ok := fun _ => True) (okp := fun _ => True) ?hr ?hp (fun _ hk => hk) trivial (Below.refl _ _) (Nat.le_refl _) (by simp) ?_; (case hd => rfl); (case hg => rfl); (case hr => first | (go_simp; done) | (go_simp; rfl)); (case hp => exact (Reps.c2 (show Kd.M k23 _ _ _ (⟨a0_0, a0_1⟩ : S23) [.int .i64 a0_0, .int .i64 a0_1] from (k23_mkM _ _ _ (⟨a0_0, a0_1⟩ : S23) )) (Reps.c2 (show Kd.M k23 _ _ _ (⟨a1_0, a1_1⟩ : S23) [.int .i64 a1_0, .int .i64 a1_1] from (k23_mkM _ _ _ (⟨a1_0, a1_1⟩ : S23) )) (Reps.none _ _))))
        intro v380 w17 ho18 hb hg_ hnew_
        clear hg_ hnew_
        (first | rw [← Ny379.out] at ho18 | (simp only [Int.reduceToNat] at ho18; rw [← Ny379.out] at ho18))
        have n0_ := Aside0.mk (Kd.R_lower ho18 (below_size (bl HB)))
        have n1_ := bkb BK375 hb
        have n2_ := bkb BK376 hb
        have n3_ := bkb BK377 hb
        have n4_ := bst HB hb
        have z_HO386 := fun (h0_ : b 10 = true) => (show Kd.R k23 23 w17 w.heap.size (fun _ => True) v385 y384 from by first | exact (Kd.R_elder' (by (with_reducible repeat (first | apply Kd.R_alloc | apply Kd.R_drewN | apply Kd.R_drew)); exact (Q_HO386 h0_)) (Kd.R_base ho18) hb) | exact Kd.R_mono (Kd.R_elder' (by (with_reducible repeat (first | apply Kd.R_alloc | apply Kd.R_drewN | apply Kd.R_drew)); exact (Q_HO386 h0_)) (Kd.R_base ho18) hb) (fun _ h_ => by first | trivial | exact h_ | exact h_.1))
        clear BK375
        clear BK376
        clear BK377
        clear HB
        have HO381 := n0_
        have BK375 := n1_
        have BK376 := n2_
        have BK377 := n3_
        have HB := n4_
        clear n0_ n1_ n2_ n3_ n4_
        clear hb ho18
        refine hK.out _ _ ⟨v380, v385, (by rw [ha.out]; exact putSel_upk 2 hb_ rfl rfl rfl), (bk BK375), (bk BK376), fun _ => (bk BK377), (bl HB), fun _ => (kr HO381), z_HO386, fun h0_ => absurd ((hoff 13 (by kernel_rfl)).symm.trans h0_) (by decide)⟩
      refine steps_cons ?_ ?_
      · rintro b a w' ⟨v380, v385, ha, Q_BK375, Q_BK376, Q_BK377, Q_HB, Q_HO381, Q_HO386, Q_BK377_e13⟩ hb_ hon hoff
        refine ⟨_, rfl, fun K hK => ?_⟩
        have e14 : a.tmps[14]? = some (v380) := by rw [ha]; exact putSel_on (e := (4, 14, v380)) 2 rfl rfl (hon 4 (by kernel_rfl)) rfl
        replace ha := Aside0.mk ha
        have BK375 := Aside0.mk Q_BK375
        have BK376 := Aside0.mk Q_BK376
        have BK377 := Aside0.mk (Q_BK377 (hoff 13 (by kernel_rfl)))
        have HB := Aside0.mk Q_HB
        have HO381 := Aside0.mk (Q_HO381 (hon 4 (by kernel_rfl)))
        obtain ⟨Ao20, co20, eo20⟩ := Kd.R_slice HO381.out
        (first | subst eo20 | (injection eo20 with f1_ f2_ f3_; have f4_ := f1_.symm; have f5_ := f3_.symm; clear f1_ f2_ f3_; subst f4_; subst f5_))
        refine goes_ Try.func47 (by kernel_rfl) rfl #[.slice Ao20 y379.length co20] (by rfl) rfl rfl (by first | (simp only [List.map_toArray, List.map_cons, List.map_nil, Act.eval, Array.getD_eq_getD_getElem?, Option.getD_some, e14]; done) | (simp only [List.map_toArray, List.map_cons, List.map_nil, Act.eval, Array.getD_eq_getD_getElem?, Option.getD_some, e14]; rfl)) ?_
        with_reducible refine (cut_Least.calls k _ _ y379 t382 t383 _ ?side1 ?side2 A5.out).mono ?_
        (case side1 => repeat (first | exact (Kd.R_reads' HO381.out).2.2 | (with_reducible refine Kd.C_alloc ?_ _) | (with_reducible refine Kd.C_drewN ?_ _) | (with_reducible refine Kd.C_drew ?_)))
        (case side2 => exact (Kd.R_reads' HO381.out).2.1)
        rintro e w21 ⟨rfl, hb⟩
        refine ⟨_, rfl, ?_⟩
        have n0_ := krb HO381 hb
        have n1_ := bkb BK375 hb
        have n2_ := bkb BK376 hb
        have n3_ := bkb BK377 hb
        have n4_ := bst HB hb
        have z_HO386 := fun (h0_ : b 10 = true) => (show Kd.R k23 23 w21 w.heap.size (fun _ => True) v385 y384 from by first | exact (Kd.R_below (by (with_reducible repeat (first | apply Kd.R_alloc | apply Kd.R_drewN | apply Kd.R_drew)); exact (Q_HO386 h0_)) hb) | exact Kd.R_mono (Kd.R_below (by (with_reducible repeat (first | apply Kd.R_alloc | apply Kd.R_drewN | apply Kd.R_drew)); exact (Q_HO386 h0_)) hb) (fun _ h_ => by first | trivial | exact h_ | exact h_.1))
        clear HO381
        clear BK375
        clear BK376
        clear BK377
        clear HB
        have HO381 := n0_
        have BK375 := n1_
        have BK376 := n2_
        have BK377 := n3_
        have HB := n4_
        clear n0_ n1_ n2_ n3_ n4_
        (try clear hb)
        (try clear hb2)
        (try clear hk)
        (try clear hi)
        refine hK.out _ _ ⟨.slice Ao20 y379.length co20, v385, (by rw [ha.out]; exact putSel_upk 3 hb_ rfl rfl rfl), (bk BK375), (bk BK376), fun _ => (bk BK377), (bl HB), fun _ => (kr HO381), z_HO386, fun h0_ => absurd ((hoff 13 (by kernel_rfl)).symm.trans h0_) (by decide)⟩
      refine steps_cons ?_ ?_
      · rintro b a w' ⟨v380, v385, ha, Q_BK375, Q_BK376, Q_BK377, Q_HB, Q_HO381, Q_HO386, Q_BK377_e13⟩ hb_ hon hoff
        refine ⟨_, rfl, fun K hK => ?_⟩
        have e16 : a.tmps[16]? = some (.pointer (some ⟨gb375, 2, none⟩)) := by rw [ha]; exact (putSel_off rfl).trans rfl
        replace ha := Aside0.mk ha
        have BK375 := Aside0.mk Q_BK375
        have BK376 := Aside0.mk Q_BK376
        have BK377 := Aside0.mk (Q_BK377 (hoff 13 (by kernel_rfl)))
        have HB := Aside0.mk Q_HB
        have hc0_ : w'.cell? ⟨gb375, 0, none⟩ = some (.int .i64 a0_0) := (blk_cell BK375.out 0).trans rfl
        have hc1_ : w'.cell? ⟨gb375, 1, none⟩ = some (.int .i64 a0_1) := (blk_cell BK375.out 1).trans rfl
        have hc2_ : w'.cell? ⟨gb375, 2, none⟩ = some (.int .i64 a0_2) := (blk_cell BK375.out 2).trans rfl
        have hc3_ : w'.cell? ⟨gb375, 3, none⟩ = some (.int .i64 a0_3) := (blk_cell BK375.out 3).trans rfl
        refine value_ (w1 := w') (v := .agg #[.int .i64 a0_2, .int .i64 a0_3]) (by rfl) rfl ?_ ?_
        · go_simp
          (try simp only [i64_w])
          try rfl
        refine hK.out _ _ ⟨v380, v385, (by rw [ha.out]; exact putSel_upk 4 hb_ rfl rfl rfl), Q_BK375, Q_BK376, Q_BK377, Q_HB, Q_HO381, fun h0_ => absurd ((hoff 10 (by kernel_rfl)).symm.trans h0_) (by decide), fun h0_ => absurd ((hoff 13 (by kernel_rfl)).symm.trans h0_) (by decide)⟩
      refine steps_cons ?_ ?_
      · rintro b a w' ⟨v380, v385, ha, Q_BK375, Q_BK376, Q_BK377, Q_HB, Q_HO381, Q_HO386, Q_BK377_e13⟩ hb_ hon hoff
        refine ⟨_, rfl, fun K hK => ?_⟩
        have e18 : a.tmps[18]? = some (.pointer (some ⟨gb376, 2, none⟩)) := by rw [ha]; exact (putSel_off rfl).trans rfl
        replace ha := Aside0.mk ha
        have BK375 := Aside0.mk Q_BK375
        have BK376 := Aside0.mk Q_BK376
        have BK377 := Aside0.mk (Q_BK377 (hoff 13 (by kernel_rfl)))
        have HB := Aside0.mk Q_HB
        have hc0_ : w'.cell? ⟨gb376, 0, none⟩ = some (.int .i64 a1_0) := (blk_cell BK376.out 0).trans rfl
        have hc1_ : w'.cell? ⟨gb376, 1, none⟩ = some (.int .i64 a1_1) := (blk_cell BK376.out 1).trans rfl
        have hc2_ : w'.cell? ⟨gb376, 2, none⟩ = some (.int .i64 a1_2) := (blk_cell BK376.out 2).trans rfl
        have hc3_ : w'.cell? ⟨gb376, 3, none⟩ = some (.int .i64 a1_3) := (blk_cell BK376.out 3).trans rfl
        refine value_ (w1 := w') (v := .agg #[.int .i64 a1_2, .int .i64 a1_3]) (by rfl) rfl ?_ ?_
        · go_simp
          (try simp only [i64_w])
          try rfl
        refine hK.out _ _ ⟨v380, v385, (by rw [ha.out]; exact putSel_upk 5 hb_ rfl rfl rfl), Q_BK375, Q_BK376, Q_BK377, Q_HB, Q_HO381, fun h0_ => absurd ((hoff 10 (by kernel_rfl)).symm.trans h0_) (by decide), fun h0_ => absurd ((hoff 13 (by kernel_rfl)).symm.trans h0_) (by decide)⟩
      refine steps_cons ?_ ?_
      · rintro b a w' ⟨v380, v385, ha, Q_BK375, Q_BK376, Q_BK377, Q_HB, Q_HO381, Q_HO386, Q_BK377_e13⟩ hb_ hon hoff
        refine ⟨_, rfl, fun K hK => ?_⟩
        have e17 : a.tmps[17]? = some (.agg #[.int .i64 a0_2, .int .i64 a0_3]) := by rw [ha]; exact putSel_on (e := (7, 17, .agg #[.int .i64 a0_2, .int .i64 a0_3])) 4 rfl rfl (hon 7 (by kernel_rfl)) rfl
        have e19 : a.tmps[19]? = some (.agg #[.int .i64 a1_2, .int .i64 a1_3]) := by rw [ha]; exact putSel_on (e := (9, 19, .agg #[.int .i64 a1_2, .int .i64 a1_3])) 5 rfl rfl (hon 9 (by kernel_rfl)) rfl
        replace ha := Aside0.mk ha
        have BK375 := Aside0.mk Q_BK375
        have BK376 := Aside0.mk Q_BK376
        have BK377 := Aside0.mk (Q_BK377 (hoff 13 (by kernel_rfl)))
        have HB := Aside0.mk Q_HB
        refine Kd.R_lit_step k23 _ 23 ?hg (N := 20) ?hd (xs := ([(⟨a0_2, a0_3⟩ : S23), (⟨a1_2, a1_3⟩ : S23)] : List (S23))) (inner := [.int .i64 a0_2, .int .i64 a0_3, .int .i64 a1_2, .int .i64 a1_3]) (ok := fun _ => True) (okp := fun _ => True) ?hr ?hp (fun _ hk => hk) trivial (Below.refl _ _) (Nat.le_refl _) (by simp) ?_; (case hd => rfl); (case hg => rfl); (case hr => first | (go_simp; done) | (go_simp; rfl)); (case hp => exact (Reps.c2 (show Kd.M k23 _ _ _ (⟨a0_2, a0_3⟩ : S23) [.int .i64 a0_2, .int .i64 a0_3] from (k23_mkM _ _ _ (⟨a0_2, a0_3⟩ : S23) )) (Reps.c2 (show Kd.M k23 _ _ _ (⟨a1_2, a1_3⟩ : S23) [.int .i64 a1_2, .int .i64 a1_3] from (k23_mkM _ _ _ (⟨a1_2, a1_3⟩ : S23) )) (Reps.none _ _))))
        intro v385 w17 ho18 hb hg_ hnew_
        clear hg_ hnew_
        (first | rw [← Ny384.out] at ho18 | (simp only [Int.reduceToNat] at ho18; rw [← Ny384.out] at ho18))
        have n0_ := Aside0.mk (Kd.R_lower ho18 (below_size (bl HB)))
        have n1_ := bkb BK375 hb
        have n2_ := bkb BK376 hb
        have n3_ := bkb BK377 hb
        have n4_ := bst HB hb
        have z_HO381 := fun (h0_ : b 4 = true) => (show Kd.R k23 23 w17 w.heap.size (fun _ => True) v380 y379 from by first | exact (Kd.R_elder' (by (with_reducible repeat (first | apply Kd.R_alloc | apply Kd.R_drewN | apply Kd.R_drew)); exact (Q_HO381 h0_)) (Kd.R_base ho18) hb) | exact Kd.R_mono (Kd.R_elder' (by (with_reducible repeat (first | apply Kd.R_alloc | apply Kd.R_drewN | apply Kd.R_drew)); exact (Q_HO381 h0_)) (Kd.R_base ho18) hb) (fun _ h_ => by first | trivial | exact h_ | exact h_.1))
        clear BK375
        clear BK376
        clear BK377
        clear HB
        have HO386 := n0_
        have BK375 := n1_
        have BK376 := n2_
        have BK377 := n3_
        have HB := n4_
        clear n0_ n1_ n2_ n3_ n4_
        clear hb ho18
        refine hK.out _ _ ⟨v380, v385, (by rw [ha.out]; exact putSel_upk 6 hb_ rfl rfl rfl), (bk BK375), (bk BK376), fun _ => (bk BK377), (bl HB), z_HO381, fun _ => (kr HO386), fun h0_ => absurd ((hoff 13 (by kernel_rfl)).symm.trans h0_) (by decide)⟩
      refine steps_cons ?_ ?_
      · rintro b a w' ⟨v380, v385, ha, Q_BK375, Q_BK376, Q_BK377, Q_HB, Q_HO381, Q_HO386, Q_BK377_e13⟩ hb_ hon hoff
        refine ⟨_, rfl, fun K hK => ?_⟩
        have e20 : a.tmps[20]? = some (v385) := by rw [ha]; exact putSel_on (e := (10, 20, v385)) 6 rfl rfl (hon 10 (by kernel_rfl)) rfl
        replace ha := Aside0.mk ha
        have BK375 := Aside0.mk Q_BK375
        have BK376 := Aside0.mk Q_BK376
        have BK377 := Aside0.mk (Q_BK377 (hoff 13 (by kernel_rfl)))
        have HB := Aside0.mk Q_HB
        have HO381 := Aside0.mk (Q_HO381 (hon 4 (by kernel_rfl)))
        have HO386 := Aside0.mk (Q_HO386 (hon 10 (by kernel_rfl)))
        obtain ⟨Ao24, co24, eo24⟩ := Kd.R_slice HO386.out
        (first | subst eo24 | (injection eo24 with f1_ f2_ f3_; have f4_ := f1_.symm; have f5_ := f3_.symm; clear f1_ f2_ f3_; subst f4_; subst f5_))
        refine goes_ Try.func46 (by kernel_rfl) rfl #[.slice Ao24 y384.length co24] (by rfl) rfl rfl (by first | (simp only [List.map_toArray, List.map_cons, List.map_nil, Act.eval, Array.getD_eq_getD_getElem?, Option.getD_some, e20]; done) | (simp only [List.map_toArray, List.map_cons, List.map_nil, Act.eval, Array.getD_eq_getD_getElem?, Option.getD_some, e20]; rfl)) ?_
        with_reducible refine (cut_Greatest.calls k _ _ y384 t387 t388 _ ?side1 ?side2 A6.out).mono ?_
        (case side1 => repeat (first | exact (Kd.R_reads' HO386.out).2.2 | (with_reducible refine Kd.C_alloc ?_ _) | (with_reducible refine Kd.C_drewN ?_ _) | (with_reducible refine Kd.C_drew ?_)))
        (case side2 => exact (Kd.R_reads' HO386.out).2.1)
        rintro e w25 ⟨rfl, hb⟩
        refine ⟨_, rfl, ?_⟩
        replace HO381 := krb HO381 hb
        replace HO386 := krb HO386 hb
        replace BK375 := bkb BK375 hb
        replace BK376 := bkb BK376 hb
        replace BK377 := bkb BK377 hb
        replace HB := bst HB hb
        (try clear hb)
        (try clear hb2)
        (try clear hk)
        (try clear hi)
        refine hK.out _ _ ⟨v380, .slice Ao24 y384.length co24, (by rw [ha.out]; exact putSel_upk 7 hb_ rfl rfl rfl), (bk BK375), (bk BK376), fun _ => (bk BK377), (bl HB), fun _ => (kr HO381), fun _ => (kr HO386), fun h0_ => absurd ((hoff 13 (by kernel_rfl)).symm.trans h0_) (by decide)⟩
      refine steps_cons ?_ ?_
      · rintro b a w' ⟨v380, v385, ha, Q_BK375, Q_BK376, Q_BK377, Q_HB, Q_HO381, Q_HO386, Q_BK377_e13⟩ hb_ hon hoff
        refine ⟨_, rfl, fun K hK => ?_⟩
        have e15 : a.tmps[15]? = some (.agg #[.int .i64 t382, .int .i64 t383]) := by rw [ha]; exact putSel_on (e := (5, 15, .agg #[.int .i64 t382, .int .i64 t383])) 3 rfl rfl (hon 5 (by kernel_rfl)) rfl
        have e21 : a.tmps[21]? = some (.agg #[.int .i64 t387, .int .i64 t388]) := by rw [ha]; exact putSel_on (e := (11, 21, .agg #[.int .i64 t387, .int .i64 t388])) 7 rfl rfl (hon 11 (by kernel_rfl)) rfl
        replace ha := Aside0.mk ha
        have BK375 := Aside0.mk Q_BK375
        have BK376 := Aside0.mk Q_BK376
        have BK377 := Aside0.mk (Q_BK377 (hoff 13 (by kernel_rfl)))
        have HB := Aside0.mk Q_HB
        have HO381 := Aside0.mk (Q_HO381 (hon 4 (by kernel_rfl)))
        have HO386 := Aside0.mk (Q_HO386 (hon 10 (by kernel_rfl)))
        refine value_ (w1 := w') (v := .agg #[.int .i64 t382, .int .i64 t383, .int .i64 t387, .int .i64 t388]) (by rfl) rfl ?_ ?_
        · go_simp
          (try simp only [i64_w])
          try rfl
        refine hK.out _ _ ⟨v380, v385, (by rw [ha.out]; exact putSel_upk 8 hb_ rfl rfl rfl), Q_BK375, Q_BK376, Q_BK377, Q_HB, Q_HO381, Q_HO386, fun h0_ => absurd ((hoff 13 (by kernel_rfl)).symm.trans h0_) (by decide)⟩
      refine steps_cons ?_ ?_
      · rintro b a w' ⟨v380, v385, ha, Q_BK375, Q_BK376, Q_BK377, Q_HB, Q_HO381, Q_HO386, Q_BK377_e13⟩ hb_ hon hoff
        refine ⟨_, rfl, fun K hK => ?_⟩
        have e4 : a.tmps[4]? = some (.pointer (some ⟨gb377, 0, none⟩)) := by rw [ha]; exact (putSel_off rfl).trans rfl
        have e22 : a.tmps[22]? = some (.agg #[.int .i64 t382, .int .i64 t383, .int .i64 t387, .int .i64 t388]) := by rw [ha]; exact putSel_on (e := (12, 22, .agg #[.int .i64 t382, .int .i64 t383, .int .i64 t387, .int .i64 t388])) 8 rfl rfl (hon 12 (by kernel_rfl)) rfl
        replace ha := Aside0.mk ha
        have BK375 := Aside0.mk Q_BK375
        have BK376 := Aside0.mk Q_BK376
        have BK377 := Aside0.mk (Q_BK377 hb_)
        have HB := Aside0.mk Q_HB
        have HO381 := Aside0.mk (Q_HO381 (hon 4 (by kernel_rfl)))
        have HO386 := Aside0.mk (Q_HO386 (hon 10 (by kernel_rfl)))
        have hs26 : w'.cell? ⟨gb377, 0, none⟩ = some (.int .i64 0) := (blk_cell BK377.out 0).trans rfl
        have hfs26 := blk_frozen BK377.out 0
        have hns26_0 := NB375_377.out
        have hns26_1 := NB376_377.out
        have hms26_0 := NB377_375.out
        have hms26_1 := NB377_376.out
        have hs27 : w'.cell? ⟨gb377, 1, none⟩ = some (.int .i64 0) := (blk_cell BK377.out 1).trans rfl
        have hfs27 := blk_frozen BK377.out 1
        have hns27_0 := NB375_377.out
        have hns27_1 := NB376_377.out
        have hms27_0 := NB377_375.out
        have hms27_1 := NB377_376.out
        have hs28 : w'.cell? ⟨gb377, 2, none⟩ = some (.int .i64 0) := (blk_cell BK377.out 2).trans rfl
        have hfs28 := blk_frozen BK377.out 2
        have hns28_0 := NB375_377.out
        have hns28_1 := NB376_377.out
        have hms28_0 := NB377_375.out
        have hms28_1 := NB377_376.out
        have hs29 : w'.cell? ⟨gb377, 3, none⟩ = some (.int .i64 0) := (blk_cell BK377.out 3).trans rfl
        have hfs29 := blk_frozen BK377.out 3
        have hns29_0 := NB375_377.out
        have hns29_1 := NB376_377.out
        have hms29_0 := NB377_375.out
        have hms29_1 := NB377_376.out
        refine skip_ (w1 := ?_) (by rfl) rfl ?_ ?_
        rotate_left
        · go_simp
          rfl
        refine hK.out _ _ ⟨v380, v385, (by rw [ha.out]; exact putSel_none (v := undef) rfl), (bkf BK375 NB375_377), (bkf BK376 NB376_377), fun h0_ => absurd ((up_self b 13).symm.trans h0_) (by decide), (bl HB), fun _ => (by (with_reducible repeat (first | apply Kd.R_alloc | apply Kd.R_drewN | apply Kd.R_drew)); exact Kd.R_mono (Kd.R_far (p := ⟨gb377, 3, none⟩) (Kd.R_far (p := ⟨gb377, 2, none⟩) (Kd.R_far (p := ⟨gb377, 1, none⟩) (Kd.R_far (p := ⟨gb377, 0, none⟩) (Kd.R_types HO381.out BK377.out (by decide)) (fun _ hk => hk.2) (.int .i64 t382)) (fun _ hk => hk.2) (.int .i64 t383)) (fun _ hk => hk.2) (.int .i64 t387)) (fun _ hk => hk.2) (.int .i64 t388)) (fun _ hk => hk.1)), fun _ => (by (with_reducible repeat (first | apply Kd.R_alloc | apply Kd.R_drewN | apply Kd.R_drew)); exact Kd.R_mono (Kd.R_far (p := ⟨gb377, 3, none⟩) (Kd.R_far (p := ⟨gb377, 2, none⟩) (Kd.R_far (p := ⟨gb377, 1, none⟩) (Kd.R_far (p := ⟨gb377, 0, none⟩) (Kd.R_types HO386.out BK377.out (by decide)) (fun _ hk => hk.2) (.int .i64 t382)) (fun _ hk => hk.2) (.int .i64 t383)) (fun _ hk => hk.2) (.int .i64 t387)) (fun _ hk => hk.2) (.int .i64 t388)) (fun _ hk => hk.1)), fun _ => (bkp BK377)⟩
      exact steps_nil
    rintro b a w29 hall ⟨v380, v385, ha, Q_BK375, Q_BK376, Q_BK377, Q_HB, Q_HO381, Q_HO386, Q_BK377_e13⟩
    clear BK375 BK376 BK377 HB
    have hb1_ := hall 1 (by kernel_rfl)
    have hb3_ := hall 3 (by kernel_rfl)
    have hb4_ := hall 4 (by kernel_rfl)
    have hb5_ := hall 5 (by kernel_rfl)
    have hb7_ := hall 7 (by kernel_rfl)
    have hb9_ := hall 9 (by kernel_rfl)
    have hb10_ := hall 10 (by kernel_rfl)
    have hb11_ := hall 11 (by kernel_rfl)
    have hb12_ := hall 12 (by kernel_rfl)
    have hb13_ := hall 13 (by kernel_rfl)
    subst ha
    simp only [putSel, hb1_, hb3_, hb4_, hb5_, hb7_, hb9_, hb10_, hb11_, hb12_, hb13_, if_true, Act.put, List.setIfInBounds_toArray, List.set_cons_zero, List.set_cons_succ]
    have BK375 := Aside0.mk Q_BK375
    clear Q_BK375
    have BK376 := Aside0.mk Q_BK376
    clear Q_BK376
    clear Q_BK377
    have HB := Aside0.mk Q_HB
    clear Q_HB
    have HO381 := Aside0.mk (Q_HO381 hb4_)
    clear Q_HO381
    have HO386 := Aside0.mk (Q_HO386 hb10_)
    clear Q_HO386
    have BK377 := Aside0.mk (Q_BK377_e13 hb13_)
    clear Q_BK377_e13
    clear hall hb1_ hb3_ hb4_ hb5_ hb7_ hb9_ hb10_ hb11_ hb12_ hb13_
    try go_wp2
    refine bodyPost_ret (results_cell_row rfl _ _ gb377 25 #[.int .i64 t382, .int .i64 t383, .int .i64 t387, .int .i64 t388] (0, 0) _ rfl (bk BK377) Try.underlying25 rfl (by kernel_rfl)) rfl ?_
    exact endB HB
  · replace c4 := Bool.eq_false_iff.mpr c4
    subst c4
    have H1 : (some (0, 0, 0, 0)) = some (r1, r2, r3, r4) := by rw [if_neg (show ¬ (false = true) by decide)] at H; exact H
    clear H
    have H := H1
    clear H1
    simp only [Option.some.injEq, Prod.mk.injEq] at H
    obtain ⟨rfl, rfl, rfl, rfl⟩ := H
    go_enter Try.func21, Try.ntmps21
    go_wp2_with (first | ((with_reducible refine gate_dst (N := 2) rfl ?_); refine bxe (N := 2) (cs := #[.int .i64 a0_0, .int .i64 a0_1, .int .i64 a0_2, .int .i64 a0_3]) (t := 25) ?_; intro gb375 hg w30 hbox hb; have BK375 := Aside0.mk (hbox); have GW375 := lsz hg HB; have GE375 := lsz hg HB; replace HB := bst HB hb; clear hb hbox hg) | ((with_reducible refine gate_dst (N := 3) rfl ?_); refine bxe (N := 3) (cs := #[.int .i64 a1_0, .int .i64 a1_1, .int .i64 a1_2, .int .i64 a1_3]) (t := 25) ?_; intro gb376 hg w31 hbox hb; have BK376 := Aside0.mk (hbox); have GW376 := lsz hg HB; have GE376 := lsz hg HB; replace HB := bst HB hb; have NB375_376 := nlt hg BK375; have NB376_375 := ngt hg BK375; replace BK375 := bkb BK375 hb; clear hb hbox hg) | ((with_reducible refine gate_dst (N := 4) rfl ?_); refine bxe (N := 4) (cs := #[.int .i64 0, .int .i64 0, .int .i64 0, .int .i64 0]) (t := 25) ?_; intro gb377 hg w32 hbox hb; have BK377 := Aside0.mk (hbox); have GW377 := lsz hg HB; have GE377 := lsz hg HB; replace HB := bst HB hb; have NB375_377 := nlt hg BK375; have NB377_375 := ngt hg BK375; replace BK375 := bkb BK375 hb; have NB376_377 := nlt hg BK376; have NB377_376 := ngt hg BK376; replace BK376 := bkb BK376 hb; clear hb hbox hg; have hnb33 := NB375_376.out; have hnc33 := NB376_375.out; have hnb34 := NB375_377.out; have hnc34 := NB377_375.out; obtain ⟨hcz35_0, hcz35_1, hcz35_2, hcz35_3⟩ := e4 BK375; obtain ⟨hfz35_0, hfz35_1, hfz35_2, hfz35_3⟩ := f4 BK375; have hnb36 := NB376_377.out; have hnc36 := NB377_376.out; obtain ⟨hcz37_0, hcz37_1, hcz37_2, hcz37_3⟩ := e4 BK376; obtain ⟨hfz37_0, hfz37_1, hfz37_2, hfz37_3⟩ := f4 BK376) | ((with_reducible refine gate_callee (f := 45) rfl ?_); refine gol (some 7) Try.func45 #[.agg #[.int .i64 a0_0, .int .i64 a0_1, .int .i64 a0_2, .int .i64 a0_3], .agg #[.int .i64 a1_0, .int .i64 a1_1, .int .i64 a1_2, .int .i64 a1_3]] ?_; (with_reducible refine (span_both.calls k a0_0 a0_1 a0_2 a0_3 a1_0 a1_1 a1_2 a1_3 false _ A3.out).mono ?_); rintro e w38 ⟨rfl, hb⟩; refine ⟨_, rfl, ?_⟩; replace BK375 := bkb BK375 hb; replace BK376 := bkb BK376 hb; replace BK377 := bkb BK377 hb; replace HB := bst HB hb; (try clear hb); (try clear hb2); (try clear hk); (try clear hi); obtain ⟨hcz39_0, hcz39_1, hcz39_2, hcz39_3⟩ := e4 BK377; obtain ⟨hfz39_0, hfz39_1, hfz39_2, hfz39_3⟩ := f4 BK377))
    refine bodyPost_ret (results_cell_row rfl _ _ gb377 25 #[.int .i64 0, .int .i64 0, .int .i64 0, .int .i64 0] (0, 0) _ rfl (bkp BK377) Try.underlying25 rfl (by kernel_rfl)) rfl ?_
    exact endB HB
/-! ### span_Compare: function 38 -/
def span_Compare.f (k : Nat) (a0_0 : Int) (a0_1 : Int) (a0_2 : Int) (a0_3 : Int) (a1_0 : Int) (a1_1 : Int) (a1_2 : Int) (a1_3 : Int) : Option (Int) := (cut_Compare.f k a0_0 a0_1 a1_0 a1_1).bind fun t391 => ((cut_Compare.f k a0_2 a0_3 a1_2 a1_3).bind fun t392 => ((cmp_Or_int.f k (([t391, t392] : List Int))).bind fun t396 => (some t396)))
theorem span_Compare.mono : ∀ a0 a1 a2 a3 a4 a5 a6 a7 k, LeO (span_Compare.f k a0 a1 a2 a3 a4 a5 a6 a7) (span_Compare.f (k + 1) a0 a1 a2 a3 a4 a5 a6 a7) := by
  intro a0 a1 a2 a3 a4 a5 a6 a7 k
  unfold span_Compare.f
  repeat' first
      | (with_reducible exact cmp_Or_int.mono _ _)
      | (with_reducible exact cut_Compare.mono _ _ _ _ _)
      | (with_reducible exact LeO.refl _)
      | (with_reducible exact LeO.none _)
      | (with_reducible refine LeO.ite ?_ ?_)
      | (with_reducible refine LeO.bind ?_ (fun _ => ?_))
      | exact cmp_Or_int.mono _ _
      | exact cut_Compare.mono _ _ _ _ _
      | exact LeO.none _
      | refine LeO.ite ?_ ?_
      | refine LeO.bind ?_ (fun _ => ?_)
def span_Compare.T1 : Bool × List (List Nat × List Nat) := (true, [([], []), ([0], [0]), ([], []), ([2], [2]), ([1, 3], [1, 3]), ([], []), ([5], [5]), ([], []), ([7], [7]), ([6, 8, 4], [6, 8]), ([4, 9], [4, 9]), ([10, 9], [10]), ([11, 11, 0, 1, 2, 3, 4, 5, 6, 7, 8, 9, 10, 11], [11])])
def span_Compare.B1 : List Nat := [0, 1, 0, 4, 15, 0, 32, 0, 128, 511, 1023, 2047, 4095]
theorem span_Compare.tab1 : rtab .any (opsOf Try.f38 1) = span_Compare.T1 := by kernel_rfl
theorem span_Compare.bits1 : waitsOk span_Compare.T1.2 span_Compare.B1 = true := by kernel_rfl
set_option maxHeartbeats 8000000 in
set_option maxRecDepth 100000 in
theorem span_Compare.calls (k : Nat) (a0_0 : Int) (a0_1 : Int) (a0_2 : Int) (a0_3 : Int) (a1_0 : Int) (a1_1 : Int) (a1_2 : Int) (a1_3 : Int) (r : Int) (w : World) (h : span_Compare.f k a0_0 a0_1 a0_2 a0_3 a1_0 a1_1 a1_2 a1_3 = some r) :
    Calls Try.prog 38 #[.agg #[.int .i64 a0_0, .int .i64 a0_1, .int .i64 a0_2, .int .i64 a0_3], .agg #[.int .i64 a1_0, .int .i64 a1_1, .int .i64 a1_2, .int .i64 a1_3]] w fun e w' => e = .returned (.int .i64 r) ∧ Below w.heap.size w w' := by
  have hu25 := Try.underlying25
  have hu23 := Try.underlying23
  have HB := Aside0.mk (Below.refl w.heap.size w)
  have H : ((cut_Compare.f k a0_0 a0_1 a1_0 a1_1).bind fun t391 => ((cut_Compare.f k a0_2 a0_3 a1_2 a1_3).bind fun t392 => ((cmp_Or_int.f k (([t391, t392] : List Int))).bind fun t396 => (some t396)))) = some r := h
  clear h
  replace H := Option.bind_eq_some_iff.mp H
  obtain ⟨t391, A30, H⟩ := H
  (try (set_option simprocs false in dsimp only at H))
  have A3 := Aside0.mk A30
  clear A30
  replace H := Option.bind_eq_some_iff.mp H
  obtain ⟨t392, A40, H⟩ := H
  (try (set_option simprocs false in dsimp only at H))
  have A4 := Aside0.mk A40
  clear A40
  obtain ⟨y393, hy393⟩ : ∃ y_ : List Int, y_ = (([t391, t392] : List Int)) := ⟨_, rfl⟩
  replace H : ((cmp_Or_int.f k y393).bind fun t396 => (some t396)) = some r := by first | (rw [hy393]; with_reducible exact H) | (have H2_ := (Option.bind_some _ _).symm.trans H; rw [hy393]; with_reducible exact H2_) | (have H2_ := (Option.bind_some _ _).symm.trans H; with_reducible exact H2_) | with_reducible exact H | (rw [hy393]; exact H) | exact H
  have Ny393 := Aside0.mk hy393
  clear hy393
  replace H := Option.bind_eq_some_iff.mp H
  obtain ⟨t396, A50, H⟩ := H
  (try (set_option simprocs false in dsimp only at H))
  have A5 := Aside0.mk A50
  clear A50
  obtain rfl := Option.some.inj H
  go_enter Try.func38, Try.ntmps38
  try go_wp2_with (first | ((with_reducible refine gate_dst (N := 2) rfl ?_); refine bxe (N := 2) (cs := #[.int .i64 a0_0, .int .i64 a0_1, .int .i64 a0_2, .int .i64 a0_3]) (t := 25) ?_; intro gb389 hg w6 hbox hb; have BK389 := Aside0.mk (hbox); have GW389 := lsz hg HB; have GE389 := lsz hg HB; replace HB := bst HB hb; clear hb hbox hg) | ((with_reducible refine gate_dst (N := 3) rfl ?_); refine bxe (N := 3) (cs := #[.int .i64 a1_0, .int .i64 a1_1, .int .i64 a1_2, .int .i64 a1_3]) (t := 25) ?_; intro gb390 hg w7 hbox hb; have BK390 := Aside0.mk (hbox); have GW390 := lsz hg HB; have GE390 := lsz hg HB; replace HB := bst HB hb; have NB389_390 := nlt hg BK389; have NB390_389 := ngt hg BK389; replace BK389 := bkb BK389 hb; clear hb hbox hg))
  replace BK389 := Aside0.mk (blk_drew BK389.out)
  replace BK390 := Aside0.mk (blk_drew BK390.out)
  replace HB := Aside0.mk (below_drew1 HB.out)
  refine start_ (n := 13) (S := fun w' => w'.cell? ⟨gb389, 0, none⟩ = some (.int .i64 a0_0) ∧ w'.cell? ⟨gb389, 1, none⟩ = some (.int .i64 a0_1) ∧ w'.cell? ⟨gb389, 2, none⟩ = some (.int .i64 a0_2) ∧ w'.cell? ⟨gb389, 3, none⟩ = some (.int .i64 a0_3) ∧ w'.cell? ⟨gb390, 0, none⟩ = some (.int .i64 a1_0) ∧ w'.cell? ⟨gb390, 1, none⟩ = some (.int .i64 a1_1) ∧ w'.cell? ⟨gb390, 2, none⟩ = some (.int .i64 a1_2) ∧ w'.cell? ⟨gb390, 3, none⟩ = some (.int .i64 a1_3)) (ds := []) #[false, false, false, false, false, false, false, false, false, false, false, false, false] (by kernel_rfl) rfl rfl (c4 BK389 (e4 BK390)) (fun hHeld => ?_); refine with_tabW span_Compare.tab1 span_Compare.bits1 (fun HT_ HW_ => ?_)
  generalize w7.drew = w8 at BK389 BK390 HB hHeld ⊢
  refine pu 0 (some 5) #[true, false, false, false, false, false, false, false, false, false, false, false, false] (any_of HT_.out (by kernel_rfl)) ?_
  refine pu 2 (some 7) #[true, false, true, false, false, false, false, false, false, false, false, false, false] (any_of HT_.out (by kernel_rfl)) ?_
  refine pu 5 (some 10) #[true, false, true, false, false, true, false, false, false, false, false, false, false] (any_of HT_.out (by kernel_rfl)) ?_
  refine pu 7 (some 12) #[true, false, true, false, false, true, false, true, false, false, false, false, false] (any_of HT_.out (by kernel_rfl)) ?_
  refine tk8 1 (some 6) #[true, true, true, false, false, true, false, true, false, false, false, false, false] (take_ofW HT_.out HW_.out (by kernel_rfl)) hHeld ?_
  refine tk8 3 (some 8) #[true, true, true, true, false, true, false, true, false, false, false, false, false] (take_ofW HT_.out HW_.out (by kernel_rfl)) hHeld ?_
  refine tk8 6 (some 11) #[true, true, true, true, false, true, true, true, false, false, false, false, false] (take_ofW HT_.out HW_.out (by kernel_rfl)) hHeld ?_
  refine tk8 8 (some 13) #[true, true, true, true, false, true, true, true, true, false, false, false, false] (take_ofW HT_.out HW_.out (by kernel_rfl)) hHeld ?_
  refine one_ (i := 4) (N := some 9) #[true, true, true, true, true, true, true, true, true, false, false, false, false] rfl rfl (one_of HT_.out (by kernel_rfl)) (by decide) (fun K hK => ?_)
  refine goes_ Try.func53 (by kernel_rfl) rfl #[.agg #[.int .i64 a0_0, .int .i64 a0_1], .agg #[.int .i64 a1_0, .int .i64 a1_1]] (by rfl) rfl rfl (by (try simp only [List.map_toArray, List.map_cons, List.map_nil]); first | done | rfl | (simp only [List.length_drop, List.length_take]; rfl)) ?_
  with_reducible refine (cut_Compare.calls k a0_0 a0_1 a1_0 a1_1 t391 _ A3.out).mono ?_
  rintro e w9 ⟨rfl, hb⟩
  refine ⟨_, rfl, ?_⟩
  replace BK389 := bkb BK389 hb
  replace BK390 := bkb BK390 hb
  replace HB := bst HB hb
  (try clear hb)
  (try clear hb2)
  (try clear hk)
  (try clear hi)
  refine hK.out _ _ (c4 BK389 (e4 BK390)) (fun hHeld => ?_)
  clear hK K
  refine nrp 9 ?_
  refine one_ (i := 9) (N := some 14) #[true, true, true, true, true, true, true, true, true, true, false, false, false] rfl rfl (one_of HT_.out (by kernel_rfl)) (by decide) (fun K hK => ?_)
  refine goes_ Try.func53 (by kernel_rfl) rfl #[.agg #[.int .i64 a0_2, .int .i64 a0_3], .agg #[.int .i64 a1_2, .int .i64 a1_3]] (by rfl) rfl rfl (by (try simp only [List.map_toArray, List.map_cons, List.map_nil]); first | done | rfl | (simp only [List.length_drop, List.length_take]; rfl)) ?_
  with_reducible refine (cut_Compare.calls k a0_2 a0_3 a1_2 a1_3 t392 _ A4.out).mono ?_
  rintro e w10 ⟨rfl, hb⟩
  refine ⟨_, rfl, ?_⟩
  replace BK389 := bkb BK389 hb
  replace BK390 := bkb BK390 hb
  replace HB := bst HB hb
  (try clear hb)
  (try clear hb2)
  (try clear hk)
  (try clear hi)
  refine hK.out _ _ (c4 BK389 (e4 BK390)) (fun hHeld => ?_)
  clear hK K
  refine nrp 14 ?_
  refine one_ (i := 10) (N := some 15) #[true, true, true, true, true, true, true, true, true, true, true, false, false] rfl rfl (one_of HT_.out (by kernel_rfl)) (by decide) (fun K hK => ?_)
  refine Kd.R_lit_step (Kd.int .i64) _ 3 ?hg (N := 15) ?hd (xs := ([t391, t392] : List Int)) (inner := [.int .i64 t391, .int .i64 t392]) (ok := fun _ => True) (okp := fun _ => True) ?hr ?hp (fun _ hk => hk) trivial (Below.refl _ _) (Nat.le_refl _) (by simp) ?_; (case hd => rfl); (case hg => rfl); (case hr => first | (go_simp; done) | (go_simp; rfl)); (case hp => exact (Reps.one (show Kd.M (Kd.int .i64) _ _ _ t391 [.int .i64 t391] from rfl) (Reps.one (show Kd.M (Kd.int .i64) _ _ _ t392 [.int .i64 t392] from rfl) (Reps.none _ _))))
  intro v394 w11 ho12 hb hg_ hnew_
  clear hg_ hnew_
  (first | rw [← Ny393.out] at ho12 | (simp only [Int.reduceToNat] at ho12; rw [← Ny393.out] at ho12))
  have HO395 := Aside0.mk (Kd.R_lower ho12 (below_size (bl HB)))
  replace BK389 := bkb BK389 hb
  replace BK390 := bkb BK390 hb
  replace HB := bst HB hb
  clear hb ho12
  obtain ⟨Ao13, co13, eo13⟩ := Kd.R_slice HO395.out
  (first | subst eo13 | (injection eo13 with f1_ f2_ f3_; have f4_ := f1_.symm; have f5_ := f3_.symm; clear f1_ f2_ f3_; subst f4_; subst f5_))
  refine hK.out _ _ (c4 BK389 (e4 BK390)) (fun hHeld => ?_)
  clear hK K
  refine nrp 15 ?_
  refine one_ (i := 11) (N := some 16) #[true, true, true, true, true, true, true, true, true, true, true, true, false] rfl rfl (one_of HT_.out (by kernel_rfl)) (by decide) (fun K hK => ?_)
  refine goes_ Try.func66 (by kernel_rfl) rfl #[.slice Ao13 y393.length co13] (by rfl) rfl rfl (by (try simp only [List.map_toArray, List.map_cons, List.map_nil]); first | done | rfl | (simp only [List.length_drop, List.length_take]; rfl)) ?_
  with_reducible refine (cmp_Or_int.calls k _ _ y393 t396 _ ?side1 ?side2 A5.out).mono ?_
  (case side1 => repeat (first | exact (Kd.R_reads' HO395.out).2.2 | (with_reducible refine Kd.C_alloc ?_ _) | (with_reducible refine Kd.C_drewN ?_ _) | (with_reducible refine Kd.C_drew ?_)))
  (case side2 => exact (Kd.R_reads' HO395.out).2.1)
  rintro e w' ⟨rfl, ⟨nd, rfl⟩⟩
  refine ⟨_, rfl, ?_⟩
  refine hK.out _ _ (c4 BK389 (e4 BK390)) (fun hHeld => ?_)
  clear hK K
  refine nrp 16 ?_
  refine pu 12 (some 4) #[true, true, true, true, true, true, true, true, true, true, true, true, true] (any_of HT_.out (by kernel_rfl)) ?_
  refine done_ (done_of HT_.out (by kernel_rfl)) ?_
  try go_wp2
  go_ret
  exact endB HB
/-! ### bocagelaw03_to: function 51 -/
def bocagelaw03_to.f (a0 : Int) (a1 : Int) : Option (Int × Int × Int × Int) := some (0, a0, 0, a1)
set_option maxHeartbeats 8000000 in
set_option maxRecDepth 100000 in
theorem bocagelaw03_to.calls (a0 : Int) (a1 : Int) (r1 : Int) (r2 : Int) (r3 : Int) (r4 : Int) (w : World) (h : bocagelaw03_to.f a0 a1 = some (r1, r2, r3, r4)) :
    Calls Try.prog 51 #[.int .i64 a0, .int .i64 a1] w fun e w' => e = .returned (.agg #[.int .i64 r1, .int .i64 r2, .int .i64 r3, .int .i64 r4]) ∧ Below w.heap.size w w' := by
  have hu25 := Try.underlying25
  have hu23 := Try.underlying23
  have HB := Aside0.mk (Below.refl w.heap.size w)
  have H : (some (0, a0, 0, a1)) = some (r1, r2, r3, r4) := h
  clear h
  simp only [Option.some.injEq, Prod.mk.injEq] at H
  obtain ⟨rfl, rfl, rfl, rfl⟩ := H
  go_enter Try.func51, Try.ntmps51
  go_wp2_with (first | ((with_reducible refine gate_dst (N := 4) rfl ?_); refine bxe (N := 4) (cs := #[.int .i64 0, .int .i64 0, .int .i64 0, .int .i64 0]) (t := 25) ?_; intro gb397 hg w3 hbox hb; have BK397 := Aside0.mk (hbox); have GW397 := lsz hg HB; have GE397 := lsz hg HB; replace HB := bst HB hb; clear hb hbox hg; obtain ⟨hcz4_0, hcz4_1, hcz4_2, hcz4_3⟩ := e4 BK397; obtain ⟨hfz4_0, hfz4_1, hfz4_2, hfz4_3⟩ := f4 BK397))
  refine bodyPost_ret (results_cell_row rfl _ _ gb397 25 #[.int .i64 0, .int .i64 a0, .int .i64 0, .int .i64 a1] (0, 0) _ rfl (bkp BK397) Try.underlying25 rfl (by kernel_rfl)) rfl ?_
  exact endB HB
/-! ### span_All: function 52 -/
def span_All.f  : Option (Int × Int × Int × Int) := (cut_First.f).bind fun bt399 => ((cut_Last.f).bind fun bt401 => (some (bt399.1, bt399.2, bt401.1, bt401.2)))
set_option maxHeartbeats 8000000 in
set_option maxRecDepth 100000 in
theorem span_All.calls  (r1 : Int) (r2 : Int) (r3 : Int) (r4 : Int) (w : World) (h : span_All.f  = some (r1, r2, r3, r4)) :
    Calls Try.prog 52 #[] w fun e w' => e = .returned (.agg #[.int .i64 r1, .int .i64 r2, .int .i64 r3, .int .i64 r4]) ∧ Below w.heap.size w w' := by
  have hu25 := Try.underlying25
  have HB := Aside0.mk (Below.refl w.heap.size w)
  have H : ((cut_First.f).bind fun bt399 => ((cut_Last.f).bind fun bt401 => (some (bt399.1, bt399.2, bt401.1, bt401.2)))) = some (r1, r2, r3, r4) := h
  clear h
  replace H := Option.bind_eq_some_iff.mp H
  obtain ⟨⟨t399, t400⟩, A10, H⟩ := H
  (try (set_option simprocs false in dsimp only at H))
  have A1 := Aside0.mk A10
  clear A10
  replace H := Option.bind_eq_some_iff.mp H
  obtain ⟨⟨t401, t402⟩, A20, H⟩ := H
  (try (set_option simprocs false in dsimp only at H))
  have A2 := Aside0.mk A20
  clear A20
  simp only [Option.some.injEq, Prod.mk.injEq] at H
  obtain ⟨rfl, rfl, rfl, rfl⟩ := H
  go_enter Try.func52, Try.ntmps52
  go_wp2_with (first | ((with_reducible refine gate_dst (N := 0) rfl ?_); refine bxe (N := 0) (cs := #[.int .i64 0, .int .i64 0, .int .i64 0, .int .i64 0]) (t := 25) ?_; intro gb398 hg w3 hbox hb; have BK398 := Aside0.mk (hbox); have GW398 := lsz hg HB; have GE398 := lsz hg HB; replace HB := bst HB hb; clear hb hbox hg) | ((with_reducible refine gate_callee (f := 69) rfl ?_); refine gol (some 1) Try.func69 #[] ?_; (with_reducible refine (cut_First.calls  t399 t400 _ A1.out).mono ?_); rintro e w4 ⟨rfl, hb⟩; refine ⟨_, rfl, ?_⟩; replace BK398 := bkb BK398 hb; replace HB := bst HB hb; (try clear hb); (try clear hb2); (try clear hk); (try clear hi)) | ((with_reducible refine gate_callee (f := 70) rfl ?_); refine gol (some 2) Try.func70 #[] ?_; (with_reducible refine (cut_Last.calls  t401 t402 _ A2.out).mono ?_); rintro e w5 ⟨rfl, hb⟩; refine ⟨_, rfl, ?_⟩; replace BK398 := bkb BK398 hb; replace HB := bst HB hb; (try clear hb); (try clear hb2); (try clear hk); (try clear hi); obtain ⟨hcz6_0, hcz6_1, hcz6_2, hcz6_3⟩ := e4 BK398; obtain ⟨hfz6_0, hfz6_1, hfz6_2, hfz6_3⟩ := f4 BK398))
  refine bodyPost_ret (results_cell_row rfl _ _ gb398 25 #[.int .i64 t399, .int .i64 t400, .int .i64 t401, .int .i64 t402] (0, 0) _ rfl (bkp BK398) Try.underlying25 rfl (by kernel_rfl)) rfl ?_
  exact endB HB
end Go.Proofs.Ytkkbmjfhpngalaa.Print
