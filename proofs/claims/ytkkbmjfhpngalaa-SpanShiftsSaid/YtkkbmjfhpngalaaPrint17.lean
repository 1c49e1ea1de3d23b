-- Laid by wip/print/bprint.py of this repo, over the kit's printer, with functions given by hand; not trusted: Lean checks it.
import Derived.Test.YtkkbmjfhpngalaaPrint0
import Derived.Test.YtkkbmjfhpngalaaPrint1
import Derived.Test.YtkkbmjfhpngalaaPrint4
import Derived.Test.YtkkbmjfhpngalaaPrint5
import Derived.Test.YtkkbmjfhpngalaaPrint9
import Derived.Test.YtkkbmjfhpngalaaSh
namespace Go.Proofs.Ytkkbmjfhpngalaa.Print
open Go.RowKit Go.Proofs.YtkkbmjfhpngalaaW.PrintWords Go.Proofs.YtkkbmjfhpngalaaW.PrintLast Go.Proofs.YtkkbmjfhpngalaaW.PrintMore
attribute [local go_sem] max2_int min2_int max_two min_two max_three min_three max_four min_four   -- for this text's walks alone
set_option linter.unusedVariables false
set_option linter.unusedSimpArgs false
/-! ### sat_end: function 95 -/
def sat_end.f (a0 : Bool) : Option (Int) := if a0 = true then (some (-9223372036854775808)) else (some 9223372036854775807)
set_option maxHeartbeats 8000000 in
set_option maxRecDepth 100000 in
theorem sat_end.calls (a0 : Bool) (r : Int) (w : World) (h : sat_end.f a0 = some r) :
    Calls Try.prog 95 #[.bool a0] w fun e w' => e = .returned (.int .i64 r) ∧ Drawn0 w w' := by
  have H : (if a0 = true then (some (-9223372036854775808)) else (some 9223372036854775807)) = some r := h
  clear h
  by_cases c2 : a0 = true
  · subst c2
    have H1 : (some (-9223372036854775808)) = some r := by rw [if_pos rfl] at H; exact H
    clear H
    have H := H1
    clear H1
    obtain rfl := Option.some.inj H
    go_enter Try.func95, Try.ntmps95
    go_wp2
    go_ret
    exact ⟨by first | rfl | (simp; done) | (simp [*]; done), by repeat (first | exact Drawn0.refl _ | apply Drawn0.step)⟩
  · replace c2 := Bool.eq_false_iff.mpr c2
    subst c2
    have H1 : (some 9223372036854775807) = some r := by rw [if_neg (show ¬ (false = true) by decide)] at H; exact H
    clear H
    have H := H1
    clear H1
    obtain rfl := Option.some.inj H
    go_enter Try.func95, Try.ntmps95
    go_wp2
    go_ret
    exact ⟨by first | rfl | (simp; done) | (simp [*]; done), by repeat (first | exact Drawn0.refl _ | apply Drawn0.step)⟩
/-! ### sat_Add: function 79 -/
def sat_Add.f (a0 : Int) (a1 : Int) : Option (Int) := if ((decide (a0 < 0)) == (decide (a1 < 0))) = true then (if ((decide ((wrap64 (a0 + a1)) < 0)) != (decide (a0 < 0))) = true then ((sat_end.f (decide (a0 < 0))).bind fun t732 => (some t732)) else (some (wrap64 (a0 + a1)))) else (some (wrap64 (a0 + a1)))
set_option maxHeartbeats 8000000 in
set_option maxRecDepth 100000 in
theorem sat_Add.calls (a0 : Int) (a1 : Int) (r : Int) (w : World) (h : sat_Add.f a0 a1 = some r) :
    Calls Try.prog 79 #[.int .i64 a0, .int .i64 a1] w fun e w' => e = .returned (.int .i64 r) ∧ Drawn0 w w' := by
  have H : (if ((decide (a0 < 0)) == (decide (a1 < 0))) = true then (if ((decide ((wrap64 (a0 + a1)) < 0)) != (decide (a0 < 0))) = true then ((sat_end.f (decide (a0 < 0))).bind fun t732 => (some t732)) else (some (wrap64 (a0 + a1)))) else (some (wrap64 (a0 + a1)))) = some r := h
  clear h
  by_cases c3 : ((decide (a0 < 0)) == (decide (a1 < 0))) = true
  · rw [if_pos c3] at H
    have c3b0 : ((decide (a0 < 0)) == (decide (a1 < 0))) = true := c3
    (try (have c3b1 : decide ((decide (a0 < 0)) = (decide (a1 < 0))) = true := by simpa using c3))
    (try (have c3b2 : ((decide (a0 < 0)) == (decide (a1 < 0))) = true := by simpa using c3))
    clear c3
    by_cases c4 : ((decide ((wrap64 (a0 + a1)) < 0)) != (decide (a0 < 0))) = true
    · rw [if_pos c4] at H
      have c4b0 : ((decide ((wrap64 (a0 + a1)) < 0)) != (decide (a0 < 0))) = true := c4
      (try (have c4b1 : decide ((decide ((wrap64 (a0 + a1)) < 0)) = (decide (a0 < 0))) = false := by simpa using c4))
      (try (have c4b2 : ((decide ((wrap64 (a0 + a1)) < 0)) == (decide (a0 < 0))) = false := by simpa using c4))
      (try (have c4b3 : ¬ ((decide ((wrap64 (a0 + a1)) < 0)) = (decide (a0 < 0))) := by simpa using c4))
      clear c4
      replace H := Option.bind_eq_some_iff.mp H
      obtain ⟨t732, A50, H⟩ := H
      (try (set_option simprocs false in dsimp only at H))
      have A5 := Aside0.mk A50
      clear A50
      obtain rfl := Option.some.inj H
      go_enter Try.func79, Try.ntmps79
      go_wp2_with (first | ((with_reducible refine gate_callee (f := 95) rfl ?_); refine gol (some 23) Try.func95 #[.bool (decide (a0 < 0))] ?_; (with_reducible refine (sat_end.calls (decide (a0 < 0)) t732 _ A5.out).mono ?_); rintro e w' ⟨rfl, ⟨nd, rfl⟩⟩; refine ⟨_, rfl, ?_⟩))
      go_ret
      exact ⟨by first | rfl | (simp; done) | (simp [*]; done), by repeat (first | exact Drawn0.refl _ | apply Drawn0.step)⟩
    · rw [if_neg c4] at H
      have c4b0 : ((decide ((wrap64 (a0 + a1)) < 0)) != (decide (a0 < 0))) = false := by simpa using c4
      (try (have c4b1 : decide ((decide ((wrap64 (a0 + a1)) < 0)) = (decide (a0 < 0))) = true := by simpa using c4))
      (try (have c4b2 : ((decide ((wrap64 (a0 + a1)) < 0)) == (decide (a0 < 0))) = true := by simpa using c4))
      clear c4
      obtain rfl := Option.some.inj H
      go_enter Try.func79, Try.ntmps79
      go_wp2
      go_ret
      exact ⟨by first | rfl | (simp; done) | (simp [*]; done), by repeat (first | exact Drawn0.refl _ | apply Drawn0.step)⟩
  · rw [if_neg c3] at H
    have c3b0 : ((decide (a0 < 0)) == (decide (a1 < 0))) = false := by simpa using c3
    (try (have c3b1 : decide ((decide (a0 < 0)) = (decide (a1 < 0))) = false := by simpa using c3))
    (try (have c3b2 : ((decide (a0 < 0)) == (decide (a1 < 0))) = false := by simpa using c3))
    (try (have c3b3 : ¬ ((decide (a0 < 0)) = (decide (a1 < 0))) := by simpa using c3))
    clear c3
    obtain rfl := Option.some.inj H
    go_enter Try.func79, Try.ntmps79
    go_wp2
    go_ret
    exact ⟨by first | rfl | (simp; done) | (simp [*]; done), by repeat (first | exact Drawn0.refl _ | apply Drawn0.step)⟩
/-! ### sat_Sub: function 80 -/
def sat_Sub.f (a0 : Int) (a1 : Int) : Option (Int) := if ((decide (a0 < 0)) != (decide (a1 < 0))) = true then (if ((decide ((wrap64 (a0 - a1)) < 0)) != (decide (a0 < 0))) = true then ((sat_end.f (decide (a0 < 0))).bind fun t733 => (some t733)) else (some (wrap64 (a0 - a1)))) else (some (wrap64 (a0 - a1)))
set_option maxHeartbeats 8000000 in
set_option maxRecDepth 100000 in
theorem sat_Sub.calls (a0 : Int) (a1 : Int) (r : Int) (w : World) (h : sat_Sub.f a0 a1 = some r) :
    Calls Try.prog 80 #[.int .i64 a0, .int .i64 a1] w fun e w' => e = .returned (.int .i64 r) ∧ Drawn0 w w' := by
  have H : (if ((decide (a0 < 0)) != (decide (a1 < 0))) = true then (if ((decide ((wrap64 (a0 - a1)) < 0)) != (decide (a0 < 0))) = true then ((sat_end.f (decide (a0 < 0))).bind fun t733 => (some t733)) else (some (wrap64 (a0 - a1)))) else (some (wrap64 (a0 - a1)))) = some r := h
  clear h
  by_cases c3 : ((decide (a0 < 0)) != (decide (a1 < 0))) = true
  · rw [if_pos c3] at H
    have c3b0 : ((decide (a0 < 0)) != (decide (a1 < 0))) = true := c3
    (try (have c3b1 : decide ((decide (a0 < 0)) = (decide (a1 < 0))) = false := by simpa using c3))
    (try (have c3b2 : ((decide (a0 < 0)) == (decide (a1 < 0))) = false := by simpa using c3))
    (try (have c3b3 : ¬ ((decide (a0 < 0)) = (decide (a1 < 0))) := by simpa using c3))
    clear c3
    by_cases c4 : ((decide ((wrap64 (a0 - a1)) < 0)) != (decide (a0 < 0))) = true
    · rw [if_pos c4] at H
      have c4b0 : ((decide ((wrap64 (a0 - a1)) < 0)) != (decide (a0 < 0))) = true := c4
      (try (have c4b1 : decide ((decide ((wrap64 (a0 - a1)) < 0)) = (decide (a0 < 0))) = false := by simpa using c4))
      (try (have c4b2 : ((decide ((wrap64 (a0 - a1)) < 0)) == (decide (a0 < 0))) = false := by simpa using c4))
      (try (have c4b3 : ¬ ((decide ((wrap64 (a0 - a1)) < 0)) = (decide (a0 < 0))) := by simpa using c4))
      clear c4
      replace H := Option.bind_eq_some_iff.mp H
      obtain ⟨t733, A50, H⟩ := H
      (try (set_option simprocs false in dsimp only at H))
      have A5 := Aside0.mk A50
      clear A50
      obtain rfl := Option.some.inj H
      go_enter Try.func80, Try.ntmps80
      go_wp2_with (first | ((with_reducible refine gate_callee (f := 95) rfl ?_); refine gol (some 23) Try.func95 #[.bool (decide (a0 < 0))] ?_; (with_reducible refine (sat_end.calls (decide (a0 < 0)) t733 _ A5.out).mono ?_); rintro e w' ⟨rfl, ⟨nd, rfl⟩⟩; refine ⟨_, rfl, ?_⟩))
      go_ret
      exact ⟨by first | rfl | (simp; done) | (simp [*]; done), by repeat (first | exact Drawn0.refl _ | apply Drawn0.step)⟩
    · rw [if_neg c4] at H
      have c4b0 : ((decide ((wrap64 (a0 - a1)) < 0)) != (decide (a0 < 0))) = false := by simpa using c4
      (try (have c4b1 : decide ((decide ((wrap64 (a0 - a1)) < 0)) = (decide (a0 < 0))) = true := by simpa using c4))
      (try (have c4b2 : ((decide ((wrap64 (a0 - a1)) < 0)) == (decide (a0 < 0))) = true := by simpa using c4))
      clear c4
      obtain rfl := Option.some.inj H
      go_enter Try.func80, Try.ntmps80
      go_wp2
      go_ret
      exact ⟨by first | rfl | (simp; done) | (simp [*]; done), by repeat (first | exact Drawn0.refl _ | apply Drawn0.step)⟩
  · rw [if_neg c3] at H
    have c3b0 : ((decide (a0 < 0)) != (decide (a1 < 0))) = false := by simpa using c3
    (try (have c3b1 : decide ((decide (a0 < 0)) = (decide (a1 < 0))) = true := by simpa using c3))
    (try (have c3b2 : ((decide (a0 < 0)) == (decide (a1 < 0))) = true := by simpa using c3))
    clear c3
    obtain rfl := Option.some.inj H
    go_enter Try.func80, Try.ntmps80
    go_wp2
    go_ret
    exact ⟨by first | rfl | (simp; done) | (simp [*]; done), by repeat (first | exact Drawn0.refl _ | apply Drawn0.step)⟩
/-! ### cut_Shift: function 67 -/
def cut_Shift.f (k : Nat) (a0_0 : Int) (a0_1 : Int) (a1 : Int) : Option (Int × Int × Bool) := (cut_Canon.f k a0_0 a0_1).bind fun bt736 => (if bt736.1 = 0 then ((sat_Add.f bt736.2 a1).bind fun t738 => (if t738 = (-9223372036854775808) then (some (0, 0, false)) else ((sat_Sub.f t738 a1).bind fun t739 => (if t739 = bt736.2 then (some (0, t738, true)) else (some (0, 0, false)))))) else (some (bt736.1, bt736.2, true)))
theorem cut_Shift.mono : ∀ a0 a1 a2 k, LeO (cut_Shift.f k a0 a1 a2) (cut_Shift.f (k + 1) a0 a1 a2) := by
  intro a0 a1 a2 k
  unfold cut_Shift.f
  repeat' first
      | (with_reducible exact cut_Canon.mono _ _ _)
      | (with_reducible exact LeO.refl _)
      | (with_reducible exact LeO.none _)
      | (with_reducible refine LeO.ite ?_ ?_)
      | (with_reducible refine LeO.bind ?_ (fun _ => ?_))
      | exact cut_Canon.mono _ _ _
      | exact LeO.none _
      | refine LeO.ite ?_ ?_
      | refine LeO.bind ?_ (fun _ => ?_)
set_option maxHeartbeats 8000000 in
set_option maxRecDepth 100000 in
theorem cut_Shift.calls (k : Nat) (a0_0 : Int) (a0_1 : Int) (a1 : Int) (r1 : Int) (r2 : Int) (r3 : Bool) (w : World) (h : cut_Shift.f k a0_0 a0_1 a1 = some (r1, r2, r3)) :
    Calls Try.prog 67 #[.agg #[.int .i64 a0_0, .int .i64 a0_1], .int .i64 a1] w fun e w' => e = .returned (.tuple #[.agg #[.int .i64 r1, .int .i64 r2], .bool r3]) ∧ Below w.heap.size w w' := by
  have hu23 := Try.underlying23
  have HB := Aside0.mk (Below.refl w.heap.size w)
  have H : ((cut_Canon.f k a0_0 a0_1).bind fun bt736 => (if bt736.1 = 0 then ((sat_Add.f bt736.2 a1).bind fun t738 => (if t738 = (-9223372036854775808) then (some (0, 0, false)) else ((sat_Sub.f t738 a1).bind fun t739 => (if t739 = bt736.2 then (some (0, t738, true)) else (some (0, 0, false)))))) else (some (bt736.1, bt736.2, true)))) = some (r1, r2, r3) := h
  clear h
  replace H := Option.bind_eq_some_iff.mp H
  obtain ⟨⟨t736, t737⟩, A30, H⟩ := H
  (try (set_option simprocs false in dsimp only at H))
  have A3 := Aside0.mk A30
  clear A30
  by_cases c4 : t736 = 0
  · rw [if_pos c4] at H
    have c4b0 : (t736 == 0) = true := beq_iff_eq.mpr c4
    have c4b1 : (t736 != 0) = false := bne_eq_false_iff_eq.mpr c4
    clear c4
    replace H := Option.bind_eq_some_iff.mp H
    obtain ⟨t738, A50, H⟩ := H
    (try (set_option simprocs false in dsimp only at H))
    have A5 := Aside0.mk A50
    clear A50
    by_cases c6 : t738 = (-9223372036854775808)
    · rw [if_pos c6] at H
      have c6b0 : (t738 == (-9223372036854775808)) = true := beq_iff_eq.mpr c6
      have c6b1 : (t738 != (-9223372036854775808)) = false := bne_eq_false_iff_eq.mpr c6
      clear c6
      simp only [Option.some.injEq, Prod.mk.injEq] at H
      obtain ⟨rfl, rfl, rfl⟩ := H
      go_enter Try.func67, Try.ntmps67
      go_wp2_with (first | ((with_reducible refine gate_dst (N := 2) rfl ?_); refine bxe (N := 2) (cs := #[.int .i64 a0_0, .int .i64 a0_1]) (t := 23) ?_; intro gb734 hg w7 hbox hb; have BK734 := Aside0.mk (hbox); have GW734 := lsz hg HB; have GE734 := lsz hg HB; replace HB := bst HB hb; clear hb hbox hg) | ((with_reducible refine gate_dst (N := 4) rfl ?_); refine bxe (N := 4) (cs := #[.int .i64 0, .int .i64 0]) (t := 23) ?_; intro gb735 hg w8 hbox hb; have BK735 := Aside0.mk (hbox); have GW735 := lsz hg HB; have GE735 := lsz hg HB; replace HB := bst HB hb; have NB734_735 := nlt hg BK734; have NB735_734 := ngt hg BK734; replace BK734 := bkb BK734 hb; clear hb hbox hg; have hnb9 := NB734_735.out; have hnc9 := NB735_734.out; obtain ⟨hcz10_0, hcz10_1⟩ := e2 BK734; obtain ⟨hfz10_0, hfz10_1⟩ := f2 BK734) | (go_at_call 55; (with_reducible refine (cut_Canon.calls k a0_0 a0_1 t736 t737 _ A3.out).mono ?_); rintro e w11 ⟨rfl, hb⟩; replace BK734 := bkb BK734 hb; replace BK735 := bkb BK735 hb; replace HB := bst HB hb; (try clear hb); (try clear hb2); (try clear hk); (try clear hi); obtain ⟨hcz12_0, hcz12_1⟩ := e2 BK734; obtain ⟨hfz12_0, hfz12_1⟩ := f2 BK734) | (go_at_call 79; (with_reducible refine (sat_Add.calls t737 a1 t738 _ A5.out).mono ?_); rintro e w' ⟨rfl, ⟨nd, rfl⟩⟩; (try first | exact ⟨rfl, _, World.drewN_drewN _ _ _⟩ | exact ⟨rfl, _, Eq.trans (World.drewN_drewN _ _ _) (congrArg (World.drewN _) (Nat.add_assoc _ _ _))⟩); obtain ⟨hcz13_0, hcz13_1⟩ := e2 BK735; obtain ⟨hfz13_0, hfz13_1⟩ := f2 BK735))
      repeat (go_quiet (first | ((with_reducible refine gate_dst (N := 2) rfl ?_); refine bxe (N := 2) (cs := #[.int .i64 a0_0, .int .i64 a0_1]) (t := 23) ?_; intro gb734 hg w7 hbox hb; have BK734 := Aside0.mk (hbox); have GW734 := lsz hg HB; have GE734 := lsz hg HB; replace HB := bst HB hb; clear hb hbox hg) | ((with_reducible refine gate_dst (N := 4) rfl ?_); refine bxe (N := 4) (cs := #[.int .i64 0, .int .i64 0]) (t := 23) ?_; intro gb735 hg w8 hbox hb; have BK735 := Aside0.mk (hbox); have GW735 := lsz hg HB; have GE735 := lsz hg HB; replace HB := bst HB hb; have NB734_735 := nlt hg BK734; have NB735_734 := ngt hg BK734; replace BK734 := bkb BK734 hb; clear hb hbox hg; have hnb9 := NB734_735.out; have hnc9 := NB735_734.out; obtain ⟨hcz10_0, hcz10_1⟩ := e2 BK734; obtain ⟨hfz10_0, hfz10_1⟩ := f2 BK734) | (go_at_call 55; (with_reducible refine (cut_Canon.calls k a0_0 a0_1 t736 t737 _ A3.out).mono ?_); rintro e w11 ⟨rfl, hb⟩; replace BK734 := bkb BK734 hb; replace BK735 := bkb BK735 hb; replace HB := bst HB hb; (try clear hb); (try clear hb2); (try clear hk); (try clear hi); obtain ⟨hcz12_0, hcz12_1⟩ := e2 BK734; obtain ⟨hfz12_0, hfz12_1⟩ := f2 BK734) | (go_at_call 79; (with_reducible refine (sat_Add.calls t737 a1 t738 _ A5.out).mono ?_); rintro e w' ⟨rfl, ⟨nd, rfl⟩⟩; (try first | exact ⟨rfl, _, World.drewN_drewN _ _ _⟩ | exact ⟨rfl, _, Eq.trans (World.drewN_drewN _ _ _) (congrArg (World.drewN _) (Nat.add_assoc _ _ _))⟩); obtain ⟨hcz13_0, hcz13_1⟩ := e2 BK735; obtain ⟨hfz13_0, hfz13_1⟩ := f2 BK735)); try go_wp2_with (first | ((with_reducible refine gate_dst (N := 2) rfl ?_); refine bxe (N := 2) (cs := #[.int .i64 a0_0, .int .i64 a0_1]) (t := 23) ?_; intro gb734 hg w7 hbox hb; have BK734 := Aside0.mk (hbox); have GW734 := lsz hg HB; have GE734 := lsz hg HB; replace HB := bst HB hb; clear hb hbox hg) | ((with_reducible refine gate_dst (N := 4) rfl ?_); refine bxe (N := 4) (cs := #[.int .i64 0, .int .i64 0]) (t := 23) ?_; intro gb735 hg w8 hbox hb; have BK735 := Aside0.mk (hbox); have GW735 := lsz hg HB; have GE735 := lsz hg HB; replace HB := bst HB hb; have NB734_735 := nlt hg BK734; have NB735_734 := ngt hg BK734; replace BK734 := bkb BK734 hb; clear hb hbox hg; have hnb9 := NB734_735.out; have hnc9 := NB735_734.out; obtain ⟨hcz10_0, hcz10_1⟩ := e2 BK734; obtain ⟨hfz10_0, hfz10_1⟩ := f2 BK734) | (go_at_call 55; (with_reducible refine (cut_Canon.calls k a0_0 a0_1 t736 t737 _ A3.out).mono ?_); rintro e w11 ⟨rfl, hb⟩; replace BK734 := bkb BK734 hb; replace BK735 := bkb BK735 hb; replace HB := bst HB hb; (try clear hb); (try clear hb2); (try clear hk); (try clear hi); obtain ⟨hcz12_0, hcz12_1⟩ := e2 BK734; obtain ⟨hfz12_0, hfz12_1⟩ := f2 BK734) | (go_at_call 79; (with_reducible refine (sat_Add.calls t737 a1 t738 _ A5.out).mono ?_); rintro e w' ⟨rfl, ⟨nd, rfl⟩⟩; (try first | exact ⟨rfl, _, World.drewN_drewN _ _ _⟩ | exact ⟨rfl, _, Eq.trans (World.drewN_drewN _ _ _) (congrArg (World.drewN _) (Nat.add_assoc _ _ _))⟩); obtain ⟨hcz13_0, hcz13_1⟩ := e2 BK735; obtain ⟨hfz13_0, hfz13_1⟩ := f2 BK735)))
      refine bodyPost_ret (results_ct rfl _ _ gb735 23 #[.int .i64 0, .int .i64 0] (0, 0) _ rfl (by (with_reducible repeat (first | refine blk_drewN ?_ _ | refine blk_drew ?_ | refine blk_alloc ?_ _)); refine blk_put (cs := #[.int .i64 0, .int .i64 0]) ?_ 1 _ rfl; (with_reducible repeat (first | refine blk_drewN ?_ _ | refine blk_drew ?_ | refine blk_alloc ?_ _)); refine blk_put (cs := #[.int .i64 0, .int .i64 0]) ?_ 0 _ rfl; (with_reducible repeat (first | refine blk_drewN ?_ _ | refine blk_drew ?_ | refine blk_alloc ?_ _)); refine blk_far ?_ NB735_734.out _; (with_reducible repeat (first | refine blk_drewN ?_ _ | refine blk_drew ?_ | refine blk_alloc ?_ _)); refine blk_far ?_ NB735_734.out _; (with_reducible repeat (first | refine blk_drewN ?_ _ | refine blk_drew ?_ | refine blk_alloc ?_ _)); exact BK735.out) Try.underlying23 rfl (by kernel_rfl)) rfl ?_
      exact endB HB
    · rw [if_neg c6] at H
      have c6b0 : (t738 == (-9223372036854775808)) = false := beq_eq_false_iff_ne.mpr c6
      have c6b1 : (t738 != (-9223372036854775808)) = true := bne_iff_ne.mpr c6
      replace H := Option.bind_eq_some_iff.mp H
      obtain ⟨t739, A140, H⟩ := H
      (try (set_option simprocs false in dsimp only at H))
      have A14 := Aside0.mk A140
      clear A140
      by_cases c15 : t739 = t737
      · rw [if_pos c15] at H
        have c15b0 : (t739 == t737) = true := beq_iff_eq.mpr c15
        have c15b1 : (t739 != t737) = false := bne_eq_false_iff_eq.mpr c15
        clear c15
        simp only [Option.some.injEq, Prod.mk.injEq] at H
        obtain ⟨rfl, rfl, rfl⟩ := H
        go_enter Try.func67, Try.ntmps67
        go_wp2_with (first | ((with_reducible refine gate_dst (N := 2) rfl ?_); refine bxe (N := 2) (cs := #[.int .i64 a0_0, .int .i64 a0_1]) (t := 23) ?_; intro gb734 hg w16 hbox hb; have BK734 := Aside0.mk (hbox); have GW734 := lsz hg HB; have GE734 := lsz hg HB; replace HB := bst HB hb; clear hb hbox hg) | ((with_reducible refine gate_dst (N := 4) rfl ?_); refine bxe (N := 4) (cs := #[.int .i64 0, .int .i64 0]) (t := 23) ?_; intro gb735 hg w17 hbox hb; have BK735 := Aside0.mk (hbox); have GW735 := lsz hg HB; have GE735 := lsz hg HB; replace HB := bst HB hb; have NB734_735 := nlt hg BK734; have NB735_734 := ngt hg BK734; replace BK734 := bkb BK734 hb; clear hb hbox hg; have hnb18 := NB734_735.out; have hnc18 := NB735_734.out; obtain ⟨hcz19_0, hcz19_1⟩ := e2 BK734; obtain ⟨hfz19_0, hfz19_1⟩ := f2 BK734) | (go_at_call 55; (with_reducible refine (cut_Canon.calls k a0_0 a0_1 t736 t737 _ A3.out).mono ?_); rintro e w20 ⟨rfl, hb⟩; replace BK734 := bkb BK734 hb; replace BK735 := bkb BK735 hb; replace HB := bst HB hb; (try clear hb); (try clear hb2); (try clear hk); (try clear hi); obtain ⟨hcz21_0, hcz21_1⟩ := e2 BK734; obtain ⟨hfz21_0, hfz21_1⟩ := f2 BK734) | (go_at_call 79; (with_reducible refine (sat_Add.calls t737 a1 t738 _ A5.out).mono ?_); rintro e w' ⟨rfl, ⟨nd, rfl⟩⟩; (try first | exact ⟨rfl, _, World.drewN_drewN _ _ _⟩ | exact ⟨rfl, _, Eq.trans (World.drewN_drewN _ _ _) (congrArg (World.drewN _) (Nat.add_assoc _ _ _))⟩)) | (go_at_call 80; (with_reducible refine (sat_Sub.calls t738 a1 t739 _ A14.out).mono ?_); rintro e w' ⟨rfl, ⟨nd, rfl⟩⟩; (try first | exact ⟨rfl, _, World.drewN_drewN _ _ _⟩ | exact ⟨rfl, _, Eq.trans (World.drewN_drewN _ _ _) (congrArg (World.drewN _) (Nat.add_assoc _ _ _))⟩); obtain ⟨hcz22_0, hcz22_1⟩ := e2 BK735; obtain ⟨hfz22_0, hfz22_1⟩ := f2 BK735))
        repeat (go_quiet (first | ((with_reducible refine gate_dst (N := 2) rfl ?_); refine bxe (N := 2) (cs := #[.int .i64 a0_0, .int .i64 a0_1]) (t := 23) ?_; intro gb734 hg w16 hbox hb; have BK734 := Aside0.mk (hbox); have GW734 := lsz hg HB; have GE734 := lsz hg HB; replace HB := bst HB hb; clear hb hbox hg) | ((with_reducible refine gate_dst (N := 4) rfl ?_); refine bxe (N := 4) (cs := #[.int .i64 0, .int .i64 0]) (t := 23) ?_; intro gb735 hg w17 hbox hb; have BK735 := Aside0.mk (hbox); have GW735 := lsz hg HB; have GE735 := lsz hg HB; replace HB := bst HB hb; have NB734_735 := nlt hg BK734; have NB735_734 := ngt hg BK734; replace BK734 := bkb BK734 hb; clear hb hbox hg; have hnb18 := NB734_735.out; have hnc18 := NB735_734.out; obtain ⟨hcz19_0, hcz19_1⟩ := e2 BK734; obtain ⟨hfz19_0, hfz19_1⟩ := f2 BK734) | (go_at_call 55; (with_reducible refine (cut_Canon.calls k a0_0 a0_1 t736 t737 _ A3.out).mono ?_); rintro e w20 ⟨rfl, hb⟩; replace BK734 := bkb BK734 hb; replace BK735 := bkb BK735 hb; replace HB := bst HB hb; (try clear hb); (try clear hb2); (try clear hk); (try clear hi); obtain ⟨hcz21_0, hcz21_1⟩ := e2 BK734; obtain ⟨hfz21_0, hfz21_1⟩ := f2 BK734) | (go_at_call 79; (with_reducible refine (sat_Add.calls t737 a1 t738 _ A5.out).mono ?_); rintro e w' ⟨rfl, ⟨nd, rfl⟩⟩; (try first | exact ⟨rfl, _, World.drewN_drewN _ _ _⟩ | exact ⟨rfl, _, Eq.trans (World.drewN_drewN _ _ _) (congrArg (World.drewN _) (Nat.add_assoc _ _ _))⟩)) | (go_at_call 80; (with_reducible refine (sat_Sub.calls t738 a1 t739 _ A14.out).mono ?_); rintro e w' ⟨rfl, ⟨nd, rfl⟩⟩; (try first | exact ⟨rfl, _, World.drewN_drewN _ _ _⟩ | exact ⟨rfl, _, Eq.trans (World.drewN_drewN _ _ _) (congrArg (World.drewN _) (Nat.add_assoc _ _ _))⟩); obtain ⟨hcz22_0, hcz22_1⟩ := e2 BK735; obtain ⟨hfz22_0, hfz22_1⟩ := f2 BK735)); try go_wp2_with (first | ((with_reducible refine gate_dst (N := 2) rfl ?_); refine bxe (N := 2) (cs := #[.int .i64 a0_0, .int .i64 a0_1]) (t := 23) ?_; intro gb734 hg w16 hbox hb; have BK734 := Aside0.mk (hbox); have GW734 := lsz hg HB; have GE734 := lsz hg HB; replace HB := bst HB hb; clear hb hbox hg) | ((with_reducible refine gate_dst (N := 4) rfl ?_); refine bxe (N := 4) (cs := #[.int .i64 0, .int .i64 0]) (t := 23) ?_; intro gb735 hg w17 hbox hb; have BK735 := Aside0.mk (hbox); have GW735 := lsz hg HB; have GE735 := lsz hg HB; replace HB := bst HB hb; have NB734_735 := nlt hg BK734; have NB735_734 := ngt hg BK734; replace BK734 := bkb BK734 hb; clear hb hbox hg; have hnb18 := NB734_735.out; have hnc18 := NB735_734.out; obtain ⟨hcz19_0, hcz19_1⟩ := e2 BK734; obtain ⟨hfz19_0, hfz19_1⟩ := f2 BK734) | (go_at_call 55; (with_reducible refine (cut_Canon.calls k a0_0 a0_1 t736 t737 _ A3.out).mono ?_); rintro e w20 ⟨rfl, hb⟩; replace BK734 := bkb BK734 hb; replace BK735 := bkb BK735 hb; replace HB := bst HB hb; (try clear hb); (try clear hb2); (try clear hk); (try clear hi); obtain ⟨hcz21_0, hcz21_1⟩ := e2 BK734; obtain ⟨hfz21_0, hfz21_1⟩ := f2 BK734) | (go_at_call 79; (with_reducible refine (sat_Add.calls t737 a1 t738 _ A5.out).mono ?_); rintro e w' ⟨rfl, ⟨nd, rfl⟩⟩; (try first | exact ⟨rfl, _, World.drewN_drewN _ _ _⟩ | exact ⟨rfl, _, Eq.trans (World.drewN_drewN _ _ _) (congrArg (World.drewN _) (Nat.add_assoc _ _ _))⟩)) | (go_at_call 80; (with_reducible refine (sat_Sub.calls t738 a1 t739 _ A14.out).mono ?_); rintro e w' ⟨rfl, ⟨nd, rfl⟩⟩; (try first | exact ⟨rfl, _, World.drewN_drewN _ _ _⟩ | exact ⟨rfl, _, Eq.trans (World.drewN_drewN _ _ _) (congrArg (World.drewN _) (Nat.add_assoc _ _ _))⟩); obtain ⟨hcz22_0, hcz22_1⟩ := e2 BK735; obtain ⟨hfz22_0, hfz22_1⟩ := f2 BK735)))
        refine bodyPost_ret (results_ct rfl _ _ gb735 23 #[.int .i64 0, .int .i64 t738] (0, 0) _ rfl (by (with_reducible repeat (first | refine blk_drewN ?_ _ | refine blk_drew ?_ | refine blk_alloc ?_ _)); refine blk_put (cs := #[.int .i64 0, .int .i64 0]) ?_ 1 _ rfl; (with_reducible repeat (first | refine blk_drewN ?_ _ | refine blk_drew ?_ | refine blk_alloc ?_ _)); refine blk_put (cs := #[.int .i64 0, .int .i64 0]) ?_ 0 _ rfl; (with_reducible repeat (first | refine blk_drewN ?_ _ | refine blk_drew ?_ | refine blk_alloc ?_ _)); refine blk_far ?_ NB735_734.out _; (with_reducible repeat (first | refine blk_drewN ?_ _ | refine blk_drew ?_ | refine blk_alloc ?_ _)); refine blk_far ?_ NB735_734.out _; (with_reducible repeat (first | refine blk_drewN ?_ _ | refine blk_drew ?_ | refine blk_alloc ?_ _)); exact BK735.out) Try.underlying23 rfl (by kernel_rfl)) rfl ?_
        exact endB HB
      · rw [if_neg c15] at H
        have c15b0 : (t739 == t737) = false := beq_eq_false_iff_ne.mpr c15
        have c15b1 : (t739 != t737) = true := bne_iff_ne.mpr c15
        simp only [Option.some.injEq, Prod.mk.injEq] at H
        obtain ⟨rfl, rfl, rfl⟩ := H
        go_enter Try.func67, Try.ntmps67
        go_wp2_with (first | ((with_reducible refine gate_dst (N := 2) rfl ?_); refine bxe (N := 2) (cs := #[.int .i64 a0_0, .int .i64 a0_1]) (t := 23) ?_; intro gb734 hg w23 hbox hb; have BK734 := Aside0.mk (hbox); have GW734 := lsz hg HB; have GE734 := lsz hg HB; replace HB := bst HB hb; clear hb hbox hg) | ((with_reducible refine gate_dst (N := 4) rfl ?_); refine bxe (N := 4) (cs := #[.int .i64 0, .int .i64 0]) (t := 23) ?_; intro gb735 hg w24 hbox hb; have BK735 := Aside0.mk (hbox); have GW735 := lsz hg HB; have GE735 := lsz hg HB; replace HB := bst HB hb; have NB734_735 := nlt hg BK734; have NB735_734 := ngt hg BK734; replace BK734 := bkb BK734 hb; clear hb hbox hg; have hnb25 := NB734_735.out; have hnc25 := NB735_734.out; obtain ⟨hcz26_0, hcz26_1⟩ := e2 BK734; obtain ⟨hfz26_0, hfz26_1⟩ := f2 BK734) | (go_at_call 55; (with_reducible refine (cut_Canon.calls k a0_0 a0_1 t736 t737 _ A3.out).mono ?_); rintro e w27 ⟨rfl, hb⟩; replace BK734 := bkb BK734 hb; replace BK735 := bkb BK735 hb; replace HB := bst HB hb; (try clear hb); (try clear hb2); (try clear hk); (try clear hi); obtain ⟨hcz28_0, hcz28_1⟩ := e2 BK734; obtain ⟨hfz28_0, hfz28_1⟩ := f2 BK734) | (go_at_call 79; (with_reducible refine (sat_Add.calls t737 a1 t738 _ A5.out).mono ?_); rintro e w' ⟨rfl, ⟨nd, rfl⟩⟩; (try first | exact ⟨rfl, _, World.drewN_drewN _ _ _⟩ | exact ⟨rfl, _, Eq.trans (World.drewN_drewN _ _ _) (congrArg (World.drewN _) (Nat.add_assoc _ _ _))⟩)) | (go_at_call 80; (with_reducible refine (sat_Sub.calls t738 a1 t739 _ A14.out).mono ?_); rintro e w' ⟨rfl, ⟨nd, rfl⟩⟩; (try first | exact ⟨rfl, _, World.drewN_drewN _ _ _⟩ | exact ⟨rfl, _, Eq.trans (World.drewN_drewN _ _ _) (congrArg (World.drewN _) (Nat.add_assoc _ _ _))⟩); obtain ⟨hcz29_0, hcz29_1⟩ := e2 BK735; obtain ⟨hfz29_0, hfz29_1⟩ := f2 BK735))
        repeat (go_quiet (first | ((with_reducible refine gate_dst (N := 2) rfl ?_); refine bxe (N := 2) (cs := #[.int .i64 a0_0, .int .i64 a0_1]) (t := 23) ?_; intro gb734 hg w23 hbox hb; have BK734 := Aside0.mk (hbox); have GW734 := lsz hg HB; have GE734 := lsz hg HB; replace HB := bst HB hb; clear hb hbox hg) | ((with_reducible refine gate_dst (N := 4) rfl ?_); refine bxe (N := 4) (cs := #[.int .i64 0, .int .i64 0]) (t := 23) ?_; intro gb735 hg w24 hbox hb; have BK735 := Aside0.mk (hbox); have GW735 := lsz hg HB; have GE735 := lsz hg HB; replace HB := bst HB hb; have NB734_735 := nlt hg BK734; have NB735_734 := ngt hg BK734; replace BK734 := bkb BK734 hb; clear hb hbox hg; have hnb25 := NB734_735.out; have hnc25 := NB735_734.out; obtain ⟨hcz26_0, hcz26_1⟩ := e2 BK734; obtain ⟨hfz26_0, hfz26_1⟩ := f2 BK734) | (go_at_call 55; (with_reducible refine (cut_Canon.calls k a0_0 a0_1 t736 t737 _ A3.out).mono ?_); rintro e w27 ⟨rfl, hb⟩; replace BK734 := bkb BK734 hb; replace BK735 := bkb BK735 hb; replace HB := bst HB hb; (try clear hb); (try clear hb2); (try clear hk); (try clear hi); obtain ⟨hcz28_0, hcz28_1⟩ := e2 BK734; obtain ⟨hfz28_0, hfz28_1⟩ := f2 BK734) | (go_at_call 79; (with_reducible refine (sat_Add.calls t737 a1 t738 _ A5.out).mono ?_); rintro e w' ⟨rfl, ⟨nd, rfl⟩⟩; (try first | exact ⟨rfl, _, World.drewN_drewN _ _ _⟩ | exact ⟨rfl, _, Eq.trans (World.drewN_drewN _ _ _) (congrArg (World.drewN _) (Nat.add_assoc _ _ _))⟩)) | (go_at_call 80; (with_reducible refine (sat_Sub.calls t738 a1 t739 _ A14.out).mono ?_); rintro e w' ⟨rfl, ⟨nd, rfl⟩⟩; (try first | exact ⟨rfl, _, World.drewN_drewN _ _ _⟩ | exact ⟨rfl, _, Eq.trans (World.drewN_drewN _ _ _) (congrArg (World.drewN _) (Nat.add_assoc _ _ _))⟩); obtain ⟨hcz29_0, hcz29_1⟩ := e2 BK735; obtain ⟨hfz29_0, hfz29_1⟩ := f2 BK735)); try go_wp2_with (first | ((with_reducible refine gate_dst (N := 2) rfl ?_); refine bxe (N := 2) (cs := #[.int .i64 a0_0, .int .i64 a0_1]) (t := 23) ?_; intro gb734 hg w23 hbox hb; have BK734 := Aside0.mk (hbox); have GW734 := lsz hg HB; have GE734 := lsz hg HB; replace HB := bst HB hb; clear hb hbox hg) | ((with_reducible refine gate_dst (N := 4) rfl ?_); refine bxe (N := 4) (cs := #[.int .i64 0, .int .i64 0]) (t := 23) ?_; intro gb735 hg w24 hbox hb; have BK735 := Aside0.mk (hbox); have GW735 := lsz hg HB; have GE735 := lsz hg HB; replace HB := bst HB hb; have NB734_735 := nlt hg BK734; have NB735_734 := ngt hg BK734; replace BK734 := bkb BK734 hb; clear hb hbox hg; have hnb25 := NB734_735.out; have hnc25 := NB735_734.out; obtain ⟨hcz26_0, hcz26_1⟩ := e2 BK734; obtain ⟨hfz26_0, hfz26_1⟩ := f2 BK734) | (go_at_call 55; (with_reducible refine (cut_Canon.calls k a0_0 a0_1 t736 t737 _ A3.out).mono ?_); rintro e w27 ⟨rfl, hb⟩; replace BK734 := bkb BK734 hb; replace BK735 := bkb BK735 hb; replace HB := bst HB hb; (try clear hb); (try clear hb2); (try clear hk); (try clear hi); obtain ⟨hcz28_0, hcz28_1⟩ := e2 BK734; obtain ⟨hfz28_0, hfz28_1⟩ := f2 BK734) | (go_at_call 79; (with_reducible refine (sat_Add.calls t737 a1 t738 _ A5.out).mono ?_); rintro e w' ⟨rfl, ⟨nd, rfl⟩⟩; (try first | exact ⟨rfl, _, World.drewN_drewN _ _ _⟩ | exact ⟨rfl, _, Eq.trans (World.drewN_drewN _ _ _) (congrArg (World.drewN _) (Nat.add_assoc _ _ _))⟩)) | (go_at_call 80; (with_reducible refine (sat_Sub.calls t738 a1 t739 _ A14.out).mono ?_); rintro e w' ⟨rfl, ⟨nd, rfl⟩⟩; (try first | exact ⟨rfl, _, World.drewN_drewN _ _ _⟩ | exact ⟨rfl, _, Eq.trans (World.drewN_drewN _ _ _) (congrArg (World.drewN _) (Nat.add_assoc _ _ _))⟩); obtain ⟨hcz29_0, hcz29_1⟩ := e2 BK735; obtain ⟨hfz29_0, hfz29_1⟩ := f2 BK735)))
        refine bodyPost_ret (results_ct rfl _ _ gb735 23 #[.int .i64 0, .int .i64 0] (0, 0) _ rfl (by (with_reducible repeat (first | refine blk_drewN ?_ _ | refine blk_drew ?_ | refine blk_alloc ?_ _)); refine blk_put (cs := #[.int .i64 0, .int .i64 0]) ?_ 1 _ rfl; (with_reducible repeat (first | refine blk_drewN ?_ _ | refine blk_drew ?_ | refine blk_alloc ?_ _)); refine blk_put (cs := #[.int .i64 0, .int .i64 0]) ?_ 0 _ rfl; (with_reducible repeat (first | refine blk_drewN ?_ _ | refine blk_drew ?_ | refine blk_alloc ?_ _)); refine blk_far ?_ NB735_734.out _; (with_reducible repeat (first | refine blk_drewN ?_ _ | refine blk_drew ?_ | refine blk_alloc ?_ _)); refine blk_far ?_ NB735_734.out _; (with_reducible repeat (first | refine blk_drewN ?_ _ | refine blk_drew ?_ | refine blk_alloc ?_ _)); exact BK735.out) Try.underlying23 rfl (by kernel_rfl)) rfl ?_
        exact endB HB
  · rw [if_neg c4] at H
    have c4b0 : (t736 == 0) = false := beq_eq_false_iff_ne.mpr c4
    have c4b1 : (t736 != 0) = true := bne_iff_ne.mpr c4
    simp only [Option.some.injEq, Prod.mk.injEq] at H
    obtain ⟨rfl, rfl, rfl⟩ := H
    go_enter Try.func67, Try.ntmps67
    go_wp2_with (first | ((with_reducible refine gate_dst (N := 2) rfl ?_); refine bxe (N := 2) (cs := #[.int .i64 a0_0, .int .i64 a0_1]) (t := 23) ?_; intro gb734 hg w30 hbox hb; have BK734 := Aside0.mk (hbox); have GW734 := lsz hg HB; have GE734 := lsz hg HB; replace HB := bst HB hb; clear hb hbox hg) | ((with_reducible refine gate_dst (N := 4) rfl ?_); refine bxe (N := 4) (cs := #[.int .i64 0, .int .i64 0]) (t := 23) ?_; intro gb735 hg w31 hbox hb; have BK735 := Aside0.mk (hbox); have GW735 := lsz hg HB; have GE735 := lsz hg HB; replace HB := bst HB hb; have NB734_735 := nlt hg BK734; have NB735_734 := ngt hg BK734; replace BK734 := bkb BK734 hb; clear hb hbox hg; have hnb32 := NB734_735.out; have hnc32 := NB735_734.out; obtain ⟨hcz33_0, hcz33_1⟩ := e2 BK734; obtain ⟨hfz33_0, hfz33_1⟩ := f2 BK734) | (go_at_call 55; (with_reducible refine (cut_Canon.calls k a0_0 a0_1 t736 t737 _ A3.out).mono ?_); rintro e w34 ⟨rfl, hb⟩; replace BK734 := bkb BK734 hb; replace BK735 := bkb BK735 hb; replace HB := bst HB hb; (try clear hb); (try clear hb2); (try clear hk); (try clear hi); obtain ⟨hcz35_0, hcz35_1⟩ := e2 BK734; obtain ⟨hfz35_0, hfz35_1⟩ := f2 BK734; obtain ⟨hcz36_0, hcz36_1⟩ := e2 BK735; obtain ⟨hfz36_0, hfz36_1⟩ := f2 BK735))
    repeat (go_quiet (first | ((with_reducible refine gate_dst (N := 2) rfl ?_); refine bxe (N := 2) (cs := #[.int .i64 a0_0, .int .i64 a0_1]) (t := 23) ?_; intro gb734 hg w30 hbox hb; have BK734 := Aside0.mk (hbox); have GW734 := lsz hg HB; have GE734 := lsz hg HB; replace HB := bst HB hb; clear hb hbox hg) | ((with_reducible refine gate_dst (N := 4) rfl ?_); refine bxe (N := 4) (cs := #[.int .i64 0, .int .i64 0]) (t := 23) ?_; intro gb735 hg w31 hbox hb; have BK735 := Aside0.mk (hbox); have GW735 := lsz hg HB; have GE735 := lsz hg HB; replace HB := bst HB hb; have NB734_735 := nlt hg BK734; have NB735_734 := ngt hg BK734; replace BK734 := bkb BK734 hb; clear hb hbox hg; have hnb32 := NB734_735.out; have hnc32 := NB735_734.out; obtain ⟨hcz33_0, hcz33_1⟩ := e2 BK734; obtain ⟨hfz33_0, hfz33_1⟩ := f2 BK734) | (go_at_call 55; (with_reducible refine (cut_Canon.calls k a0_0 a0_1 t736 t737 _ A3.out).mono ?_); rintro e w34 ⟨rfl, hb⟩; replace BK734 := bkb BK734 hb; replace BK735 := bkb BK735 hb; replace HB := bst HB hb; (try clear hb); (try clear hb2); (try clear hk); (try clear hi); obtain ⟨hcz35_0, hcz35_1⟩ := e2 BK734; obtain ⟨hfz35_0, hfz35_1⟩ := f2 BK734; obtain ⟨hcz36_0, hcz36_1⟩ := e2 BK735; obtain ⟨hfz36_0, hfz36_1⟩ := f2 BK735)); try go_wp2_with (first | ((with_reducible refine gate_dst (N := 2) rfl ?_); refine bxe (N := 2) (cs := #[.int .i64 a0_0, .int .i64 a0_1]) (t := 23) ?_; intro gb734 hg w30 hbox hb; have BK734 := Aside0.mk (hbox); have GW734 := lsz hg HB; have GE734 := lsz hg HB; replace HB := bst HB hb; clear hb hbox hg) | ((with_reducible refine gate_dst (N := 4) rfl ?_); refine bxe (N := 4) (cs := #[.int .i64 0, .int .i64 0]) (t := 23) ?_; intro gb735 hg w31 hbox hb; have BK735 := Aside0.mk (hbox); have GW735 := lsz hg HB; have GE735 := lsz hg HB; replace HB := bst HB hb; have NB734_735 := nlt hg BK734; have NB735_734 := ngt hg BK734; replace BK734 := bkb BK734 hb; clear hb hbox hg; have hnb32 := NB734_735.out; have hnc32 := NB735_734.out; obtain ⟨hcz33_0, hcz33_1⟩ := e2 BK734; obtain ⟨hfz33_0, hfz33_1⟩ := f2 BK734) | (go_at_call 55; (with_reducible refine (cut_Canon.calls k a0_0 a0_1 t736 t737 _ A3.out).mono ?_); rintro e w34 ⟨rfl, hb⟩; replace BK734 := bkb BK734 hb; replace BK735 := bkb BK735 hb; replace HB := bst HB hb; (try clear hb); (try clear hb2); (try clear hk); (try clear hi); obtain ⟨hcz35_0, hcz35_1⟩ := e2 BK734; obtain ⟨hfz35_0, hfz35_1⟩ := f2 BK734; obtain ⟨hcz36_0, hcz36_1⟩ := e2 BK735; obtain ⟨hfz36_0, hfz36_1⟩ := f2 BK735)))
    refine bodyPost_ret (results_ct rfl _ _ gb735 23 #[.int .i64 t736, .int .i64 t737] (0, 0) _ rfl (by (with_reducible repeat (first | refine blk_drewN ?_ _ | refine blk_drew ?_ | refine blk_alloc ?_ _)); refine blk_put (cs := #[.int .i64 t736, .int .i64 0]) ?_ 1 _ rfl; (with_reducible repeat (first | refine blk_drewN ?_ _ | refine blk_drew ?_ | refine blk_alloc ?_ _)); refine blk_put (cs := #[.int .i64 0, .int .i64 0]) ?_ 0 _ rfl; (with_reducible repeat (first | refine blk_drewN ?_ _ | refine blk_drew ?_ | refine blk_alloc ?_ _)); refine blk_far ?_ NB735_734.out _; (with_reducible repeat (first | refine blk_drewN ?_ _ | refine blk_drew ?_ | refine blk_alloc ?_ _)); refine blk_far ?_ NB735_734.out _; (with_reducible repeat (first | refine blk_drewN ?_ _ | refine blk_drew ?_ | refine blk_alloc ?_ _)); exact BK735.out) Try.underlying23 rfl (by kernel_rfl)) rfl ?_
    exact endB HB
/-! ### span_Shift: function 43 -/
def span_Shift.f (k : Nat) (a0_0 : Int) (a0_1 : Int) (a0_2 : Int) (a0_3 : Int) (a1 : Int) : Option (Int × Int × Int × Int × Bool) := (cut_Shift.f k a0_0 a0_1 a1).bind fun bt742 => ((cut_Shift.f k a0_2 a0_3 a1).bind fun bt746 => ((span_Right.f k a0_0 a0_1 a0_2 a0_3).bind fun t750 => (if t750 = true then (if bt742.2.2 = true then (if bt746.2.2 = true then (some (bt742.1, bt742.2.1, bt746.1, bt746.2.1, true)) else (some (0, 0, 0, 0, false))) else (some (0, 0, 0, 0, false))) else (some (0, 0, 0, 0, false)))))
theorem span_Shift.mono : ∀ a0 a1 a2 a3 a4 k, LeO (span_Shift.f k a0 a1 a2 a3 a4) (span_Shift.f (k + 1) a0 a1 a2 a3 a4) := by
  intro a0 a1 a2 a3 a4 k
  unfold span_Shift.f
  repeat' first
      | (with_reducible exact cut_Shift.mono _ _ _ _)
      | (with_reducible exact span_Right.mono _ _ _ _ _)
      | (with_reducible exact LeO.refl _)
      | (with_reducible exact LeO.none _)
      | (with_reducible refine LeO.ite ?_ ?_)
      | (with_reducible refine LeO.bind ?_ (fun _ => ?_))
      | exact cut_Shift.mono _ _ _ _
      | exact span_Right.mono _ _ _ _ _
      | exact LeO.none _
      | refine LeO.ite ?_ ?_
      | refine LeO.bind ?_ (fun _ => ?_)
set_option maxHeartbeats 8000000 in
set_option maxRecDepth 100000 in
theorem span_Shift.calls (k : Nat) (a0_0 : Int) (a0_1 : Int) (a0_2 : Int) (a0_3 : Int) (a1 : Int) (r1 : Int) (r2 : Int) (r3 : Int) (r4 : Int) (r5 : Bool) (w : World) (h : span_Shift.f k a0_0 a0_1 a0_2 a0_3 a1 = some (r1, r2, r3, r4, r5)) :
    Calls Try.prog 43 #[.agg #[.int .i64 a0_0, .int .i64 a0_1, .int .i64 a0_2, .int .i64 a0_3], .int .i64 a1] w fun e w' => e = .returned (.tuple #[.agg #[.int .i64 r1, .int .i64 r2, .int .i64 r3, .int .i64 r4], .bool r5]) ∧ Below w.heap.size w w' := by
  have hu25 := Try.underlying25
  have hu23 := Try.underlying23
  have HB := Aside0.mk (Below.refl w.heap.size w)
  have H : ((cut_Shift.f k a0_0 a0_1 a1).bind fun bt742 => ((cut_Shift.f k a0_2 a0_3 a1).bind fun bt746 => ((span_Right.f k a0_0 a0_1 a0_2 a0_3).bind fun t750 => (if t750 = true then (if bt742.2.2 = true then (if bt746.2.2 = true then (some (bt742.1, bt742.2.1, bt746.1, bt746.2.1, true)) else (some (0, 0, 0, 0, false))) else (some (0, 0, 0, 0, false))) else (some (0, 0, 0, 0, false)))))) = some (r1, r2, r3, r4, r5) := h
  clear h
  replace H := Option.bind_eq_some_iff.mp H
  obtain ⟨⟨t742, t743, t744⟩, A30, H⟩ := H
  (try (set_option simprocs false in dsimp only at H))
  have A3 := Aside0.mk A30
  clear A30
  replace H := Option.bind_eq_some_iff.mp H
  obtain ⟨⟨t746, t747, t748⟩, A40, H⟩ := H
  (try (set_option simprocs false in dsimp only at H))
  have A4 := Aside0.mk A40
  clear A40
  replace H := Option.bind_eq_some_iff.mp H
  obtain ⟨t750, A50, H⟩ := H
  (try (set_option simprocs false in dsimp only at H))
  have A5 := Aside0.mk A50
  clear A50
  by_cases c6 : t750 = true
  · subst c6
    have H1 : (if t744 = true then (if t748 = true then (some (t742, t743, t746, t747, true)) else (some (0, 0, 0, 0, false))) else (some (0, 0, 0, 0, false))) = some (r1, r2, r3, r4, r5) := by rw [if_pos rfl] at H; exact H
    clear H
    have H := H1
    clear H1
    by_cases c7 : t744 = true
    · subst c7
      have H1 : (if t748 = true then (some (t742, t743, t746, t747, true)) else (some (0, 0, 0, 0, false))) = some (r1, r2, r3, r4, r5) := by rw [if_pos rfl] at H; exact H
      clear H
      have H := H1
      clear H1
      by_cases c8 : t748 = true
      · subst c8
        have H1 : (some (t742, t743, t746, t747, true)) = some (r1, r2, r3, r4, r5) := by rw [if_pos rfl] at H; exact H
        clear H
        have H := H1
        clear H1
        simp only [Option.some.injEq, Prod.mk.injEq] at H
        obtain ⟨rfl, rfl, rfl, rfl, rfl⟩ := H
        go_enter Try.func43, Try.ntmps43
        go_wp2_with (first | ((with_reducible refine gate_dst (N := 2) rfl ?_); refine bxe (N := 2) (cs := #[.int .i64 a0_0, .int .i64 a0_1, .int .i64 a0_2, .int .i64 a0_3]) (t := 25) ?_; intro gb740 hg w9 hbox hb; have BK740 := Aside0.mk (hbox); have GW740 := lsz hg HB; have GE740 := lsz hg HB; replace HB := bst HB hb; clear hb hbox hg) | ((with_reducible refine gate_dst (N := 4) rfl ?_); refine bxe (N := 4) (cs := #[.int .i64 0, .int .i64 0, .int .i64 0, .int .i64 0]) (t := 25) ?_; intro gb741 hg w10 hbox hb; have BK741 := Aside0.mk (hbox); have GW741 := lsz hg HB; have GE741 := lsz hg HB; replace HB := bst HB hb; have NB740_741 := nlt hg BK740; have NB741_740 := ngt hg BK740; replace BK740 := bkb BK740 hb; clear hb hbox hg; have hnb11 := NB740_741.out; have hnc11 := NB741_740.out; obtain ⟨hcz12_0, hcz12_1, hcz12_2, hcz12_3⟩ := e4 BK740; obtain ⟨hfz12_0, hfz12_1, hfz12_2, hfz12_3⟩ := f4 BK740) | ((with_reducible refine gate_callee (f := 67) rfl ?_); refine gol (some 14) Try.func67 #[.agg #[.int .i64 a0_0, .int .i64 a0_1], .int .i64 a1] ?_; (with_reducible refine (cut_Shift.calls k a0_0 a0_1 a1 t742 t743 true _ A3.out).mono ?_); rintro e w13 ⟨rfl, hb⟩; refine ⟨_, rfl, ?_⟩; replace BK740 := bkb BK740 hb; replace BK741 := bkb BK741 hb; replace HB := bst HB hb; (try clear hb); (try clear hb2); (try clear hk); (try clear hi)) | ((with_reducible refine gate_dst (N := 6) rfl ?_); refine bxe (N := 6) (cs := #[.int .i64 0, .int .i64 0]) (t := 23) ?_; intro gb745 hg w14 hbox hb; have BK745 := Aside0.mk (hbox); have GW745 := lsz hg HB; have GE745 := lsz hg HB; replace HB := bst HB hb; have NB740_745 := nlt hg BK740; have NB745_740 := ngt hg BK740; replace BK740 := bkb BK740 hb; have NB741_745 := nlt hg BK741; have NB745_741 := ngt hg BK741; replace BK741 := bkb BK741 hb; clear hb hbox hg; have hnb15 := NB745_740.out; have hnc15 := NB740_745.out; have hnb16 := NB745_741.out; have hnc16 := NB741_745.out; obtain ⟨hcz17_0, hcz17_1⟩ := e2 BK745; obtain ⟨hfz17_0, hfz17_1⟩ := f2 BK745; obtain ⟨hcz18_0, hcz18_1, hcz18_2, hcz18_3⟩ := e4 BK740; obtain ⟨hfz18_0, hfz18_1, hfz18_2, hfz18_3⟩ := f4 BK740) | ((with_reducible refine gate_callee (f := 67) rfl ?_); refine gol (some 21) Try.func67 #[.agg #[.int .i64 a0_2, .int .i64 a0_3], .int .i64 a1] ?_; (with_reducible refine (cut_Shift.calls k a0_2 a0_3 a1 t746 t747 true _ A4.out).mono ?_); rintro e w19 ⟨rfl, hb⟩; refine ⟨_, rfl, ?_⟩; replace BK740 := Aside0.mk (blk_below (bkf BK740 NB740_745) hb); replace BK741 := Aside0.mk (blk_below (bkf BK741 NB741_745) hb); replace BK745 := Aside0.mk (blk_below (g := gb745) (o := .cells #[.int .i64 t742, .int .i64 t743] 23 (0, 0)) (bkp BK745) hb); replace HB := bst HB hb; (try clear hb); (try clear hb2); (try clear hk); (try clear hi)) | ((with_reducible refine gate_dst (N := 8) rfl ?_); refine bxe (N := 8) (cs := #[.int .i64 0, .int .i64 0]) (t := 23) ?_; intro gb749 hg w20 hbox hb; have BK749 := Aside0.mk (hbox); have GW749 := lsz hg HB; have GE749 := lsz hg HB; replace HB := bst HB hb; have NB740_749 := nlt hg BK740; have NB749_740 := ngt hg BK740; replace BK740 := bkb BK740 hb; have NB741_749 := nlt hg BK741; have NB749_741 := ngt hg BK741; replace BK741 := bkb BK741 hb; have NB745_749 := nlt hg BK745; have NB749_745 := ngt hg BK745; replace BK745 := bkb BK745 hb; clear hb hbox hg; have hnb21 := NB749_740.out; have hnc21 := NB740_749.out; have hnb22 := NB749_741.out; have hnc22 := NB741_749.out; have hnb23 := NB749_745.out; have hnc23 := NB745_749.out; obtain ⟨hcz24_0, hcz24_1⟩ := e2 BK749; obtain ⟨hfz24_0, hfz24_1⟩ := f2 BK749; obtain ⟨hcz25_0, hcz25_1, hcz25_2, hcz25_3⟩ := e4 BK740; obtain ⟨hfz25_0, hfz25_1, hfz25_2, hfz25_3⟩ := f4 BK740) | ((with_reducible refine gate_callee (f := 28) rfl ?_); refine gol (some 25) Try.func28 #[.agg #[.int .i64 a0_0, .int .i64 a0_1, .int .i64 a0_2, .int .i64 a0_3]] ?_; (with_reducible refine (span_Right.calls k a0_0 a0_1 a0_2 a0_3 true _ A5.out).mono ?_); rintro e w26 ⟨rfl, hb⟩; refine ⟨_, rfl, ?_⟩; replace BK740 := Aside0.mk (blk_below (bkf BK740 NB740_749) hb); replace BK741 := Aside0.mk (blk_below (bkf BK741 NB741_749) hb); replace BK745 := Aside0.mk (blk_below (bkf BK745 NB745_749) hb); replace BK749 := Aside0.mk (blk_below (g := gb749) (o := .cells #[.int .i64 t746, .int .i64 t747] 23 (0, 0)) (bkp BK749) hb); replace HB := bst HB hb; (try clear hb); (try clear hb2); (try clear hk); (try clear hi); obtain ⟨hcz27_0, hcz27_1⟩ := e2 BK745; obtain ⟨hfz27_0, hfz27_1⟩ := f2 BK745; obtain ⟨hcz28_0, hcz28_1⟩ := e2 BK749; obtain ⟨hfz28_0, hfz28_1⟩ := f2 BK749; obtain ⟨hcz29_0, hcz29_1, hcz29_2, hcz29_3⟩ := e4 BK741; obtain ⟨hfz29_0, hfz29_1, hfz29_2, hfz29_3⟩ := f4 BK741))
        refine bodyPost_ret (results_ct rfl _ _ gb741 25 #[.int .i64 t742, .int .i64 t743, .int .i64 t746, .int .i64 t747] (0, 0) _ rfl (bkp BK741) Try.underlying25 rfl (by kernel_rfl)) rfl ?_
        exact endB HB
      · replace c8 := Bool.eq_false_iff.mpr c8
        subst c8
        have H1 : (some (0, 0, 0, 0, false)) = some (r1, r2, r3, r4, r5) := by rw [if_neg (show ¬ (false = true) by decide)] at H; exact H
        clear H
        have H := H1
        clear H1
        simp only [Option.some.injEq, Prod.mk.injEq] at H
        obtain ⟨rfl, rfl, rfl, rfl, rfl⟩ := H
        go_enter Try.func43, Try.ntmps43
        go_wp2_with (first | ((with_reducible refine gate_dst (N := 2) rfl ?_); refine bxe (N := 2) (cs := #[.int .i64 a0_0, .int .i64 a0_1, .int .i64 a0_2, .int .i64 a0_3]) (t := 25) ?_; intro gb740 hg w30 hbox hb; have BK740 := Aside0.mk (hbox); have GW740 := lsz hg HB; have GE740 := lsz hg HB; replace HB := bst HB hb; clear hb hbox hg) | ((with_reducible refine gate_dst (N := 4) rfl ?_); refine bxe (N := 4) (cs := #[.int .i64 0, .int .i64 0, .int .i64 0, .int .i64 0]) (t := 25) ?_; intro gb741 hg w31 hbox hb; have BK741 := Aside0.mk (hbox); have GW741 := lsz hg HB; have GE741 := lsz hg HB; replace HB := bst HB hb; have NB740_741 := nlt hg BK740; have NB741_740 := ngt hg BK740; replace BK740 := bkb BK740 hb; clear hb hbox hg; have hnb32 := NB740_741.out; have hnc32 := NB741_740.out; obtain ⟨hcz33_0, hcz33_1, hcz33_2, hcz33_3⟩ := e4 BK740; obtain ⟨hfz33_0, hfz33_1, hfz33_2, hfz33_3⟩ := f4 BK740) | ((with_reducible refine gate_callee (f := 67) rfl ?_); refine gol (some 14) Try.func67 #[.agg #[.int .i64 a0_0, .int .i64 a0_1], .int .i64 a1] ?_; (with_reducible refine (cut_Shift.calls k a0_0 a0_1 a1 t742 t743 true _ A3.out).mono ?_); rintro e w34 ⟨rfl, hb⟩; refine ⟨_, rfl, ?_⟩; replace BK740 := bkb BK740 hb; replace BK741 := bkb BK741 hb; replace HB := bst HB hb; (try clear hb); (try clear hb2); (try clear hk); (try clear hi)) | ((with_reducible refine gate_dst (N := 6) rfl ?_); refine bxe (N := 6) (cs := #[.int .i64 0, .int .i64 0]) (t := 23) ?_; intro gb745 hg w35 hbox hb; have BK745 := Aside0.mk (hbox); have GW745 := lsz hg HB; have GE745 := lsz hg HB; replace HB := bst HB hb; have NB740_745 := nlt hg BK740; have NB745_740 := ngt hg BK740; replace BK740 := bkb BK740 hb; have NB741_745 := nlt hg BK741; have NB745_741 := ngt hg BK741; replace BK741 := bkb BK741 hb; clear hb hbox hg; have hnb36 := NB745_740.out; have hnc36 := NB740_745.out; have hnb37 := NB745_741.out; have hnc37 := NB741_745.out; obtain ⟨hcz38_0, hcz38_1⟩ := e2 BK745; obtain ⟨hfz38_0, hfz38_1⟩ := f2 BK745; obtain ⟨hcz39_0, hcz39_1, hcz39_2, hcz39_3⟩ := e4 BK740; obtain ⟨hfz39_0, hfz39_1, hfz39_2, hfz39_3⟩ := f4 BK740) | ((with_reducible refine gate_callee (f := 67) rfl ?_); refine gol (some 21) Try.func67 #[.agg #[.int .i64 a0_2, .int .i64 a0_3], .int .i64 a1] ?_; (with_reducible refine (cut_Shift.calls k a0_2 a0_3 a1 t746 t747 false _ A4.out).mono ?_); rintro e w40 ⟨rfl, hb⟩; refine ⟨_, rfl, ?_⟩; replace BK740 := Aside0.mk (blk_below (bkf BK740 NB740_745) hb); replace BK741 := Aside0.mk (blk_below (bkf BK741 NB741_745) hb); replace BK745 := Aside0.mk (blk_below (g := gb745) (o := .cells #[.int .i64 t742, .int .i64 t743] 23 (0, 0)) (bkp BK745) hb); replace HB := bst HB hb; (try clear hb); (try clear hb2); (try clear hk); (try clear hi)) | ((with_reducible refine gate_dst (N := 8) rfl ?_); refine bxe (N := 8) (cs := #[.int .i64 0, .int .i64 0]) (t := 23) ?_; intro gb749 hg w41 hbox hb; have BK749 := Aside0.mk (hbox); have GW749 := lsz hg HB; have GE749 := lsz hg HB; replace HB := bst HB hb; have NB740_749 := nlt hg BK740; have NB749_740 := ngt hg BK740; replace BK740 := bkb BK740 hb; have NB741_749 := nlt hg BK741; have NB749_741 := ngt hg BK741; replace BK741 := bkb BK741 hb; have NB745_749 := nlt hg BK745; have NB749_745 := ngt hg BK745; replace BK745 := bkb BK745 hb; clear hb hbox hg; have hnb42 := NB749_740.out; have hnc42 := NB740_749.out; have hnb43 := NB749_741.out; have hnc43 := NB741_749.out; have hnb44 := NB749_745.out; have hnc44 := NB745_749.out; obtain ⟨hcz45_0, hcz45_1⟩ := e2 BK749; obtain ⟨hfz45_0, hfz45_1⟩ := f2 BK749; obtain ⟨hcz46_0, hcz46_1, hcz46_2, hcz46_3⟩ := e4 BK740; obtain ⟨hfz46_0, hfz46_1, hfz46_2, hfz46_3⟩ := f4 BK740) | ((with_reducible refine gate_callee (f := 28) rfl ?_); refine gol (some 25) Try.func28 #[.agg #[.int .i64 a0_0, .int .i64 a0_1, .int .i64 a0_2, .int .i64 a0_3]] ?_; (with_reducible refine (span_Right.calls k a0_0 a0_1 a0_2 a0_3 true _ A5.out).mono ?_); rintro e w47 ⟨rfl, hb⟩; refine ⟨_, rfl, ?_⟩; replace BK740 := Aside0.mk (blk_below (bkf BK740 NB740_749) hb); replace BK741 := Aside0.mk (blk_below (bkf BK741 NB741_749) hb); replace BK745 := Aside0.mk (blk_below (bkf BK745 NB745_749) hb); replace BK749 := Aside0.mk (blk_below (g := gb749) (o := .cells #[.int .i64 t746, .int .i64 t747] 23 (0, 0)) (bkp BK749) hb); replace HB := bst HB hb; (try clear hb); (try clear hb2); (try clear hk); (try clear hi); obtain ⟨hcz48_0, hcz48_1, hcz48_2, hcz48_3⟩ := e4 BK741; obtain ⟨hfz48_0, hfz48_1, hfz48_2, hfz48_3⟩ := f4 BK741))
        refine bodyPost_ret (results_ct rfl _ _ gb741 25 #[.int .i64 0, .int .i64 0, .int .i64 0, .int .i64 0] (0, 0) _ rfl (bkp BK741) Try.underlying25 rfl (by kernel_rfl)) rfl ?_
        exact endB HB
    · replace c7 := Bool.eq_false_iff.mpr c7
      subst c7
      have H1 : (some (0, 0, 0, 0, false)) = some (r1, r2, r3, r4, r5) := by rw [if_neg (show ¬ (false = true) by decide)] at H; exact H
      clear H
      have H := H1
      clear H1
      simp only [Option.some.injEq, Prod.mk.injEq] at H
      obtain ⟨rfl, rfl, rfl, rfl, rfl⟩ := H
      go_enter Try.func43, Try.ntmps43
      go_wp2_with (first | ((with_reducible refine gate_dst (N := 2) rfl ?_); refine bxe (N := 2) (cs := #[.int .i64 a0_0, .int .i64 a0_1, .int .i64 a0_2, .int .i64 a0_3]) (t := 25) ?_; intro gb740 hg w49 hbox hb; have BK740 := Aside0.mk (hbox); have GW740 := lsz hg HB; have GE740 := lsz hg HB; replace HB := bst HB hb; clear hb hbox hg) | ((with_reducible refine gate_dst (N := 4) rfl ?_); refine bxe (N := 4) (cs := #[.int .i64 0, .int .i64 0, .int .i64 0, .int .i64 0]) (t := 25) ?_; intro gb741 hg w50 hbox hb; have BK741 := Aside0.mk (hbox); have GW741 := lsz hg HB; have GE741 := lsz hg HB; replace HB := bst HB hb; have NB740_741 := nlt hg BK740; have NB741_740 := ngt hg BK740; replace BK740 := bkb BK740 hb; clear hb hbox hg; have hnb51 := NB740_741.out; have hnc51 := NB741_740.out; obtain ⟨hcz52_0, hcz52_1, hcz52_2, hcz52_3⟩ := e4 BK740; obtain ⟨hfz52_0, hfz52_1, hfz52_2, hfz52_3⟩ := f4 BK740) | ((with_reducible refine gate_callee (f := 67) rfl ?_); refine gol (some 14) Try.func67 #[.agg #[.int .i64 a0_0, .int .i64 a0_1], .int .i64 a1] ?_; (with_reducible refine (cut_Shift.calls k a0_0 a0_1 a1 t742 t743 false _ A3.out).mono ?_); rintro e w53 ⟨rfl, hb⟩; refine ⟨_, rfl, ?_⟩; replace BK740 := bkb BK740 hb; replace BK741 := bkb BK741 hb; replace HB := bst HB hb; (try clear hb); (try clear hb2); (try clear hk); (try clear hi)) | ((with_reducible refine gate_dst (N := 6) rfl ?_); refine bxe (N := 6) (cs := #[.int .i64 0, .int .i64 0]) (t := 23) ?_; intro gb745 hg w54 hbox hb; have BK745 := Aside0.mk (hbox); have GW745 := lsz hg HB; have GE745 := lsz hg HB; replace HB := bst HB hb; have NB740_745 := nlt hg BK740; have NB745_740 := ngt hg BK740; replace BK740 := bkb BK740 hb; have NB741_745 := nlt hg BK741; have NB745_741 := ngt hg BK741; replace BK741 := bkb BK741 hb; clear hb hbox hg; have hnb55 := NB745_740.out; have hnc55 := NB740_745.out; have hnb56 := NB745_741.out; have hnc56 := NB741_745.out; obtain ⟨hcz57_0, hcz57_1⟩ := e2 BK745; obtain ⟨hfz57_0, hfz57_1⟩ := f2 BK745; obtain ⟨hcz58_0, hcz58_1, hcz58_2, hcz58_3⟩ := e4 BK740; obtain ⟨hfz58_0, hfz58_1, hfz58_2, hfz58_3⟩ := f4 BK740) | ((with_reducible refine gate_callee (f := 67) rfl ?_); refine gol (some 21) Try.func67 #[.agg #[.int .i64 a0_2, .int .i64 a0_3], .int .i64 a1] ?_; (with_reducible refine (cut_Shift.calls k a0_2 a0_3 a1 t746 t747 t748 _ A4.out).mono ?_); rintro e w59 ⟨rfl, hb⟩; refine ⟨_, rfl, ?_⟩; replace BK740 := Aside0.mk (blk_below (bkf BK740 NB740_745) hb); replace BK741 := Aside0.mk (blk_below (bkf BK741 NB741_745) hb); replace BK745 := Aside0.mk (blk_below (g := gb745) (o := .cells #[.int .i64 t742, .int .i64 t743] 23 (0, 0)) (bkp BK745) hb); replace HB := bst HB hb; (try clear hb); (try clear hb2); (try clear hk); (try clear hi)) | ((with_reducible refine gate_dst (N := 8) rfl ?_); refine bxe (N := 8) (cs := #[.int .i64 0, .int .i64 0]) (t := 23) ?_; intro gb749 hg w60 hbox hb; have BK749 := Aside0.mk (hbox); have GW749 := lsz hg HB; have GE749 := lsz hg HB; replace HB := bst HB hb; have NB740_749 := nlt hg BK740; have NB749_740 := ngt hg BK740; replace BK740 := bkb BK740 hb; have NB741_749 := nlt hg BK741; have NB749_741 := ngt hg BK741; replace BK741 := bkb BK741 hb; have NB745_749 := nlt hg BK745; have NB749_745 := ngt hg BK745; replace BK745 := bkb BK745 hb; clear hb hbox hg; have hnb61 := NB749_740.out; have hnc61 := NB740_749.out; have hnb62 := NB749_741.out; have hnc62 := NB741_749.out; have hnb63 := NB749_745.out; have hnc63 := NB745_749.out; obtain ⟨hcz64_0, hcz64_1⟩ := e2 BK749; obtain ⟨hfz64_0, hfz64_1⟩ := f2 BK749; obtain ⟨hcz65_0, hcz65_1, hcz65_2, hcz65_3⟩ := e4 BK740; obtain ⟨hfz65_0, hfz65_1, hfz65_2, hfz65_3⟩ := f4 BK740) | ((with_reducible refine gate_callee (f := 28) rfl ?_); refine gol (some 25) Try.func28 #[.agg #[.int .i64 a0_0, .int .i64 a0_1, .int .i64 a0_2, .int .i64 a0_3]] ?_; (with_reducible refine (span_Right.calls k a0_0 a0_1 a0_2 a0_3 true _ A5.out).mono ?_); rintro e w66 ⟨rfl, hb⟩; refine ⟨_, rfl, ?_⟩; replace BK740 := Aside0.mk (blk_below (bkf BK740 NB740_749) hb); replace BK741 := Aside0.mk (blk_below (bkf BK741 NB741_749) hb); replace BK745 := Aside0.mk (blk_below (bkf BK745 NB745_749) hb); replace BK749 := Aside0.mk (blk_below (g := gb749) (o := .cells #[.int .i64 t746, .int .i64 t747] 23 (0, 0)) (bkp BK749) hb); replace HB := bst HB hb; (try clear hb); (try clear hb2); (try clear hk); (try clear hi); obtain ⟨hcz67_0, hcz67_1, hcz67_2, hcz67_3⟩ := e4 BK741; obtain ⟨hfz67_0, hfz67_1, hfz67_2, hfz67_3⟩ := f4 BK741))
      refine bodyPost_ret (results_ct rfl _ _ gb741 25 #[.int .i64 0, .int .i64 0, .int .i64 0, .int .i64 0] (0, 0) _ rfl (bkp BK741) Try.underlying25 rfl (by kernel_rfl)) rfl ?_
      exact endB HB
  · replace c6 := Bool.eq_false_iff.mpr c6
    subst c6
    have H1 : (some (0, 0, 0, 0, false)) = some (r1, r2, r3, r4, r5) := by rw [if_neg (show ¬ (false = true) by decide)] at H; exact H
    clear H
    have H := H1
    clear H1
    simp only [Option.some.injEq, Prod.mk.injEq] at H
    obtain ⟨rfl, rfl, rfl, rfl, rfl⟩ := H
    go_enter Try.func43, Try.ntmps43
    go_wp2_with (first | ((with_reducible refine gate_dst (N := 2) rfl ?_); refine bxe (N := 2) (cs := #[.int .i64 a0_0, .int .i64 a0_1, .int .i64 a0_2, .int .i64 a0_3]) (t := 25) ?_; intro gb740 hg w68 hbox hb; have BK740 := Aside0.mk (hbox); have GW740 := lsz hg HB; have GE740 := lsz hg HB; replace HB := bst HB hb; clear hb hbox hg) | ((with_reducible refine gate_dst (N := 4) rfl ?_); refine bxe (N := 4) (cs := #[.int .i64 0, .int .i64 0, .int .i64 0, .int .i64 0]) (t := 25) ?_; intro gb741 hg w69 hbox hb; have BK741 := Aside0.mk (hbox); have GW741 := lsz hg HB; have GE741 := lsz hg HB; replace HB := bst HB hb; have NB740_741 := nlt hg BK740; have NB741_740 := ngt hg BK740; replace BK740 := bkb BK740 hb; clear hb hbox hg; have hnb70 := NB740_741.out; have hnc70 := NB741_740.out; obtain ⟨hcz71_0, hcz71_1, hcz71_2, hcz71_3⟩ := e4 BK740; obtain ⟨hfz71_0, hfz71_1, hfz71_2, hfz71_3⟩ := f4 BK740) | ((with_reducible refine gate_callee (f := 67) rfl ?_); refine gol (some 14) Try.func67 #[.agg #[.int .i64 a0_0, .int .i64 a0_1], .int .i64 a1] ?_; (with_reducible refine (cut_Shift.calls k a0_0 a0_1 a1 t742 t743 t744 _ A3.out).mono ?_); rintro e w72 ⟨rfl, hb⟩; refine ⟨_, rfl, ?_⟩; replace BK740 := bkb BK740 hb; replace BK741 := bkb BK741 hb; replace HB := bst HB hb; (try clear hb); (try clear hb2); (try clear hk); (try clear hi)) | ((with_reducible refine gate_dst (N := 6) rfl ?_); refine bxe (N := 6) (cs := #[.int .i64 0, .int .i64 0]) (t := 23) ?_; intro gb745 hg w73 hbox hb; have BK745 := Aside0.mk (hbox); have GW745 := lsz hg HB; have GE745 := lsz hg HB; replace HB := bst HB hb; have NB740_745 := nlt hg BK740; have NB745_740 := ngt hg BK740; replace BK740 := bkb BK740 hb; have NB741_745 := nlt hg BK741; have NB745_741 := ngt hg BK741; replace BK741 := bkb BK741 hb; clear hb hbox hg; have hnb74 := NB745_740.out; have hnc74 := NB740_745.out; have hnb75 := NB745_741.out; have hnc75 := NB741_745.out; obtain ⟨hcz76_0, hcz76_1⟩ := e2 BK745; obtain ⟨hfz76_0, hfz76_1⟩ := f2 BK745; obtain ⟨hcz77_0, hcz77_1, hcz77_2, hcz77_3⟩ := e4 BK740; obtain ⟨hfz77_0, hfz77_1, hfz77_2, hfz77_3⟩ := f4 BK740) | ((with_reducible refine gate_callee (f := 67) rfl ?_); refine gol (some 21) Try.func67 #[.agg #[.int .i64 a0_2, .int .i64 a0_3], .int .i64 a1] ?_; (with_reducible refine (cut_Shift.calls k a0_2 a0_3 a1 t746 t747 t748 _ A4.out).mono ?_); rintro e w78 ⟨rfl, hb⟩; refine ⟨_, rfl, ?_⟩; replace BK740 := Aside0.mk (blk_below (bkf BK740 NB740_745) hb); replace BK741 := Aside0.mk (blk_below (bkf BK741 NB741_745) hb); replace BK745 := Aside0.mk (blk_below (g := gb745) (o := .cells #[.int .i64 t742, .int .i64 t743] 23 (0, 0)) (bkp BK745) hb); replace HB := bst HB hb; (try clear hb); (try clear hb2); (try clear hk); (try clear hi)) | ((with_reducible refine gate_dst (N := 8) rfl ?_); refine bxe (N := 8) (cs := #[.int .i64 0, .int .i64 0]) (t := 23) ?_; intro gb749 hg w79 hbox hb; have BK749 := Aside0.mk (hbox); have GW749 := lsz hg HB; have GE749 := lsz hg HB; replace HB := bst HB hb; have NB740_749 := nlt hg BK740; have NB749_740 := ngt hg BK740; replace BK740 := bkb BK740 hb; have NB741_749 := nlt hg BK741; have NB749_741 := ngt hg BK741; replace BK741 := bkb BK741 hb; have NB745_749 := nlt hg BK745; have NB749_745 := ngt hg BK745; replace BK745 := bkb BK745 hb; clear hb hbox hg; have hnb80 := NB749_740.out; have hnc80 := NB740_749.out; have hnb81 := NB749_741.out; have hnc81 := NB741_749.out; have hnb82 := NB749_745.out; have hnc82 := NB745_749.out; obtain ⟨hcz83_0, hcz83_1⟩ := e2 BK749; obtain ⟨hfz83_0, hfz83_1⟩ := f2 BK749; obtain ⟨hcz84_0, hcz84_1, hcz84_2, hcz84_3⟩ := e4 BK740; obtain ⟨hfz84_0, hfz84_1, hfz84_2, hfz84_3⟩ := f4 BK740) | ((with_reducible refine gate_callee (f := 28) rfl ?_); refine gol (some 25) Try.func28 #[.agg #[.int .i64 a0_0, .int .i64 a0_1, .int .i64 a0_2, .int .i64 a0_3]] ?_; (with_reducible refine (span_Right.calls k a0_0 a0_1 a0_2 a0_3 false _ A5.out).mono ?_); rintro e w85 ⟨rfl, hb⟩; refine ⟨_, rfl, ?_⟩; replace BK740 := Aside0.mk (blk_below (bkf BK740 NB740_749) hb); replace BK741 := Aside0.mk (blk_below (bkf BK741 NB741_749) hb); replace BK745 := Aside0.mk (blk_below (bkf BK745 NB745_749) hb); replace BK749 := Aside0.mk (blk_below (g := gb749) (o := .cells #[.int .i64 t746, .int .i64 t747] 23 (0, 0)) (bkp BK749) hb); replace HB := bst HB hb; (try clear hb); (try clear hb2); (try clear hk); (try clear hi); obtain ⟨hcz86_0, hcz86_1, hcz86_2, hcz86_3⟩ := e4 BK741; obtain ⟨hfz86_0, hfz86_1, hfz86_2, hfz86_3⟩ := f4 BK741))
    refine bodyPost_ret (results_ct rfl _ _ gb741 25 #[.int .i64 0, .int .i64 0, .int .i64 0, .int .i64 0] (0, 0) _ rfl (bkp BK741) Try.underlying25 rfl (by kernel_rfl)) rfl ?_
    exact endB HB
/-! ### bocageref01_ends: function 96 -/
def bocageref01_ends.f (a0 : Int) : Option (List Int) := (some (([7, 0, 8, 5, 7, 7, 4, 5, 8, 6, 3, 0, 2, 7, 3, 3, 2, 2, 9] : List Int) : List Int)).bind fun y751 => (if a0 < 0 then (if 0 < (y751.length : Int) then (some (y751.set (0 : Int).toNat 8)) else (none)) else (some y751))
set_option maxHeartbeats 8000000 in
set_option maxRecDepth 100000 in
theorem bocageref01_ends.calls (a0 : Int) (r : List Int) (w : World) (h : bocageref01_ends.f a0 = some r) :
    Calls Try.prog 96 #[.int .i64 a0] w fun e w' => ∃ v0_ : Value, e = .returned (v0_) ∧ Kd.R (Kd.int .i64) 3 w' w.heap.size (fun _ => True) v0_ r ∧ Below w.heap.size w w' := by
  have HB := Aside0.mk (Below.refl w.heap.size w)
  have H : ((some (([7, 0, 8, 5, 7, 7, 4, 5, 8, 6, 3, 0, 2, 7, 3, 3, 2, 2, 9] : List Int) : List Int)).bind fun y751 => (if a0 < 0 then (if 0 < (y751.length : Int) then (some (y751.set (0 : Int).toNat 8)) else (none)) else (some y751))) = some r := h
  clear h
  obtain ⟨y751, hy751⟩ : ∃ y_ : List Int, y_ = (([7, 0, 8, 5, 7, 7, 4, 5, 8, 6, 3, 0, 2, 7, 3, 3, 2, 2, 9] : List Int)) := ⟨_, rfl⟩
  replace H : (if a0 < 0 then (if 0 < (y751.length : Int) then (some (y751.set (0 : Int).toNat 8)) else (none)) else (some y751)) = some r := by first | (rw [hy751]; with_reducible exact H) | (have H2_ := (Option.bind_some _ _).symm.trans H; rw [hy751]; with_reducible exact H2_) | (have H2_ := (Option.bind_some _ _).symm.trans H; with_reducible exact H2_) | with_reducible exact H | (rw [hy751]; exact H) | exact H
  have Ny751 := Aside0.mk hy751
  clear hy751
  by_cases c2 : a0 < 0
  · rw [if_pos c2] at H
    have c2b0 : decide (a0 < 0) = true := decide_eq_true c2
    clear c2
    by_cases c3 : 0 < (y751.length : Int)
    · rw [if_pos c3] at H
      have c3b0 : decide (0 < (y751.length : Int)) = true := decide_eq_true c3
      have c3b1 : decide (0 < y751.length) = true := decide_eq_true (by omega)
      clear c3
      obtain ⟨y754, hy754⟩ : ∃ y_ : List Int, y_ = (y751.set (0 : Int).toNat 8) := ⟨_, rfl⟩
      replace H : (some y754) = some r := by first | (rw [hy754]; with_reducible exact H) | (have H2_ := (Option.bind_some _ _).symm.trans H; rw [hy754]; with_reducible exact H2_) | (have H2_ := (Option.bind_some _ _).symm.trans H; with_reducible exact H2_) | with_reducible exact H | (rw [hy754]; exact H) | exact H
      have Ny754 := Aside0.mk hy754
      clear hy754
      obtain rfl := Option.some.inj H
      go_enter Try.func96, Try.ntmps96
      go_wp2_with (first | ((with_reducible refine gate_dst (N := 4) rfl ?_); refine Kd.R_lit (Kd.int .i64) _ 3 ?hg (N := 4) ?hd (xs := ([7, 0, 8, 5, 7, 7, 4, 5, 8, 6, 3, 0, 2, 7, 3, 3, 2, 2, 9] : List Int)) (inner := [.int .i64 7, .int .i64 0, .int .i64 8, .int .i64 5, .int .i64 7, .int .i64 7, .int .i64 4, .int .i64 5, .int .i64 8, .int .i64 6, .int .i64 3, .int .i64 0, .int .i64 2, .int .i64 7, .int .i64 3, .int .i64 3, .int .i64 2, .int .i64 2, .int .i64 9]) (ok := fun _ => True) (okp := fun _ => True) ?hr ?hp (fun _ hk => hk) trivial (Below.refl _ _) (Nat.le_refl _) (by simp) ?_; (case hd => rfl); (case hg => rfl); (case hr => first | (go_simp; done) | (go_simp; rfl)); (case hp => exact (Reps.one (show Kd.M (Kd.int .i64) _ _ _ 7 [.int .i64 7] from rfl) (Reps.one (show Kd.M (Kd.int .i64) _ _ _ 0 [.int .i64 0] from rfl) (Reps.one (show Kd.M (Kd.int .i64) _ _ _ 8 [.int .i64 8] from rfl) (Reps.one (show Kd.M (Kd.int .i64) _ _ _ 5 [.int .i64 5] from rfl) (Reps.one (show Kd.M (Kd.int .i64) _ _ _ 7 [.int .i64 7] from rfl) (Reps.one (show Kd.M (Kd.int .i64) _ _ _ 7 [.int .i64 7] from rfl) (Reps.one (show Kd.M (Kd.int .i64) _ _ _ 4 [.int .i64 4] from rfl) (Reps.one (show Kd.M (Kd.int .i64) _ _ _ 5 [.int .i64 5] from rfl) (Reps.one (show Kd.M (Kd.int .i64) _ _ _ 8 [.int .i64 8] from rfl) (Reps.one (show Kd.M (Kd.int .i64) _ _ _ 6 [.int .i64 6] from rfl) (Reps.one (show Kd.M (Kd.int .i64) _ _ _ 3 [.int .i64 3] from rfl) (Reps.one (show Kd.M (Kd.int .i64) _ _ _ 0 [.int .i64 0] from rfl) (Reps.one (show Kd.M (Kd.int .i64) _ _ _ 2 [.int .i64 2] from rfl) (Reps.one (show Kd.M (Kd.int .i64) _ _ _ 7 [.int .i64 7] from rfl) (Reps.one (show Kd.M (Kd.int .i64) _ _ _ 3 [.int .i64 3] from rfl) (Reps.one (show Kd.M (Kd.int .i64) _ _ _ 3 [.int .i64 3] from rfl) (Reps.one (show Kd.M (Kd.int .i64) _ _ _ 2 [.int .i64 2] from rfl) (Reps.one (show Kd.M (Kd.int .i64) _ _ _ 2 [.int .i64 2] from rfl) (Reps.one (show Kd.M (Kd.int .i64) _ _ _ 9 [.int .i64 9] from rfl) (Reps.none _ _))))))))))))))))))))); intro v752 w5 ho6 hb hg_ hnew_; clear hg_ hnew_; (first | rw [← Ny751.out] at ho6 | (simp only [Int.reduceToNat] at ho6; rw [← Ny751.out] at ho6)); have HO753 := Aside0.mk (Kd.R_lower ho6 (below_size (bl HB))); replace HB := bst HB hb; clear hb ho6; have p4 : 0 ≤ (0 : Int) := (by omega); have q4 : (0 : Int) < ((y751.length : Int) : Int) := of_decide_eq_true (by first | (with_reducible assumption) | assumption); have qi4 : (0 < y751.length) = True := eq_true (by omega); obtain ⟨go4, co4, eo4, gb4, gl4, cl4, HG4⟩ := Kd.R_form HO753.out (by omega); (first | cases eo4 | (injection eo4 with ea_ en_ ec_; (first | subst ea_ | (injection ea_ with ea_; subst ea_)); subst ec_; clear en_)); have GB4 := Aside0.mk gb4; have GG4 := Aside0.mk HG4; clear gb4 gl4 HG4; obtain ⟨hx4_0, hf4_0⟩ := Kd.R_celln 0 HO753.out (0 : Int) p4 q4; (try rw [show ((0 : Int)).toNat = 0 from rfl] at hx4_0); (try simp only [Nat.reduceMul, Nat.zero_mul, Nat.zero_add, Nat.reduceAdd] at hx4_0); (try rw [show ((0 : Int)).toNat = 0 from rfl] at hf4_0); (try simp only [Nat.reduceMul, Nat.zero_mul, Nat.zero_add, Nat.reduceAdd] at hf4_0); replace p4 := eq_true p4; replace q4 := eq_true q4; obtain ⟨hy7_, hz7_⟩ := Kd.R_celln 0 HO753.out (0 : Int) (by omega) (of_decide_eq_true (by first | (with_reducible assumption) | assumption)); (try simp only [Int.reduceToNat, Int.toNat_zero, Int.toNat_ofNat, Nat.reduceMul, Nat.zero_mul, Nat.zero_add] at hy7_ hz7_); (try rw [show ((0 : Int)).toNat = 0 from rfl] at hy7_); (try rw [show ((0 : Int)).toNat = 0 from rfl] at hz7_); have HP7 := Kd.R_putg HO753.out (0 : Int) 8) | ((with_reducible refine gate_store (t := 3) (p := 8) rfl ?_); refine store_event (t := 3) (p := 8) (v := ?vo_w8) (w1 := (w5.setCell ⟨go4, (0 : Int).toNat, none⟩ (.int .i64 8))) ?hg ?ho ?hn ?hr ?_; (case ho => rfl); (case hg => rfl); (case hn => rfl); (case hr => first | (go_simp; done) | (go_simp; rfl)); intro w8 hw; have hg : w5.grownBy w8 (some go4) := (by rw [hw]; exact HP7.2); have hp_ : Kd.R (Kd.int .i64) 3 w8 w.heap.size (fun _ => True) (.slice (some ⟨go4, 0, none⟩) y751.length co4) y754 := (by rw [hw, Ny754.out]; exact HP7.1); clear HP7; replace HO753 := Aside0.mk (hp_); replace HB := Aside0.mk ((by rw [hw]; exact below_set (HB.out) GB4.out : Below w.heap.size w w8)); clear hg hw hp_))
      go_ret
      exact ⟨_, by first | rfl | (simp [errW_none, errW_some] <;> rfl) | (simp [*, errW_none, errW_some] <;> rfl), by (with_reducible repeat (first | apply Kd.R_alloc | apply Kd.R_drewN | apply Kd.R_drew)); exact HO753.out, by repeat (first | (with_reducible first | exact HB.out | apply below_alloc | apply pw_below_drewN | apply below_drew1) | exact HB.out)⟩
    · rw [if_neg c3] at H
      exact absurd H (by simp)
  · rw [if_neg c2] at H
    have c2b0 : decide (a0 < 0) = false := decide_eq_false c2
    clear c2
    obtain rfl := Option.some.inj H
    go_enter Try.func96, Try.ntmps96
    go_wp2_with (first | ((with_reducible refine gate_dst (N := 4) rfl ?_); refine Kd.R_lit (Kd.int .i64) _ 3 ?hg (N := 4) ?hd (xs := ([7, 0, 8, 5, 7, 7, 4, 5, 8, 6, 3, 0, 2, 7, 3, 3, 2, 2, 9] : List Int)) (inner := [.int .i64 7, .int .i64 0, .int .i64 8, .int .i64 5, .int .i64 7, .int .i64 7, .int .i64 4, .int .i64 5, .int .i64 8, .int .i64 6, .int .i64 3, .int .i64 0, .int .i64 2, .int .i64 7, .int .i64 3, .int .i64 3, .int .i64 2, .int .i64 2, .int .i64 9]) (ok := fun _ => True) (okp := fun _ => True) ?hr ?hp (fun _ hk => hk) trivial (Below.refl _ _) (Nat.le_refl _) (by simp) ?_; (case hd => rfl); (case hg => rfl); (case hr => first | (go_simp; done) | (go_simp; rfl)); (case hp => exact (Reps.one (show Kd.M (Kd.int .i64) _ _ _ 7 [.int .i64 7] from rfl) (Reps.one (show Kd.M (Kd.int .i64) _ _ _ 0 [.int .i64 0] from rfl) (Reps.one (show Kd.M (Kd.int .i64) _ _ _ 8 [.int .i64 8] from rfl) (Reps.one (show Kd.M (Kd.int .i64) _ _ _ 5 [.int .i64 5] from rfl) (Reps.one (show Kd.M (Kd.int .i64) _ _ _ 7 [.int .i64 7] from rfl) (Reps.one (show Kd.M (Kd.int .i64) _ _ _ 7 [.int .i64 7] from rfl) (Reps.one (show Kd.M (Kd.int .i64) _ _ _ 4 [.int .i64 4] from rfl) (Reps.one (show Kd.M (Kd.int .i64) _ _ _ 5 [.int .i64 5] from rfl) (Reps.one (show Kd.M (Kd.int .i64) _ _ _ 8 [.int .i64 8] from rfl) (Reps.one (show Kd.M (Kd.int .i64) _ _ _ 6 [.int .i64 6] from rfl) (Reps.one (show Kd.M (Kd.int .i64) _ _ _ 3 [.int .i64 3] from rfl) (Reps.one (show Kd.M (Kd.int .i64) _ _ _ 0 [.int .i64 0] from rfl) (Reps.one (show Kd.M (Kd.int .i64) _ _ _ 2 [.int .i64 2] from rfl) (Reps.one (show Kd.M (Kd.int .i64) _ _ _ 7 [.int .i64 7] from rfl) (Reps.one (show Kd.M (Kd.int .i64) _ _ _ 3 [.int .i64 3] from rfl) (Reps.one (show Kd.M (Kd.int .i64) _ _ _ 3 [.int .i64 3] from rfl) (Reps.one (show Kd.M (Kd.int .i64) _ _ _ 2 [.int .i64 2] from rfl) (Reps.one (show Kd.M (Kd.int .i64) _ _ _ 2 [.int .i64 2] from rfl) (Reps.one (show Kd.M (Kd.int .i64) _ _ _ 9 [.int .i64 9] from rfl) (Reps.none _ _))))))))))))))))))))); intro v752 w9 ho10 hb hg_ hnew_; clear hg_ hnew_; (first | rw [← Ny751.out] at ho10 | (simp only [Int.reduceToNat] at ho10; rw [← Ny751.out] at ho10)); have HO753 := Aside0.mk (Kd.R_lower ho10 (below_size (bl HB))); replace HB := bst HB hb; clear hb ho10))
    go_ret
    exact ⟨_, by first | rfl | (simp [errW_none, errW_some] <;> rfl) | (simp [*, errW_none, errW_some] <;> rfl), by (with_reducible repeat (first | apply Kd.R_alloc | apply Kd.R_drewN | apply Kd.R_drew)); exact HO753.out, by repeat (first | (with_reducible first | exact HB.out | apply below_alloc | apply pw_below_drewN | apply below_drew1) | exact HB.out)⟩
/-! ### bocageref01_Is: function 81 -/
def bocageref01_Is.f (k : Nat) (a0_0 : Int) (l0_1 : List Int) : Option (Bool) := (bocageref01_ends.f a0_0).bind fun t756 => ((bocageref01_more.f k l0_1 t756).bind fun t759 => (some (!t759)))
theorem bocageref01_Is.mono : ∀ a0 a1 k, LeO (bocageref01_Is.f k a0 a1) (bocageref01_Is.f (k + 1) a0 a1) := by
  intro a0 a1 k
  unfold bocageref01_Is.f
  repeat' first
      | (with_reducible exact bocageref01_more.mono _ _ _)
      | (with_reducible exact LeO.refl _)
      | (with_reducible exact LeO.none _)
      | (with_reducible refine LeO.ite ?_ ?_)
      | (with_reducible refine LeO.bind ?_ (fun _ => ?_))
      | exact bocageref01_more.mono _ _ _
      | exact LeO.none _
      | refine LeO.ite ?_ ?_
      | refine LeO.bind ?_ (fun _ => ?_)
def bocageref01_Is.T1 : Bool × List (List Nat × List Nat) := (true, [([], []), ([0], [0]), ([], []), ([2], [2]), ([3], [3]), ([1, 4, 4], [1, 4]), ([5], [5]), ([6, 5, 0, 1, 2, 3, 4, 5, 6], [6])])
def bocageref01_Is.B1 : List Nat := [0, 1, 0, 4, 12, 31, 63, 127]
theorem bocageref01_Is.tab1 : rtab .any (opsOf Try.f81 1) = bocageref01_Is.T1 := by kernel_rfl
theorem bocageref01_Is.bits1 : waitsOk bocageref01_Is.T1.2 bocageref01_Is.B1 = true := by kernel_rfl
set_option maxHeartbeats 8000000 in
set_option maxRecDepth 100000 in
theorem bocageref01_Is.calls (k : Nat) (a0_0 : Int) (A0_1 : Option Addr) (c0_1 : Nat) (l0_1 : List Int) (r : Bool) (w : World) (hr0_1 : Kd.C (Kd.int .i64) w A0_1 l0_1.length l0_1) (hc0_1 : l0_1.length ≤ c0_1) (h : bocageref01_Is.f k a0_0 l0_1 = some r) :
    Calls Try.prog 81 #[.agg #[.int .i64 a0_0, .slice A0_1 l0_1.length c0_1]] w fun e w' => e = .returned (.bool r) ∧ Below w.heap.size w w' := by
  have hu68 := Try.underlying68
  have HR0_1 := Aside0.mk hr0_1
  have HC0_1 := Aside0.mk hc0_1
  clear hr0_1 hc0_1
  have HB := Aside0.mk (Below.refl w.heap.size w)
  have H : ((bocageref01_ends.f a0_0).bind fun t756 => ((bocageref01_more.f k l0_1 t756).bind fun t759 => (some (!t759)))) = some r := h
  clear h
  replace H := Option.bind_eq_some_iff.mp H
  obtain ⟨t756, A20, H⟩ := H
  (try (set_option simprocs false in dsimp only at H))
  have A2 := Aside0.mk A20
  clear A20
  replace H := Option.bind_eq_some_iff.mp H
  obtain ⟨t759, A30, H⟩ := H
  (try (set_option simprocs false in dsimp only at H))
  have A3 := Aside0.mk A30
  clear A30
  obtain rfl := Option.some.inj H
  go_enter Try.func81, Try.ntmps81
  try go_wp2_with (first | ((with_reducible refine gate_dst (N := 1) rfl ?_); refine bxe (N := 1) (cs := #[.int .i64 a0_0, .slice A0_1 l0_1.length c0_1]) (t := 68) ?_; intro gb755 hg w4 hbox hb; have BK755 := Aside0.mk (hbox); have GW755 := lsz hg HB; have GE755 := lsz hg HB; replace HB := bst HB hb; clear hb hbox hg))
  replace BK755 := Aside0.mk (blk_drew BK755.out)
  replace HB := Aside0.mk (below_drew1 HB.out)
  refine start_ (n := 8) (S := fun w' => w'.cell? ⟨gb755, 0, none⟩ = some (.int .i64 a0_0) ∧ w'.cell? ⟨gb755, 1, none⟩ = some (.slice A0_1 l0_1.length c0_1)) (ds := []) #[false, false, false, false, false, false, false, false] (by kernel_rfl) rfl rfl (e2 BK755) (fun hHeld => ?_); refine with_tabW bocageref01_Is.tab1 bocageref01_Is.bits1 (fun HT_ HW_ => ?_)
  generalize w4.drew = w5 at BK755 HB hHeld ⊢
  refine pu 0 (some 3) #[true, false, false, false, false, false, false, false] (any_of HT_.out (by kernel_rfl)) ?_
  refine pu 2 (some 5) #[true, false, true, false, false, false, false, false] (any_of HT_.out (by kernel_rfl)) ?_
  refine tk2 1 (some 4) #[true, true, true, false, false, false, false, false] (take_ofW HT_.out HW_.out (by kernel_rfl)) hHeld ?_
  refine tk2 3 (some 6) #[true, true, true, true, false, false, false, false] (take_ofW HT_.out HW_.out (by kernel_rfl)) hHeld ?_
  refine one_ (i := 4) (N := some 7) #[true, true, true, true, true, false, false, false] rfl rfl (one_of HT_.out (by kernel_rfl)) (by decide) (fun K hK => ?_)
  refine goes_ Try.func96 (by kernel_rfl) rfl #[.int .i64 a0_0] (by rfl) rfl rfl (by (try simp only [List.map_toArray, List.map_cons, List.map_nil]); first | done | rfl | (simp only [List.length_drop, List.length_take]; rfl)) ?_
  with_reducible refine (bocageref01_ends.calls a0_0 t756 _ A2.out).mono ?_
  rintro e w6 ⟨v757, rfl, ho0, hb⟩
  refine ⟨_, rfl, ?_⟩
  have HO758 := Aside0.mk (Kd.R_lower ho0 (below_size (bl HB)))
  replace BK755 := bkb BK755 hb
  replace HB := bst HB hb
  (try clear hb)
  (try clear hb2)
  (try clear hk)
  (try clear hi)
  (try clear ho0)
  obtain ⟨Ao7, co7, eo7⟩ := Kd.R_slice HO758.out
  (first | subst eo7 | (injection eo7 with f1_ f2_ f3_; have f4_ := f1_.symm; have f5_ := f3_.symm; clear f1_ f2_ f3_; subst f4_; subst f5_))
  refine hK.out _ _ (e2 BK755) (fun hHeld => ?_)
  clear hK K
  refine nrp 7 ?_
  refine one_ (i := 5) (N := some 8) #[true, true, true, true, true, true, false, false] rfl rfl (one_of HT_.out (by kernel_rfl)) (by decide) (fun K hK => ?_)
  refine goes_ Try.func76 (by kernel_rfl) rfl #[.slice A0_1 l0_1.length c0_1, .slice Ao7 t756.length co7] (by rfl) rfl rfl (by (try simp only [List.map_toArray, List.map_cons, List.map_nil]); first | done | rfl | (simp only [List.length_drop, List.length_take]; rfl)) ?_
  with_reducible refine (bocageref01_more.calls k _ _ l0_1 _ _ t756 t759 _ ?side1 ?side2 ?side3 ?side4 A3.out).mono ?_
  (case side1 => repeat (first | exact (Kd.C_below HR0_1.out HB.out) | (with_reducible refine Kd.C_alloc ?_ _) | (with_reducible refine Kd.C_drewN ?_ _) | (with_reducible refine Kd.C_drew ?_)))
  (case side2 => exact HC0_1.out)
  (case side3 => repeat (first | exact (Kd.R_reads' HO758.out).2.2 | (with_reducible refine Kd.C_alloc ?_ _) | (with_reducible refine Kd.C_drewN ?_ _) | (with_reducible refine Kd.C_drew ?_)))
  (case side4 => exact (Kd.R_reads' HO758.out).2.1)
  rintro e w' ⟨rfl, ⟨nd, rfl⟩⟩
  refine ⟨_, rfl, ?_⟩
  refine hK.out _ _ (e2 BK755) (fun hHeld => ?_)
  clear hK K
  refine nrp 8 ?_
  refine pu 6 (some 9) #[true, true, true, true, true, true, true, false] (any_of HT_.out (by kernel_rfl)) ?_
  refine pu 7 (some 2) #[true, true, true, true, true, true, true, true] (any_of HT_.out (by kernel_rfl)) ?_
  refine done_ (done_of HT_.out (by kernel_rfl)) ?_
  try go_wp2
  go_ret
  exact endB HB
/-! ### bocageref01_End: function 82 -/
def bocageref01_End.l0 : Nat → Int → List Int → Int → Int → Option Int
  | 0, _, _, _, _ => none
  | k + 1, s, d, i, n => if i ≥ 0 then (if i < (d.length : Int) then bocageref01_End.l0 k s d (wrap64 (i - 1)) (wrap64 (wrap64 (n * 10) + wrap64 (s * rd d i))) else none) else some n
def bocageref01_End.f (k : Nat) (a0_0 : Int) (l0_1 : List Int) : Option Int :=
  (bocageref01_Is.f k a0_0 l0_1).bind fun t => if t = true then bocageref01_End.l0 k a0_0 l0_1 (wrap64 ((l0_1.length : Int) - 1)) 0 else (bocageref01_ends.f a0_0).bind fun y => bocageref01_End.l0 k a0_0 y (wrap64 ((y.length : Int) - 1)) 0
theorem bocageref01_End.mono_l : ∀ k s d i n, LeO (bocageref01_End.l0 k s d i n) (bocageref01_End.l0 (k + 1) s d i n)
  | 0, _, _, _, _ => fun r h => by simp [bocageref01_End.l0] at h
  | k + 1, s, d, i, n => by
    intro r h
    rw [bocageref01_End.l0] at h ⊢
    split
    · rename_i h1
      rw [if_pos h1] at h
      split
      · rename_i h2
        rw [if_pos h2] at h
        exact bocageref01_End.mono_l k _ _ _ _ r h
      · rename_i h2
        rw [if_neg h2] at h
        exact h
    · rename_i h1
      rw [if_neg h1] at h
      exact h
theorem bocageref01_End.mono : ∀ a0 a1 k, LeO (bocageref01_End.f k a0 a1) (bocageref01_End.f (k + 1) a0 a1) := by
  intro a0 a1 k r h
  unfold bocageref01_End.f at h ⊢
  obtain ⟨t, h1, h⟩ := Option.bind_eq_some_iff.1 h
  rw [bocageref01_Is.mono _ _ _ _ h1]
  simp only [Option.bind_some]
  split
  · rename_i ht
    rw [if_pos ht] at h
    exact bocageref01_End.mono_l _ _ _ _ _ r h
  · rename_i ht
    rw [if_neg ht] at h
    obtain ⟨y, h1, h⟩ := Option.bind_eq_some_iff.1 h
    rw [h1]
    exact bocageref01_End.mono_l _ _ _ _ _ r h

set_option maxHeartbeats 8000000 in
set_option maxRecDepth 100000 in
theorem bocageref01_End.calls (k : Nat) (a0_0 : Int) (A0_1 : Option Addr) (c0_1 : Nat) (l0_1 : List Int) (r : Int) (w : World) (hr0_1 : Kd.C (Kd.int .i64) w A0_1 l0_1.length l0_1) (hc0_1 : l0_1.length ≤ c0_1) (h : bocageref01_End.f k a0_0 l0_1 = some r) :
    Calls Try.prog 82 #[.agg #[.int .i64 a0_0, .slice A0_1 l0_1.length c0_1]] w fun e w' => e = .returned (.int .i64 r) ∧ Below w.heap.size w w' := by
  unfold bocageref01_End.f at h
  obtain ⟨t, hIs, h1⟩ := Option.bind_eq_some_iff.1 h
  clear h
  have AIs := Aside0.mk hIs
  have AH := Aside0.mk h1
  have HR := Aside0.mk hr0_1
  have HC := Aside0.mk hc0_1
  clear h1 hIs hr0_1 hc0_1
  have hB0 := Below.refl w.heap.size w
  obtain ⟨O, hO⟩ : ∃ O : Obj, O = .cells #[.int .i64 a0_0, .slice A0_1 l0_1.length c0_1] 68 := ⟨_, rfl⟩
  have HO := Aside0.mk hO
  have hbx : Below w.heap.size w (w.alloc O) := (Below.refl w.heap.size w).alloc (Nat.le_refl _) _
  have hbk := heap_alloc_new w O
  have hbs : (w.alloc O).heap.size = w.heap.size + 1 := by simp
  have HS := Aside0.mk hbs
  rw [hO] at hbx hbk
  clear hO hbs
  have HBK := Aside0.mk hbk
  clear hbk
  go_enter Try.func82, Try.ntmps82
  go_upto_if 10 with (go_at_call 81; refine (bocageref01_Is.calls k a0_0 A0_1 c0_1 l0_1 t _ (Kd.C_below HR.out hbx) HC.out AIs.out).mono ?_; rintro e w1 ⟨rfl, hb1⟩)
  have hk1 : w1.heap[w.heap.size]? = some (.cells #[.int .i64 a0_0, .slice A0_1 l0_1.length c0_1] 68 (0, 0)) := by
    rw [hb1.block _ (by simp)]; exact HBK.out
  have hbel1 : Below w.heap.size w w1 := hbx.trans (hb1.mono (by simp))
  go_cut [3] (fun v3 wc => ∃ (A : Option Addr) (c : Nat) (l : List Int), v3 = .slice A l.length c ∧ Aside0 (Kd.C (Kd.int .i64) wc A l.length l) ∧ Aside0 (bocageref01_End.l0 k a0_0 l (wrap64 ((l.length : Int) - 1)) 0 = some r) ∧ Below w.heap.size w wc ∧ wc.heap[w.heap.size]? = some (.cells #[.int .i64 a0_0, .slice A0_1 l0_1.length c0_1] 68 (0, 0)))
  case first =>
    have hc0 : w1.cell? ⟨w.heap.size, 0, none⟩ = some (.int .i64 a0_0) := by simp [World.cell?, hk1]
    cases t with
    | true =>
      go_wp2
      go_meet
      case rel => exact ⟨A0_1, c0_1, l0_1, rfl, ⟨Kd.C_below HR.out hbel1⟩, ⟨by simpa using AH.out⟩, hbel1, hk1⟩
    | false =>
      obtain ⟨y, hy, hl⟩ : ∃ y, Aside0 (bocageref01_ends.f a0_0 = some y) ∧ Aside0 (bocageref01_End.l0 k a0_0 y (wrap64 ((y.length : Int) - 1)) 0 = some r) := by
        have := AH.out
        simp only [Bool.false_eq_true, if_false] at this
        obtain ⟨y, h1, h2⟩ := Option.bind_eq_some_iff.1 this
        exact ⟨y, ⟨h1⟩, ⟨h2⟩⟩
      go_wp2_with (go_at_call 96; refine (bocageref01_ends.calls a0_0 y _ hy.out).mono ?_; rintro e w2 ⟨v, rfl, hR, hb2⟩)
      obtain ⟨A, c, rfl, hCl, hC⟩ := Kd.R_reads hR
      go_meet
      case rel => exact ⟨A, c, y, rfl, ⟨hC⟩, hl, hbel1.trans (hb2.mono (by have := hbel1.size; omega)), (hb2.block _ (lt_of_block hk1)).trans hk1⟩
  case rest =>
    obtain ⟨A, c, l, rfl, hC, hl0, hbel, hk⟩ := hcut
    clear hk1 hbel1 hb1 AH AIs HR HC HBK HS hbx HO
    go_wp2_with fail
    go_loopg [4, 5] k (fun kq v4 v5 w' => ∃ (n i : Int), v4 = .int .i64 n ∧ v5 = .int .i64 i ∧ Aside0 (bocageref01_End.l0 kq a0_0 l i n = some r) ∧ Drawn0 wc w')
    case atStart => exact ⟨0, wrap64 ((l.length : Int) - 1), rfl, (by first | rfl | (simp; done) | (simp [*]; done)), hl0, Drawn0.refl _⟩
    case round =>
      clear hl0
      obtain ⟨n, i, rfl, rfl, HA, ⟨m, rfl⟩⟩ := hrel
      cases gk with
      | zero => exact absurd HA.out (by simp [bocageref01_End.l0])
      | succ k1 =>
        have H := HA.out
        clear HA
        simp only [bocageref01_End.l0] at H
        by_cases c3 : i ≥ 0
        · rw [if_pos c3] at H
          have c3b0 : decide (0 ≤ i) = true := decide_eq_true c3
          by_cases c4 : i < (l.length : Int)
          · rw [if_pos c4] at H
            have H' := Aside0.mk H
            clear H
            obtain ⟨ad, rfl, hx⟩ := Kd.at_int hC.out i c3 c4
            have hs0 : wc.cell? ⟨w.heap.size, 0, none⟩ = some (.int .i64 a0_0) := by simp [World.cell?, hk]
            clear hC
            have c3' := eq_true c3
            have c4' := eq_true c4
            go_wp2
            go_quiet (fail)
            go_wp2
            go_roundg k1
            case rel => exact ⟨_, _, rfl, rfl, H', ⟨_, rfl⟩⟩
            case measure => omega
          · rw [if_neg c4] at H
            cases H
        · rw [if_neg c3] at H
          have c3b0 : decide (0 ≤ i) = false := decide_eq_false c3
          obtain rfl := Option.some.inj H
          go_wp2
          go_ret
          exact ⟨rfl, hbel.trans ⟨rfl, rfl, rfl, by simp, fun _ _ => rfl⟩⟩
/-! ### bocageref02_Shift: function 68 -/
def bocageref02_Shift.f (k : Nat) (a0_0 : Int) (a0_1 : Int) (a1 : Int) : Option (Int × Int × Bool) := (bocageref02_Canon.f k a0_0 a0_1).bind fun bt762 => (if bt762.1 = 0 then ((bocageref01_Of.f k bt762.2).bind fun bt764 => ((bocageref01_Of.f k a1).bind fun bt768 => ((bocageref01_Plus.f k bt764.1 bt764.2 bt768.1 bt768.2).bind fun bt772 => ((bocageref01_Is.f k bt772.1 bt772.2).bind fun t777 => (if t777 = true then ((bocageref01_End.f k bt772.1 bt772.2).bind fun t778 => ((bocageref02_Least64.f).bind fun t779 => (if t778 = t779 then (some (0, 0, false)) else ((bocageref01_End.f k bt772.1 bt772.2).bind fun t780 => (some (0, t780, true)))))) else (some (0, 0, false))))))) else (some (bt762.1, bt762.2, true)))
theorem bocageref02_Shift.mono : ∀ a0 a1 a2 k, LeO (bocageref02_Shift.f k a0 a1 a2) (bocageref02_Shift.f (k + 1) a0 a1 a2) := by
  intro a0 a1 a2 k
  unfold bocageref02_Shift.f
  repeat' first
      | (with_reducible exact bocageref01_End.mono _ _ _)
      | (with_reducible exact bocageref01_Is.mono _ _ _)
      | (with_reducible exact bocageref01_Of.mono _ _)
      | (with_reducible exact bocageref01_Plus.mono _ _ _ _ _)
      | (with_reducible exact bocageref02_Canon.mono _ _ _)
      | (with_reducible exact LeO.refl _)
      | (with_reducible exact LeO.none _)
      | (with_reducible refine LeO.ite ?_ ?_)
      | (with_reducible refine LeO.bind ?_ (fun _ => ?_))
      | exact bocageref01_End.mono _ _ _
      | exact bocageref01_Is.mono _ _ _
      | exact bocageref01_Of.mono _ _
      | exact bocageref01_Plus.mono _ _ _ _ _
      | exact bocageref02_Canon.mono _ _ _
      | exact LeO.none _
      | refine LeO.ite ?_ ?_
      | refine LeO.bind ?_ (fun _ => ?_)
set_option maxHeartbeats 8000000 in
set_option maxRecDepth 100000 in
theorem bocageref02_Shift.calls (k : Nat) (a0_0 : Int) (a0_1 : Int) (a1 : Int) (r1 : Int) (r2 : Int) (r3 : Bool) (w : World) (h : bocageref02_Shift.f k a0_0 a0_1 a1 = some (r1, r2, r3)) :
    Calls Try.prog 68 #[.agg #[.int .i64 a0_0, .int .i64 a0_1], .int .i64 a1] w fun e w' => e = .returned (.tuple #[.agg #[.int .i64 r1, .int .i64 r2], .bool r3]) ∧ Below w.heap.size w w' := by
  have hu23 := Try.underlying23
  have hu68 := Try.underlying68
  have HB := Aside0.mk (Below.refl w.heap.size w)
  have H : ((bocageref02_Canon.f k a0_0 a0_1).bind fun bt762 => (if bt762.1 = 0 then ((bocageref01_Of.f k bt762.2).bind fun bt764 => ((bocageref01_Of.f k a1).bind fun bt768 => ((bocageref01_Plus.f k bt764.1 bt764.2 bt768.1 bt768.2).bind fun bt772 => ((bocageref01_Is.f k bt772.1 bt772.2).bind fun t777 => (if t777 = true then ((bocageref01_End.f k bt772.1 bt772.2).bind fun t778 => ((bocageref02_Least64.f).bind fun t779 => (if t778 = t779 then (some (0, 0, false)) else ((bocageref01_End.f k bt772.1 bt772.2).bind fun t780 => (some (0, t780, true)))))) else (some (0, 0, false))))))) else (some (bt762.1, bt762.2, true)))) = some (r1, r2, r3) := h
  clear h
  replace H := Option.bind_eq_some_iff.mp H
  obtain ⟨⟨t762, t763⟩, A30, H⟩ := H
  (try (set_option simprocs false in dsimp only at H))
  have A3 := Aside0.mk A30
  clear A30
  by_cases c4 : t762 = 0
  · rw [if_pos c4] at H
    have c4b0 : (t762 == 0) = true := beq_iff_eq.mpr c4
    have c4b1 : (t762 != 0) = false := bne_eq_false_iff_eq.mpr c4
    clear c4
    replace H := Option.bind_eq_some_iff.mp H
    obtain ⟨⟨t764, t765⟩, A50, H⟩ := H
    (try (set_option simprocs false in dsimp only at H))
    have A5 := Aside0.mk A50
    clear A50
    replace H := Option.bind_eq_some_iff.mp H
    obtain ⟨⟨t768, t769⟩, A60, H⟩ := H
    (try (set_option simprocs false in dsimp only at H))
    have A6 := Aside0.mk A60
    clear A60
    replace H := Option.bind_eq_some_iff.mp H
    obtain ⟨⟨t772, t773⟩, A70, H⟩ := H
    (try (set_option simprocs false in dsimp only at H))
    have A7 := Aside0.mk A70
    clear A70
    replace H := Option.bind_eq_some_iff.mp H
    obtain ⟨t777, A80, H⟩ := H
    (try (set_option simprocs false in dsimp only at H))
    have A8 := Aside0.mk A80
    clear A80
    by_cases c9 : t777 = true
    · subst c9
      have H1 : ((bocageref01_End.f k t772 t773).bind fun t778 => ((bocageref02_Least64.f).bind fun t779 => (if t778 = t779 then (some (0, 0, false)) else ((bocageref01_End.f k t772 t773).bind fun t780 => (some (0, t780, true)))))) = some (r1, r2, r3) := by rw [if_pos rfl] at H; exact H
      clear H
      have H := H1
      clear H1
      replace H := Option.bind_eq_some_iff.mp H
      obtain ⟨t778, A100, H⟩ := H
      (try (set_option simprocs false in dsimp only at H))
      have A10 := Aside0.mk A100
      clear A100
      replace H := Option.bind_eq_some_iff.mp H
      obtain ⟨t779, A110, H⟩ := H
      (try (set_option simprocs false in dsimp only at H))
      have A11 := Aside0.mk A110
      clear A110
      by_cases c12 : t778 = t779
      · rw [if_pos c12] at H
        have c12b0 : (t778 == t779) = true := beq_iff_eq.mpr c12
        have c12b1 : (t778 != t779) = false := bne_eq_false_iff_eq.mpr c12
        clear c12
        simp only [Option.some.injEq, Prod.mk.injEq] at H
        obtain ⟨rfl, rfl, rfl⟩ := H
        go_enter Try.func68, Try.ntmps68
        go_wp2_with (first | ((with_reducible refine gate_dst (N := 2) rfl ?_); refine bxe (N := 2) (cs := #[.int .i64 a0_0, .int .i64 a0_1]) (t := 23) ?_; intro gb760 hg w13 hbox hb; have BK760 := Aside0.mk (hbox); have GW760 := lsz hg HB; have GE760 := lsz hg HB; replace HB := bst HB hb; clear hb hbox hg) | ((with_reducible refine gate_dst (N := 4) rfl ?_); refine bxe (N := 4) (cs := #[.int .i64 0, .int .i64 0]) (t := 23) ?_; intro gb761 hg w14 hbox hb; have BK761 := Aside0.mk (hbox); have GW761 := lsz hg HB; have GE761 := lsz hg HB; replace HB := bst HB hb; have NB760_761 := nlt hg BK760; have NB761_760 := ngt hg BK760; replace BK760 := bkb BK760 hb; clear hb hbox hg; have hnb15 := NB760_761.out; have hnc15 := NB761_760.out; obtain ⟨hcz16_0, hcz16_1⟩ := e2 BK760; obtain ⟨hfz16_0, hfz16_1⟩ := f2 BK760) | ((with_reducible refine gate_callee (f := 48) rfl ?_); refine gol (some 8) Try.func48 #[.agg #[.int .i64 a0_0, .int .i64 a0_1]] ?_; (with_reducible refine (bocageref02_Canon.calls k a0_0 a0_1 t762 t763 _ A3.out).mono ?_); rintro e w17 ⟨rfl, hb⟩; refine ⟨_, rfl, ?_⟩; replace BK760 := bkb BK760 hb; replace BK761 := bkb BK761 hb; replace HB := bst HB hb; (try clear hb); (try clear hb2); (try clear hk); (try clear hi); obtain ⟨hcz18_0, hcz18_1⟩ := e2 BK760; obtain ⟨hfz18_0, hfz18_1⟩ := f2 BK760) | ((with_reducible refine gate_callee (f := 57) rfl ?_); refine gol (some 15) Try.func57 #[.int .i64 t763] ?_; (with_reducible refine (bocageref01_Of.calls k t763 t764 t765 _ A5.out).mono ?_); rintro e w19 ⟨v766, rfl, ho0, hb⟩; refine ⟨_, rfl, ?_⟩; have HO767 := Aside0.mk (Kd.R_lower ho0 (below_size (bl HB))); replace BK760 := Aside0.mk (blk_below (g := gb760) (o := .cells #[.int .i64 t762, .int .i64 t763] 23 (0, 0)) (bkp BK760) hb); replace BK761 := Aside0.mk (blk_below (bkf BK761 NB761_760) hb); replace HB := bst HB hb; (try clear hb); (try clear hb2); (try clear hk); (try clear hi); (try clear ho0)) | ((with_reducible refine gate_callee (f := 57) rfl ?_); refine gol (some 17) Try.func57 #[.int .i64 a1] ?_; (with_reducible refine (bocageref01_Of.calls k a1 t768 t769 _ A6.out).mono ?_); rintro e w20 ⟨v770, rfl, ho0, hb⟩; refine ⟨_, rfl, ?_⟩; have HO771 := Aside0.mk (Kd.R_lower (Kd.R_new' ho0 (Kd.R_lt (kr HO767))) (below_size (bl HB))); replace HO767 := Aside0.mk (Kd.R_elder' (kr HO767) (Kd.R_base ho0) hb); replace BK760 := bkb BK760 hb; replace BK761 := bkb BK761 hb; replace HB := bst HB hb; (try clear hb); (try clear hb2); (try clear hk); (try clear hi); (try clear ho0); obtain ⟨Ao21, co21, eo21⟩ := Kd.R_slice HO767.out; subst eo21; obtain ⟨Ao22, co22, eo22⟩ := Kd.R_slice HO771.out; subst eo22) | ((with_reducible refine gate_callee (f := 56) rfl ?_); refine gol (some 18) Try.func56 #[.agg #[.int .i64 t764, .slice Ao21 t765.length co21], .agg #[.int .i64 t768, .slice Ao22 t769.length co22]] ?_; (with_reducible refine (bocageref01_Plus.calls k t764 (fun k_ => some k_ = (.slice Ao21 t765.length co21 : Value).ownBlock) _ _ t765 t768 (fun k_ => some k_ = (.slice Ao22 t769.length co22 : Value).ownBlock) _ _ t769 t772 t773 _ ?side1 ?side2 A7.out).mono ?_); (case side1 => exact Kd.R_V (Kd.R_tight rfl (Kd.R_types (Kd.R_types (HO767.out) BK760.out (by decide)) BK761.out (by decide)))); (case side2 => exact Kd.R_V (Kd.R_tight rfl (Kd.R_types (Kd.R_types (HO771.out) BK760.out (by decide)) BK761.out (by decide)))); rintro e w23 ⟨v774, rfl, ho0, hb⟩; refine ⟨_, rfl, ?_⟩; have HO775 := Aside0.mk (Kd.V_lower (Kd.V_mono (ok' := fun k_ => k_ ≠ gb760 ∧ k_ ≠ gb761) ho0 (fun k_ hk_ => ⟨Or.elim hk_ (fun hs_ => Or.elim hs_ (fun hs_ => ((Kd.R_types (Kd.R_types (HO767.out) BK760.out (by decide)) BK761.out (by decide)).1 k_ hs_.symm).1.2) (fun hs_ => ((Kd.R_types (Kd.R_types (HO771.out) BK760.out (by decide)) BK761.out (by decide)).1 k_ hs_.symm).1.2)) (fun hn_ => (Kd.freshB (bk BK760) k_ hn_)), Or.elim hk_ (fun hs_ => Or.elim hs_ (fun hs_ => ((Kd.R_types (Kd.R_types (HO767.out) BK760.out (by decide)) BK761.out (by decide)).1 k_ hs_.symm).2) (fun hs_ => ((Kd.R_types (Kd.R_types (HO771.out) BK760.out (by decide)) BK761.out (by decide)).1 k_ hs_.symm).2)) (fun hn_ => (Kd.freshB (bk BK761) k_ hn_))⟩)) (below_size (bl HB))); replace HO767 := krb HO767 hb; replace HO771 := krb HO771 hb; replace BK760 := bkb BK760 hb; replace BK761 := bkb BK761 hb; replace HB := bst HB hb; (try clear hb); (try clear hb2); (try clear hk); (try clear hi); (try clear ho0)) | ((with_reducible refine gate_dst (N := 6) rfl ?_); refine bxe (N := 6) (cs := #[.int .i64 0, .slice none 0 0]) (t := 68) ?_; intro gb776 hg w24 hbox hb; replace HO767 := krb HO767 hb; replace HO771 := krb HO771 hb; replace HO775 := Aside0.mk (Kd.V_below (Kd.V_elderB (by (with_reducible repeat (first | apply Kd.V_alloc | apply Kd.V_drewN | apply Kd.V_drew)); exact HO775.out) gb776 (Nat.le_of_eq hg.symm)) hb); have BK776 := Aside0.mk (hbox); have GW776 := lsz hg HB; have GE776 := lsz hg HB; replace HB := bst HB hb; have NB760_776 := nlt hg BK760; have NB776_760 := ngt hg BK760; replace BK760 := bkb BK760 hb; have NB761_776 := nlt hg BK761; have NB776_761 := ngt hg BK761; replace BK761 := bkb BK761 hb; clear hb hbox hg; have hnb25 := NB776_760.out; have hnc25 := NB760_776.out; have hnb26 := NB776_761.out; have hnc26 := NB761_776.out; obtain ⟨hcz27_0, hcz27_1⟩ := e2 BK776; obtain ⟨hfz27_0, hfz27_1⟩ := f2 BK776; obtain ⟨Ao28, co28, eo28⟩ := Kd.V_slice HO775.out; subst eo28) | ((with_reducible refine gate_callee (f := 81) rfl ?_); refine gol (some 20) Try.func81 #[.agg #[.int .i64 t772, .slice Ao28 t773.length co28]] ?_; (with_reducible refine (bocageref01_Is.calls k t772 _ _ t773 true _ ?side1 ?side2 A8.out).mono ?_); (case side1 => refine (Kd.V_reads' (e := 3) (base := w.heap.size) (ok := fun k_ => ((k_ ≠ gb760 ∧ k_ ≠ gb761) ∧ k_ ≠ gb776)) (n := t773.length) (c := co28) ?_).2.2; exact (by (with_reducible repeat (first | apply Kd.V_alloc | apply Kd.V_drewN | apply Kd.V_drew)); exact (Kd.V_mono (Kd.V_far (p := ⟨gb776, 1, none⟩) (Kd.V_far (p := ⟨gb776, 0, none⟩) (Kd.V_mono HO775.out (fun k_ hk => (⟨hk, hk.2⟩ : _ ∧ k_ ≠ gb776))) (fun _ hk => hk.2) (.int .i64 t772)) (fun _ hk => hk.2) (.slice Ao28 t773.length co28)) (fun _ h_ => h_.1)))); (case side2 => exact (Kd.V_reads' HO775.out).2.1); rintro e w29 ⟨rfl, hb⟩; refine ⟨_, rfl, ?_⟩; replace HO767 := Aside0.mk (Kd.R_below (by (with_reducible repeat (first | apply Kd.R_alloc | apply Kd.R_drewN | apply Kd.R_drew)); exact (Kd.R_mono (Kd.R_far (p := ⟨gb776, 1, none⟩) (Kd.R_far (p := ⟨gb776, 0, none⟩) (Kd.R_types HO767.out BK776.out (by decide)) (fun _ hk => hk.2) (.int .i64 t772)) (fun _ hk => hk.2) (.slice Ao28 t773.length co28)) (fun _ h_ => h_.1))) hb); replace HO771 := Aside0.mk (Kd.R_below (by (with_reducible repeat (first | apply Kd.R_alloc | apply Kd.R_drewN | apply Kd.R_drew)); exact (Kd.R_mono (Kd.R_far (p := ⟨gb776, 1, none⟩) (Kd.R_far (p := ⟨gb776, 0, none⟩) (Kd.R_types HO771.out BK776.out (by decide)) (fun _ hk => hk.2) (.int .i64 t772)) (fun _ hk => hk.2) (.slice Ao28 t773.length co28)) (fun _ h_ => h_.1))) hb); replace HO775 := Aside0.mk (Kd.V_below (by (with_reducible repeat (first | apply Kd.V_alloc | apply Kd.V_drewN | apply Kd.V_drew)); exact (Kd.V_mono (Kd.V_far (p := ⟨gb776, 1, none⟩) (Kd.V_far (p := ⟨gb776, 0, none⟩) (Kd.V_mono HO775.out (fun k_ hk => (⟨hk, hk.2⟩ : _ ∧ k_ ≠ gb776))) (fun _ hk => hk.2) (.int .i64 t772)) (fun _ hk => hk.2) (.slice Ao28 t773.length co28)) (fun _ h_ => h_.1))) hb); replace BK760 := Aside0.mk (blk_below (bkf BK760 NB760_776) hb); replace BK761 := Aside0.mk (blk_below (bkf BK761 NB761_776) hb); replace BK776 := Aside0.mk (blk_below (g := gb776) (o := .cells #[.int .i64 t772, .slice Ao28 t773.length co28] 68 (0, 0)) (bkp BK776) hb); replace HB := bst HB hb; (try clear hb); (try clear hb2); (try clear hk); (try clear hi); obtain ⟨hcz30_0, hcz30_1⟩ := e2 BK776; obtain ⟨hfz30_0, hfz30_1⟩ := f2 BK776) | (go_at_call 82; (with_reducible refine (bocageref01_End.calls k t772 _ _ t773 t778 _ ?side1 ?side2 A10.out).mono ?_); (case side1 => repeat (first | exact (Kd.V_reads' HO775.out).2.2 | (with_reducible refine Kd.C_alloc ?_ _) | (with_reducible refine Kd.C_drewN ?_ _) | (with_reducible refine Kd.C_drew ?_))); (case side2 => exact (Kd.V_reads' HO775.out).2.1); rintro e w31 ⟨rfl, hb⟩; replace HO767 := krb HO767 hb; replace HO771 := krb HO771 hb; replace HO775 := Aside0.mk (Kd.V_below (by (with_reducible repeat (first | apply Kd.V_alloc | apply Kd.V_drewN | apply Kd.V_drew)); exact HO775.out) hb); replace BK760 := bkb BK760 hb; replace BK761 := bkb BK761 hb; replace BK776 := bkb BK776 hb; replace HB := bst HB hb; (try clear hb); (try clear hb2); (try clear hk); (try clear hi)) | (go_at_call 62; (with_reducible refine (bocageref02_Least64.calls  t779 _ A11.out).mono ?_); rintro e w' ⟨rfl, ⟨nd, rfl⟩⟩; (try (rw [drewN_self w31]; generalize hq_ : World.drewN w31 _ = w31; have n0_ : Aside0 (Kd.R (Kd.int .i64) 3 w31 w.heap.size (fun k_ => some k_ ≠ (.slice Ao22 t769.length co22 : Value).ownBlock) (.slice Ao21 t765.length co21) t765) := ⟨by rw [← hq_]; exact (by (with_reducible repeat (first | apply Kd.R_alloc | apply Kd.R_drewN | apply Kd.R_drew)); exact Kd.R_mono HO767.out (fun _ hk => hk.2))⟩; have n1_ : Aside0 (Kd.R (Kd.int .i64) 3 w31 w.heap.size (fun k_ => some k_ ≠ (.slice Ao21 t765.length co21 : Value).ownBlock) (.slice Ao22 t769.length co22) t769) := ⟨by rw [← hq_]; exact (by (with_reducible repeat (first | apply Kd.R_alloc | apply Kd.R_drewN | apply Kd.R_drew)); exact Kd.R_mono HO771.out (fun _ hk => hk.2))⟩; have n2_ : Aside0 (Kd.V (Kd.int .i64) 3 w31 w.heap.size (fun k_ => k_ ≠ gb760 ∧ k_ ≠ gb761 ∧ k_ ≠ gb776) (.slice Ao28 t773.length co28) t773) := ⟨by rw [← hq_]; exact (by (with_reducible repeat (first | apply Kd.V_alloc | apply Kd.V_drewN | apply Kd.V_drew)); exact Kd.V_mono HO775.out (fun _ hk => ⟨hk.1.1, ⟨hk.1.2, hk.2⟩⟩))⟩; have n3_ : Aside0 (w31.heap[gb760]? = some (.cells #[.int .i64 t762, .int .i64 t763] 23 (0, 0))) := ⟨by rw [← hq_]; exact (bk BK760)⟩; have n4_ : Aside0 (w31.heap[gb761]? = some (.cells #[.int .i64 0, .int .i64 0] 23 (0, 0))) := ⟨by rw [← hq_]; exact (bk BK761)⟩; have n5_ : Aside0 (w31.heap[gb776]? = some (.cells #[.int .i64 t772, .slice Ao28 t773.length co28] 68 (0, 0))) := ⟨by rw [← hq_]; exact (bk BK776)⟩; have n6_ : Aside0 (Below w.heap.size w w31) := ⟨by rw [← hq_]; exact (bl HB)⟩; clear HO767 HO771 HO775 BK760 BK761 BK776 HB hq_; have HO767 := n0_; have HO771 := n1_; have HO775 := n2_; have BK760 := n3_; have BK761 := n4_; have BK776 := n5_; have HB := n6_; clear n0_ n1_ n2_ n3_ n4_ n5_ n6_)); obtain ⟨hcz32_0, hcz32_1⟩ := e2 BK761; obtain ⟨hfz32_0, hfz32_1⟩ := f2 BK761))
        refine bodyPost_ret (results_ct rfl _ _ gb761 23 #[.int .i64 0, .int .i64 0] (0, 0) _ rfl (bkp BK761) Try.underlying23 rfl (by kernel_rfl)) rfl ?_
        exact endB HB
      · rw [if_neg c12] at H
        have c12b0 : (t778 == t779) = false := beq_eq_false_iff_ne.mpr c12
        have c12b1 : (t778 != t779) = true := bne_iff_ne.mpr c12
        replace H := Option.bind_eq_some_iff.mp H
        obtain ⟨t780, A330, H⟩ := H
        (try (set_option simprocs false in dsimp only at H))
        have A33 := Aside0.mk A330
        clear A330
        simp only [Option.some.injEq, Prod.mk.injEq] at H
        obtain ⟨rfl, rfl, rfl⟩ := H
        go_enter Try.func68, Try.ntmps68
        go_wp2_with (first | ((with_reducible refine gate_dst (N := 2) rfl ?_); refine bxe (N := 2) (cs := #[.int .i64 a0_0, .int .i64 a0_1]) (t := 23) ?_; intro gb760 hg w34 hbox hb; have BK760 := Aside0.mk (hbox); have GW760 := lsz hg HB; have GE760 := lsz hg HB; replace HB := bst HB hb; clear hb hbox hg) | ((with_reducible refine gate_dst (N := 4) rfl ?_); refine bxe (N := 4) (cs := #[.int .i64 0, .int .i64 0]) (t := 23) ?_; intro gb761 hg w35 hbox hb; have BK761 := Aside0.mk (hbox); have GW761 := lsz hg HB; have GE761 := lsz hg HB; replace HB := bst HB hb; have NB760_761 := nlt hg BK760; have NB761_760 := ngt hg BK760; replace BK760 := bkb BK760 hb; clear hb hbox hg; have hnb36 := NB760_761.out; have hnc36 := NB761_760.out; obtain ⟨hcz37_0, hcz37_1⟩ := e2 BK760; obtain ⟨hfz37_0, hfz37_1⟩ := f2 BK760) | ((with_reducible refine gate_callee (f := 48) rfl ?_); refine gol (some 8) Try.func48 #[.agg #[.int .i64 a0_0, .int .i64 a0_1]] ?_; (with_reducible refine (bocageref02_Canon.calls k a0_0 a0_1 t762 t763 _ A3.out).mono ?_); rintro e w38 ⟨rfl, hb⟩; refine ⟨_, rfl, ?_⟩; replace BK760 := bkb BK760 hb; replace BK761 := bkb BK761 hb; replace HB := bst HB hb; (try clear hb); (try clear hb2); (try clear hk); (try clear hi); obtain ⟨hcz39_0, hcz39_1⟩ := e2 BK760; obtain ⟨hfz39_0, hfz39_1⟩ := f2 BK760) | ((with_reducible refine gate_callee (f := 57) rfl ?_); refine gol (some 15) Try.func57 #[.int .i64 t763] ?_; (with_reducible refine (bocageref01_Of.calls k t763 t764 t765 _ A5.out).mono ?_); rintro e w40 ⟨v766, rfl, ho0, hb⟩; refine ⟨_, rfl, ?_⟩; have HO767 := Aside0.mk (Kd.R_lower ho0 (below_size (bl HB))); replace BK760 := Aside0.mk (blk_below (g := gb760) (o := .cells #[.int .i64 t762, .int .i64 t763] 23 (0, 0)) (bkp BK760) hb); replace BK761 := Aside0.mk (blk_below (bkf BK761 NB761_760) hb); replace HB := bst HB hb; (try clear hb); (try clear hb2); (try clear hk); (try clear hi); (try clear ho0)) | ((with_reducible refine gate_callee (f := 57) rfl ?_); refine gol (some 17) Try.func57 #[.int .i64 a1] ?_; (with_reducible refine (bocageref01_Of.calls k a1 t768 t769 _ A6.out).mono ?_); rintro e w41 ⟨v770, rfl, ho0, hb⟩; refine ⟨_, rfl, ?_⟩; have HO771 := Aside0.mk (Kd.R_lower (Kd.R_new' ho0 (Kd.R_lt (kr HO767))) (below_size (bl HB))); replace HO767 := Aside0.mk (Kd.R_elder' (kr HO767) (Kd.R_base ho0) hb); replace BK760 := bkb BK760 hb; replace BK761 := bkb BK761 hb; replace HB := bst HB hb; (try clear hb); (try clear hb2); (try clear hk); (try clear hi); (try clear ho0); obtain ⟨Ao42, co42, eo42⟩ := Kd.R_slice HO767.out; subst eo42; obtain ⟨Ao43, co43, eo43⟩ := Kd.R_slice HO771.out; subst eo43) | ((with_reducible refine gate_callee (f := 56) rfl ?_); refine gol (some 18) Try.func56 #[.agg #[.int .i64 t764, .slice Ao42 t765.length co42], .agg #[.int .i64 t768, .slice Ao43 t769.length co43]] ?_; (with_reducible refine (bocageref01_Plus.calls k t764 (fun k_ => some k_ = (.slice Ao42 t765.length co42 : Value).ownBlock) _ _ t765 t768 (fun k_ => some k_ = (.slice Ao43 t769.length co43 : Value).ownBlock) _ _ t769 t772 t773 _ ?side1 ?side2 A7.out).mono ?_); (case side1 => exact Kd.R_V (Kd.R_tight rfl (Kd.R_types (Kd.R_types (HO767.out) BK760.out (by decide)) BK761.out (by decide)))); (case side2 => exact Kd.R_V (Kd.R_tight rfl (Kd.R_types (Kd.R_types (HO771.out) BK760.out (by decide)) BK761.out (by decide)))); rintro e w44 ⟨v774, rfl, ho0, hb⟩; refine ⟨_, rfl, ?_⟩; have HO775 := Aside0.mk (Kd.V_lower (Kd.V_mono (ok' := fun k_ => k_ ≠ gb760 ∧ k_ ≠ gb761) ho0 (fun k_ hk_ => ⟨Or.elim hk_ (fun hs_ => Or.elim hs_ (fun hs_ => ((Kd.R_types (Kd.R_types (HO767.out) BK760.out (by decide)) BK761.out (by decide)).1 k_ hs_.symm).1.2) (fun hs_ => ((Kd.R_types (Kd.R_types (HO771.out) BK760.out (by decide)) BK761.out (by decide)).1 k_ hs_.symm).1.2)) (fun hn_ => (Kd.freshB (bk BK760) k_ hn_)), Or.elim hk_ (fun hs_ => Or.elim hs_ (fun hs_ => ((Kd.R_types (Kd.R_types (HO767.out) BK760.out (by decide)) BK761.out (by decide)).1 k_ hs_.symm).2) (fun hs_ => ((Kd.R_types (Kd.R_types (HO771.out) BK760.out (by decide)) BK761.out (by decide)).1 k_ hs_.symm).2)) (fun hn_ => (Kd.freshB (bk BK761) k_ hn_))⟩)) (below_size (bl HB))); replace HO767 := krb HO767 hb; replace HO771 := krb HO771 hb; replace BK760 := bkb BK760 hb; replace BK761 := bkb BK761 hb; replace HB := bst HB hb; (try clear hb); (try clear hb2); (try clear hk); (try clear hi); (try clear ho0)) | ((with_reducible refine gate_dst (N := 6) rfl ?_); refine bxe (N := 6) (cs := #[.int .i64 0, .slice none 0 0]) (t := 68) ?_; intro gb776 hg w45 hbox hb; replace HO767 := krb HO767 hb; replace HO771 := krb HO771 hb; replace HO775 := Aside0.mk (Kd.V_below (Kd.V_elderB (by (with_reducible repeat (first | apply Kd.V_alloc | apply Kd.V_drewN | apply Kd.V_drew)); exact HO775.out) gb776 (Nat.le_of_eq hg.symm)) hb); have BK776 := Aside0.mk (hbox); have GW776 := lsz hg HB; have GE776 := lsz hg HB; replace HB := bst HB hb; have NB760_776 := nlt hg BK760; have NB776_760 := ngt hg BK760; replace BK760 := bkb BK760 hb; have NB761_776 := nlt hg BK761; have NB776_761 := ngt hg BK761; replace BK761 := bkb BK761 hb; clear hb hbox hg; have hnb46 := NB776_760.out; have hnc46 := NB760_776.out; have hnb47 := NB776_761.out; have hnc47 := NB761_776.out; obtain ⟨hcz48_0, hcz48_1⟩ := e2 BK776; obtain ⟨hfz48_0, hfz48_1⟩ := f2 BK776; obtain ⟨Ao49, co49, eo49⟩ := Kd.V_slice HO775.out; subst eo49) | ((with_reducible refine gate_callee (f := 81) rfl ?_); refine gol (some 20) Try.func81 #[.agg #[.int .i64 t772, .slice Ao49 t773.length co49]] ?_; (with_reducible refine (bocageref01_Is.calls k t772 _ _ t773 true _ ?side1 ?side2 A8.out).mono ?_); (case side1 => refine (Kd.V_reads' (e := 3) (base := w.heap.size) (ok := fun k_ => ((k_ ≠ gb760 ∧ k_ ≠ gb761) ∧ k_ ≠ gb776)) (n := t773.length) (c := co49) ?_).2.2; exact (by (with_reducible repeat (first | apply Kd.V_alloc | apply Kd.V_drewN | apply Kd.V_drew)); exact (Kd.V_mono (Kd.V_far (p := ⟨gb776, 1, none⟩) (Kd.V_far (p := ⟨gb776, 0, none⟩) (Kd.V_mono HO775.out (fun k_ hk => (⟨hk, hk.2⟩ : _ ∧ k_ ≠ gb776))) (fun _ hk => hk.2) (.int .i64 t772)) (fun _ hk => hk.2) (.slice Ao49 t773.length co49)) (fun _ h_ => h_.1)))); (case side2 => exact (Kd.V_reads' HO775.out).2.1); rintro e w50 ⟨rfl, hb⟩; refine ⟨_, rfl, ?_⟩; replace HO767 := Aside0.mk (Kd.R_below (by (with_reducible repeat (first | apply Kd.R_alloc | apply Kd.R_drewN | apply Kd.R_drew)); exact (Kd.R_mono (Kd.R_far (p := ⟨gb776, 1, none⟩) (Kd.R_far (p := ⟨gb776, 0, none⟩) (Kd.R_types HO767.out BK776.out (by decide)) (fun _ hk => hk.2) (.int .i64 t772)) (fun _ hk => hk.2) (.slice Ao49 t773.length co49)) (fun _ h_ => h_.1))) hb); replace HO771 := Aside0.mk (Kd.R_below (by (with_reducible repeat (first | apply Kd.R_alloc | apply Kd.R_drewN | apply Kd.R_drew)); exact (Kd.R_mono (Kd.R_far (p := ⟨gb776, 1, none⟩) (Kd.R_far (p := ⟨gb776, 0, none⟩) (Kd.R_types HO771.out BK776.out (by decide)) (fun _ hk => hk.2) (.int .i64 t772)) (fun _ hk => hk.2) (.slice Ao49 t773.length co49)) (fun _ h_ => h_.1))) hb); replace HO775 := Aside0.mk (Kd.V_below (by (with_reducible repeat (first | apply Kd.V_alloc | apply Kd.V_drewN | apply Kd.V_drew)); exact (Kd.V_mono (Kd.V_far (p := ⟨gb776, 1, none⟩) (Kd.V_far (p := ⟨gb776, 0, none⟩) (Kd.V_mono HO775.out (fun k_ hk => (⟨hk, hk.2⟩ : _ ∧ k_ ≠ gb776))) (fun _ hk => hk.2) (.int .i64 t772)) (fun _ hk => hk.2) (.slice Ao49 t773.length co49)) (fun _ h_ => h_.1))) hb); replace BK760 := Aside0.mk (blk_below (bkf BK760 NB760_776) hb); replace BK761 := Aside0.mk (blk_below (bkf BK761 NB761_776) hb); replace BK776 := Aside0.mk (blk_below (g := gb776) (o := .cells #[.int .i64 t772, .slice Ao49 t773.length co49] 68 (0, 0)) (bkp BK776) hb); replace HB := bst HB hb; (try clear hb); (try clear hb2); (try clear hk); (try clear hi); obtain ⟨hcz51_0, hcz51_1⟩ := e2 BK776; obtain ⟨hfz51_0, hfz51_1⟩ := f2 BK776) | (go_at_call 82; (with_reducible refine (bocageref01_End.calls k t772 _ _ t773 t778 _ ?side1 ?side2 A10.out).mono ?_); (case side1 => repeat (first | exact (Kd.V_reads' HO775.out).2.2 | (with_reducible refine Kd.C_alloc ?_ _) | (with_reducible refine Kd.C_drewN ?_ _) | (with_reducible refine Kd.C_drew ?_))); (case side2 => exact (Kd.V_reads' HO775.out).2.1); rintro e w52 ⟨rfl, hb⟩; replace HO767 := krb HO767 hb; replace HO771 := krb HO771 hb; replace HO775 := Aside0.mk (Kd.V_below (by (with_reducible repeat (first | apply Kd.V_alloc | apply Kd.V_drewN | apply Kd.V_drew)); exact HO775.out) hb); replace BK760 := bkb BK760 hb; replace BK761 := bkb BK761 hb; replace BK776 := bkb BK776 hb; replace HB := bst HB hb; (try clear hb); (try clear hb2); (try clear hk); (try clear hi)) | (go_at_call 62; (with_reducible refine (bocageref02_Least64.calls  t779 _ A11.out).mono ?_); rintro e w' ⟨rfl, ⟨nd, rfl⟩⟩; (try (rw [drewN_self w52]; generalize hq_ : World.drewN w52 _ = w52; have n0_ : Aside0 (Kd.R (Kd.int .i64) 3 w52 w.heap.size (fun k_ => some k_ ≠ (.slice Ao43 t769.length co43 : Value).ownBlock) (.slice Ao42 t765.length co42) t765) := ⟨by rw [← hq_]; exact (by (with_reducible repeat (first | apply Kd.R_alloc | apply Kd.R_drewN | apply Kd.R_drew)); exact Kd.R_mono HO767.out (fun _ hk => hk.2))⟩; have n1_ : Aside0 (Kd.R (Kd.int .i64) 3 w52 w.heap.size (fun k_ => some k_ ≠ (.slice Ao42 t765.length co42 : Value).ownBlock) (.slice Ao43 t769.length co43) t769) := ⟨by rw [← hq_]; exact (by (with_reducible repeat (first | apply Kd.R_alloc | apply Kd.R_drewN | apply Kd.R_drew)); exact Kd.R_mono HO771.out (fun _ hk => hk.2))⟩; have n2_ : Aside0 (Kd.V (Kd.int .i64) 3 w52 w.heap.size (fun k_ => k_ ≠ gb760 ∧ k_ ≠ gb761 ∧ k_ ≠ gb776) (.slice Ao49 t773.length co49) t773) := ⟨by rw [← hq_]; exact (by (with_reducible repeat (first | apply Kd.V_alloc | apply Kd.V_drewN | apply Kd.V_drew)); exact Kd.V_mono HO775.out (fun _ hk => ⟨hk.1.1, ⟨hk.1.2, hk.2⟩⟩))⟩; have n3_ : Aside0 (w52.heap[gb760]? = some (.cells #[.int .i64 t762, .int .i64 t763] 23 (0, 0))) := ⟨by rw [← hq_]; exact (bk BK760)⟩; have n4_ : Aside0 (w52.heap[gb761]? = some (.cells #[.int .i64 0, .int .i64 0] 23 (0, 0))) := ⟨by rw [← hq_]; exact (bk BK761)⟩; have n5_ : Aside0 (w52.heap[gb776]? = some (.cells #[.int .i64 t772, .slice Ao49 t773.length co49] 68 (0, 0))) := ⟨by rw [← hq_]; exact (bk BK776)⟩; have n6_ : Aside0 (Below w.heap.size w w52) := ⟨by rw [← hq_]; exact (bl HB)⟩; clear HO767 HO771 HO775 BK760 BK761 BK776 HB hq_; have HO767 := n0_; have HO771 := n1_; have HO775 := n2_; have BK760 := n3_; have BK761 := n4_; have BK776 := n5_; have HB := n6_; clear n0_ n1_ n2_ n3_ n4_ n5_ n6_)); obtain ⟨hcz53_0, hcz53_1⟩ := e2 BK776; obtain ⟨hfz53_0, hfz53_1⟩ := f2 BK776) | ((with_reducible refine gate_callee (f := 82) rfl ?_); refine gol (some 30) Try.func82 #[.agg #[.int .i64 t772, .slice Ao49 t773.length co49]] ?_; (with_reducible refine (bocageref01_End.calls k t772 _ _ t773 t780 _ ?side1 ?side2 A33.out).mono ?_); (case side1 => repeat (first | exact (Kd.V_reads' HO775.out).2.2 | (with_reducible refine Kd.C_alloc ?_ _) | (with_reducible refine Kd.C_drewN ?_ _) | (with_reducible refine Kd.C_drew ?_))); (case side2 => exact (Kd.V_reads' HO775.out).2.1); rintro e w54 ⟨rfl, hb⟩; refine ⟨_, rfl, ?_⟩; replace HO767 := krb HO767 hb; replace HO771 := krb HO771 hb; replace HO775 := Aside0.mk (Kd.V_below (by (with_reducible repeat (first | apply Kd.V_alloc | apply Kd.V_drewN | apply Kd.V_drew)); exact HO775.out) hb); replace BK760 := bkb BK760 hb; replace BK761 := bkb BK761 hb; replace BK776 := bkb BK776 hb; replace HB := bst HB hb; (try clear hb); (try clear hb2); (try clear hk); (try clear hi); obtain ⟨hcz55_0, hcz55_1⟩ := e2 BK761; obtain ⟨hfz55_0, hfz55_1⟩ := f2 BK761))
        refine bodyPost_ret (results_ct rfl _ _ gb761 23 #[.int .i64 0, .int .i64 t780] (0, 0) _ rfl (bkp BK761) Try.underlying23 rfl (by kernel_rfl)) rfl ?_
        exact endB HB
    · replace c9 := Bool.eq_false_iff.mpr c9
      subst c9
      have H1 : (some (0, 0, false)) = some (r1, r2, r3) := by rw [if_neg (show ¬ (false = true) by decide)] at H; exact H
      clear H
      have H := H1
      clear H1
      simp only [Option.some.injEq, Prod.mk.injEq] at H
      obtain ⟨rfl, rfl, rfl⟩ := H
      go_enter Try.func68, Try.ntmps68
      go_wp2_with (first | ((with_reducible refine gate_dst (N := 2) rfl ?_); refine bxe (N := 2) (cs := #[.int .i64 a0_0, .int .i64 a0_1]) (t := 23) ?_; intro gb760 hg w56 hbox hb; have BK760 := Aside0.mk (hbox); have GW760 := lsz hg HB; have GE760 := lsz hg HB; replace HB := bst HB hb; clear hb hbox hg) | ((with_reducible refine gate_dst (N := 4) rfl ?_); refine bxe (N := 4) (cs := #[.int .i64 0, .int .i64 0]) (t := 23) ?_; intro gb761 hg w57 hbox hb; have BK761 := Aside0.mk (hbox); have GW761 := lsz hg HB; have GE761 := lsz hg HB; replace HB := bst HB hb; have NB760_761 := nlt hg BK760; have NB761_760 := ngt hg BK760; replace BK760 := bkb BK760 hb; clear hb hbox hg; have hnb58 := NB760_761.out; have hnc58 := NB761_760.out; obtain ⟨hcz59_0, hcz59_1⟩ := e2 BK760; obtain ⟨hfz59_0, hfz59_1⟩ := f2 BK760) | ((with_reducible refine gate_callee (f := 48) rfl ?_); refine gol (some 8) Try.func48 #[.agg #[.int .i64 a0_0, .int .i64 a0_1]] ?_; (with_reducible refine (bocageref02_Canon.calls k a0_0 a0_1 t762 t763 _ A3.out).mono ?_); rintro e w60 ⟨rfl, hb⟩; refine ⟨_, rfl, ?_⟩; replace BK760 := bkb BK760 hb; replace BK761 := bkb BK761 hb; replace HB := bst HB hb; (try clear hb); (try clear hb2); (try clear hk); (try clear hi); obtain ⟨hcz61_0, hcz61_1⟩ := e2 BK760; obtain ⟨hfz61_0, hfz61_1⟩ := f2 BK760) | ((with_reducible refine gate_callee (f := 57) rfl ?_); refine gol (some 15) Try.func57 #[.int .i64 t763] ?_; (with_reducible refine (bocageref01_Of.calls k t763 t764 t765 _ A5.out).mono ?_); rintro e w62 ⟨v766, rfl, ho0, hb⟩; refine ⟨_, rfl, ?_⟩; have HO767 := Aside0.mk (Kd.R_lower ho0 (below_size (bl HB))); replace BK760 := Aside0.mk (blk_below (g := gb760) (o := .cells #[.int .i64 t762, .int .i64 t763] 23 (0, 0)) (bkp BK760) hb); replace BK761 := Aside0.mk (blk_below (bkf BK761 NB761_760) hb); replace HB := bst HB hb; (try clear hb); (try clear hb2); (try clear hk); (try clear hi); (try clear ho0)) | ((with_reducible refine gate_callee (f := 57) rfl ?_); refine gol (some 17) Try.func57 #[.int .i64 a1] ?_; (with_reducible refine (bocageref01_Of.calls k a1 t768 t769 _ A6.out).mono ?_); rintro e w63 ⟨v770, rfl, ho0, hb⟩; refine ⟨_, rfl, ?_⟩; have HO771 := Aside0.mk (Kd.R_lower (Kd.R_new' ho0 (Kd.R_lt (kr HO767))) (below_size (bl HB))); replace HO767 := Aside0.mk (Kd.R_elder' (kr HO767) (Kd.R_base ho0) hb); replace BK760 := bkb BK760 hb; replace BK761 := bkb BK761 hb; replace HB := bst HB hb; (try clear hb); (try clear hb2); (try clear hk); (try clear hi); (try clear ho0); obtain ⟨Ao64, co64, eo64⟩ := Kd.R_slice HO767.out; subst eo64; obtain ⟨Ao65, co65, eo65⟩ := Kd.R_slice HO771.out; subst eo65) | ((with_reducible refine gate_callee (f := 56) rfl ?_); refine gol (some 18) Try.func56 #[.agg #[.int .i64 t764, .slice Ao64 t765.length co64], .agg #[.int .i64 t768, .slice Ao65 t769.length co65]] ?_; (with_reducible refine (bocageref01_Plus.calls k t764 (fun k_ => some k_ = (.slice Ao64 t765.length co64 : Value).ownBlock) _ _ t765 t768 (fun k_ => some k_ = (.slice Ao65 t769.length co65 : Value).ownBlock) _ _ t769 t772 t773 _ ?side1 ?side2 A7.out).mono ?_); (case side1 => exact Kd.R_V (Kd.R_tight rfl (Kd.R_types (Kd.R_types (HO767.out) BK760.out (by decide)) BK761.out (by decide)))); (case side2 => exact Kd.R_V (Kd.R_tight rfl (Kd.R_types (Kd.R_types (HO771.out) BK760.out (by decide)) BK761.out (by decide)))); rintro e w66 ⟨v774, rfl, ho0, hb⟩; refine ⟨_, rfl, ?_⟩; have HO775 := Aside0.mk (Kd.V_lower (Kd.V_mono (ok' := fun k_ => k_ ≠ gb760 ∧ k_ ≠ gb761) ho0 (fun k_ hk_ => ⟨Or.elim hk_ (fun hs_ => Or.elim hs_ (fun hs_ => ((Kd.R_types (Kd.R_types (HO767.out) BK760.out (by decide)) BK761.out (by decide)).1 k_ hs_.symm).1.2) (fun hs_ => ((Kd.R_types (Kd.R_types (HO771.out) BK760.out (by decide)) BK761.out (by decide)).1 k_ hs_.symm).1.2)) (fun hn_ => (Kd.freshB (bk BK760) k_ hn_)), Or.elim hk_ (fun hs_ => Or.elim hs_ (fun hs_ => ((Kd.R_types (Kd.R_types (HO767.out) BK760.out (by decide)) BK761.out (by decide)).1 k_ hs_.symm).2) (fun hs_ => ((Kd.R_types (Kd.R_types (HO771.out) BK760.out (by decide)) BK761.out (by decide)).1 k_ hs_.symm).2)) (fun hn_ => (Kd.freshB (bk BK761) k_ hn_))⟩)) (below_size (bl HB))); replace HO767 := krb HO767 hb; replace HO771 := krb HO771 hb; replace BK760 := bkb BK760 hb; replace BK761 := bkb BK761 hb; replace HB := bst HB hb; (try clear hb); (try clear hb2); (try clear hk); (try clear hi); (try clear ho0)) | ((with_reducible refine gate_dst (N := 6) rfl ?_); refine bxe (N := 6) (cs := #[.int .i64 0, .slice none 0 0]) (t := 68) ?_; intro gb776 hg w67 hbox hb; replace HO767 := krb HO767 hb; replace HO771 := krb HO771 hb; replace HO775 := Aside0.mk (Kd.V_below (Kd.V_elderB (by (with_reducible repeat (first | apply Kd.V_alloc | apply Kd.V_drewN | apply Kd.V_drew)); exact HO775.out) gb776 (Nat.le_of_eq hg.symm)) hb); have BK776 := Aside0.mk (hbox); have GW776 := lsz hg HB; have GE776 := lsz hg HB; replace HB := bst HB hb; have NB760_776 := nlt hg BK760; have NB776_760 := ngt hg BK760; replace BK760 := bkb BK760 hb; have NB761_776 := nlt hg BK761; have NB776_761 := ngt hg BK761; replace BK761 := bkb BK761 hb; clear hb hbox hg; have hnb68 := NB776_760.out; have hnc68 := NB760_776.out; have hnb69 := NB776_761.out; have hnc69 := NB761_776.out; obtain ⟨hcz70_0, hcz70_1⟩ := e2 BK776; obtain ⟨hfz70_0, hfz70_1⟩ := f2 BK776; obtain ⟨Ao71, co71, eo71⟩ := Kd.V_slice HO775.out; subst eo71) | ((with_reducible refine gate_callee (f := 81) rfl ?_); refine gol (some 20) Try.func81 #[.agg #[.int .i64 t772, .slice Ao71 t773.length co71]] ?_; (with_reducible refine (bocageref01_Is.calls k t772 _ _ t773 false _ ?side1 ?side2 A8.out).mono ?_); (case side1 => refine (Kd.V_reads' (e := 3) (base := w.heap.size) (ok := fun k_ => ((k_ ≠ gb760 ∧ k_ ≠ gb761) ∧ k_ ≠ gb776)) (n := t773.length) (c := co71) ?_).2.2; exact (by (with_reducible repeat (first | apply Kd.V_alloc | apply Kd.V_drewN | apply Kd.V_drew)); exact (Kd.V_mono (Kd.V_far (p := ⟨gb776, 1, none⟩) (Kd.V_far (p := ⟨gb776, 0, none⟩) (Kd.V_mono HO775.out (fun k_ hk => (⟨hk, hk.2⟩ : _ ∧ k_ ≠ gb776))) (fun _ hk => hk.2) (.int .i64 t772)) (fun _ hk => hk.2) (.slice Ao71 t773.length co71)) (fun _ h_ => h_.1)))); (case side2 => exact (Kd.V_reads' HO775.out).2.1); rintro e w72 ⟨rfl, hb⟩; refine ⟨_, rfl, ?_⟩; replace HO767 := Aside0.mk (Kd.R_below (by (with_reducible repeat (first | apply Kd.R_alloc | apply Kd.R_drewN | apply Kd.R_drew)); exact (Kd.R_mono (Kd.R_far (p := ⟨gb776, 1, none⟩) (Kd.R_far (p := ⟨gb776, 0, none⟩) (Kd.R_types HO767.out BK776.out (by decide)) (fun _ hk => hk.2) (.int .i64 t772)) (fun _ hk => hk.2) (.slice Ao71 t773.length co71)) (fun _ h_ => h_.1))) hb); replace HO771 := Aside0.mk (Kd.R_below (by (with_reducible repeat (first | apply Kd.R_alloc | apply Kd.R_drewN | apply Kd.R_drew)); exact (Kd.R_mono (Kd.R_far (p := ⟨gb776, 1, none⟩) (Kd.R_far (p := ⟨gb776, 0, none⟩) (Kd.R_types HO771.out BK776.out (by decide)) (fun _ hk => hk.2) (.int .i64 t772)) (fun _ hk => hk.2) (.slice Ao71 t773.length co71)) (fun _ h_ => h_.1))) hb); replace HO775 := Aside0.mk (Kd.V_below (by (with_reducible repeat (first | apply Kd.V_alloc | apply Kd.V_drewN | apply Kd.V_drew)); exact (Kd.V_mono (Kd.V_far (p := ⟨gb776, 1, none⟩) (Kd.V_far (p := ⟨gb776, 0, none⟩) (Kd.V_mono HO775.out (fun k_ hk => (⟨hk, hk.2⟩ : _ ∧ k_ ≠ gb776))) (fun _ hk => hk.2) (.int .i64 t772)) (fun _ hk => hk.2) (.slice Ao71 t773.length co71)) (fun _ h_ => h_.1))) hb); replace BK760 := Aside0.mk (blk_below (bkf BK760 NB760_776) hb); replace BK761 := Aside0.mk (blk_below (bkf BK761 NB761_776) hb); replace BK776 := Aside0.mk (blk_below (g := gb776) (o := .cells #[.int .i64 t772, .slice Ao71 t773.length co71] 68 (0, 0)) (bkp BK776) hb); replace HB := bst HB hb; (try clear hb); (try clear hb2); (try clear hk); (try clear hi); obtain ⟨hcz73_0, hcz73_1⟩ := e2 BK761; obtain ⟨hfz73_0, hfz73_1⟩ := f2 BK761))
      refine bodyPost_ret (results_ct rfl _ _ gb761 23 #[.int .i64 0, .int .i64 0] (0, 0) _ rfl (bkp BK761) Try.underlying23 rfl (by kernel_rfl)) rfl ?_
      exact endB HB
  · rw [if_neg c4] at H
    have c4b0 : (t762 == 0) = false := beq_eq_false_iff_ne.mpr c4
    have c4b1 : (t762 != 0) = true := bne_iff_ne.mpr c4
    simp only [Option.some.injEq, Prod.mk.injEq] at H
    obtain ⟨rfl, rfl, rfl⟩ := H
    go_enter Try.func68, Try.ntmps68
    go_wp2_with (first | ((with_reducible refine gate_dst (N := 2) rfl ?_); refine bxe (N := 2) (cs := #[.int .i64 a0_0, .int .i64 a0_1]) (t := 23) ?_; intro gb760 hg w74 hbox hb; have BK760 := Aside0.mk (hbox); have GW760 := lsz hg HB; have GE760 := lsz hg HB; replace HB := bst HB hb; clear hb hbox hg) | ((with_reducible refine gate_dst (N := 4) rfl ?_); refine bxe (N := 4) (cs := #[.int .i64 0, .int .i64 0]) (t := 23) ?_; intro gb761 hg w75 hbox hb; have BK761 := Aside0.mk (hbox); have GW761 := lsz hg HB; have GE761 := lsz hg HB; replace HB := bst HB hb; have NB760_761 := nlt hg BK760; have NB761_760 := ngt hg BK760; replace BK760 := bkb BK760 hb; clear hb hbox hg; have hnb76 := NB760_761.out; have hnc76 := NB761_760.out; obtain ⟨hcz77_0, hcz77_1⟩ := e2 BK760; obtain ⟨hfz77_0, hfz77_1⟩ := f2 BK760) | ((with_reducible refine gate_callee (f := 48) rfl ?_); refine gol (some 8) Try.func48 #[.agg #[.int .i64 a0_0, .int .i64 a0_1]] ?_; (with_reducible refine (bocageref02_Canon.calls k a0_0 a0_1 t762 t763 _ A3.out).mono ?_); rintro e w78 ⟨rfl, hb⟩; refine ⟨_, rfl, ?_⟩; replace BK760 := bkb BK760 hb; replace BK761 := bkb BK761 hb; replace HB := bst HB hb; (try clear hb); (try clear hb2); (try clear hk); (try clear hi); obtain ⟨hcz79_0, hcz79_1⟩ := e2 BK760; obtain ⟨hfz79_0, hfz79_1⟩ := f2 BK760; obtain ⟨hcz80_0, hcz80_1⟩ := e2 BK761; obtain ⟨hfz80_0, hfz80_1⟩ := f2 BK761))
    refine bodyPost_ret (results_ct rfl _ _ gb761 23 #[.int .i64 t762, .int .i64 t763] (0, 0) _ rfl (by (with_reducible repeat (first | refine blk_drewN ?_ _ | refine blk_drew ?_ | refine blk_alloc ?_ _)); refine blk_put (cs := #[.int .i64 t762, .int .i64 0]) ?_ 1 _ rfl; (with_reducible repeat (first | refine blk_drewN ?_ _ | refine blk_drew ?_ | refine blk_alloc ?_ _)); refine blk_put (cs := #[.int .i64 0, .int .i64 0]) ?_ 0 _ rfl; (with_reducible repeat (first | refine blk_drewN ?_ _ | refine blk_drew ?_ | refine blk_alloc ?_ _)); refine blk_far ?_ NB761_760.out _; (with_reducible repeat (first | refine blk_drewN ?_ _ | refine blk_drew ?_ | refine blk_alloc ?_ _)); refine blk_far ?_ NB761_760.out _; (with_reducible repeat (first | refine blk_drewN ?_ _ | refine blk_drew ?_ | refine blk_alloc ?_ _)); exact BK761.out) Try.underlying23 rfl (by kernel_rfl)) rfl ?_
    exact endB HB
/-! ### bocageref03_Shift: function 44 -/
def bocageref03_Shift.f (k : Nat) (a0_0 : Int) (a0_1 : Int) (a0_2 : Int) (a0_3 : Int) (a1 : Int) : Option (Int × Int × Int × Int × Bool) := (bocageref02_Shift.f k a0_0 a0_1 a1).bind fun bt783 => ((bocageref02_Shift.f k a0_2 a0_3 a1).bind fun bt787 => ((bocageref03_Right.f k a0_0 a0_1 a0_2 a0_3).bind fun t791 => (if t791 = true then (if bt783.2.2 = true then (if bt787.2.2 = true then (some (bt783.1, bt783.2.1, bt787.1, bt787.2.1, true)) else (some (0, 0, 0, 0, false))) else (some (0, 0, 0, 0, false))) else (some (0, 0, 0, 0, false)))))
theorem bocageref03_Shift.mono : ∀ a0 a1 a2 a3 a4 k, LeO (bocageref03_Shift.f k a0 a1 a2 a3 a4) (bocageref03_Shift.f (k + 1) a0 a1 a2 a3 a4) := by
  intro a0 a1 a2 a3 a4 k
  unfold bocageref03_Shift.f
  repeat' first
      | (with_reducible exact bocageref02_Shift.mono _ _ _ _)
      | (with_reducible exact bocageref03_Right.mono _ _ _ _ _)
      | (with_reducible exact LeO.refl _)
      | (with_reducible exact LeO.none _)
      | (with_reducible refine LeO.ite ?_ ?_)
      | (with_reducible refine LeO.bind ?_ (fun _ => ?_))
      | exact bocageref02_Shift.mono _ _ _ _
      | exact bocageref03_Right.mono _ _ _ _ _
      | exact LeO.none _
      | refine LeO.ite ?_ ?_
      | refine LeO.bind ?_ (fun _ => ?_)
set_option maxHeartbeats 8000000 in
set_option maxRecDepth 100000 in
theorem bocageref03_Shift.calls (k : Nat) (a0_0 : Int) (a0_1 : Int) (a0_2 : Int) (a0_3 : Int) (a1 : Int) (r1 : Int) (r2 : Int) (r3 : Int) (r4 : Int) (r5 : Bool) (w : World) (h : bocageref03_Shift.f k a0_0 a0_1 a0_2 a0_3 a1 = some (r1, r2, r3, r4, r5)) :
    Calls Try.prog 44 #[.agg #[.int .i64 a0_0, .int .i64 a0_1, .int .i64 a0_2, .int .i64 a0_3], .int .i64 a1] w fun e w' => e = .returned (.tuple #[.agg #[.int .i64 r1, .int .i64 r2, .int .i64 r3, .int .i64 r4], .bool r5]) ∧ Below w.heap.size w w' := by
  have hu25 := Try.underlying25
  have hu23 := Try.underlying23
  have HB := Aside0.mk (Below.refl w.heap.size w)
  have H : ((bocageref02_Shift.f k a0_0 a0_1 a1).bind fun bt783 => ((bocageref02_Shift.f k a0_2 a0_3 a1).bind fun bt787 => ((bocageref03_Right.f k a0_0 a0_1 a0_2 a0_3).bind fun t791 => (if t791 = true then (if bt783.2.2 = true then (if bt787.2.2 = true then (some (bt783.1, bt783.2.1, bt787.1, bt787.2.1, true)) else (some (0, 0, 0, 0, false))) else (some (0, 0, 0, 0, false))) else (some (0, 0, 0, 0, false)))))) = some (r1, r2, r3, r4, r5) := h
  clear h
  replace H := Option.bind_eq_some_iff.mp H
  obtain ⟨⟨t783, t784, t785⟩, A30, H⟩ := H
  (try (set_option simprocs false in dsimp only at H))
  have A3 := Aside0.mk A30
  clear A30
  replace H := Option.bind_eq_some_iff.mp H
  obtain ⟨⟨t787, t788, t789⟩, A40, H⟩ := H
  (try (set_option simprocs false in dsimp only at H))
  have A4 := Aside0.mk A40
  clear A40
  replace H := Option.bind_eq_some_iff.mp H
  obtain ⟨t791, A50, H⟩ := H
  (try (set_option simprocs false in dsimp only at H))
  have A5 := Aside0.mk A50
  clear A50
  by_cases c6 : t791 = true
  · subst c6
    have H1 : (if t785 = true then (if t789 = true then (some (t783, t784, t787, t788, true)) else (some (0, 0, 0, 0, false))) else (some (0, 0, 0, 0, false))) = some (r1, r2, r3, r4, r5) := by rw [if_pos rfl] at H; exact H
    clear H
    have H := H1
    clear H1
    by_cases c7 : t785 = true
    · subst c7
      have H1 : (if t789 = true then (some (t783, t784, t787, t788, true)) else (some (0, 0, 0, 0, false))) = some (r1, r2, r3, r4, r5) := by rw [if_pos rfl] at H; exact H
      clear H
      have H := H1
      clear H1
      by_cases c8 : t789 = true
      · subst c8
        have H1 : (some (t783, t784, t787, t788, true)) = some (r1, r2, r3, r4, r5) := by rw [if_pos rfl] at H; exact H
        clear H
        have H := H1
        clear H1
        simp only [Option.some.injEq, Prod.mk.injEq] at H
        obtain ⟨rfl, rfl, rfl, rfl, rfl⟩ := H
        go_enter Try.func44, Try.ntmps44
        go_wp2_with (first | ((with_reducible refine gate_dst (N := 2) rfl ?_); refine bxe (N := 2) (cs := #[.int .i64 a0_0, .int .i64 a0_1, .int .i64 a0_2, .int .i64 a0_3]) (t := 25) ?_; intro gb781 hg w9 hbox hb; have BK781 := Aside0.mk (hbox); have GW781 := lsz hg HB; have GE781 := lsz hg HB; replace HB := bst HB hb; clear hb hbox hg) | ((with_reducible refine gate_dst (N := 4) rfl ?_); refine bxe (N := 4) (cs := #[.int .i64 0, .int .i64 0, .int .i64 0, .int .i64 0]) (t := 25) ?_; intro gb782 hg w10 hbox hb; have BK782 := Aside0.mk (hbox); have GW782 := lsz hg HB; have GE782 := lsz hg HB; replace HB := bst HB hb; have NB781_782 := nlt hg BK781; have NB782_781 := ngt hg BK781; replace BK781 := bkb BK781 hb; clear hb hbox hg; have hnb11 := NB781_782.out; have hnc11 := NB782_781.out; obtain ⟨hcz12_0, hcz12_1, hcz12_2, hcz12_3⟩ := e4 BK781; obtain ⟨hfz12_0, hfz12_1, hfz12_2, hfz12_3⟩ := f4 BK781) | ((with_reducible refine gate_callee (f := 68) rfl ?_); refine gol (some 14) Try.func68 #[.agg #[.int .i64 a0_0, .int .i64 a0_1], .int .i64 a1] ?_; (with_reducible refine (bocageref02_Shift.calls k a0_0 a0_1 a1 t783 t784 true _ A3.out).mono ?_); rintro e w13 ⟨rfl, hb⟩; refine ⟨_, rfl, ?_⟩; replace BK781 := bkb BK781 hb; replace BK782 := bkb BK782 hb; replace HB := bst HB hb; (try clear hb); (try clear hb2); (try clear hk); (try clear hi)) | ((with_reducible refine gate_dst (N := 6) rfl ?_); refine bxe (N := 6) (cs := #[.int .i64 0, .int .i64 0]) (t := 23) ?_; intro gb786 hg w14 hbox hb; have BK786 := Aside0.mk (hbox); have GW786 := lsz hg HB; have GE786 := lsz hg HB; replace HB := bst HB hb; have NB781_786 := nlt hg BK781; have NB786_781 := ngt hg BK781; replace BK781 := bkb BK781 hb; have NB782_786 := nlt hg BK782; have NB786_782 := ngt hg BK782; replace BK782 := bkb BK782 hb; clear hb hbox hg; have hnb15 := NB786_781.out; have hnc15 := NB781_786.out; have hnb16 := NB786_782.out; have hnc16 := NB782_786.out; obtain ⟨hcz17_0, hcz17_1⟩ := e2 BK786; obtain ⟨hfz17_0, hfz17_1⟩ := f2 BK786; obtain ⟨hcz18_0, hcz18_1, hcz18_2, hcz18_3⟩ := e4 BK781; obtain ⟨hfz18_0, hfz18_1, hfz18_2, hfz18_3⟩ := f4 BK781) | ((with_reducible refine gate_callee (f := 68) rfl ?_); refine gol (some 21) Try.func68 #[.agg #[.int .i64 a0_2, .int .i64 a0_3], .int .i64 a1] ?_; (with_reducible refine (bocageref02_Shift.calls k a0_2 a0_3 a1 t787 t788 true _ A4.out).mono ?_); rintro e w19 ⟨rfl, hb⟩; refine ⟨_, rfl, ?_⟩; replace BK781 := Aside0.mk (blk_below (bkf BK781 NB781_786) hb); replace BK782 := Aside0.mk (blk_below (bkf BK782 NB782_786) hb); replace BK786 := Aside0.mk (blk_below (g := gb786) (o := .cells #[.int .i64 t783, .int .i64 t784] 23 (0, 0)) (bkp BK786) hb); replace HB := bst HB hb; (try clear hb); (try clear hb2); (try clear hk); (try clear hi)) | ((with_reducible refine gate_dst (N := 8) rfl ?_); refine bxe (N := 8) (cs := #[.int .i64 0, .int .i64 0]) (t := 23) ?_; intro gb790 hg w20 hbox hb; have BK790 := Aside0.mk (hbox); have GW790 := lsz hg HB; have GE790 := lsz hg HB; replace HB := bst HB hb; have NB781_790 := nlt hg BK781; have NB790_781 := ngt hg BK781; replace BK781 := bkb BK781 hb; have NB782_790 := nlt hg BK782; have NB790_782 := ngt hg BK782; replace BK782 := bkb BK782 hb; have NB786_790 := nlt hg BK786; have NB790_786 := ngt hg BK786; replace BK786 := bkb BK786 hb; clear hb hbox hg; have hnb21 := NB790_781.out; have hnc21 := NB781_790.out; have hnb22 := NB790_782.out; have hnc22 := NB782_790.out; have hnb23 := NB790_786.out; have hnc23 := NB786_790.out; obtain ⟨hcz24_0, hcz24_1⟩ := e2 BK790; obtain ⟨hfz24_0, hfz24_1⟩ := f2 BK790; obtain ⟨hcz25_0, hcz25_1, hcz25_2, hcz25_3⟩ := e4 BK781; obtain ⟨hfz25_0, hfz25_1, hfz25_2, hfz25_3⟩ := f4 BK781) | ((with_reducible refine gate_callee (f := 12) rfl ?_); refine gol (some 25) Try.func12 #[.agg #[.int .i64 a0_0, .int .i64 a0_1, .int .i64 a0_2, .int .i64 a0_3]] ?_; (with_reducible refine (bocageref03_Right.calls k a0_0 a0_1 a0_2 a0_3 true _ A5.out).mono ?_); rintro e w26 ⟨rfl, hb⟩; refine ⟨_, rfl, ?_⟩; replace BK781 := Aside0.mk (blk_below (bkf BK781 NB781_790) hb); replace BK782 := Aside0.mk (blk_below (bkf BK782 NB782_790) hb); replace BK786 := Aside0.mk (blk_below (bkf BK786 NB786_790) hb); replace BK790 := Aside0.mk (blk_below (g := gb790) (o := .cells #[.int .i64 t787, .int .i64 t788] 23 (0, 0)) (bkp BK790) hb); replace HB := bst HB hb; (try clear hb); (try clear hb2); (try clear hk); (try clear hi); obtain ⟨hcz27_0, hcz27_1⟩ := e2 BK786; obtain ⟨hfz27_0, hfz27_1⟩ := f2 BK786; obtain ⟨hcz28_0, hcz28_1⟩ := e2 BK790; obtain ⟨hfz28_0, hfz28_1⟩ := f2 BK790; obtain ⟨hcz29_0, hcz29_1, hcz29_2, hcz29_3⟩ := e4 BK782; obtain ⟨hfz29_0, hfz29_1, hfz29_2, hfz29_3⟩ := f4 BK782))
        refine bodyPost_ret (results_ct rfl _ _ gb782 25 #[.int .i64 t783, .int .i64 t784, .int .i64 t787, .int .i64 t788] (0, 0) _ rfl (bkp BK782) Try.underlying25 rfl (by kernel_rfl)) rfl ?_
        exact endB HB
      · replace c8 := Bool.eq_false_iff.mpr c8
        subst c8
        have H1 : (some (0, 0, 0, 0, false)) = some (r1, r2, r3, r4, r5) := by rw [if_neg (show ¬ (false = true) by decide)] at H; exact H
        clear H
        have H := H1
        clear H1
        simp only [Option.some.injEq, Prod.mk.injEq] at H
        obtain ⟨rfl, rfl, rfl, rfl, rfl⟩ := H
        go_enter Try.func44, Try.ntmps44
        go_wp2_with (first | ((with_reducible refine gate_dst (N := 2) rfl ?_); refine bxe (N := 2) (cs := #[.int .i64 a0_0, .int .i64 a0_1, .int .i64 a0_2, .int .i64 a0_3]) (t := 25) ?_; intro gb781 hg w30 hbox hb; have BK781 := Aside0.mk (hbox); have GW781 := lsz hg HB; have GE781 := lsz hg HB; replace HB := bst HB hb; clear hb hbox hg) | ((with_reducible refine gate_dst (N := 4) rfl ?_); refine bxe (N := 4) (cs := #[.int .i64 0, .int .i64 0, .int .i64 0, .int .i64 0]) (t := 25) ?_; intro gb782 hg w31 hbox hb; have BK782 := Aside0.mk (hbox); have GW782 := lsz hg HB; have GE782 := lsz hg HB; replace HB := bst HB hb; have NB781_782 := nlt hg BK781; have NB782_781 := ngt hg BK781; replace BK781 := bkb BK781 hb; clear hb hbox hg; have hnb32 := NB781_782.out; have hnc32 := NB782_781.out; obtain ⟨hcz33_0, hcz33_1, hcz33_2, hcz33_3⟩ := e4 BK781; obtain ⟨hfz33_0, hfz33_1, hfz33_2, hfz33_3⟩ := f4 BK781) | ((with_reducible refine gate_callee (f := 68) rfl ?_); refine gol (some 14) Try.func68 #[.agg #[.int .i64 a0_0, .int .i64 a0_1], .int .i64 a1] ?_; (with_reducible refine (bocageref02_Shift.calls k a0_0 a0_1 a1 t783 t784 true _ A3.out).mono ?_); rintro e w34 ⟨rfl, hb⟩; refine ⟨_, rfl, ?_⟩; replace BK781 := bkb BK781 hb; replace BK782 := bkb BK782 hb; replace HB := bst HB hb; (try clear hb); (try clear hb2); (try clear hk); (try clear hi)) | ((with_reducible refine gate_dst (N := 6) rfl ?_); refine bxe (N := 6) (cs := #[.int .i64 0, .int .i64 0]) (t := 23) ?_; intro gb786 hg w35 hbox hb; have BK786 := Aside0.mk (hbox); have GW786 := lsz hg HB; have GE786 := lsz hg HB; replace HB := bst HB hb; have NB781_786 := nlt hg BK781; have NB786_781 := ngt hg BK781; replace BK781 := bkb BK781 hb; have NB782_786 := nlt hg BK782; have NB786_782 := ngt hg BK782; replace BK782 := bkb BK782 hb; clear hb hbox hg; have hnb36 := NB786_781.out; have hnc36 := NB781_786.out; have hnb37 := NB786_782.out; have hnc37 := NB782_786.out; obtain ⟨hcz38_0, hcz38_1⟩ := e2 BK786; obtain ⟨hfz38_0, hfz38_1⟩ := f2 BK786; obtain ⟨hcz39_0, hcz39_1, hcz39_2, hcz39_3⟩ := e4 BK781; obtain ⟨hfz39_0, hfz39_1, hfz39_2, hfz39_3⟩ := f4 BK781) | ((with_reducible refine gate_callee (f := 68) rfl ?_); refine gol (some 21) Try.func68 #[.agg #[.int .i64 a0_2, .int .i64 a0_3], .int .i64 a1] ?_; (with_reducible refine (bocageref02_Shift.calls k a0_2 a0_3 a1 t787 t788 false _ A4.out).mono ?_); rintro e w40 ⟨rfl, hb⟩; refine ⟨_, rfl, ?_⟩; replace BK781 := Aside0.mk (blk_below (bkf BK781 NB781_786) hb); replace BK782 := Aside0.mk (blk_below (bkf BK782 NB782_786) hb); replace BK786 := Aside0.mk (blk_below (g := gb786) (o := .cells #[.int .i64 t783, .int .i64 t784] 23 (0, 0)) (bkp BK786) hb); replace HB := bst HB hb; (try clear hb); (try clear hb2); (try clear hk); (try clear hi)) | ((with_reducible refine gate_dst (N := 8) rfl ?_); refine bxe (N := 8) (cs := #[.int .i64 0, .int .i64 0]) (t := 23) ?_; intro gb790 hg w41 hbox hb; have BK790 := Aside0.mk (hbox); have GW790 := lsz hg HB; have GE790 := lsz hg HB; replace HB := bst HB hb; have NB781_790 := nlt hg BK781; have NB790_781 := ngt hg BK781; replace BK781 := bkb BK781 hb; have NB782_790 := nlt hg BK782; have NB790_782 := ngt hg BK782; replace BK782 := bkb BK782 hb; have NB786_790 := nlt hg BK786; have NB790_786 := ngt hg BK786; replace BK786 := bkb BK786 hb; clear hb hbox hg; have hnb42 := NB790_781.out; have hnc42 := NB781_790.out; have hnb43 := NB790_782.out; have hnc43 := NB782_790.out; have hnb44 := NB790_786.out; have hnc44 := NB786_790.out; obtain ⟨hcz45_0, hcz45_1⟩ := e2 BK790; obtain ⟨hfz45_0, hfz45_1⟩ := f2 BK790; obtain ⟨hcz46_0, hcz46_1, hcz46_2, hcz46_3⟩ := e4 BK781; obtain ⟨hfz46_0, hfz46_1, hfz46_2, hfz46_3⟩ := f4 BK781) | ((with_reducible refine gate_callee (f := 12) rfl ?_); refine gol (some 25) Try.func12 #[.agg #[.int .i64 a0_0, .int .i64 a0_1, .int .i64 a0_2, .int .i64 a0_3]] ?_; (with_reducible refine (bocageref03_Right.calls k a0_0 a0_1 a0_2 a0_3 true _ A5.out).mono ?_); rintro e w47 ⟨rfl, hb⟩; refine ⟨_, rfl, ?_⟩; replace BK781 := Aside0.mk (blk_below (bkf BK781 NB781_790) hb); replace BK782 := Aside0.mk (blk_below (bkf BK782 NB782_790) hb); replace BK786 := Aside0.mk (blk_below (bkf BK786 NB786_790) hb); replace BK790 := Aside0.mk (blk_below (g := gb790) (o := .cells #[.int .i64 t787, .int .i64 t788] 23 (0, 0)) (bkp BK790) hb); replace HB := bst HB hb; (try clear hb); (try clear hb2); (try clear hk); (try clear hi); obtain ⟨hcz48_0, hcz48_1, hcz48_2, hcz48_3⟩ := e4 BK782; obtain ⟨hfz48_0, hfz48_1, hfz48_2, hfz48_3⟩ := f4 BK782))
        refine bodyPost_ret (results_ct rfl _ _ gb782 25 #[.int .i64 0, .int .i64 0, .int .i64 0, .int .i64 0] (0, 0) _ rfl (bkp BK782) Try.underlying25 rfl (by kernel_rfl)) rfl ?_
        exact endB HB
    · replace c7 := Bool.eq_false_iff.mpr c7
      subst c7
      have H1 : (some (0, 0, 0, 0, false)) = some (r1, r2, r3, r4, r5) := by rw [if_neg (show ¬ (false = true) by decide)] at H; exact H
      clear H
      have H := H1
      clear H1
      simp only [Option.some.injEq, Prod.mk.injEq] at H
      obtain ⟨rfl, rfl, rfl, rfl, rfl⟩ := H
      go_enter Try.func44, Try.ntmps44
      go_wp2_with (first | ((with_reducible refine gate_dst (N := 2) rfl ?_); refine bxe (N := 2) (cs := #[.int .i64 a0_0, .int .i64 a0_1, .int .i64 a0_2, .int .i64 a0_3]) (t := 25) ?_; intro gb781 hg w49 hbox hb; have BK781 := Aside0.mk (hbox); have GW781 := lsz hg HB; have GE781 := lsz hg HB; replace HB := bst HB hb; clear hb hbox hg) | ((with_reducible refine gate_dst (N := 4) rfl ?_); refine bxe (N := 4) (cs := #[.int .i64 0, .int .i64 0, .int .i64 0, .int .i64 0]) (t := 25) ?_; intro gb782 hg w50 hbox hb; have BK782 := Aside0.mk (hbox); have GW782 := lsz hg HB; have GE782 := lsz hg HB; replace HB := bst HB hb; have NB781_782 := nlt hg BK781; have NB782_781 := ngt hg BK781; replace BK781 := bkb BK781 hb; clear hb hbox hg; have hnb51 := NB781_782.out; have hnc51 := NB782_781.out; obtain ⟨hcz52_0, hcz52_1, hcz52_2, hcz52_3⟩ := e4 BK781; obtain ⟨hfz52_0, hfz52_1, hfz52_2, hfz52_3⟩ := f4 BK781) | ((with_reducible refine gate_callee (f := 68) rfl ?_); refine gol (some 14) Try.func68 #[.agg #[.int .i64 a0_0, .int .i64 a0_1], .int .i64 a1] ?_; (with_reducible refine (bocageref02_Shift.calls k a0_0 a0_1 a1 t783 t784 false _ A3.out).mono ?_); rintro e w53 ⟨rfl, hb⟩; refine ⟨_, rfl, ?_⟩; replace BK781 := bkb BK781 hb; replace BK782 := bkb BK782 hb; replace HB := bst HB hb; (try clear hb); (try clear hb2); (try clear hk); (try clear hi)) | ((with_reducible refine gate_dst (N := 6) rfl ?_); refine bxe (N := 6) (cs := #[.int .i64 0, .int .i64 0]) (t := 23) ?_; intro gb786 hg w54 hbox hb; have BK786 := Aside0.mk (hbox); have GW786 := lsz hg HB; have GE786 := lsz hg HB; replace HB := bst HB hb; have NB781_786 := nlt hg BK781; have NB786_781 := ngt hg BK781; replace BK781 := bkb BK781 hb; have NB782_786 := nlt hg BK782; have NB786_782 := ngt hg BK782; replace BK782 := bkb BK782 hb; clear hb hbox hg; have hnb55 := NB786_781.out; have hnc55 := NB781_786.out; have hnb56 := NB786_782.out; have hnc56 := NB782_786.out; obtain ⟨hcz57_0, hcz57_1⟩ := e2 BK786; obtain ⟨hfz57_0, hfz57_1⟩ := f2 BK786; obtain ⟨hcz58_0, hcz58_1, hcz58_2, hcz58_3⟩ := e4 BK781; obtain ⟨hfz58_0, hfz58_1, hfz58_2, hfz58_3⟩ := f4 BK781) | ((with_reducible refine gate_callee (f := 68) rfl ?_); refine gol (some 21) Try.func68 #[.agg #[.int .i64 a0_2, .int .i64 a0_3], .int .i64 a1] ?_; (with_reducible refine (bocageref02_Shift.calls k a0_2 a0_3 a1 t787 t788 t789 _ A4.out).mono ?_); rintro e w59 ⟨rfl, hb⟩; refine ⟨_, rfl, ?_⟩; replace BK781 := Aside0.mk (blk_below (bkf BK781 NB781_786) hb); replace BK782 := Aside0.mk (blk_below (bkf BK782 NB782_786) hb); replace BK786 := Aside0.mk (blk_below (g := gb786) (o := .cells #[.int .i64 t783, .int .i64 t784] 23 (0, 0)) (bkp BK786) hb); replace HB := bst HB hb; (try clear hb); (try clear hb2); (try clear hk); (try clear hi)) | ((with_reducible refine gate_dst (N := 8) rfl ?_); refine bxe (N := 8) (cs := #[.int .i64 0, .int .i64 0]) (t := 23) ?_; intro gb790 hg w60 hbox hb; have BK790 := Aside0.mk (hbox); have GW790 := lsz hg HB; have GE790 := lsz hg HB; replace HB := bst HB hb; have NB781_790 := nlt hg BK781; have NB790_781 := ngt hg BK781; replace BK781 := bkb BK781 hb; have NB782_790 := nlt hg BK782; have NB790_782 := ngt hg BK782; replace BK782 := bkb BK782 hb; have NB786_790 := nlt hg BK786; have NB790_786 := ngt hg BK786; replace BK786 := bkb BK786 hb; clear hb hbox hg; have hnb61 := NB790_781.out; have hnc61 := NB781_790.out; have hnb62 := NB790_782.out; have hnc62 := NB782_790.out; have hnb63 := NB790_786.out; have hnc63 := NB786_790.out; obtain ⟨hcz64_0, hcz64_1⟩ := e2 BK790; obtain ⟨hfz64_0, hfz64_1⟩ := f2 BK790; obtain ⟨hcz65_0, hcz65_1, hcz65_2, hcz65_3⟩ := e4 BK781; obtain ⟨hfz65_0, hfz65_1, hfz65_2, hfz65_3⟩ := f4 BK781) | ((with_reducible refine gate_callee (f := 12) rfl ?_); refine gol (some 25) Try.func12 #[.agg #[.int .i64 a0_0, .int .i64 a0_1, .int .i64 a0_2, .int .i64 a0_3]] ?_; (with_reducible refine (bocageref03_Right.calls k a0_0 a0_1 a0_2 a0_3 true _ A5.out).mono ?_); rintro e w66 ⟨rfl, hb⟩; refine ⟨_, rfl, ?_⟩; replace BK781 := Aside0.mk (blk_below (bkf BK781 NB781_790) hb); replace BK782 := Aside0.mk (blk_below (bkf BK782 NB782_790) hb); replace BK786 := Aside0.mk (blk_below (bkf BK786 NB786_790) hb); replace BK790 := Aside0.mk (blk_below (g := gb790) (o := .cells #[.int .i64 t787, .int .i64 t788] 23 (0, 0)) (bkp BK790) hb); replace HB := bst HB hb; (try clear hb); (try clear hb2); (try clear hk); (try clear hi); obtain ⟨hcz67_0, hcz67_1, hcz67_2, hcz67_3⟩ := e4 BK782; obtain ⟨hfz67_0, hfz67_1, hfz67_2, hfz67_3⟩ := f4 BK782))
      refine bodyPost_ret (results_ct rfl _ _ gb782 25 #[.int .i64 0, .int .i64 0, .int .i64 0, .int .i64 0] (0, 0) _ rfl (bkp BK782) Try.underlying25 rfl (by kernel_rfl)) rfl ?_
      exact endB HB
  · replace c6 := Bool.eq_false_iff.mpr c6
    subst c6
    have H1 : (some (0, 0, 0, 0, false)) = some (r1, r2, r3, r4, r5) := by rw [if_neg (show ¬ (false = true) by decide)] at H; exact H
    clear H
    have H := H1
    clear H1
    simp only [Option.some.injEq, Prod.mk.injEq] at H
    obtain ⟨rfl, rfl, rfl, rfl, rfl⟩ := H
    go_enter Try.func44, Try.ntmps44
    go_wp2_with (first | ((with_reducible refine gate_dst (N := 2) rfl ?_); refine bxe (N := 2) (cs := #[.int .i64 a0_0, .int .i64 a0_1, .int .i64 a0_2, .int .i64 a0_3]) (t := 25) ?_; intro gb781 hg w68 hbox hb; have BK781 := Aside0.mk (hbox); have GW781 := lsz hg HB; have GE781 := lsz hg HB; replace HB := bst HB hb; clear hb hbox hg) | ((with_reducible refine gate_dst (N := 4) rfl ?_); refine bxe (N := 4) (cs := #[.int .i64 0, .int .i64 0, .int .i64 0, .int .i64 0]) (t := 25) ?_; intro gb782 hg w69 hbox hb; have BK782 := Aside0.mk (hbox); have GW782 := lsz hg HB; have GE782 := lsz hg HB; replace HB := bst HB hb; have NB781_782 := nlt hg BK781; have NB782_781 := ngt hg BK781; replace BK781 := bkb BK781 hb; clear hb hbox hg; have hnb70 := NB781_782.out; have hnc70 := NB782_781.out; obtain ⟨hcz71_0, hcz71_1, hcz71_2, hcz71_3⟩ := e4 BK781; obtain ⟨hfz71_0, hfz71_1, hfz71_2, hfz71_3⟩ := f4 BK781) | ((with_reducible refine gate_callee (f := 68) rfl ?_); refine gol (some 14) Try.func68 #[.agg #[.int .i64 a0_0, .int .i64 a0_1], .int .i64 a1] ?_; (with_reducible refine (bocageref02_Shift.calls k a0_0 a0_1 a1 t783 t784 t785 _ A3.out).mono ?_); rintro e w72 ⟨rfl, hb⟩; refine ⟨_, rfl, ?_⟩; replace BK781 := bkb BK781 hb; replace BK782 := bkb BK782 hb; replace HB := bst HB hb; (try clear hb); (try clear hb2); (try clear hk); (try clear hi)) | ((with_reducible refine gate_dst (N := 6) rfl ?_); refine bxe (N := 6) (cs := #[.int .i64 0, .int .i64 0]) (t := 23) ?_; intro gb786 hg w73 hbox hb; have BK786 := Aside0.mk (hbox); have GW786 := lsz hg HB; have GE786 := lsz hg HB; replace HB := bst HB hb; have NB781_786 := nlt hg BK781; have NB786_781 := ngt hg BK781; replace BK781 := bkb BK781 hb; have NB782_786 := nlt hg BK782; have NB786_782 := ngt hg BK782; replace BK782 := bkb BK782 hb; clear hb hbox hg; have hnb74 := NB786_781.out; have hnc74 := NB781_786.out; have hnb75 := NB786_782.out; have hnc75 := NB782_786.out; obtain ⟨hcz76_0, hcz76_1⟩ := e2 BK786; obtain ⟨hfz76_0, hfz76_1⟩ := f2 BK786; obtain ⟨hcz77_0, hcz77_1, hcz77_2, hcz77_3⟩ := e4 BK781; obtain ⟨hfz77_0, hfz77_1, hfz77_2, hfz77_3⟩ := f4 BK781) | ((with_reducible refine gate_callee (f := 68) rfl ?_); refine gol (some 21) Try.func68 #[.agg #[.int .i64 a0_2, .int .i64 a0_3], .int .i64 a1] ?_; (with_reducible refine (bocageref02_Shift.calls k a0_2 a0_3 a1 t787 t788 t789 _ A4.out).mono ?_); rintro e w78 ⟨rfl, hb⟩; refine ⟨_, rfl, ?_⟩; replace BK781 := Aside0.mk (blk_below (bkf BK781 NB781_786) hb); replace BK782 := Aside0.mk (blk_below (bkf BK782 NB782_786) hb); replace BK786 := Aside0.mk (blk_below (g := gb786) (o := .cells #[.int .i64 t783, .int .i64 t784] 23 (0, 0)) (bkp BK786) hb); replace HB := bst HB hb; (try clear hb); (try clear hb2); (try clear hk); (try clear hi)) | ((with_reducible refine gate_dst (N := 8) rfl ?_); refine bxe (N := 8) (cs := #[.int .i64 0, .int .i64 0]) (t := 23) ?_; intro gb790 hg w79 hbox hb; have BK790 := Aside0.mk (hbox); have GW790 := lsz hg HB; have GE790 := lsz hg HB; replace HB := bst HB hb; have NB781_790 := nlt hg BK781; have NB790_781 := ngt hg BK781; replace BK781 := bkb BK781 hb; have NB782_790 := nlt hg BK782; have NB790_782 := ngt hg BK782; replace BK782 := bkb BK782 hb; have NB786_790 := nlt hg BK786; have NB790_786 := ngt hg BK786; replace BK786 := bkb BK786 hb; clear hb hbox hg; have hnb80 := NB790_781.out; have hnc80 := NB781_790.out; have hnb81 := NB790_782.out; have hnc81 := NB782_790.out; have hnb82 := NB790_786.out; have hnc82 := NB786_790.out; obtain ⟨hcz83_0, hcz83_1⟩ := e2 BK790; obtain ⟨hfz83_0, hfz83_1⟩ := f2 BK790; obtain ⟨hcz84_0, hcz84_1, hcz84_2, hcz84_3⟩ := e4 BK781; obtain ⟨hfz84_0, hfz84_1, hfz84_2, hfz84_3⟩ := f4 BK781) | ((with_reducible refine gate_callee (f := 12) rfl ?_); refine gol (some 25) Try.func12 #[.agg #[.int .i64 a0_0, .int .i64 a0_1, .int .i64 a0_2, .int .i64 a0_3]] ?_; (with_reducible refine (bocageref03_Right.calls k a0_0 a0_1 a0_2 a0_3 false _ A5.out).mono ?_); rintro e w85 ⟨rfl, hb⟩; refine ⟨_, rfl, ?_⟩; replace BK781 := Aside0.mk (blk_below (bkf BK781 NB781_790) hb); replace BK782 := Aside0.mk (blk_below (bkf BK782 NB782_790) hb); replace BK786 := Aside0.mk (blk_below (bkf BK786 NB786_790) hb); replace BK790 := Aside0.mk (blk_below (g := gb790) (o := .cells #[.int .i64 t787, .int .i64 t788] 23 (0, 0)) (bkp BK790) hb); replace HB := bst HB hb; (try clear hb); (try clear hb2); (try clear hk); (try clear hi); obtain ⟨hcz86_0, hcz86_1, hcz86_2, hcz86_3⟩ := e4 BK782; obtain ⟨hfz86_0, hfz86_1, hfz86_2, hfz86_3⟩ := f4 BK782))
    refine bodyPost_ret (results_ct rfl _ _ gb782 25 #[.int .i64 0, .int .i64 0, .int .i64 0, .int .i64 0] (0, 0) _ rfl (bkp BK782) Try.underlying25 rfl (by kernel_rfl)) rfl ?_
    exact endB HB
end Go.Proofs.Ytkkbmjfhpngalaa.Print
