-- Laid by wip/print/bprint.py of this repo, over the kit's printer, with functions given by hand; not trusted: Lean checks it.
import Derived.Test.YtkkbmjfhpngalaaPrint0
import Derived.Test.YtkkbmjfhpngalaaSh
namespace Go.Proofs.Ytkkbmjfhpngalaa.Print
open Go.RowKit Go.Proofs.YtkkbmjfhpngalaaW.PrintWords Go.Proofs.YtkkbmjfhpngalaaW.PrintLast Go.Proofs.YtkkbmjfhpngalaaW.PrintMore
attribute [local go_sem] max2_int min2_int max_two min_two max_three min_three max_four min_four   -- for this text's walks alone
set_option linter.unusedVariables false
set_option linter.unusedSimpArgs false
/-! ### bocageref02_Least64: function 62 -/
def bocageref02_Least64.f  : Option (Int) := some (-9223372036854775808)
set_option maxHeartbeats 8000000 in
set_option maxRecDepth 100000 in
theorem bocageref02_Least64.calls  (r : Int) (w : World) (h : bocageref02_Least64.f  = some r) :
    Calls Try.prog 62 #[] w fun e w' => e = .returned (.int .i64 r) ∧ Drawn0 w w' := by
  have H : (some (-9223372036854775808)) = some r := h
  clear h
  obtain rfl := Option.some.inj H
  go_enter Try.func62, Try.ntmps62
  go_wp2
  go_ret
  exact ⟨by first | rfl | (simp; done) | (simp [*]; done), by repeat (first | exact Drawn0.refl _ | apply Drawn0.step)⟩
/-! ### bocageref02_Canon: function 48 -/
def bocageref02_Canon.j0 : Nat → Bool → Int → Int → Option (Int × Int)
  | 0, _, _, _ => none
  | k + 1, x16, x102000, x102001 => if x16 = true then (some ((-1), 0)) else (if x102000 > 0 then (some (1, 0)) else (some (x102000, x102001)))
def bocageref02_Canon.f (k : Nat) (a0_0 : Int) (a0_1 : Int) : Option (Int × Int) := if a0_0 < 0 then (bocageref02_Canon.j0 k true a0_0 a0_1) else (if a0_0 = 0 then ((bocageref02_Least64.f).bind fun t103 => (bocageref02_Canon.j0 k (a0_1 == t103) a0_0 a0_1)) else (bocageref02_Canon.j0 k false a0_0 a0_1))
theorem bocageref02_Canon.mono_l : ∀ k, (∀ y0 y1 y2, LeO (bocageref02_Canon.j0 k y0 y1 y2) (bocageref02_Canon.j0 (k + 1) y0 y1 y2))
  | 0 => fun _ _ _ r h => by simp [bocageref02_Canon.j0] at h
  | k + 1 => by
    have ih0 := bocageref02_Canon.mono_l k
    · intro y0 y1 y2
      unfold bocageref02_Canon.j0
      repeat' first
      | (with_reducible exact ih0 _ _ _)
      | (with_reducible exact LeO.refl _)
      | (with_reducible exact LeO.none _)
      | (with_reducible refine LeO.ite ?_ ?_)
      | (with_reducible refine LeO.bind ?_ (fun _ => ?_))
      | exact ih0 _ _ _
      | exact LeO.none _
      | refine LeO.ite ?_ ?_
      | refine LeO.bind ?_ (fun _ => ?_)
theorem bocageref02_Canon.mono : ∀ a0 a1 k, LeO (bocageref02_Canon.f k a0 a1) (bocageref02_Canon.f (k + 1) a0 a1) := by
  intro a0 a1 k
  have ih0 := bocageref02_Canon.mono_l k
  unfold bocageref02_Canon.f
  repeat' first
      | (with_reducible exact ih0 _ _ _)
      | (with_reducible exact LeO.refl _)
      | (with_reducible exact LeO.none _)
      | (with_reducible refine LeO.ite ?_ ?_)
      | (with_reducible refine LeO.bind ?_ (fun _ => ?_))
      | exact ih0 _ _ _
      | exact LeO.none _
      | refine LeO.ite ?_ ?_
      | refine LeO.bind ?_ (fun _ => ?_)
set_option maxHeartbeats 8000000 in
set_option maxRecDepth 100000 in
theorem bocageref02_Canon.calls (k : Nat) (a0_0 : Int) (a0_1 : Int) (r1 : Int) (r2 : Int) (w : World) (h : bocageref02_Canon.f k a0_0 a0_1 = some (r1, r2)) :
    Calls Try.prog 48 #[.agg #[.int .i64 a0_0, .int .i64 a0_1]] w fun e w' => e = .returned (.agg #[.int .i64 r1, .int .i64 r2]) ∧ Below w.heap.size w w' := by
  have hu23 := Try.underlying23
  have HB := Aside0.mk (Below.refl w.heap.size w)
  have H : (if a0_0 < 0 then (bocageref02_Canon.j0 k true a0_0 a0_1) else (if a0_0 = 0 then ((bocageref02_Least64.f).bind fun t103 => (bocageref02_Canon.j0 k (a0_1 == t103) a0_0 a0_1)) else (bocageref02_Canon.j0 k false a0_0 a0_1))) = some (r1, r2) := h
  clear h
  have HC2 := Aside0.mk H
  clear H
  go_enter Try.func48, Try.ntmps48
  go_upto_region 1 with (first | ((with_reducible refine gate_dst (N := 1) rfl ?_); refine bxe (N := 1) (cs := #[.int .i64 a0_0, .int .i64 a0_1]) (t := 23) ?_; intro gb101 hg w3 hbox hb; have BK101 := Aside0.mk (hbox); have GW101 := lsz hg HB; have GE101 := lsz hg HB; replace HB := bst HB hb; clear hb hbox hg) | ((with_reducible refine gate_dst (N := 2) rfl ?_); refine bxe (N := 2) (cs := #[.int .i64 0, .int .i64 0]) (t := 23) ?_; intro gb102 hg w4 hbox hb; have BK102 := Aside0.mk (hbox); have GW102 := lsz hg HB; have GE102 := lsz hg HB; replace HB := bst HB hb; have NB101_102 := nlt hg BK101; have NB102_101 := ngt hg BK101; replace BK101 := bkb BK101 hb; clear hb hbox hg))
  repeat (go_quiet (first | ((with_reducible refine gate_dst (N := 1) rfl ?_); refine bxe (N := 1) (cs := #[.int .i64 a0_0, .int .i64 a0_1]) (t := 23) ?_; intro gb101 hg w3 hbox hb; have BK101 := Aside0.mk (hbox); have GW101 := lsz hg HB; have GE101 := lsz hg HB; replace HB := bst HB hb; clear hb hbox hg) | ((with_reducible refine gate_dst (N := 2) rfl ?_); refine bxe (N := 2) (cs := #[.int .i64 0, .int .i64 0]) (t := 23) ?_; intro gb102 hg w4 hbox hb; have BK102 := Aside0.mk (hbox); have GW102 := lsz hg HB; have GE102 := lsz hg HB; replace HB := bst HB hb; have NB101_102 := nlt hg BK101; have NB102_101 := ngt hg BK101; replace BK101 := bkb BK101 hb; clear hb hbox hg)); go_upto_region 1 with (first | ((with_reducible refine gate_dst (N := 1) rfl ?_); refine bxe (N := 1) (cs := #[.int .i64 a0_0, .int .i64 a0_1]) (t := 23) ?_; intro gb101 hg w3 hbox hb; have BK101 := Aside0.mk (hbox); have GW101 := lsz hg HB; have GE101 := lsz hg HB; replace HB := bst HB hb; clear hb hbox hg) | ((with_reducible refine gate_dst (N := 2) rfl ?_); refine bxe (N := 2) (cs := #[.int .i64 0, .int .i64 0]) (t := 23) ?_; intro gb102 hg w4 hbox hb; have BK102 := Aside0.mk (hbox); have GW102 := lsz hg HB; have GE102 := lsz hg HB; replace HB := bst HB hb; have NB101_102 := nlt hg BK101; have NB102_101 := ngt hg BK101; replace BK101 := bkb BK101 hb; clear hb hbox hg)))
  (try simp only [Act.put, List.setIfInBounds_toArray, List.set_cons_zero, List.set_cons_succ])
  go_cut [16] (fun v16 wc => ∃ (kq : Nat) (x16_1 : Bool), v16 = .bool x16_1 ∧ Aside0 (bocageref02_Canon.j0 kq x16_1 a0_0 a0_1 = some (r1, r2)) ∧ Aside0 (kq ≤ k) ∧ Aside0 (wc.heap[gb101]? = some (.cells #[.int .i64 a0_0, .int .i64 a0_1] 23 (0, 0))) ∧ Aside0 (wc.heap[gb102]? = some (.cells #[.int .i64 0, .int .i64 0] 23 (0, 0))) ∧ Aside0 (Below w.heap.size w wc))
  case first =>
    have H := HC2.out
    clear HC2
    by_cases c5 : a0_0 < 0
    · rw [if_pos c5] at H
      have c5b0 : decide (a0_0 < 0) = true := decide_eq_true c5
      clear c5
      (first | rw [c5b0] | (simp only [i64_w, i32_w]; rw [c5b0]) | skip)
      have H' := Aside0.mk H
      clear H
      have hnb6 := NB101_102.out
      have hnc6 := NB102_101.out
      have hcz7_0 : w4.cell? ⟨gb101, 0, none⟩ = some (.int .i64 a0_0) := (blk_cell BK101.out 0).trans rfl
      have hcz7_1 : w4.cell? ⟨gb101, 1, none⟩ = some (.int .i64 a0_1) := (blk_cell BK101.out 1).trans rfl
      have hfz7_0 := blk_frozen BK101.out 0
      have hfz7_1 := blk_frozen BK101.out 1
      go_wp2
      repeat (go_quiet (fail); try go_wp2)
      go_meet
      case rel => exact ⟨_, (true), (by first | rfl | (simp; done) | (simp [*]; done)), H', ⟨by first | omega | exact Nat.le_refl _⟩, ⟨bk BK101⟩, ⟨bk BK102⟩, ⟨bl HB⟩⟩
    · rw [if_neg c5] at H
      have c5b0 : decide (a0_0 < 0) = false := decide_eq_false c5
      clear c5
      (first | rw [c5b0] | (simp only [i64_w, i32_w]; rw [c5b0]) | skip)
      by_cases c8 : a0_0 = 0
      · rw [if_pos c8] at H
        have c8b0 : (a0_0 == 0) = true := beq_iff_eq.mpr c8
        have c8b1 : (a0_0 != 0) = false := bne_eq_false_iff_eq.mpr c8
        clear c8
        replace H := Option.bind_eq_some_iff.mp H
        obtain ⟨t103, A90, H⟩ := H
        (try (set_option simprocs false in dsimp only at H))
        have A9 := Aside0.mk A90
        clear A90
        have H' := Aside0.mk H
        clear H
        have hnb10 := NB101_102.out
        have hnc10 := NB102_101.out
        have hcz11_0 : w4.cell? ⟨gb101, 0, none⟩ = some (.int .i64 a0_0) := (blk_cell BK101.out 0).trans rfl
        have hcz11_1 : w4.cell? ⟨gb101, 1, none⟩ = some (.int .i64 a0_1) := (blk_cell BK101.out 1).trans rfl
        have hfz11_0 := blk_frozen BK101.out 0
        have hfz11_1 := blk_frozen BK101.out 1
        go_wp2_with (first | (go_at_call 62; (with_reducible refine (bocageref02_Least64.calls  t103 _ A9.out).mono ?_); rintro e w' ⟨rfl, ⟨nd, rfl⟩⟩; (try first | exact ⟨rfl, _, World.drewN_drewN _ _ _⟩ | exact ⟨rfl, _, Eq.trans (World.drewN_drewN _ _ _) (congrArg (World.drewN _) (Nat.add_assoc _ _ _))⟩)))
        repeat (go_quiet (first | (go_at_call 62; (with_reducible refine (bocageref02_Least64.calls  t103 _ A9.out).mono ?_); rintro e w' ⟨rfl, ⟨nd, rfl⟩⟩; (try first | exact ⟨rfl, _, World.drewN_drewN _ _ _⟩ | exact ⟨rfl, _, Eq.trans (World.drewN_drewN _ _ _) (congrArg (World.drewN _) (Nat.add_assoc _ _ _))⟩))); try go_wp2_with (first | (go_at_call 62; (with_reducible refine (bocageref02_Least64.calls  t103 _ A9.out).mono ?_); rintro e w' ⟨rfl, ⟨nd, rfl⟩⟩; (try first | exact ⟨rfl, _, World.drewN_drewN _ _ _⟩ | exact ⟨rfl, _, Eq.trans (World.drewN_drewN _ _ _) (congrArg (World.drewN _) (Nat.add_assoc _ _ _))⟩))))
        go_meet
        case rel => exact ⟨_, ((a0_1 == t103)), (by first | rfl | (simp; done) | (simp [*]; done)), H', ⟨by first | omega | exact Nat.le_refl _⟩, ⟨bk BK101⟩, ⟨bk BK102⟩, ⟨bl HB⟩⟩
      · rw [if_neg c8] at H
        have c8b0 : (a0_0 == 0) = false := beq_eq_false_iff_ne.mpr c8
        have c8b1 : (a0_0 != 0) = true := bne_iff_ne.mpr c8
        have H' := Aside0.mk H
        clear H
        have hnb12 := NB101_102.out
        have hnc12 := NB102_101.out
        have hcz13_0 : w4.cell? ⟨gb101, 0, none⟩ = some (.int .i64 a0_0) := (blk_cell BK101.out 0).trans rfl
        have hcz13_1 : w4.cell? ⟨gb101, 1, none⟩ = some (.int .i64 a0_1) := (blk_cell BK101.out 1).trans rfl
        have hfz13_0 := blk_frozen BK101.out 0
        have hfz13_1 := blk_frozen BK101.out 1
        go_wp2
        repeat (go_quiet (fail); try go_wp2)
        go_meet
        case rel => exact ⟨_, (false), (by first | rfl | (simp; done) | (simp [*]; done)), H', ⟨by first | omega | exact Nat.le_refl _⟩, ⟨bk BK101⟩, ⟨bk BK102⟩, ⟨bl HB⟩⟩
  case rest =>
    clear HC2
    try clear c1
    try clear p2
    try clear c4
    try clear c5
    try clear c5b0
    try clear c6
    try clear c8
    try clear c8b0
    try clear c8b1
    try clear c10
    try clear c12
    try clear hcz11_0
    try clear hcz11_1
    try clear hcz13_0
    try clear hcz13_1
    try clear hcz7_0
    try clear hcz7_1
    try clear hfz11_0
    try clear hfz11_1
    try clear hfz13_0
    try clear hfz13_1
    try clear hfz7_0
    try clear hfz7_1
    obtain ⟨kq, x16_1, rfl, HA, HJ1, BK101, BK102, HB⟩ := hcut
    cases kq with
    | zero => exact absurd HA.out (by simp [bocageref02_Canon.j0])
    | succ kj1 =>
      have H := HA.out
      clear HA
      simp only [bocageref02_Canon.j0] at H
      by_cases c14 : x16_1 = true
      · subst c14
        have H1 : (some ((-1), 0)) = some (r1, r2) := by rw [if_pos rfl] at H; exact H
        clear H
        have H := H1
        clear H1
        simp only [Option.some.injEq, Prod.mk.injEq] at H
        obtain ⟨rfl, rfl⟩ := H
        have hnb15 := NB102_101.out
        have hnc15 := NB101_102.out
        have hcz16_0 : wc.cell? ⟨gb102, 0, none⟩ = some (.int .i64 0) := (blk_cell BK102.out 0).trans rfl
        have hcz16_1 : wc.cell? ⟨gb102, 1, none⟩ = some (.int .i64 0) := (blk_cell BK102.out 1).trans rfl
        have hfz16_0 := blk_frozen BK102.out 0
        have hfz16_1 := blk_frozen BK102.out 1
        go_wp2
        repeat (go_quiet (fail); try go_wp2)
        refine bodyPost_ret (results_cell_row rfl _ _ gb102 23 #[.int .i64 (-1), .int .i64 0] (0, 0) _ rfl (bkp BK102) Try.underlying23 rfl (by kernel_rfl)) rfl ?_
        exact endB HB
      · replace c14 := Bool.eq_false_iff.mpr c14
        subst c14
        have H1 : (if a0_0 > 0 then (some (1, 0)) else (some (a0_0, a0_1))) = some (r1, r2) := by rw [if_neg (show ¬ (false = true) by decide)] at H; exact H
        clear H
        have H := H1
        clear H1
        by_cases c17 : a0_0 > 0
        · rw [if_pos c17] at H
          have c17b0 : decide (0 < a0_0) = true := decide_eq_true c17
          clear c17
          simp only [Option.some.injEq, Prod.mk.injEq] at H
          obtain ⟨rfl, rfl⟩ := H
          have hnb18 := NB101_102.out
          have hnc18 := NB102_101.out
          have hcz19_0 : wc.cell? ⟨gb101, 0, none⟩ = some (.int .i64 a0_0) := (blk_cell BK101.out 0).trans rfl
          have hcz19_1 : wc.cell? ⟨gb101, 1, none⟩ = some (.int .i64 a0_1) := (blk_cell BK101.out 1).trans rfl
          have hfz19_0 := blk_frozen BK101.out 0
          have hfz19_1 := blk_frozen BK101.out 1
          have hcz20_0 : wc.cell? ⟨gb102, 0, none⟩ = some (.int .i64 0) := (blk_cell BK102.out 0).trans rfl
          have hcz20_1 : wc.cell? ⟨gb102, 1, none⟩ = some (.int .i64 0) := (blk_cell BK102.out 1).trans rfl
          have hfz20_0 := blk_frozen BK102.out 0
          have hfz20_1 := blk_frozen BK102.out 1
          go_wp2
          repeat (go_quiet (fail); try go_wp2)
          refine bodyPost_ret (results_cell_row rfl _ _ gb102 23 #[.int .i64 1, .int .i64 0] (0, 0) _ rfl (bkp BK102) Try.underlying23 rfl (by kernel_rfl)) rfl ?_
          exact endB HB
        · rw [if_neg c17] at H
          have c17b0 : decide (0 < a0_0) = false := decide_eq_false c17
          clear c17
          simp only [Option.some.injEq, Prod.mk.injEq] at H
          obtain ⟨rfl, rfl⟩ := H
          have hnb21 := NB101_102.out
          have hnc21 := NB102_101.out
          have hcz22_0 : wc.cell? ⟨gb101, 0, none⟩ = some (.int .i64 a0_0) := (blk_cell BK101.out 0).trans rfl
          have hcz22_1 : wc.cell? ⟨gb101, 1, none⟩ = some (.int .i64 a0_1) := (blk_cell BK101.out 1).trans rfl
          have hfz22_0 := blk_frozen BK101.out 0
          have hfz22_1 := blk_frozen BK101.out 1
          have hcz23_0 : wc.cell? ⟨gb102, 0, none⟩ = some (.int .i64 0) := (blk_cell BK102.out 0).trans rfl
          have hcz23_1 : wc.cell? ⟨gb102, 1, none⟩ = some (.int .i64 0) := (blk_cell BK102.out 1).trans rfl
          have hfz23_0 := blk_frozen BK102.out 0
          have hfz23_1 := blk_frozen BK102.out 1
          go_wp2
          repeat (go_quiet (fail); try go_wp2)
          refine bodyPost_ret (results_cell_row rfl _ _ gb102 23 #[.int .i64 a0_0, .int .i64 a0_1] (0, 0) _ rfl (bkp BK102) Try.underlying23 rfl (by kernel_rfl)) rfl ?_
          exact endB HB
/-! ### bocageref02_Less: function 49 -/
def bocageref02_Less.f (k : Nat) (a0_0 : Int) (a0_1 : Int) (a1_0 : Int) (a1_1 : Int) : Option (Bool) := (bocageref02_Canon.f k a0_0 a0_1).bind fun bt110 => ((bocageref02_Canon.f k a1_0 a1_1).bind fun bt112 => (if bt110.1 = bt112.1 then (some (decide (bt110.2 < bt112.2))) else (some (decide (bt110.1 < bt112.1)))))
theorem bocageref02_Less.mono : ∀ a0 a1 a2 a3 k, LeO (bocageref02_Less.f k a0 a1 a2 a3) (bocageref02_Less.f (k + 1) a0 a1 a2 a3) := by
  intro a0 a1 a2 a3 k
  unfold bocageref02_Less.f
  repeat' first
      | (with_reducible exact bocageref02_Canon.mono _ _ _)
      | (with_reducible exact LeO.refl _)
      | (with_reducible exact LeO.none _)
      | (with_reducible refine LeO.ite ?_ ?_)
      | (with_reducible refine LeO.bind ?_ (fun _ => ?_))
      | exact bocageref02_Canon.mono _ _ _
      | exact LeO.none _
      | refine LeO.ite ?_ ?_
      | refine LeO.bind ?_ (fun _ => ?_)
set_option maxHeartbeats 8000000 in
set_option maxRecDepth 100000 in
theorem bocageref02_Less.calls (k : Nat) (a0_0 : Int) (a0_1 : Int) (a1_0 : Int) (a1_1 : Int) (r : Bool) (w : World) (h : bocageref02_Less.f k a0_0 a0_1 a1_0 a1_1 = some r) :
    Calls Try.prog 49 #[.agg #[.int .i64 a0_0, .int .i64 a0_1], .agg #[.int .i64 a1_0, .int .i64 a1_1]] w fun e w' => e = .returned (.bool r) ∧ Below w.heap.size w w' := by
  have hu23 := Try.underlying23
  have HB := Aside0.mk (Below.refl w.heap.size w)
  have H : ((bocageref02_Canon.f k a0_0 a0_1).bind fun bt110 => ((bocageref02_Canon.f k a1_0 a1_1).bind fun bt112 => (if bt110.1 = bt112.1 then (some (decide (bt110.2 < bt112.2))) else (some (decide (bt110.1 < bt112.1)))))) = some r := h
  clear h
  replace H := Option.bind_eq_some_iff.mp H
  obtain ⟨⟨t110, t111⟩, A30, H⟩ := H
  (try (set_option simprocs false in dsimp only at H))
  have A3 := Aside0.mk A30
  clear A30
  replace H := Option.bind_eq_some_iff.mp H
  obtain ⟨⟨t112, t113⟩, A40, H⟩ := H
  (try (set_option simprocs false in dsimp only at H))
  have A4 := Aside0.mk A40
  clear A40
  by_cases c5 : t110 = t112
  · rw [if_pos c5] at H
    have c5b0 : (t110 == t112) = true := beq_iff_eq.mpr c5
    have c5b1 : (t110 != t112) = false := bne_eq_false_iff_eq.mpr c5
    clear c5
    obtain rfl := Option.some.inj H
    go_enter Try.func49, Try.ntmps49
    go_wp2_with (first | ((with_reducible refine gate_dst (N := 2) rfl ?_); refine bxe (N := 2) (cs := #[.int .i64 a0_0, .int .i64 a0_1]) (t := 23) ?_; intro gb108 hg w6 hbox hb; have BK108 := Aside0.mk (hbox); have GW108 := lsz hg HB; have GE108 := lsz hg HB; replace HB := bst HB hb; clear hb hbox hg) | ((with_reducible refine gate_dst (N := 3) rfl ?_); refine bxe (N := 3) (cs := #[.int .i64 a1_0, .int .i64 a1_1]) (t := 23) ?_; intro gb109 hg w7 hbox hb; have BK109 := Aside0.mk (hbox); have GW109 := lsz hg HB; have GE109 := lsz hg HB; replace HB := bst HB hb; have NB108_109 := nlt hg BK108; have NB109_108 := ngt hg BK108; replace BK108 := bkb BK108 hb; clear hb hbox hg; have hnb8 := NB108_109.out; have hnc8 := NB109_108.out; obtain ⟨hcz9_0, hcz9_1⟩ := e2 BK108; obtain ⟨hfz9_0, hfz9_1⟩ := f2 BK108) | ((with_reducible refine gate_callee (f := 48) rfl ?_); refine gol (some 6) Try.func48 #[.agg #[.int .i64 a0_0, .int .i64 a0_1]] ?_; (with_reducible refine (bocageref02_Canon.calls k a0_0 a0_1 t110 t111 _ A3.out).mono ?_); rintro e w10 ⟨rfl, hb⟩; refine ⟨_, rfl, ?_⟩; replace BK108 := bkb BK108 hb; replace BK109 := bkb BK109 hb; replace HB := bst HB hb; (try clear hb); (try clear hb2); (try clear hk); (try clear hi); obtain ⟨hcz11_0, hcz11_1⟩ := e2 BK108; obtain ⟨hfz11_0, hfz11_1⟩ := f2 BK108; obtain ⟨hcz12_0, hcz12_1⟩ := e2 BK109; obtain ⟨hfz12_0, hfz12_1⟩ := f2 BK109) | ((with_reducible refine gate_callee (f := 48) rfl ?_); refine gol (some 8) Try.func48 #[.agg #[.int .i64 a1_0, .int .i64 a1_1]] ?_; (with_reducible refine (bocageref02_Canon.calls k a1_0 a1_1 t112 t113 _ A4.out).mono ?_); rintro e w13 ⟨rfl, hb⟩; refine ⟨_, rfl, ?_⟩; replace BK108 := Aside0.mk (blk_below (g := gb108) (o := .cells #[.int .i64 t110, .int .i64 t111] 23 (0, 0)) (bkp BK108) hb); replace BK109 := Aside0.mk (blk_below (bkf BK109 NB109_108) hb); replace HB := bst HB hb; (try clear hb); (try clear hb2); (try clear hk); (try clear hi); obtain ⟨hcz14_0, hcz14_1⟩ := e2 BK109; obtain ⟨hfz14_0, hfz14_1⟩ := f2 BK109; obtain ⟨hcz15_0, hcz15_1⟩ := e2 BK108; obtain ⟨hfz15_0, hfz15_1⟩ := f2 BK108))
    go_ret
    exact endB HB
  · rw [if_neg c5] at H
    have c5b0 : (t110 == t112) = false := beq_eq_false_iff_ne.mpr c5
    have c5b1 : (t110 != t112) = true := bne_iff_ne.mpr c5
    obtain rfl := Option.some.inj H
    go_enter Try.func49, Try.ntmps49
    go_wp2_with (first | ((with_reducible refine gate_dst (N := 2) rfl ?_); refine bxe (N := 2) (cs := #[.int .i64 a0_0, .int .i64 a0_1]) (t := 23) ?_; intro gb108 hg w16 hbox hb; have BK108 := Aside0.mk (hbox); have GW108 := lsz hg HB; have GE108 := lsz hg HB; replace HB := bst HB hb; clear hb hbox hg) | ((with_reducible refine gate_dst (N := 3) rfl ?_); refine bxe (N := 3) (cs := #[.int .i64 a1_0, .int .i64 a1_1]) (t := 23) ?_; intro gb109 hg w17 hbox hb; have BK109 := Aside0.mk (hbox); have GW109 := lsz hg HB; have GE109 := lsz hg HB; replace HB := bst HB hb; have NB108_109 := nlt hg BK108; have NB109_108 := ngt hg BK108; replace BK108 := bkb BK108 hb; clear hb hbox hg; have hnb18 := NB108_109.out; have hnc18 := NB109_108.out; obtain ⟨hcz19_0, hcz19_1⟩ := e2 BK108; obtain ⟨hfz19_0, hfz19_1⟩ := f2 BK108) | ((with_reducible refine gate_callee (f := 48) rfl ?_); refine gol (some 6) Try.func48 #[.agg #[.int .i64 a0_0, .int .i64 a0_1]] ?_; (with_reducible refine (bocageref02_Canon.calls k a0_0 a0_1 t110 t111 _ A3.out).mono ?_); rintro e w20 ⟨rfl, hb⟩; refine ⟨_, rfl, ?_⟩; replace BK108 := bkb BK108 hb; replace BK109 := bkb BK109 hb; replace HB := bst HB hb; (try clear hb); (try clear hb2); (try clear hk); (try clear hi); obtain ⟨hcz21_0, hcz21_1⟩ := e2 BK108; obtain ⟨hfz21_0, hfz21_1⟩ := f2 BK108; obtain ⟨hcz22_0, hcz22_1⟩ := e2 BK109; obtain ⟨hfz22_0, hfz22_1⟩ := f2 BK109) | ((with_reducible refine gate_callee (f := 48) rfl ?_); refine gol (some 8) Try.func48 #[.agg #[.int .i64 a1_0, .int .i64 a1_1]] ?_; (with_reducible refine (bocageref02_Canon.calls k a1_0 a1_1 t112 t113 _ A4.out).mono ?_); rintro e w23 ⟨rfl, hb⟩; refine ⟨_, rfl, ?_⟩; replace BK108 := Aside0.mk (blk_below (g := gb108) (o := .cells #[.int .i64 t110, .int .i64 t111] 23 (0, 0)) (bkp BK108) hb); replace BK109 := Aside0.mk (blk_below (bkf BK109 NB109_108) hb); replace HB := bst HB hb; (try clear hb); (try clear hb2); (try clear hk); (try clear hi); obtain ⟨hcz24_0, hcz24_1⟩ := e2 BK109; obtain ⟨hfz24_0, hfz24_1⟩ := f2 BK109; obtain ⟨hcz25_0, hcz25_1⟩ := e2 BK108; obtain ⟨hfz25_0, hfz25_1⟩ := f2 BK108))
    go_ret
    exact endB HB
end Go.Proofs.Ytkkbmjfhpngalaa.Print
