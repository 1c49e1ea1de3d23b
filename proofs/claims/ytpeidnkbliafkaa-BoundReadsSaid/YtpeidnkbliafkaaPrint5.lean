-- Laid by wip/print/bprint.py of this repo, over the kit's printer, with functions given by hand; not trusted: Lean checks it.
import Derived.Test.YtpeidnkbliafkaaPrint0
import Derived.Test.YtpeidnkbliafkaaPrint1
import Derived.Test.YtpeidnkbliafkaaSh2
namespace Go.Proofs.Ytpeidnkbliafkaa.Print
open Go.RowKit Go.Proofs.YtpeidnkbliafkaaW.PrintWords Go.Proofs.YtpeidnkbliafkaaW.PrintLast Go.Proofs.YtpeidnkbliafkaaW.PrintMore
attribute [local go_sem] max2_int min2_int max_two min_two max_three min_three max_four min_four   -- for this text's walks alone
set_option linter.unusedVariables false
set_option linter.unusedSimpArgs false
/-! ### bocageref02_Least64: function 63 -/
def bocageref02_Least64.f  : Option (Int) := some (-9223372036854775808)
set_option maxHeartbeats 8000000 in
set_option maxRecDepth 100000 in
theorem bocageref02_Least64.calls  (r : Int) (w : World) (h : bocageref02_Least64.f  = some r) :
  Calls Try.prog 63 #[] w fun e w' => e = .returned (.int .i64 r) ∧ Drawn0 w w' := by
 have H : (some (-9223372036854775808)) = some r := h
 clear h
 obtain rfl := Option.some.inj H
 go_enter Try.func63, Try.ntmps63
 go_wp2
 go_ret
 exact ⟨by first | rfl | (simp; done) | (simp [*]; done), by repeat (first | exact Drawn0.refl _ | apply Drawn0.step)⟩
/-! ### bocageref02_Canon: function 49 -/
def bocageref02_Canon.j0 : Nat → Bool → Int → Int → Option (Int × Int)
 | 0, _, _, _ => none
 | k + 1, x16, x271000, x271001 => if x16 = true then (some ((-1), 0)) else (if x271000 > 0 then (some (1, 0)) else (some (x271000, x271001)))
def bocageref02_Canon.f (k : Nat) (a0_0 : Int) (a0_1 : Int) : Option (Int × Int) := if a0_0 < 0 then (bocageref02_Canon.j0 k true a0_0 a0_1) else (if a0_0 = 0 then ((bocageref02_Least64.f).bind fun t272 => (bocageref02_Canon.j0 k (a0_1 == t272) a0_0 a0_1)) else (bocageref02_Canon.j0 k false a0_0 a0_1))
theorem bocageref02_Canon.mono_l : ∀ k, (∀ y0 y1 y2, LeO (bocageref02_Canon.j0 k y0 y1 y2) (bocageref02_Canon.j0 (k + 1) y0 y1 y2))
 | 0 => fun _ _ _ r h => by simp [bocageref02_Canon.j0] at h
 | k + 1 => by
  have ih0 := bocageref02_Canon.mono_l k
  ·intro y0 y1 y2
   unfold bocageref02_Canon.j0
   repeat' first
   | (with_reducible exact ih0 _ _ _)
   | (with_reducible exact LeO.refl _)
   | (with_reducible exact LeO.none _)
   | (with_reducible refine LeO.ite ?_ ?_)
   | (with_reducible refine LeO.bind ?_ (fun _ => ?_))
   | exact ih0 _ _ _
   | exact LeO.none _
   | refine LeO.ite ?_ ?_
   | refine LeO.bind ?_ (fun _ => ?_)
theorem bocageref02_Canon.mono : ∀ a0 a1 k, LeO (bocageref02_Canon.f k a0 a1) (bocageref02_Canon.f (k + 1) a0 a1) := by
 intro a0 a1 k
 have ih0 := bocageref02_Canon.mono_l k
 unfold bocageref02_Canon.f
 repeat' first
   | (with_reducible exact ih0 _ _ _)
   | (with_reducible exact LeO.refl _)
   | (with_reducible exact LeO.none _)
   | (with_reducible refine LeO.ite ?_ ?_)
   | (with_reducible refine LeO.bind ?_ (fun _ => ?_))
   | exact ih0 _ _ _
   | exact LeO.none _
   | refine LeO.ite ?_ ?_
   | refine LeO.bind ?_ (fun _ => ?_)
set_option maxHeartbeats 8000000 in
set_option maxRecDepth 100000 in
theorem bocageref02_Canon.calls (k : Nat) (a0_0 : Int) (a0_1 : Int) (r1 : Int) (r2 : Int) (w : World) (h : bocageref02_Canon.f k a0_0 a0_1 = some (r1, r2)) :
  Calls Try.prog 49 #[.agg #[.int .i64 a0_0, .int .i64 a0_1]] w fun e w' => e = .returned (.agg #[.int .i64 r1, .int .i64 r2]) ∧ Below w.heap.size w w' := by
 have hu25 := Try.underlying25
 have HB := Aside0.mk (Below.refl w.heap.size w)
 have H : (if a0_0 < 0 then (bocageref02_Canon.j0 k true a0_0 a0_1) else (if a0_0 = 0 then ((bocageref02_Least64.f).bind fun t272 => (bocageref02_Canon.j0 k (a0_1 == t272) a0_0 a0_1)) else (bocageref02_Canon.j0 k false a0_0 a0_1))) = some (r1, r2) := h
 clear h
 have HC2 := Aside0.mk H
 clear H
 go_enter Try.func49, Try.ntmps49
 go_upto_region 1 with (first | ((with_reducible refine gate_dst (N := 1) rfl ?_); refine bxe (N := 1) (cs := #[.int .i64 a0_0, .int .i64 a0_1]) (t := 25) ?_; intro gb270 hg w3 hbox hb; have BK270 := Aside0.mk (hbox); have GW270 := lsz hg HB; have GE270 := lsz hg HB; replace HB := bst HB hb; clear hb hbox hg) | ((with_reducible refine gate_dst (N := 2) rfl ?_); refine bxe (N := 2) (cs := #[.int .i64 0, .int .i64 0]) (t := 25) ?_; intro gb271 hg w4 hbox hb; have BK271 := Aside0.mk (hbox); have GW271 := lsz hg HB; have GE271 := lsz hg HB; replace HB := bst HB hb; have NB270_271 := nlt hg BK270; have NB271_270 := ngt hg BK270; replace BK270 := bkb BK270 hb; clear hb hbox hg))
 repeat (go_quiet (first | ((with_reducible refine gate_dst (N := 1) rfl ?_); refine bxe (N := 1) (cs := #[.int .i64 a0_0, .int .i64 a0_1]) (t := 25) ?_; intro gb270 hg w3 hbox hb; have BK270 := Aside0.mk (hbox); have GW270 := lsz hg HB; have GE270 := lsz hg HB; replace HB := bst HB hb; clear hb hbox hg) | ((with_reducible refine gate_dst (N := 2) rfl ?_); refine bxe (N := 2) (cs := #[.int .i64 0, .int .i64 0]) (t := 25) ?_; intro gb271 hg w4 hbox hb; have BK271 := Aside0.mk (hbox); have GW271 := lsz hg HB; have GE271 := lsz hg HB; replace HB := bst HB hb; have NB270_271 := nlt hg BK270; have NB271_270 := ngt hg BK270; replace BK270 := bkb BK270 hb; clear hb hbox hg)); go_upto_region 1 with (first | ((with_reducible refine gate_dst (N := 1) rfl ?_); refine bxe (N := 1) (cs := #[.int .i64 a0_0, .int .i64 a0_1]) (t := 25) ?_; intro gb270 hg w3 hbox hb; have BK270 := Aside0.mk (hbox); have GW270 := lsz hg HB; have GE270 := lsz hg HB; replace HB := bst HB hb; clear hb hbox hg) | ((with_reducible refine gate_dst (N := 2) rfl ?_); refine bxe (N := 2) (cs := #[.int .i64 0, .int .i64 0]) (t := 25) ?_; intro gb271 hg w4 hbox hb; have BK271 := Aside0.mk (hbox); have GW271 := lsz hg HB; have GE271 := lsz hg HB; replace HB := bst HB hb; have NB270_271 := nlt hg BK270; have NB271_270 := ngt hg BK270; replace BK270 := bkb BK270 hb; clear hb hbox hg)))
 (try simp only [Act.put, List.setIfInBounds_toArray, List.set_cons_zero, List.set_cons_succ])
 go_cut [16] (fun v16 wc => ∃ (kq : Nat) (x16_1 : Bool), v16 = .bool x16_1 ∧ Aside0 (bocageref02_Canon.j0 kq x16_1 a0_0 a0_1 = some (r1, r2)) ∧ Aside0 (kq ≤ k) ∧ Aside0 (wc.heap[gb270]? = some (.cells #[.int .i64 a0_0, .int .i64 a0_1] 25 (0, 0))) ∧ Aside0 (wc.heap[gb271]? = some (.cells #[.int .i64 0, .int .i64 0] 25 (0, 0))) ∧ Aside0 (Below w.heap.size w wc))
 case first =>
  have H := HC2.out
  clear HC2
  by_cases c5 : a0_0 < 0
  ·rw [if_pos c5] at H
   have c5b0 : decide (a0_0 < 0) = true := decide_eq_true c5
   clear c5
   (first | rw [c5b0] | (simp only [i64_w, i32_w]; rw [c5b0]) | skip)
   have H' := Aside0.mk H
   clear H
   have hnb6 := NB270_271.out
   have hnc6 := NB271_270.out
   have hcz7_0 : w4.cell? ⟨gb270, 0, none⟩ = some (.int .i64 a0_0) := (blk_cell BK270.out 0).trans rfl
   have hcz7_1 : w4.cell? ⟨gb270, 1, none⟩ = some (.int .i64 a0_1) := (blk_cell BK270.out 1).trans rfl
   have hfz7_0 := blk_frozen BK270.out 0
   have hfz7_1 := blk_frozen BK270.out 1
   go_wp2
   repeat (go_quiet (fail); try go_wp2)
   go_meet
   case rel => exact ⟨_, (true), (by first | rfl | (simp; done) | (simp [*]; done)), H', ⟨by first | omega | exact Nat.le_refl _⟩, ⟨bk BK270⟩, ⟨bk BK271⟩, ⟨bl HB⟩⟩
  ·rw [if_neg c5] at H
   have c5b0 : decide (a0_0 < 0) = false := decide_eq_false c5
   clear c5
   (first | rw [c5b0] | (simp only [i64_w, i32_w]; rw [c5b0]) | skip)
   by_cases c8 : a0_0 = 0
   ·rw [if_pos c8] at H
    have c8b0 : (a0_0 == 0) = true := beq_iff_eq.mpr c8
    have c8b1 : (a0_0 != 0) = false := bne_eq_false_iff_eq.mpr c8
    clear c8
    replace H := Option.bind_eq_some_iff.mp H
    obtain ⟨t272, A90, H⟩ := H
    replace H : (bocageref02_Canon.j0 k (a0_1 == t272) a0_0 a0_1) = some (r1, r2) := H
    have A9 := Aside0.mk A90
    clear A90
    have H' := Aside0.mk H
    clear H
    have hnb10 := NB270_271.out
    have hnc10 := NB271_270.out
    have hcz11_0 : w4.cell? ⟨gb270, 0, none⟩ = some (.int .i64 a0_0) := (blk_cell BK270.out 0).trans rfl
    have hcz11_1 : w4.cell? ⟨gb270, 1, none⟩ = some (.int .i64 a0_1) := (blk_cell BK270.out 1).trans rfl
    have hfz11_0 := blk_frozen BK270.out 0
    have hfz11_1 := blk_frozen BK270.out 1
    go_wp2_with (first | (go_at_call 63; (with_reducible refine (bocageref02_Least64.calls  t272 _ A9.out).mono ?_); rintro e w' ⟨rfl, ⟨nd, rfl⟩⟩; (try first | exact ⟨rfl, _, World.drewN_drewN _ _ _⟩ | exact ⟨rfl, _, Eq.trans (World.drewN_drewN _ _ _) (congrArg (World.drewN _) (Nat.add_assoc _ _ _))⟩)))
    repeat (go_quiet (first | (go_at_call 63; (with_reducible refine (bocageref02_Least64.calls  t272 _ A9.out).mono ?_); rintro e w' ⟨rfl, ⟨nd, rfl⟩⟩; (try first | exact ⟨rfl, _, World.drewN_drewN _ _ _⟩ | exact ⟨rfl, _, Eq.trans (World.drewN_drewN _ _ _) (congrArg (World.drewN _) (Nat.add_assoc _ _ _))⟩))); try go_wp2_with (first | (go_at_call 63; (with_reducible refine (bocageref02_Least64.calls  t272 _ A9.out).mono ?_); rintro e w' ⟨rfl, ⟨nd, rfl⟩⟩; (try first | exact ⟨rfl, _, World.drewN_drewN _ _ _⟩ | exact ⟨rfl, _, Eq.trans (World.drewN_drewN _ _ _) (congrArg (World.drewN _) (Nat.add_assoc _ _ _))⟩))))
    go_meet
    case rel => exact ⟨_, ((a0_1 == t272)), (by first | rfl | (simp; done) | (simp [*]; done)), H', ⟨by first | omega | exact Nat.le_refl _⟩, ⟨bk BK270⟩, ⟨bk BK271⟩, ⟨bl HB⟩⟩
   ·rw [if_neg c8] at H
    have c8b0 : (a0_0 == 0) = false := beq_eq_false_iff_ne.mpr c8
    have c8b1 : (a0_0 != 0) = true := bne_iff_ne.mpr c8
    have H' := Aside0.mk H
    clear H
    have hnb12 := NB270_271.out
    have hnc12 := NB271_270.out
    have hcz13_0 : w4.cell? ⟨gb270, 0, none⟩ = some (.int .i64 a0_0) := (blk_cell BK270.out 0).trans rfl
    have hcz13_1 : w4.cell? ⟨gb270, 1, none⟩ = some (.int .i64 a0_1) := (blk_cell BK270.out 1).trans rfl
    have hfz13_0 := blk_frozen BK270.out 0
    have hfz13_1 := blk_frozen BK270.out 1
    go_wp2
    repeat (go_quiet (fail); try go_wp2)
    go_meet
    case rel => exact ⟨_, (false), (by first | rfl | (simp; done) | (simp [*]; done)), H', ⟨by first | omega | exact Nat.le_refl _⟩, ⟨bk BK270⟩, ⟨bk BK271⟩, ⟨bl HB⟩⟩
 case rest =>
  clear HC2
  obtain ⟨kq, x16_1, rfl, HA, HJ1, BK270, BK271, HB⟩ := hcut
  cases kq with
  | zero => exact absurd HA.out (by simp [bocageref02_Canon.j0])
  | succ kj1 =>
   have H := HA.out
   clear HA
   simp only [bocageref02_Canon.j0] at H
   by_cases c14 : x16_1 = true
   ·subst c14
    have H1 : (some ((-1), 0)) = some (r1, r2) := by rw [if_pos rfl] at H; exact H
    clear H
    have H := H1
    clear H1
    simp only [Option.some.injEq, Prod.mk.injEq] at H
    obtain ⟨rfl, rfl⟩ := H
    have hnb15 := NB271_270.out
    have hnc15 := NB270_271.out
    have hcz16_0 : wc.cell? ⟨gb271, 0, none⟩ = some (.int .i64 0) := (blk_cell BK271.out 0).trans rfl
    have hcz16_1 : wc.cell? ⟨gb271, 1, none⟩ = some (.int .i64 0) := (blk_cell BK271.out 1).trans rfl
    have hfz16_0 := blk_frozen BK271.out 0
    have hfz16_1 := blk_frozen BK271.out 1
    go_wp2
    repeat (go_quiet (fail); try go_wp2)
    refine bodyPost_ret (results_cell_row rfl _ _ gb271 25 #[.int .i64 (-1), .int .i64 0] (0, 0) _ rfl (bkp BK271) Try.underlying25 rfl (by kernel_rfl)) rfl ?_
    exact endB HB
   ·replace c14 := Bool.eq_false_iff.mpr c14
    subst c14
    have H1 : (if a0_0 > 0 then (some (1, 0)) else (some (a0_0, a0_1))) = some (r1, r2) := by rw [if_neg (show ¬ (false = true) by decide)] at H; exact H
    clear H
    have H := H1
    clear H1
    by_cases c17 : a0_0 > 0
    ·rw [if_pos c17] at H
     have c17b0 : decide (0 < a0_0) = true := decide_eq_true c17
     clear c17
     simp only [Option.some.injEq, Prod.mk.injEq] at H
     obtain ⟨rfl, rfl⟩ := H
     have hnb18 := NB270_271.out
     have hnc18 := NB271_270.out
     have hcz19_0 : wc.cell? ⟨gb270, 0, none⟩ = some (.int .i64 a0_0) := (blk_cell BK270.out 0).trans rfl
     have hcz19_1 : wc.cell? ⟨gb270, 1, none⟩ = some (.int .i64 a0_1) := (blk_cell BK270.out 1).trans rfl
     have hfz19_0 := blk_frozen BK270.out 0
     have hfz19_1 := blk_frozen BK270.out 1
     have hcz20_0 : wc.cell? ⟨gb271, 0, none⟩ = some (.int .i64 0) := (blk_cell BK271.out 0).trans rfl
     have hcz20_1 : wc.cell? ⟨gb271, 1, none⟩ = some (.int .i64 0) := (blk_cell BK271.out 1).trans rfl
     have hfz20_0 := blk_frozen BK271.out 0
     have hfz20_1 := blk_frozen BK271.out 1
     go_wp2
     repeat (go_quiet (fail); try go_wp2)
     refine bodyPost_ret (results_cell_row rfl _ _ gb271 25 #[.int .i64 1, .int .i64 0] (0, 0) _ rfl (bkp BK271) Try.underlying25 rfl (by kernel_rfl)) rfl ?_
     exact endB HB
    ·rw [if_neg c17] at H
     have c17b0 : decide (0 < a0_0) = false := decide_eq_false c17
     clear c17
     simp only [Option.some.injEq, Prod.mk.injEq] at H
     obtain ⟨rfl, rfl⟩ := H
     have hnb21 := NB270_271.out
     have hnc21 := NB271_270.out
     have hcz22_0 : wc.cell? ⟨gb270, 0, none⟩ = some (.int .i64 a0_0) := (blk_cell BK270.out 0).trans rfl
     have hcz22_1 : wc.cell? ⟨gb270, 1, none⟩ = some (.int .i64 a0_1) := (blk_cell BK270.out 1).trans rfl
     have hfz22_0 := blk_frozen BK270.out 0
     have hfz22_1 := blk_frozen BK270.out 1
     have hcz23_0 : wc.cell? ⟨gb271, 0, none⟩ = some (.int .i64 0) := (blk_cell BK271.out 0).trans rfl
     have hcz23_1 : wc.cell? ⟨gb271, 1, none⟩ = some (.int .i64 0) := (blk_cell BK271.out 1).trans rfl
     have hfz23_0 := blk_frozen BK271.out 0
     have hfz23_1 := blk_frozen BK271.out 1
     go_wp2
     repeat (go_quiet (fail); try go_wp2)
     refine bodyPost_ret (results_cell_row rfl _ _ gb271 25 #[.int .i64 a0_0, .int .i64 a0_1] (0, 0) _ rfl (bkp BK271) Try.underlying25 rfl (by kernel_rfl)) rfl ?_
     exact endB HB
/-! ### bocageref02_Less: function 36 -/
def bocageref02_Less.f (k : Nat) (a0_0 : Int) (a0_1 : Int) (a1_0 : Int) (a1_1 : Int) : Option (Bool) := (bocageref02_Canon.f k a0_0 a0_1).bind fun bt275 => ((bocageref02_Canon.f k a1_0 a1_1).bind fun bt277 => (if bt275.1 = bt277.1 then (some (decide (bt275.2 < bt277.2))) else (some (decide (bt275.1 < bt277.1)))))
theorem bocageref02_Less.mono : ∀ a0 a1 a2 a3 k, LeO (bocageref02_Less.f k a0 a1 a2 a3) (bocageref02_Less.f (k + 1) a0 a1 a2 a3) := by
 intro a0 a1 a2 a3 k
 unfold bocageref02_Less.f
 repeat' first
   | (with_reducible exact bocageref02_Canon.mono _ _ _)
   | (with_reducible exact LeO.refl _)
   | (with_reducible exact LeO.none _)
   | (with_reducible refine LeO.ite ?_ ?_)
   | (with_reducible refine LeO.bind ?_ (fun _ => ?_))
   | exact bocageref02_Canon.mono _ _ _
   | exact LeO.none _
   | refine LeO.ite ?_ ?_
   | refine LeO.bind ?_ (fun _ => ?_)
set_option maxHeartbeats 8000000 in
set_option maxRecDepth 100000 in
theorem bocageref02_Less.calls (k : Nat) (a0_0 : Int) (a0_1 : Int) (a1_0 : Int) (a1_1 : Int) (r : Bool) (w : World) (h : bocageref02_Less.f k a0_0 a0_1 a1_0 a1_1 = some r) :
  Calls Try.prog 36 #[.agg #[.int .i64 a0_0, .int .i64 a0_1], .agg #[.int .i64 a1_0, .int .i64 a1_1]] w fun e w' => e = .returned (.bool r) ∧ Below w.heap.size w w' := by
 have hu25 := Try.underlying25
 have HB := Aside0.mk (Below.refl w.heap.size w)
 have H : ((bocageref02_Canon.f k a0_0 a0_1).bind fun bt275 => ((bocageref02_Canon.f k a1_0 a1_1).bind fun bt277 => (if bt275.1 = bt277.1 then (some (decide (bt275.2 < bt277.2))) else (some (decide (bt275.1 < bt277.1)))))) = some r := h
 clear h
 replace H := Option.bind_eq_some_iff.mp H
 obtain ⟨⟨t275, t276⟩, A30, H⟩ := H
 replace H : ((bocageref02_Canon.f k a1_0 a1_1).bind fun bt277 => (if t275 = bt277.1 then (some (decide (t276 < bt277.2))) else (some (decide (t275 < bt277.1))))) = some r := H
 have A3 := Aside0.mk A30
 clear A30
 replace H := Option.bind_eq_some_iff.mp H
 obtain ⟨⟨t277, t278⟩, A40, H⟩ := H
 replace H : (if t275 = t277 then (some (decide (t276 < t278))) else (some (decide (t275 < t277)))) = some r := H
 have A4 := Aside0.mk A40
 clear A40
 by_cases c5 : t275 = t277
 ·rw [if_pos c5] at H
  have c5b0 : (t275 == t277) = true := beq_iff_eq.mpr c5
  have c5b1 : (t275 != t277) = false := bne_eq_false_iff_eq.mpr c5
  clear c5
  obtain rfl := Option.some.inj H
  go_enter Try.func36, Try.ntmps36
  go_wp2_with (first | ((with_reducible refine gate_dst (N := 2) rfl ?_); refine bxe (N := 2) (cs := #[.int .i64 a0_0, .int .i64 a0_1]) (t := 25) ?_; intro gb273 hg w6 hbox hb; have BK273 := Aside0.mk (hbox); have GW273 := lsz hg HB; have GE273 := lsz hg HB; replace HB := bst HB hb; clear hb hbox hg) | ((with_reducible refine gate_dst (N := 3) rfl ?_); refine bxe (N := 3) (cs := #[.int .i64 a1_0, .int .i64 a1_1]) (t := 25) ?_; intro gb274 hg w7 hbox hb; have BK274 := Aside0.mk (hbox); have GW274 := lsz hg HB; have GE274 := lsz hg HB; replace HB := bst HB hb; have NB273_274 := nlt hg BK273; have NB274_273 := ngt hg BK273; replace BK273 := bkb BK273 hb; clear hb hbox hg; have hnb8 := NB273_274.out; have hnc8 := NB274_273.out; obtain ⟨hcz9_0, hcz9_1⟩ := e2 BK273; obtain ⟨hfz9_0, hfz9_1⟩ := f2 BK273) | ((with_reducible refine gate_callee (f := 49) rfl ?_); refine gol (some 6) Try.func49 #[.agg #[.int .i64 a0_0, .int .i64 a0_1]] ?_; (with_reducible refine (bocageref02_Canon.calls k a0_0 a0_1 t275 t276 _ A3.out).mono ?_); rintro e w10 ⟨rfl, hb⟩; refine ⟨_, rfl, ?_⟩; replace BK273 := bkb BK273 hb; replace BK274 := bkb BK274 hb; replace HB := bst HB hb; (try clear hb); (try clear hb2); (try clear hk); (try clear hi); obtain ⟨hcz11_0, hcz11_1⟩ := e2 BK273; obtain ⟨hfz11_0, hfz11_1⟩ := f2 BK273; obtain ⟨hcz12_0, hcz12_1⟩ := e2 BK274; obtain ⟨hfz12_0, hfz12_1⟩ := f2 BK274) | ((with_reducible refine gate_callee (f := 49) rfl ?_); refine gol (some 8) Try.func49 #[.agg #[.int .i64 a1_0, .int .i64 a1_1]] ?_; (with_reducible refine (bocageref02_Canon.calls k a1_0 a1_1 t277 t278 _ A4.out).mono ?_); rintro e w13 ⟨rfl, hb⟩; refine ⟨_, rfl, ?_⟩; replace BK273 := Aside0.mk (blk_below (g := gb273) (o := .cells #[.int .i64 t275, .int .i64 t276] 25 (0, 0)) (bkp BK273) hb); replace BK274 := Aside0.mk (blk_below (bkf BK274 NB274_273) hb); replace HB := bst HB hb; (try clear hb); (try clear hb2); (try clear hk); (try clear hi); obtain ⟨hcz14_0, hcz14_1⟩ := e2 BK274; obtain ⟨hfz14_0, hfz14_1⟩ := f2 BK274; obtain ⟨hcz15_0, hcz15_1⟩ := e2 BK273; obtain ⟨hfz15_0, hfz15_1⟩ := f2 BK273))
  go_ret
  exact endB HB
 ·rw [if_neg c5] at H
  have c5b0 : (t275 == t277) = false := beq_eq_false_iff_ne.mpr c5
  have c5b1 : (t275 != t277) = true := bne_iff_ne.mpr c5
  obtain rfl := Option.some.inj H
  go_enter Try.func36, Try.ntmps36
  go_wp2_with (first | ((with_reducible refine gate_dst (N := 2) rfl ?_); refine bxe (N := 2) (cs := #[.int .i64 a0_0, .int .i64 a0_1]) (t := 25) ?_; intro gb273 hg w16 hbox hb; have BK273 := Aside0.mk (hbox); have GW273 := lsz hg HB; have GE273 := lsz hg HB; replace HB := bst HB hb; clear hb hbox hg) | ((with_reducible refine gate_dst (N := 3) rfl ?_); refine bxe (N := 3) (cs := #[.int .i64 a1_0, .int .i64 a1_1]) (t := 25) ?_; intro gb274 hg w17 hbox hb; have BK274 := Aside0.mk (hbox); have GW274 := lsz hg HB; have GE274 := lsz hg HB; replace HB := bst HB hb; have NB273_274 := nlt hg BK273; have NB274_273 := ngt hg BK273; replace BK273 := bkb BK273 hb; clear hb hbox hg; have hnb18 := NB273_274.out; have hnc18 := NB274_273.out; obtain ⟨hcz19_0, hcz19_1⟩ := e2 BK273; obtain ⟨hfz19_0, hfz19_1⟩ := f2 BK273) | ((with_reducible refine gate_callee (f := 49) rfl ?_); refine gol (some 6) Try.func49 #[.agg #[.int .i64 a0_0, .int .i64 a0_1]] ?_; (with_reducible refine (bocageref02_Canon.calls k a0_0 a0_1 t275 t276 _ A3.out).mono ?_); rintro e w20 ⟨rfl, hb⟩; refine ⟨_, rfl, ?_⟩; replace BK273 := bkb BK273 hb; replace BK274 := bkb BK274 hb; replace HB := bst HB hb; (try clear hb); (try clear hb2); (try clear hk); (try clear hi); obtain ⟨hcz21_0, hcz21_1⟩ := e2 BK273; obtain ⟨hfz21_0, hfz21_1⟩ := f2 BK273; obtain ⟨hcz22_0, hcz22_1⟩ := e2 BK274; obtain ⟨hfz22_0, hfz22_1⟩ := f2 BK274) | ((with_reducible refine gate_callee (f := 49) rfl ?_); refine gol (some 8) Try.func49 #[.agg #[.int .i64 a1_0, .int .i64 a1_1]] ?_; (with_reducible refine (bocageref02_Canon.calls k a1_0 a1_1 t277 t278 _ A4.out).mono ?_); rintro e w23 ⟨rfl, hb⟩; refine ⟨_, rfl, ?_⟩; replace BK273 := Aside0.mk (blk_below (g := gb273) (o := .cells #[.int .i64 t275, .int .i64 t276] 25 (0, 0)) (bkp BK273) hb); replace BK274 := Aside0.mk (blk_below (bkf BK274 NB274_273) hb); replace HB := bst HB hb; (try clear hb); (try clear hb2); (try clear hk); (try clear hi); obtain ⟨hcz24_0, hcz24_1⟩ := e2 BK274; obtain ⟨hfz24_0, hfz24_1⟩ := f2 BK274; obtain ⟨hcz25_0, hcz25_1⟩ := e2 BK273; obtain ⟨hfz25_0, hfz25_1⟩ := f2 BK273))
  go_ret
  exact endB HB
section
attribute [local go_sem high] eqA25
/-! ### bocageref03_Right: function 20 -/
def bocageref03_Right.f (k : Nat) (a0_0 : Int) (a0_1 : Int) (a0_2 : Int) (a0_3 : Int) : Option (Bool) := (bocageref02_Canon.f k a0_0 a0_1).bind fun bt280 => (if (bt280.1 == a0_0 && (bt280.2 == a0_1)) = true then ((bocageref02_Canon.f k a0_2 a0_3).bind fun bt282 => (if (bt282.1 == a0_2 && (bt282.2 == a0_3)) = true then ((bocageref02_Less.f k a0_0 a0_1 a0_2 a0_3).bind fun t284 => (some t284)) else (some false))) else (some false))
theorem bocageref03_Right.mono : ∀ a0 a1 a2 a3 k, LeO (bocageref03_Right.f k a0 a1 a2 a3) (bocageref03_Right.f (k + 1) a0 a1 a2 a3) := by
 intro a0 a1 a2 a3 k
 unfold bocageref03_Right.f
 repeat' first
   | (with_reducible exact bocageref02_Canon.mono _ _ _)
   | (with_reducible exact bocageref02_Less.mono _ _ _ _ _)
   | (with_reducible exact LeO.refl _)
   | (with_reducible exact LeO.none _)
   | (with_reducible refine LeO.ite ?_ ?_)
   | (with_reducible refine LeO.bind ?_ (fun _ => ?_))
   | exact bocageref02_Canon.mono _ _ _
   | exact bocageref02_Less.mono _ _ _ _ _
   | exact LeO.none _
   | refine LeO.ite ?_ ?_
   | refine LeO.bind ?_ (fun _ => ?_)
def bocageref03_Right.T1 : Bool × List (List Nat × List Nat) := (true, [([], []), ([0], [0]), ([1], [1]), ([], []), ([3], [3]), ([2, 4], [2, 4]), ([5, 2], [5]), ([6], [6]), ([7, 6], [6, 7]), ([8, 6, 6], [6, 8]), ([6], [6]), ([10, 6], [6, 10]), ([9, 11, 6], [6, 9, 11]), ([6, 12], [6, 12]), ([13, 9], [13]), ([14], [14]), ([15, 14], [14, 15]), ([14], [14]), ([17, 14], [14, 17]), ([16, 18, 14, 14], [14, 16, 18]), ([14, 19], [14, 19]), ([20, 19, 0, 1, 2, 3, 4, 5, 6, 7, 8, 9, 10, 11, 12, 13, 14, 15, 16, 17, 18, 19, 20], [20])])
def bocageref03_Right.B1 : List Nat := [0, 1, 3, 0, 8, 31, 63, 127, 255, 511, 127, 1151, 4095, 8191, 16383, 32767, 65535, 32767, 163839, 524287, 1048575, 2097151]
theorem bocageref03_Right.tab1 : rtab .any (opsOf Try.f20 1) = bocageref03_Right.T1 := by kernel_rfl
theorem bocageref03_Right.bits1 : waitsOk bocageref03_Right.T1.2 bocageref03_Right.B1 = true := by kernel_rfl
set_option maxHeartbeats 8000000 in
set_option maxRecDepth 100000 in
theorem bocageref03_Right.calls (k : Nat) (a0_0 : Int) (a0_1 : Int) (a0_2 : Int) (a0_3 : Int) (r : Bool) (w : World) (h : bocageref03_Right.f k a0_0 a0_1 a0_2 a0_3 = some r) :
  Calls Try.prog 20 #[.agg #[.int .i64 a0_0, .int .i64 a0_1, .int .i64 a0_2, .int .i64 a0_3]] w fun e w' => e = .returned (.bool r) ∧ Below w.heap.size w w' := by
 have hu27 := Try.underlying27
 have hu25 := Try.underlying25
 have HB := Aside0.mk (Below.refl w.heap.size w)
 have H : ((bocageref02_Canon.f k a0_0 a0_1).bind fun bt280 => (if (bt280.1 == a0_0 && (bt280.2 == a0_1)) = true then ((bocageref02_Canon.f k a0_2 a0_3).bind fun bt282 => (if (bt282.1 == a0_2 && (bt282.2 == a0_3)) = true then ((bocageref02_Less.f k a0_0 a0_1 a0_2 a0_3).bind fun t284 => (some t284)) else (some false))) else (some false))) = some r := h
 clear h
 replace H := Option.bind_eq_some_iff.mp H
 obtain ⟨⟨t280, t281⟩, A20, H⟩ := H
 replace H : (if (t280 == a0_0 && (t281 == a0_1)) = true then ((bocageref02_Canon.f k a0_2 a0_3).bind fun bt282 => (if (bt282.1 == a0_2 && (bt282.2 == a0_3)) = true then ((bocageref02_Less.f k a0_0 a0_1 a0_2 a0_3).bind fun t284 => (some t284)) else (some false))) else (some false)) = some r := H
 have A2 := Aside0.mk A20
 clear A20
 by_cases c3 : (t280 == a0_0 && (t281 == a0_1)) = true
 ·rw [if_pos c3] at H
  have c3b0 : (t280 == a0_0 && (t281 == a0_1)) = true := c3
  (try (have c3b1 : decide (t280 = a0_0 && (t281 == a0_1)) = true := by simpa using c3))
  (try (have c3b2 : (t280 == a0_0 && (t281 == a0_1)) = true := by simpa using c3))
  clear c3
  replace H := Option.bind_eq_some_iff.mp H
  obtain ⟨⟨t282, t283⟩, A40, H⟩ := H
  replace H : (if (t282 == a0_2 && (t283 == a0_3)) = true then ((bocageref02_Less.f k a0_0 a0_1 a0_2 a0_3).bind fun t284 => (some t284)) else (some false)) = some r := H
  have A4 := Aside0.mk A40
  clear A40
  by_cases c5 : (t282 == a0_2 && (t283 == a0_3)) = true
  ·rw [if_pos c5] at H
   have c5b0 : (t282 == a0_2 && (t283 == a0_3)) = true := c5
   (try (have c5b1 : decide (t282 = a0_2 && (t283 == a0_3)) = true := by simpa using c5))
   (try (have c5b2 : (t282 == a0_2 && (t283 == a0_3)) = true := by simpa using c5))
   clear c5
   replace H := Option.bind_eq_some_iff.mp H
   obtain ⟨t284, A60, H⟩ := H
   replace H : (some t284) = some r := H
   have A6 := Aside0.mk A60
   clear A60
   obtain rfl := Option.some.inj H
   go_enter Try.func20, Try.ntmps20
   try go_wp2_with (first | ((with_reducible refine gate_dst (N := 1) rfl ?_); refine bxe (N := 1) (cs := #[.int .i64 a0_0, .int .i64 a0_1, .int .i64 a0_2, .int .i64 a0_3]) (t := 27) ?_; intro gb279 hg w7 hbox hb; have BK279 := Aside0.mk (hbox); have GW279 := lsz hg HB; have GE279 := lsz hg HB; replace HB := bst HB hb; clear hb hbox hg))
   replace BK279 := Aside0.mk (blk_drew BK279.out)
   replace HB := Aside0.mk (below_drew1 HB.out)
   refine start_ (n := 22) (S := fun w' => w'.cell? ⟨gb279, 0, none⟩ = some (.int .i64 a0_0) ∧ w'.cell? ⟨gb279, 1, none⟩ = some (.int .i64 a0_1) ∧ w'.cell? ⟨gb279, 2, none⟩ = some (.int .i64 a0_2) ∧ w'.cell? ⟨gb279, 3, none⟩ = some (.int .i64 a0_3)) (ds := []) #[false, false, false, false, false, false, false, false, false, false, false, false, false, false, false, false, false, false, false, false, false, false] (by kernel_rfl) rfl rfl (e4 BK279) (fun hHeld => ?_); refine with_tabW bocageref03_Right.tab1 bocageref03_Right.bits1 (fun HT_ HW_ => ?_)
   generalize w7.drew = w8 at BK279 HB hHeld ⊢
   refine pw 0 3 HT_ ?_; refine pw 3 6 HT_ ?_; refine tw4 1 4 HT_ HW_ hHeld ?_; refine tw4 4 7 HT_ HW_ hHeld ?_
   refine one_ (i := 2) (N := some 5) #[true, true, true, true, true, false, false, false, false, false, false, false, false, false, false, false, false, false, false, false, false, false] rfl rfl (one_of HT_.out (by kernel_rfl)) (by decide) (fun K hK => ?_)
   refine goes_ Try.func49 (by kernel_rfl) rfl #[.agg #[.int .i64 a0_0, .int .i64 a0_1]] (by rfl) rfl rfl (by (try simp only [List.map_toArray, List.map_cons, List.map_nil]); first | done | rfl | (simp only [List.length_drop, List.length_take]; rfl)) ?_
   with_reducible refine (bocageref02_Canon.calls k a0_0 a0_1 t280 t281 _ A2.out).mono ?_
   rintro e w9 ⟨rfl, hb⟩
   refine ⟨_, rfl, ?_⟩
   replace BK279 := bkb BK279 hb
   replace HB := bst HB hb
   (try clear hb)
   refine hK.out _ _ (e4 BK279) (fun hHeld => ?_)
   clear hK K
   refine nrp 5 ?_
   refine pw 5 8 HT_ ?_; refine pw 6 9 HT_ ?_; refine pw 7 10 HT_ ?_; refine pw 10 13 HT_ ?_; refine tw4 8 11 HT_ HW_ hHeld ?_; refine tw4 11 14 HT_ HW_ hHeld ?_
   refine one_ (i := 9) (N := some 12) #[true, true, true, true, true, true, true, true, true, true, true, true, false, false, false, false, false, false, false, false, false, false] rfl rfl (one_of HT_.out (by kernel_rfl)) (by decide) (fun K hK => ?_)
   refine goes_ Try.func49 (by kernel_rfl) rfl #[.agg #[.int .i64 a0_2, .int .i64 a0_3]] (by rfl) rfl rfl (by (try simp only [List.map_toArray, List.map_cons, List.map_nil]); first | done | rfl | (simp only [List.length_drop, List.length_take]; rfl)) ?_
   with_reducible refine (bocageref02_Canon.calls k a0_2 a0_3 t282 t283 _ A4.out).mono ?_
   rintro e w10 ⟨rfl, hb⟩
   refine ⟨_, rfl, ?_⟩
   replace BK279 := bkb BK279 hb
   replace HB := bst HB hb
   (try clear hb)
   refine hK.out _ _ (e4 BK279) (fun hHeld => ?_)
   clear hK K
   refine nrp 12 ?_
   refine pw 12 15 HT_ ?_; refine pw 13 16 HT_ ?_; refine pw 14 17 HT_ ?_; refine pw 15 18 HT_ ?_; refine pw 17 20 HT_ ?_; refine tw4 16 19 HT_ HW_ hHeld ?_; refine tw4 18 21 HT_ HW_ hHeld ?_
   refine one_ (i := 19) (N := some 22) #[true, true, true, true, true, true, true, true, true, true, true, true, true, true, true, true, true, true, true, true, false, false] rfl rfl (one_of HT_.out (by kernel_rfl)) (by decide) (fun K hK => ?_)
   refine goes_ Try.func36 (by kernel_rfl) rfl #[.agg #[.int .i64 a0_0, .int .i64 a0_1], .agg #[.int .i64 a0_2, .int .i64 a0_3]] (by rfl) rfl rfl (by (try simp only [List.map_toArray, List.map_cons, List.map_nil]); first | done | rfl | (simp only [List.length_drop, List.length_take]; rfl)) ?_
   with_reducible refine (bocageref02_Less.calls k a0_0 a0_1 a0_2 a0_3 t284 _ A6.out).mono ?_
   rintro e w11 ⟨rfl, hb⟩
   refine ⟨_, rfl, ?_⟩
   replace BK279 := bkb BK279 hb
   replace HB := bst HB hb
   (try clear hb)
   refine hK.out _ _ (e4 BK279) (fun hHeld => ?_)
   clear hK K
   refine nrp 22 ?_
   refine pw 20 23 HT_ ?_; refine pw 21 2 HT_ ?_
   refine done_ (done_of HT_.out (by kernel_rfl)) ?_
   try go_wp2
   go_ret
   exact endB HB
  ·rw [if_neg c5] at H
   have c5b0 : (t282 == a0_2 && (t283 == a0_3)) = false := by simpa using c5
   (try (have c5b1 : decide (t282 = a0_2 && (t283 == a0_3)) = false := by simpa using c5))
   (try (have c5b2 : (t282 == a0_2 && (t283 == a0_3)) = false := by simpa using c5))
   (try (have c5b3 : ¬ (t282 = a0_2 && (t283 == a0_3)) := by simpa using c5))
   clear c5
   obtain rfl := Option.some.inj H
   go_enter Try.func20, Try.ntmps20
   try go_wp2_with (first | ((with_reducible refine gate_dst (N := 1) rfl ?_); refine bxe (N := 1) (cs := #[.int .i64 a0_0, .int .i64 a0_1, .int .i64 a0_2, .int .i64 a0_3]) (t := 27) ?_; intro gb279 hg w12 hbox hb; have BK279 := Aside0.mk (hbox); have GW279 := lsz hg HB; have GE279 := lsz hg HB; replace HB := bst HB hb; clear hb hbox hg))
   replace BK279 := Aside0.mk (blk_drew BK279.out)
   replace HB := Aside0.mk (below_drew1 HB.out)
   refine start_ (n := 22) (S := fun w' => w'.cell? ⟨gb279, 0, none⟩ = some (.int .i64 a0_0) ∧ w'.cell? ⟨gb279, 1, none⟩ = some (.int .i64 a0_1) ∧ w'.cell? ⟨gb279, 2, none⟩ = some (.int .i64 a0_2) ∧ w'.cell? ⟨gb279, 3, none⟩ = some (.int .i64 a0_3)) (ds := []) #[false, false, false, false, false, false, false, false, false, false, false, false, false, false, false, false, false, false, false, false, false, false] (by kernel_rfl) rfl rfl (e4 BK279) (fun hHeld => ?_); refine with_tabW bocageref03_Right.tab1 bocageref03_Right.bits1 (fun HT_ HW_ => ?_)
   generalize w12.drew = w13 at BK279 HB hHeld ⊢
   refine pw 0 3 HT_ ?_; refine pw 3 6 HT_ ?_; refine tw4 1 4 HT_ HW_ hHeld ?_; refine tw4 4 7 HT_ HW_ hHeld ?_
   refine one_ (i := 2) (N := some 5) #[true, true, true, true, true, false, false, false, false, false, false, false, false, false, false, false, false, false, false, false, false, false] rfl rfl (one_of HT_.out (by kernel_rfl)) (by decide) (fun K hK => ?_)
   refine goes_ Try.func49 (by kernel_rfl) rfl #[.agg #[.int .i64 a0_0, .int .i64 a0_1]] (by rfl) rfl rfl (by (try simp only [List.map_toArray, List.map_cons, List.map_nil]); first | done | rfl | (simp only [List.length_drop, List.length_take]; rfl)) ?_
   with_reducible refine (bocageref02_Canon.calls k a0_0 a0_1 t280 t281 _ A2.out).mono ?_
   rintro e w14 ⟨rfl, hb⟩
   refine ⟨_, rfl, ?_⟩
   replace BK279 := bkb BK279 hb
   replace HB := bst HB hb
   (try clear hb)
   refine hK.out _ _ (e4 BK279) (fun hHeld => ?_)
   clear hK K
   refine nrp 5 ?_
   refine pw 5 8 HT_ ?_; refine pw 6 9 HT_ ?_; refine pw 7 10 HT_ ?_; refine pw 10 13 HT_ ?_; refine tw4 8 11 HT_ HW_ hHeld ?_; refine tw4 11 14 HT_ HW_ hHeld ?_
   refine one_ (i := 9) (N := some 12) #[true, true, true, true, true, true, true, true, true, true, true, true, false, false, false, false, false, false, false, false, false, false] rfl rfl (one_of HT_.out (by kernel_rfl)) (by decide) (fun K hK => ?_)
   refine goes_ Try.func49 (by kernel_rfl) rfl #[.agg #[.int .i64 a0_2, .int .i64 a0_3]] (by rfl) rfl rfl (by (try simp only [List.map_toArray, List.map_cons, List.map_nil]); first | done | rfl | (simp only [List.length_drop, List.length_take]; rfl)) ?_
   with_reducible refine (bocageref02_Canon.calls k a0_2 a0_3 t282 t283 _ A4.out).mono ?_
   rintro e w15 ⟨rfl, hb⟩
   refine ⟨_, rfl, ?_⟩
   replace BK279 := bkb BK279 hb
   replace HB := bst HB hb
   (try clear hb)
   refine hK.out _ _ (e4 BK279) (fun hHeld => ?_)
   clear hK K
   refine nrp 12 ?_
   refine pw 12 15 HT_ ?_; refine pw 13 16 HT_ ?_; refine pw 14 17 HT_ ?_; refine px 15 18 HT_ ?_; refine px 16 19 HT_ ?_; refine px 17 20 HT_ ?_; refine px 18 21 HT_ ?_; refine px 19 22 HT_ ?_; refine pw 20 23 HT_ ?_; refine pw 21 2 HT_ ?_
   refine done_ (done_of HT_.out (by kernel_rfl)) ?_
   try go_wp2
   go_ret
   exact endB HB
 ·rw [if_neg c3] at H
  have c3b0 : (t280 == a0_0 && (t281 == a0_1)) = false := by simpa using c3
  (try (have c3b1 : decide (t280 = a0_0 && (t281 == a0_1)) = false := by simpa using c3))
  (try (have c3b2 : (t280 == a0_0 && (t281 == a0_1)) = false := by simpa using c3))
  (try (have c3b3 : ¬ (t280 = a0_0 && (t281 == a0_1)) := by simpa using c3))
  clear c3
  obtain rfl := Option.some.inj H
  go_enter Try.func20, Try.ntmps20
  try go_wp2_with (first | ((with_reducible refine gate_dst (N := 1) rfl ?_); refine bxe (N := 1) (cs := #[.int .i64 a0_0, .int .i64 a0_1, .int .i64 a0_2, .int .i64 a0_3]) (t := 27) ?_; intro gb279 hg w16 hbox hb; have BK279 := Aside0.mk (hbox); have GW279 := lsz hg HB; have GE279 := lsz hg HB; replace HB := bst HB hb; clear hb hbox hg))
  replace BK279 := Aside0.mk (blk_drew BK279.out)
  replace HB := Aside0.mk (below_drew1 HB.out)
  refine start_ (n := 22) (S := fun w' => w'.cell? ⟨gb279, 0, none⟩ = some (.int .i64 a0_0) ∧ w'.cell? ⟨gb279, 1, none⟩ = some (.int .i64 a0_1) ∧ w'.cell? ⟨gb279, 2, none⟩ = some (.int .i64 a0_2) ∧ w'.cell? ⟨gb279, 3, none⟩ = some (.int .i64 a0_3)) (ds := []) #[false, false, false, false, false, false, false, false, false, false, false, false, false, false, false, false, false, false, false, false, false, false] (by kernel_rfl) rfl rfl (e4 BK279) (fun hHeld => ?_); refine with_tabW bocageref03_Right.tab1 bocageref03_Right.bits1 (fun HT_ HW_ => ?_)
  generalize w16.drew = w17 at BK279 HB hHeld ⊢
  refine pw 0 3 HT_ ?_; refine pw 3 6 HT_ ?_; refine tw4 1 4 HT_ HW_ hHeld ?_; refine tw4 4 7 HT_ HW_ hHeld ?_
  refine one_ (i := 2) (N := some 5) #[true, true, true, true, true, false, false, false, false, false, false, false, false, false, false, false, false, false, false, false, false, false] rfl rfl (one_of HT_.out (by kernel_rfl)) (by decide) (fun K hK => ?_)
  refine goes_ Try.func49 (by kernel_rfl) rfl #[.agg #[.int .i64 a0_0, .int .i64 a0_1]] (by rfl) rfl rfl (by (try simp only [List.map_toArray, List.map_cons, List.map_nil]); first | done | rfl | (simp only [List.length_drop, List.length_take]; rfl)) ?_
  with_reducible refine (bocageref02_Canon.calls k a0_0 a0_1 t280 t281 _ A2.out).mono ?_
  rintro e w18 ⟨rfl, hb⟩
  refine ⟨_, rfl, ?_⟩
  replace BK279 := bkb BK279 hb
  replace HB := bst HB hb
  (try clear hb)
  refine hK.out _ _ (e4 BK279) (fun hHeld => ?_)
  clear hK K
  refine nrp 5 ?_
  refine pw 5 8 HT_ ?_; refine pw 6 9 HT_ ?_; refine px 7 10 HT_ ?_; refine px 8 11 HT_ ?_; refine px 9 12 HT_ ?_; refine px 10 13 HT_ ?_; refine px 11 14 HT_ ?_; refine px 12 15 HT_ ?_; refine pw 13 16 HT_ ?_; refine pw 14 17 HT_ ?_; refine px 15 18 HT_ ?_; refine px 16 19 HT_ ?_; refine px 17 20 HT_ ?_; refine px 18 21 HT_ ?_; refine px 19 22 HT_ ?_; refine pw 20 23 HT_ ?_; refine pw 21 2 HT_ ?_
  refine done_ (done_of HT_.out (by kernel_rfl)) ?_
  try go_wp2
  go_ret
  exact endB HB
end
/-! ### bocageref03_Of: function 27 -/
def bocageref03_Of.f (k : Nat) (a0_0 : Int) (a0_1 : Int) (a1_0 : Int) (a1_1 : Int) : Option (Int × Int × Int × Int × Int) := (bocageref02_Canon.f k a0_0 a0_1).bind fun bt288 => ((bocageref02_Canon.f k a1_0 a1_1).bind fun bt290 => ((bocageref03_Right.f k bt288.1 bt288.2 bt290.1 bt290.2).bind fun t293 => (if t293 = true then (some (bt288.1, bt288.2, bt290.1, bt290.2, 0)) else (some (0, 0, 0, 0, 30)))))
theorem bocageref03_Of.mono : ∀ a0 a1 a2 a3 k, LeO (bocageref03_Of.f k a0 a1 a2 a3) (bocageref03_Of.f (k + 1) a0 a1 a2 a3) := by
 intro a0 a1 a2 a3 k
 unfold bocageref03_Of.f
 repeat' first
   | (with_reducible exact bocageref02_Canon.mono _ _ _)
   | (with_reducible exact bocageref03_Right.mono _ _ _ _ _)
   | (with_reducible exact LeO.refl _)
   | (with_reducible exact LeO.none _)
   | (with_reducible refine LeO.ite ?_ ?_)
   | (with_reducible refine LeO.bind ?_ (fun _ => ?_))
   | exact bocageref02_Canon.mono _ _ _
   | exact bocageref03_Right.mono _ _ _ _ _
   | exact LeO.none _
   | refine LeO.ite ?_ ?_
   | refine LeO.bind ?_ (fun _ => ?_)
set_option maxHeartbeats 8000000 in
set_option maxRecDepth 100000 in
theorem bocageref03_Of.calls (k : Nat) (a0_0 : Int) (a0_1 : Int) (a1_0 : Int) (a1_1 : Int) (r1 : Int) (r2 : Int) (r3 : Int) (r4 : Int) (r5 : Int) (w : World) (h : bocageref03_Of.f k a0_0 a0_1 a1_0 a1_1 = some (r1, r2, r3, r4, r5)) :
  Calls Try.prog 27 #[.agg #[.int .i64 a0_0, .int .i64 a0_1], .agg #[.int .i64 a1_0, .int .i64 a1_1]] w fun e w' => e = .returned (.tuple #[.agg #[.int .i64 r1, .int .i64 r2, .int .i64 r3, .int .i64 r4], .int .i64 r5]) ∧ Below w.heap.size w w' := by
 have hu25 := Try.underlying25
 have hu27 := Try.underlying27
 have HB := Aside0.mk (Below.refl w.heap.size w)
 have H : ((bocageref02_Canon.f k a0_0 a0_1).bind fun bt288 => ((bocageref02_Canon.f k a1_0 a1_1).bind fun bt290 => ((bocageref03_Right.f k bt288.1 bt288.2 bt290.1 bt290.2).bind fun t293 => (if t293 = true then (some (bt288.1, bt288.2, bt290.1, bt290.2, 0)) else (some (0, 0, 0, 0, 30)))))) = some (r1, r2, r3, r4, r5) := h
 clear h
 replace H := Option.bind_eq_some_iff.mp H
 obtain ⟨⟨t288, t289⟩, A30, H⟩ := H
 (try (set_option simprocs false in dsimp only at H))
 have A3 := Aside0.mk A30
 clear A30
 replace H := Option.bind_eq_some_iff.mp H
 obtain ⟨⟨t290, t291⟩, A40, H⟩ := H
 (try (set_option simprocs false in dsimp only at H))
 have A4 := Aside0.mk A40
 clear A40
 replace H := Option.bind_eq_some_iff.mp H
 obtain ⟨t293, A50, H⟩ := H
 (try (set_option simprocs false in dsimp only at H))
 have A5 := Aside0.mk A50
 clear A50
 by_cases c6 : t293 = true
 ·subst c6
  have H1 : (some (t288, t289, t290, t291, 0)) = some (r1, r2, r3, r4, r5) := by rw [if_pos rfl] at H; exact H
  clear H
  have H := H1
  clear H1
  simp only [Option.some.injEq, Prod.mk.injEq] at H
  obtain ⟨rfl, rfl, rfl, rfl, rfl⟩ := H
  go_enter Try.func27, Try.ntmps27
  try go_wp2_with (first | ((with_reducible refine gate_dst (N := 2) rfl ?_); refine bxe (N := 2) (cs := #[.int .i64 a0_0, .int .i64 a0_1]) (t := 25) ?_; intro gb285 hg w7 hbox hb; have BK285 := Aside0.mk (hbox); have GW285 := lsz hg HB; have GE285 := lsz hg HB; replace HB := bst HB hb; clear hb hbox hg) | ((with_reducible refine gate_dst (N := 3) rfl ?_); refine bxe (N := 3) (cs := #[.int .i64 a1_0, .int .i64 a1_1]) (t := 25) ?_; intro gb286 hg w8 hbox hb; have BK286 := Aside0.mk (hbox); have GW286 := lsz hg HB; have GE286 := lsz hg HB; replace HB := bst HB hb; have NB285_286 := nlt hg BK285; have NB286_285 := ngt hg BK285; replace BK285 := bkb BK285 hb; clear hb hbox hg) | ((with_reducible refine gate_dst (N := 4) rfl ?_); refine bxe (N := 4) (cs := #[.int .i64 0, .int .i64 0, .int .i64 0, .int .i64 0]) (t := 27) ?_; intro gb287 hg w9 hbox hb; have BK287 := Aside0.mk (hbox); have GW287 := lsz hg HB; have GE287 := lsz hg HB; replace HB := bst HB hb; have NB285_287 := nlt hg BK285; have NB287_285 := ngt hg BK285; replace BK285 := bkb BK285 hb; have NB286_287 := nlt hg BK286; have NB287_286 := ngt hg BK286; replace BK286 := bkb BK286 hb; clear hb hbox hg))
  replace BK285 := Aside0.mk (blk_drew BK285.out)
  replace BK286 := Aside0.mk (blk_drew BK286.out)
  replace BK287 := Aside0.mk (blk_drew BK287.out)
  replace HB := Aside0.mk (below_drew1 HB.out)
  refine start_ (n := 7) (S := fun w' => w'.cell? ⟨gb285, 0, none⟩ = some (.int .i64 a0_0) ∧ w'.cell? ⟨gb285, 1, none⟩ = some (.int .i64 a0_1) ∧ w'.cell? ⟨gb286, 0, none⟩ = some (.int .i64 a1_0) ∧ w'.cell? ⟨gb286, 1, none⟩ = some (.int .i64 a1_1)) (ds := []) #[false, false, false, false, false, false, false] (by kernel_rfl) rfl rfl (c2 BK285 (e2 BK286)) (fun hHeld => ?_)
  generalize w9.drew = w10 at BK285 BK286 BK287 HB hHeld ⊢
  refine tk4 0 (some 7) #[true, false, false, false, false, false, false] (by kernel_rfl) hHeld ?_
  refine tk4 2 (some 9) #[true, false, true, false, false, false, false] (by kernel_rfl) hHeld ?_
  refine join_ (σ := Nat) 1 #[true, true, true, true, true, true, false] (fun s_ => [(8, .agg #[.int .i64 t288, .int .i64 t289]), (10, .agg #[.int .i64 t290, .int .i64 t291]), (6, .pointer (some ⟨s_, 0, none⟩)), (11, .agg #[.int .i64 t288, .int .i64 t289, .int .i64 t290, .int .i64 t291])]) (fun s_ w' => (w'.cell? ⟨gb285, 0, none⟩ = some (.int .i64 a0_0) ∧ w'.cell? ⟨gb285, 1, none⟩ = some (.int .i64 a0_1) ∧ w'.cell? ⟨gb286, 0, none⟩ = some (.int .i64 a1_0) ∧ w'.cell? ⟨gb286, 1, none⟩ = some (.int .i64 a1_1)) ∧ (w'.heap[gb285]? = some (.cells #[.int .i64 a0_0, .int .i64 a0_1] 25 (0, 0))) ∧ (w'.heap[gb286]? = some (.cells #[.int .i64 a1_0, .int .i64 a1_1] 25 (0, 0))) ∧ (w'.heap[gb287]? = some (.cells #[.int .i64 0, .int .i64 0, .int .i64 0, .int .i64 0] 27 (0, 0))) ∧ (w'.heap[s_]? = some (.cells #[.int .i64 0, .int .i64 0, .int .i64 0, .int .i64 0] 27 (0, 0))) ∧ (w.heap.size ≤ s_) ∧ (w.heap.size ≤ s_) ∧ (gb285 ≠ s_) ∧ (s_ ≠ gb285) ∧ (gb286 ≠ s_) ∧ (s_ ≠ gb286) ∧ (gb287 ≠ s_) ∧ (s_ ≠ gb287) ∧ (Below w.heap.size w w')) ?_ ?_
  rotate_left
  ·intro hCont
   refine two_ (i := 1) (j := 5) (Ni := some 8) (Nj := some 6) #[true, true, true, false, false, false, false] #[true, false, true, false, false, true, false] rfl rfl rfl rfl (by kernel_rfl) (by decide) (by decide) (fun K hK => ?_) (fun K hK => ?_)
   ·skip
    refine goes_ Try.func49 (by kernel_rfl) rfl #[.agg #[.int .i64 a0_0, .int .i64 a0_1]] (by rfl) rfl rfl (by (try simp only [List.map_toArray, List.map_cons, List.map_nil]); first | done | rfl | (simp only [List.length_drop, List.length_take]; rfl)) ?_
    with_reducible refine (bocageref02_Canon.calls k a0_0 a0_1 t288 t289 _ A3.out).mono ?_
    rintro e w11 ⟨rfl, hb⟩
    refine ⟨_, rfl, ?_⟩
    replace BK285 := bkb BK285 hb
    replace BK286 := bkb BK286 hb
    replace BK287 := bkb BK287 hb
    replace HB := bst HB hb
    (try clear hb)
    refine hK.out _ _ (c2 BK285 (e2 BK286)) (fun hHeld => ?_)
    clear hK K
    refine nrp 8 ?_
    refine two_ (i := 3) (j := 5) (Ni := some 10) (Nj := some 6) #[true, true, true, true, false, false, false] #[true, true, true, false, false, true, false] rfl rfl rfl rfl (by kernel_rfl) (by decide) (by decide) (fun K hK => ?_) (fun K hK => ?_)
    ·skip
     refine goes_ Try.func49 (by kernel_rfl) rfl #[.agg #[.int .i64 a1_0, .int .i64 a1_1]] (by rfl) rfl rfl (by (try simp only [List.map_toArray, List.map_cons, List.map_nil]); first | done | rfl | (simp only [List.length_drop, List.length_take]; rfl)) ?_
     with_reducible refine (bocageref02_Canon.calls k a1_0 a1_1 t290 t291 _ A4.out).mono ?_
     rintro e w12 ⟨rfl, hb⟩
     refine ⟨_, rfl, ?_⟩
     replace BK285 := bkb BK285 hb
     replace BK286 := bkb BK286 hb
     replace BK287 := bkb BK287 hb
     replace HB := bst HB hb
     (try clear hb)
     refine hK.out _ _ (c2 BK285 (e2 BK286)) (fun hHeld => ?_)
     clear hK K
     refine nrp 10 ?_
     refine pu 4 (some 11) #[true, true, true, true, true, false, false] (by kernel_rfl) ?_
     refine one_ (i := 5) (N := some 6) #[true, true, true, true, true, true, false] rfl rfl (by kernel_rfl) (by decide) (fun K hK => ?_)
     refine box_step ?hg (N := 6) ?hd (cs := #[.int .i64 0, .int .i64 0, .int .i64 0, .int .i64 0]) (t := 27) ?hr ?_; (case hd => rfl); (case hg => rfl); (case hr => first | (go_simp; done) | (go_simp; rfl))
     intro gb292 hg w13 hbox hb
     have BK292 := Aside0.mk (hbox)
     have GW292 := lsz hg HB
     have GE292 := lsz hg HB
     replace HB := bst HB hb
     have NB285_292 := nlt hg BK285
     have NB292_285 := ngt hg BK285
     replace BK285 := bkb BK285 hb
     have NB286_292 := nlt hg BK286
     have NB292_286 := ngt hg BK286
     replace BK286 := bkb BK286 hb
     have NB287_292 := nlt hg BK287
     have NB292_287 := ngt hg BK287
     replace BK287 := bkb BK287 hb
     clear hb hbox hg
     refine hK.out _ _ (c2 BK285 (e2 BK286)) (fun hHeld => ?_)
     clear hK K
     refine nrp 6 ?_
     exact nrm (hCont (gb292) _ ⟨hHeld, (bk BK285), (bk BK286), (bk BK287), (bk BK292), GW292.out, GE292.out, NB285_292.out, NB292_285.out, NB286_292.out, NB292_286.out, NB287_292.out, NB292_287.out, (bl HB)⟩)
    ·skip
     refine box_step ?hg (N := 6) ?hd (cs := #[.int .i64 0, .int .i64 0, .int .i64 0, .int .i64 0]) (t := 27) ?hr ?_; (case hd => rfl); (case hg => rfl); (case hr => first | (go_simp; done) | (go_simp; rfl))
     intro gb292 hg w12 hbox hb
     have BK292 := Aside0.mk (hbox)
     have GW292 := lsz hg HB
     have GE292 := lsz hg HB
     replace HB := bst HB hb
     have NB285_292 := nlt hg BK285
     have NB292_285 := ngt hg BK285
     replace BK285 := bkb BK285 hb
     have NB286_292 := nlt hg BK286
     have NB292_286 := ngt hg BK286
     replace BK286 := bkb BK286 hb
     have NB287_292 := nlt hg BK287
     have NB292_287 := ngt hg BK287
     replace BK287 := bkb BK287 hb
     clear hb hbox hg
     refine hK.out _ _ (c2 BK285 (e2 BK286)) (fun hHeld => ?_)
     clear hK K
     refine nrp 6 ?_
     refine one_ (i := 3) (N := some 10) #[true, true, true, true, false, true, false] rfl rfl (by kernel_rfl) (by decide) (fun K hK => ?_)
     refine goes_ Try.func49 (by kernel_rfl) rfl #[.agg #[.int .i64 a1_0, .int .i64 a1_1]] (by rfl) rfl rfl (by (try simp only [List.map_toArray, List.map_cons, List.map_nil]); first | done | rfl | (simp only [List.length_drop, List.length_take]; rfl)) ?_
     with_reducible refine (bocageref02_Canon.calls k a1_0 a1_1 t290 t291 _ A4.out).mono ?_
     rintro e w13 ⟨rfl, hb⟩
     refine ⟨_, rfl, ?_⟩
     replace BK285 := bkb BK285 hb
     replace BK286 := bkb BK286 hb
     replace BK287 := bkb BK287 hb
     replace BK292 := bkb BK292 hb
     replace HB := bst HB hb
     (try clear hb)
     refine hK.out _ _ (c2 BK285 (e2 BK286)) (fun hHeld => ?_)
     clear hK K
     refine nrp 10 ?_
     refine pu 4 (some 11) #[true, true, true, true, true, true, false] (by kernel_rfl) ?_
     exact nrm (hCont (gb292) _ ⟨hHeld, (bk BK285), (bk BK286), (bk BK287), (bk BK292), GW292.out, GE292.out, NB285_292.out, NB292_285.out, NB286_292.out, NB292_286.out, NB287_292.out, NB292_287.out, (bl HB)⟩)
   ·skip
    refine box_step ?hg (N := 6) ?hd (cs := #[.int .i64 0, .int .i64 0, .int .i64 0, .int .i64 0]) (t := 27) ?hr ?_; (case hd => rfl); (case hg => rfl); (case hr => first | (go_simp; done) | (go_simp; rfl))
    intro gb292 hg w11 hbox hb
    have BK292 := Aside0.mk (hbox)
    have GW292 := lsz hg HB
    have GE292 := lsz hg HB
    replace HB := bst HB hb
    have NB285_292 := nlt hg BK285
    have NB292_285 := ngt hg BK285
    replace BK285 := bkb BK285 hb
    have NB286_292 := nlt hg BK286
    have NB292_286 := ngt hg BK286
    replace BK286 := bkb BK286 hb
    have NB287_292 := nlt hg BK287
    have NB292_287 := ngt hg BK287
    replace BK287 := bkb BK287 hb
    clear hb hbox hg
    refine hK.out _ _ (c2 BK285 (e2 BK286)) (fun hHeld => ?_)
    clear hK K
    refine nrp 6 ?_
    refine one_ (i := 1) (N := some 8) #[true, true, true, false, false, true, false] rfl rfl (by kernel_rfl) (by decide) (fun K hK => ?_)
    refine goes_ Try.func49 (by kernel_rfl) rfl #[.agg #[.int .i64 a0_0, .int .i64 a0_1]] (by rfl) rfl rfl (by (try simp only [List.map_toArray, List.map_cons, List.map_nil]); first | done | rfl | (simp only [List.length_drop, List.length_take]; rfl)) ?_
    with_reducible refine (bocageref02_Canon.calls k a0_0 a0_1 t288 t289 _ A3.out).mono ?_
    rintro e w12 ⟨rfl, hb⟩
    refine ⟨_, rfl, ?_⟩
    replace BK285 := bkb BK285 hb
    replace BK286 := bkb BK286 hb
    replace BK287 := bkb BK287 hb
    replace BK292 := bkb BK292 hb
    replace HB := bst HB hb
    (try clear hb)
    refine hK.out _ _ (c2 BK285 (e2 BK286)) (fun hHeld => ?_)
    clear hK K
    refine nrp 8 ?_
    refine one_ (i := 3) (N := some 10) #[true, true, true, true, false, true, false] rfl rfl (by kernel_rfl) (by decide) (fun K hK => ?_)
    refine goes_ Try.func49 (by kernel_rfl) rfl #[.agg #[.int .i64 a1_0, .int .i64 a1_1]] (by rfl) rfl rfl (by (try simp only [List.map_toArray, List.map_cons, List.map_nil]); first | done | rfl | (simp only [List.length_drop, List.length_take]; rfl)) ?_
    with_reducible refine (bocageref02_Canon.calls k a1_0 a1_1 t290 t291 _ A4.out).mono ?_
    rintro e w13 ⟨rfl, hb⟩
    refine ⟨_, rfl, ?_⟩
    replace BK285 := bkb BK285 hb
    replace BK286 := bkb BK286 hb
    replace BK287 := bkb BK287 hb
    replace BK292 := bkb BK292 hb
    replace HB := bst HB hb
    (try clear hb)
    refine hK.out _ _ (c2 BK285 (e2 BK286)) (fun hHeld => ?_)
    clear hK K
    refine nrp 10 ?_
    refine pu 4 (some 11) #[true, true, true, true, true, true, false] (by kernel_rfl) ?_
    exact nrm (hCont (gb292) _ ⟨hHeld, (bk BK285), (bk BK286), (bk BK287), (bk BK292), GW292.out, GE292.out, NB285_292.out, NB292_285.out, NB286_292.out, NB292_286.out, NB287_292.out, NB292_287.out, (bl HB)⟩)
  rintro gb292 w14 ⟨hS_, h0_, h1_, h2_, h3_, h4_, h5_, h6_, h7_, h8_, h9_, h10_, h11_, h12_⟩
  replace BK285 : Aside0 (w14.heap[gb285]? = some (.cells #[.int .i64 a0_0, .int .i64 a0_1] 25 (0, 0))) := ⟨h0_⟩
  replace BK286 : Aside0 (w14.heap[gb286]? = some (.cells #[.int .i64 a1_0, .int .i64 a1_1] 25 (0, 0))) := ⟨h1_⟩
  replace BK287 : Aside0 (w14.heap[gb287]? = some (.cells #[.int .i64 0, .int .i64 0, .int .i64 0, .int .i64 0] 27 (0, 0))) := ⟨h2_⟩
  have BK292 : Aside0 (w14.heap[gb292]? = some (.cells #[.int .i64 0, .int .i64 0, .int .i64 0, .int .i64 0] 27 (0, 0))) := ⟨h3_⟩
  have GW292 : Aside0 (w.heap.size ≤ gb292) := ⟨h4_⟩
  have GE292 : Aside0 (w.heap.size ≤ gb292) := ⟨h5_⟩
  have NB285_292 : Aside0 (gb285 ≠ gb292) := ⟨h6_⟩
  have NB292_285 : Aside0 (gb292 ≠ gb285) := ⟨h7_⟩
  have NB286_292 : Aside0 (gb286 ≠ gb292) := ⟨h8_⟩
  have NB292_286 : Aside0 (gb292 ≠ gb286) := ⟨h9_⟩
  have NB287_292 : Aside0 (gb287 ≠ gb292) := ⟨h10_⟩
  have NB292_287 : Aside0 (gb292 ≠ gb287) := ⟨h11_⟩
  replace HB : Aside0 (Below w.heap.size w w14) := ⟨h12_⟩
  clear h0_ h1_ h2_ h3_ h4_ h5_ h6_ h7_ h8_ h9_ h10_ h11_ h12_
  have hHeld : w14.cell? ⟨gb285, 0, none⟩ = some (.int .i64 a0_0) ∧ w14.cell? ⟨gb285, 1, none⟩ = some (.int .i64 a0_1) ∧ w14.cell? ⟨gb286, 0, none⟩ = some (.int .i64 a1_0) ∧ w14.cell? ⟨gb286, 1, none⟩ = some (.int .i64 a1_1) := hS_
  refine nra ?_
  refine one_ (i := 6) (N := none) #[true, true, true, true, true, true, true] rfl rfl (by kernel_rfl) (by decide) (fun K hK => ?_)
  have hs15 : w14.cell? ⟨gb292, 0, none⟩ = some (.int .i64 0) := (blk_cell BK292.out 0).trans rfl
  have hfs15 := blk_frozen BK292.out 0
  have hns15_0 := NB285_292.out
  have hns15_1 := NB286_292.out
  have hns15_2 := NB287_292.out
  have hms15_0 := NB292_285.out
  have hms15_1 := NB292_286.out
  have hms15_2 := NB292_287.out
  have hs16 : w14.cell? ⟨gb292, 1, none⟩ = some (.int .i64 0) := (blk_cell BK292.out 1).trans rfl
  have hfs16 := blk_frozen BK292.out 1
  have hns16_0 := NB285_292.out
  have hns16_1 := NB286_292.out
  have hns16_2 := NB287_292.out
  have hms16_0 := NB292_285.out
  have hms16_1 := NB292_286.out
  have hms16_2 := NB292_287.out
  have hs17 : w14.cell? ⟨gb292, 2, none⟩ = some (.int .i64 0) := (blk_cell BK292.out 2).trans rfl
  have hfs17 := blk_frozen BK292.out 2
  have hns17_0 := NB285_292.out
  have hns17_1 := NB286_292.out
  have hns17_2 := NB287_292.out
  have hms17_0 := NB292_285.out
  have hms17_1 := NB292_286.out
  have hms17_2 := NB292_287.out
  have hs18 : w14.cell? ⟨gb292, 3, none⟩ = some (.int .i64 0) := (blk_cell BK292.out 3).trans rfl
  have hfs18 := blk_frozen BK292.out 3
  have hns18_0 := NB285_292.out
  have hns18_1 := NB286_292.out
  have hns18_2 := NB287_292.out
  have hms18_0 := NB292_285.out
  have hms18_1 := NB292_286.out
  have hms18_2 := NB292_287.out
  refine skip_ (w1 := ?_) (by rfl) rfl ?_ ?_
  rotate_left
  ·go_simp
   rfl
  refine hK.out _ _ ⟨((cell_far (p := ⟨gb292, _, none⟩) NB285_292.out _).trans (((cell_far (p := ⟨gb292, _, none⟩) NB285_292.out _).trans (((cell_far (p := ⟨gb292, _, none⟩) NB285_292.out _).trans (((cell_far (p := ⟨gb292, _, none⟩) NB285_292.out _).trans (hHeld.1)))))))), ((cell_far (p := ⟨gb292, _, none⟩) NB285_292.out _).trans (((cell_far (p := ⟨gb292, _, none⟩) NB285_292.out _).trans (((cell_far (p := ⟨gb292, _, none⟩) NB285_292.out _).trans (((cell_far (p := ⟨gb292, _, none⟩) NB285_292.out _).trans (hHeld.2.1)))))))), ((cell_far (p := ⟨gb292, _, none⟩) NB286_292.out _).trans (((cell_far (p := ⟨gb292, _, none⟩) NB286_292.out _).trans (((cell_far (p := ⟨gb292, _, none⟩) NB286_292.out _).trans (((cell_far (p := ⟨gb292, _, none⟩) NB286_292.out _).trans (hHeld.2.2.1)))))))), ((cell_far (p := ⟨gb292, _, none⟩) NB286_292.out _).trans (((cell_far (p := ⟨gb292, _, none⟩) NB286_292.out _).trans (((cell_far (p := ⟨gb292, _, none⟩) NB286_292.out _).trans (((cell_far (p := ⟨gb292, _, none⟩) NB286_292.out _).trans (hHeld.2.2.2))))))))⟩ (fun hHeld => ?_)
  clear hK K
  refine done_ (by kernel_rfl) ?_
  have hnb19 := NB292_285.out
  have hnc19 := NB285_292.out
  have hnb20 := NB292_286.out
  have hnc20 := NB286_292.out
  have hnb21 := NB292_287.out
  have hnc21 := NB287_292.out
  have hcz22_0 : w14.cell? ⟨gb292, 0, none⟩ = some (.int .i64 0) := (blk_cell BK292.out 0).trans rfl
  have hcz22_1 : w14.cell? ⟨gb292, 1, none⟩ = some (.int .i64 0) := (blk_cell BK292.out 1).trans rfl
  have hcz22_2 : w14.cell? ⟨gb292, 2, none⟩ = some (.int .i64 0) := (blk_cell BK292.out 2).trans rfl
  have hcz22_3 : w14.cell? ⟨gb292, 3, none⟩ = some (.int .i64 0) := (blk_cell BK292.out 3).trans rfl
  have hfz22_0 := blk_frozen BK292.out 0
  have hfz22_1 := blk_frozen BK292.out 1
  have hfz22_2 := blk_frozen BK292.out 2
  have hfz22_3 := blk_frozen BK292.out 3
  try go_wp2_with (first | ((with_reducible refine gate_callee (f := 20) rfl ?_); refine gol (some 13) Try.func20 #[.agg #[.int .i64 t288, .int .i64 t289, .int .i64 t290, .int .i64 t291]] ?_; (with_reducible refine (bocageref03_Right.calls k t288 t289 t290 t291 true _ A5.out).mono ?_); rintro e w23 ⟨rfl, hb⟩; refine ⟨_, rfl, ?_⟩; replace BK285 := Aside0.mk (blk_below (bkf BK285 NB285_292) hb); replace BK286 := Aside0.mk (blk_below (bkf BK286 NB286_292) hb); replace BK287 := Aside0.mk (blk_below (bkf BK287 NB287_292) hb); replace BK292 := Aside0.mk (blk_below (g := gb292) (o := .cells #[.int .i64 t288, .int .i64 t289, .int .i64 t290, .int .i64 t291] 27 (0, 0)) (bkp BK292) hb); replace HB := bst HB hb; (try clear hb); (try clear hb2); (try clear hk); (try clear hi); obtain ⟨hcz24_0, hcz24_1, hcz24_2, hcz24_3⟩ := e4 BK292; obtain ⟨hfz24_0, hfz24_1, hfz24_2, hfz24_3⟩ := f4 BK292; have hnb25 := NB287_285.out; have hnc25 := NB285_287.out; have hnb26 := NB287_286.out; have hnc26 := NB286_287.out; obtain ⟨hcz27_0, hcz27_1, hcz27_2, hcz27_3⟩ := e4 BK287; obtain ⟨hfz27_0, hfz27_1, hfz27_2, hfz27_3⟩ := f4 BK287))
  refine bodyPost_ret (results_ct rfl _ _ gb287 27 #[.int .i64 t288, .int .i64 t289, .int .i64 t290, .int .i64 t291] (0, 0) _ rfl (bkp BK287) Try.underlying27 rfl (by kernel_rfl)) rfl ?_
  exact endB HB
 ·replace c6 := Bool.eq_false_iff.mpr c6
  subst c6
  have H1 : (some (0, 0, 0, 0, 30)) = some (r1, r2, r3, r4, r5) := by rw [if_neg (show ¬ (false = true) by decide)] at H; exact H
  clear H
  have H := H1
  clear H1
  simp only [Option.some.injEq, Prod.mk.injEq] at H
  obtain ⟨rfl, rfl, rfl, rfl, rfl⟩ := H
  go_enter Try.func27, Try.ntmps27
  try go_wp2_with (first | ((with_reducible refine gate_dst (N := 2) rfl ?_); refine bxe (N := 2) (cs := #[.int .i64 a0_0, .int .i64 a0_1]) (t := 25) ?_; intro gb285 hg w28 hbox hb; have BK285 := Aside0.mk (hbox); have GW285 := lsz hg HB; have GE285 := lsz hg HB; replace HB := bst HB hb; clear hb hbox hg) | ((with_reducible refine gate_dst (N := 3) rfl ?_); refine bxe (N := 3) (cs := #[.int .i64 a1_0, .int .i64 a1_1]) (t := 25) ?_; intro gb286 hg w29 hbox hb; have BK286 := Aside0.mk (hbox); have GW286 := lsz hg HB; have GE286 := lsz hg HB; replace HB := bst HB hb; have NB285_286 := nlt hg BK285; have NB286_285 := ngt hg BK285; replace BK285 := bkb BK285 hb; clear hb hbox hg) | ((with_reducible refine gate_dst (N := 4) rfl ?_); refine bxe (N := 4) (cs := #[.int .i64 0, .int .i64 0, .int .i64 0, .int .i64 0]) (t := 27) ?_; intro gb287 hg w30 hbox hb; have BK287 := Aside0.mk (hbox); have GW287 := lsz hg HB; have GE287 := lsz hg HB; replace HB := bst HB hb; have NB285_287 := nlt hg BK285; have NB287_285 := ngt hg BK285; replace BK285 := bkb BK285 hb; have NB286_287 := nlt hg BK286; have NB287_286 := ngt hg BK286; replace BK286 := bkb BK286 hb; clear hb hbox hg))
  replace BK285 := Aside0.mk (blk_drew BK285.out)
  replace BK286 := Aside0.mk (blk_drew BK286.out)
  replace BK287 := Aside0.mk (blk_drew BK287.out)
  replace HB := Aside0.mk (below_drew1 HB.out)
  refine start_ (n := 7) (S := fun w' => w'.cell? ⟨gb285, 0, none⟩ = some (.int .i64 a0_0) ∧ w'.cell? ⟨gb285, 1, none⟩ = some (.int .i64 a0_1) ∧ w'.cell? ⟨gb286, 0, none⟩ = some (.int .i64 a1_0) ∧ w'.cell? ⟨gb286, 1, none⟩ = some (.int .i64 a1_1)) (ds := []) #[false, false, false, false, false, false, false] (by kernel_rfl) rfl rfl (c2 BK285 (e2 BK286)) (fun hHeld => ?_)
  generalize w30.drew = w31 at BK285 BK286 BK287 HB hHeld ⊢
  refine tk4 0 (some 7) #[true, false, false, false, false, false, false] (by kernel_rfl) hHeld ?_
  refine tk4 2 (some 9) #[true, false, true, false, false, false, false] (by kernel_rfl) hHeld ?_
  refine join_ (σ := Nat) 1 #[true, true, true, true, true, true, false] (fun s_ => [(8, .agg #[.int .i64 t288, .int .i64 t289]), (10, .agg #[.int .i64 t290, .int .i64 t291]), (6, .pointer (some ⟨s_, 0, none⟩)), (11, .agg #[.int .i64 t288, .int .i64 t289, .int .i64 t290, .int .i64 t291])]) (fun s_ w' => (w'.cell? ⟨gb285, 0, none⟩ = some (.int .i64 a0_0) ∧ w'.cell? ⟨gb285, 1, none⟩ = some (.int .i64 a0_1) ∧ w'.cell? ⟨gb286, 0, none⟩ = some (.int .i64 a1_0) ∧ w'.cell? ⟨gb286, 1, none⟩ = some (.int .i64 a1_1)) ∧ (w'.heap[gb285]? = some (.cells #[.int .i64 a0_0, .int .i64 a0_1] 25 (0, 0))) ∧ (w'.heap[gb286]? = some (.cells #[.int .i64 a1_0, .int .i64 a1_1] 25 (0, 0))) ∧ (w'.heap[gb287]? = some (.cells #[.int .i64 0, .int .i64 0, .int .i64 0, .int .i64 0] 27 (0, 0))) ∧ (w'.heap[s_]? = some (.cells #[.int .i64 0, .int .i64 0, .int .i64 0, .int .i64 0] 27 (0, 0))) ∧ (w.heap.size ≤ s_) ∧ (w.heap.size ≤ s_) ∧ (gb285 ≠ s_) ∧ (s_ ≠ gb285) ∧ (gb286 ≠ s_) ∧ (s_ ≠ gb286) ∧ (gb287 ≠ s_) ∧ (s_ ≠ gb287) ∧ (Below w.heap.size w w')) ?_ ?_
  rotate_left
  ·intro hCont
   refine two_ (i := 1) (j := 5) (Ni := some 8) (Nj := some 6) #[true, true, true, false, false, false, false] #[true, false, true, false, false, true, false] rfl rfl rfl rfl (by kernel_rfl) (by decide) (by decide) (fun K hK => ?_) (fun K hK => ?_)
   ·skip
    refine goes_ Try.func49 (by kernel_rfl) rfl #[.agg #[.int .i64 a0_0, .int .i64 a0_1]] (by rfl) rfl rfl (by (try simp only [List.map_toArray, List.map_cons, List.map_nil]); first | done | rfl | (simp only [List.length_drop, List.length_take]; rfl)) ?_
    with_reducible refine (bocageref02_Canon.calls k a0_0 a0_1 t288 t289 _ A3.out).mono ?_
    rintro e w32 ⟨rfl, hb⟩
    refine ⟨_, rfl, ?_⟩
    replace BK285 := bkb BK285 hb
    replace BK286 := bkb BK286 hb
    replace BK287 := bkb BK287 hb
    replace HB := bst HB hb
    (try clear hb)
    refine hK.out _ _ (c2 BK285 (e2 BK286)) (fun hHeld => ?_)
    clear hK K
    refine nrp 8 ?_
    refine two_ (i := 3) (j := 5) (Ni := some 10) (Nj := some 6) #[true, true, true, true, false, false, false] #[true, true, true, false, false, true, false] rfl rfl rfl rfl (by kernel_rfl) (by decide) (by decide) (fun K hK => ?_) (fun K hK => ?_)
    ·skip
     refine goes_ Try.func49 (by kernel_rfl) rfl #[.agg #[.int .i64 a1_0, .int .i64 a1_1]] (by rfl) rfl rfl (by (try simp only [List.map_toArray, List.map_cons, List.map_nil]); first | done | rfl | (simp only [List.length_drop, List.length_take]; rfl)) ?_
     with_reducible refine (bocageref02_Canon.calls k a1_0 a1_1 t290 t291 _ A4.out).mono ?_
     rintro e w33 ⟨rfl, hb⟩
     refine ⟨_, rfl, ?_⟩
     replace BK285 := bkb BK285 hb
     replace BK286 := bkb BK286 hb
     replace BK287 := bkb BK287 hb
     replace HB := bst HB hb
     (try clear hb)
     refine hK.out _ _ (c2 BK285 (e2 BK286)) (fun hHeld => ?_)
     clear hK K
     refine nrp 10 ?_
     refine pu 4 (some 11) #[true, true, true, true, true, false, false] (by kernel_rfl) ?_
     refine one_ (i := 5) (N := some 6) #[true, true, true, true, true, true, false] rfl rfl (by kernel_rfl) (by decide) (fun K hK => ?_)
     refine box_step ?hg (N := 6) ?hd (cs := #[.int .i64 0, .int .i64 0, .int .i64 0, .int .i64 0]) (t := 27) ?hr ?_; (case hd => rfl); (case hg => rfl); (case hr => first | (go_simp; done) | (go_simp; rfl))
     intro gb292 hg w34 hbox hb
     have BK292 := Aside0.mk (hbox)
     have GW292 := lsz hg HB
     have GE292 := lsz hg HB
     replace HB := bst HB hb
     have NB285_292 := nlt hg BK285
     have NB292_285 := ngt hg BK285
     replace BK285 := bkb BK285 hb
     have NB286_292 := nlt hg BK286
     have NB292_286 := ngt hg BK286
     replace BK286 := bkb BK286 hb
     have NB287_292 := nlt hg BK287
     have NB292_287 := ngt hg BK287
     replace BK287 := bkb BK287 hb
     clear hb hbox hg
     refine hK.out _ _ (c2 BK285 (e2 BK286)) (fun hHeld => ?_)
     clear hK K
     refine nrp 6 ?_
     exact nrm (hCont (gb292) _ ⟨hHeld, (bk BK285), (bk BK286), (bk BK287), (bk BK292), GW292.out, GE292.out, NB285_292.out, NB292_285.out, NB286_292.out, NB292_286.out, NB287_292.out, NB292_287.out, (bl HB)⟩)
    ·skip
     refine box_step ?hg (N := 6) ?hd (cs := #[.int .i64 0, .int .i64 0, .int .i64 0, .int .i64 0]) (t := 27) ?hr ?_; (case hd => rfl); (case hg => rfl); (case hr => first | (go_simp; done) | (go_simp; rfl))
     intro gb292 hg w33 hbox hb
     have BK292 := Aside0.mk (hbox)
     have GW292 := lsz hg HB
     have GE292 := lsz hg HB
     replace HB := bst HB hb
     have NB285_292 := nlt hg BK285
     have NB292_285 := ngt hg BK285
     replace BK285 := bkb BK285 hb
     have NB286_292 := nlt hg BK286
     have NB292_286 := ngt hg BK286
     replace BK286 := bkb BK286 hb
     have NB287_292 := nlt hg BK287
     have NB292_287 := ngt hg BK287
     replace BK287 := bkb BK287 hb
     clear hb hbox hg
     refine hK.out _ _ (c2 BK285 (e2 BK286)) (fun hHeld => ?_)
     clear hK K
     refine nrp 6 ?_
     refine one_ (i := 3) (N := some 10) #[true, true, true, true, false, true, false] rfl rfl (by kernel_rfl) (by decide) (fun K hK => ?_)
     refine goes_ Try.func49 (by kernel_rfl) rfl #[.agg #[.int .i64 a1_0, .int .i64 a1_1]] (by rfl) rfl rfl (by (try simp only [List.map_toArray, List.map_cons, List.map_nil]); first | done | rfl | (simp only [List.length_drop, List.length_take]; rfl)) ?_
     with_reducible refine (bocageref02_Canon.calls k a1_0 a1_1 t290 t291 _ A4.out).mono ?_
     rintro e w34 ⟨rfl, hb⟩
     refine ⟨_, rfl, ?_⟩
     replace BK285 := bkb BK285 hb
     replace BK286 := bkb BK286 hb
     replace BK287 := bkb BK287 hb
     replace BK292 := bkb BK292 hb
     replace HB := bst HB hb
     (try clear hb)
     refine hK.out _ _ (c2 BK285 (e2 BK286)) (fun hHeld => ?_)
     clear hK K
     refine nrp 10 ?_
     refine pu 4 (some 11) #[true, true, true, true, true, true, false] (by kernel_rfl) ?_
     exact nrm (hCont (gb292) _ ⟨hHeld, (bk BK285), (bk BK286), (bk BK287), (bk BK292), GW292.out, GE292.out, NB285_292.out, NB292_285.out, NB286_292.out, NB292_286.out, NB287_292.out, NB292_287.out, (bl HB)⟩)
   ·skip
    refine box_step ?hg (N := 6) ?hd (cs := #[.int .i64 0, .int .i64 0, .int .i64 0, .int .i64 0]) (t := 27) ?hr ?_; (case hd => rfl); (case hg => rfl); (case hr => first | (go_simp; done) | (go_simp; rfl))
    intro gb292 hg w32 hbox hb
    have BK292 := Aside0.mk (hbox)
    have GW292 := lsz hg HB
    have GE292 := lsz hg HB
    replace HB := bst HB hb
    have NB285_292 := nlt hg BK285
    have NB292_285 := ngt hg BK285
    replace BK285 := bkb BK285 hb
    have NB286_292 := nlt hg BK286
    have NB292_286 := ngt hg BK286
    replace BK286 := bkb BK286 hb
    have NB287_292 := nlt hg BK287
    have NB292_287 := ngt hg BK287
    replace BK287 := bkb BK287 hb
    clear hb hbox hg
    refine hK.out _ _ (c2 BK285 (e2 BK286)) (fun hHeld => ?_)
    clear hK K
    refine nrp 6 ?_
    refine one_ (i := 1) (N := some 8) #[true, true, true, false, false, true, false] rfl rfl (by kernel_rfl) (by decide) (fun K hK => ?_)
    refine goes_ Try.func49 (by kernel_rfl) rfl #[.agg #[.int .i64 a0_0, .int .i64 a0_1]] (by rfl) rfl rfl (by (try simp only [List.map_toArray, List.map_cons, List.map_nil]); first | done | rfl | (simp only [List.length_drop, List.length_take]; rfl)) ?_
    with_reducible refine (bocageref02_Canon.calls k a0_0 a0_1 t288 t289 _ A3.out).mono ?_
    rintro e w33 ⟨rfl, hb⟩
    refine ⟨_, rfl, ?_⟩
    replace BK285 := bkb BK285 hb
    replace BK286 := bkb BK286 hb
    replace BK287 := bkb BK287 hb
    replace BK292 := bkb BK292 hb
    replace HB := bst HB hb
    (try clear hb)
    refine hK.out _ _ (c2 BK285 (e2 BK286)) (fun hHeld => ?_)
    clear hK K
    refine nrp 8 ?_
    refine one_ (i := 3) (N := some 10) #[true, true, true, true, false, true, false] rfl rfl (by kernel_rfl) (by decide) (fun K hK => ?_)
    refine goes_ Try.func49 (by kernel_rfl) rfl #[.agg #[.int .i64 a1_0, .int .i64 a1_1]] (by rfl) rfl rfl (by (try simp only [List.map_toArray, List.map_cons, List.map_nil]); first | done | rfl | (simp only [List.length_drop, List.length_take]; rfl)) ?_
    with_reducible refine (bocageref02_Canon.calls k a1_0 a1_1 t290 t291 _ A4.out).mono ?_
    rintro e w34 ⟨rfl, hb⟩
    refine ⟨_, rfl, ?_⟩
    replace BK285 := bkb BK285 hb
    replace BK286 := bkb BK286 hb
    replace BK287 := bkb BK287 hb
    replace BK292 := bkb BK292 hb
    replace HB := bst HB hb
    (try clear hb)
    refine hK.out _ _ (c2 BK285 (e2 BK286)) (fun hHeld => ?_)
    clear hK K
    refine nrp 10 ?_
    refine pu 4 (some 11) #[true, true, true, true, true, true, false] (by kernel_rfl) ?_
    exact nrm (hCont (gb292) _ ⟨hHeld, (bk BK285), (bk BK286), (bk BK287), (bk BK292), GW292.out, GE292.out, NB285_292.out, NB292_285.out, NB286_292.out, NB292_286.out, NB287_292.out, NB292_287.out, (bl HB)⟩)
  rintro gb292 w35 ⟨hS_, h0_, h1_, h2_, h3_, h4_, h5_, h6_, h7_, h8_, h9_, h10_, h11_, h12_⟩
  replace BK285 : Aside0 (w35.heap[gb285]? = some (.cells #[.int .i64 a0_0, .int .i64 a0_1] 25 (0, 0))) := ⟨h0_⟩
  replace BK286 : Aside0 (w35.heap[gb286]? = some (.cells #[.int .i64 a1_0, .int .i64 a1_1] 25 (0, 0))) := ⟨h1_⟩
  replace BK287 : Aside0 (w35.heap[gb287]? = some (.cells #[.int .i64 0, .int .i64 0, .int .i64 0, .int .i64 0] 27 (0, 0))) := ⟨h2_⟩
  have BK292 : Aside0 (w35.heap[gb292]? = some (.cells #[.int .i64 0, .int .i64 0, .int .i64 0, .int .i64 0] 27 (0, 0))) := ⟨h3_⟩
  have GW292 : Aside0 (w.heap.size ≤ gb292) := ⟨h4_⟩
  have GE292 : Aside0 (w.heap.size ≤ gb292) := ⟨h5_⟩
  have NB285_292 : Aside0 (gb285 ≠ gb292) := ⟨h6_⟩
  have NB292_285 : Aside0 (gb292 ≠ gb285) := ⟨h7_⟩
  have NB286_292 : Aside0 (gb286 ≠ gb292) := ⟨h8_⟩
  have NB292_286 : Aside0 (gb292 ≠ gb286) := ⟨h9_⟩
  have NB287_292 : Aside0 (gb287 ≠ gb292) := ⟨h10_⟩
  have NB292_287 : Aside0 (gb292 ≠ gb287) := ⟨h11_⟩
  replace HB : Aside0 (Below w.heap.size w w35) := ⟨h12_⟩
  clear h0_ h1_ h2_ h3_ h4_ h5_ h6_ h7_ h8_ h9_ h10_ h11_ h12_
  have hHeld : w35.cell? ⟨gb285, 0, none⟩ = some (.int .i64 a0_0) ∧ w35.cell? ⟨gb285, 1, none⟩ = some (.int .i64 a0_1) ∧ w35.cell? ⟨gb286, 0, none⟩ = some (.int .i64 a1_0) ∧ w35.cell? ⟨gb286, 1, none⟩ = some (.int .i64 a1_1) := hS_
  refine nra ?_
  refine one_ (i := 6) (N := none) #[true, true, true, true, true, true, true] rfl rfl (by kernel_rfl) (by decide) (fun K hK => ?_)
  have hs36 : w35.cell? ⟨gb292, 0, none⟩ = some (.int .i64 0) := (blk_cell BK292.out 0).trans rfl
  have hfs36 := blk_frozen BK292.out 0
  have hns36_0 := NB285_292.out
  have hns36_1 := NB286_292.out
  have hns36_2 := NB287_292.out
  have hms36_0 := NB292_285.out
  have hms36_1 := NB292_286.out
  have hms36_2 := NB292_287.out
  have hs37 : w35.cell? ⟨gb292, 1, none⟩ = some (.int .i64 0) := (blk_cell BK292.out 1).trans rfl
  have hfs37 := blk_frozen BK292.out 1
  have hns37_0 := NB285_292.out
  have hns37_1 := NB286_292.out
  have hns37_2 := NB287_292.out
  have hms37_0 := NB292_285.out
  have hms37_1 := NB292_286.out
  have hms37_2 := NB292_287.out
  have hs38 : w35.cell? ⟨gb292, 2, none⟩ = some (.int .i64 0) := (blk_cell BK292.out 2).trans rfl
  have hfs38 := blk_frozen BK292.out 2
  have hns38_0 := NB285_292.out
  have hns38_1 := NB286_292.out
  have hns38_2 := NB287_292.out
  have hms38_0 := NB292_285.out
  have hms38_1 := NB292_286.out
  have hms38_2 := NB292_287.out
  have hs39 : w35.cell? ⟨gb292, 3, none⟩ = some (.int .i64 0) := (blk_cell BK292.out 3).trans rfl
  have hfs39 := blk_frozen BK292.out 3
  have hns39_0 := NB285_292.out
  have hns39_1 := NB286_292.out
  have hns39_2 := NB287_292.out
  have hms39_0 := NB292_285.out
  have hms39_1 := NB292_286.out
  have hms39_2 := NB292_287.out
  refine skip_ (w1 := ?_) (by rfl) rfl ?_ ?_
  rotate_left
  ·go_simp
   rfl
  refine hK.out _ _ ⟨((cell_far (p := ⟨gb292, _, none⟩) NB285_292.out _).trans (((cell_far (p := ⟨gb292, _, none⟩) NB285_292.out _).trans (((cell_far (p := ⟨gb292, _, none⟩) NB285_292.out _).trans (((cell_far (p := ⟨gb292, _, none⟩) NB285_292.out _).trans (hHeld.1)))))))), ((cell_far (p := ⟨gb292, _, none⟩) NB285_292.out _).trans (((cell_far (p := ⟨gb292, _, none⟩) NB285_292.out _).trans (((cell_far (p := ⟨gb292, _, none⟩) NB285_292.out _).trans (((cell_far (p := ⟨gb292, _, none⟩) NB285_292.out _).trans (hHeld.2.1)))))))), ((cell_far (p := ⟨gb292, _, none⟩) NB286_292.out _).trans (((cell_far (p := ⟨gb292, _, none⟩) NB286_292.out _).trans (((cell_far (p := ⟨gb292, _, none⟩) NB286_292.out _).trans (((cell_far (p := ⟨gb292, _, none⟩) NB286_292.out _).trans (hHeld.2.2.1)))))))), ((cell_far (p := ⟨gb292, _, none⟩) NB286_292.out _).trans (((cell_far (p := ⟨gb292, _, none⟩) NB286_292.out _).trans (((cell_far (p := ⟨gb292, _, none⟩) NB286_292.out _).trans (((cell_far (p := ⟨gb292, _, none⟩) NB286_292.out _).trans (hHeld.2.2.2))))))))⟩ (fun hHeld => ?_)
  clear hK K
  refine done_ (by kernel_rfl) ?_
  have hnb40 := NB292_285.out
  have hnc40 := NB285_292.out
  have hnb41 := NB292_286.out
  have hnc41 := NB286_292.out
  have hnb42 := NB292_287.out
  have hnc42 := NB287_292.out
  have hcz43_0 : w35.cell? ⟨gb292, 0, none⟩ = some (.int .i64 0) := (blk_cell BK292.out 0).trans rfl
  have hcz43_1 : w35.cell? ⟨gb292, 1, none⟩ = some (.int .i64 0) := (blk_cell BK292.out 1).trans rfl
  have hcz43_2 : w35.cell? ⟨gb292, 2, none⟩ = some (.int .i64 0) := (blk_cell BK292.out 2).trans rfl
  have hcz43_3 : w35.cell? ⟨gb292, 3, none⟩ = some (.int .i64 0) := (blk_cell BK292.out 3).trans rfl
  have hfz43_0 := blk_frozen BK292.out 0
  have hfz43_1 := blk_frozen BK292.out 1
  have hfz43_2 := blk_frozen BK292.out 2
  have hfz43_3 := blk_frozen BK292.out 3
  try go_wp2_with (first | ((with_reducible refine gate_callee (f := 20) rfl ?_); refine gol (some 13) Try.func20 #[.agg #[.int .i64 t288, .int .i64 t289, .int .i64 t290, .int .i64 t291]] ?_; (with_reducible refine (bocageref03_Right.calls k t288 t289 t290 t291 false _ A5.out).mono ?_); rintro e w44 ⟨rfl, hb⟩; refine ⟨_, rfl, ?_⟩; replace BK285 := Aside0.mk (blk_below (bkf BK285 NB285_292) hb); replace BK286 := Aside0.mk (blk_below (bkf BK286 NB286_292) hb); replace BK287 := Aside0.mk (blk_below (bkf BK287 NB287_292) hb); replace BK292 := Aside0.mk (blk_below (g := gb292) (o := .cells #[.int .i64 t288, .int .i64 t289, .int .i64 t290, .int .i64 t291] 27 (0, 0)) (bkp BK292) hb); replace HB := bst HB hb; (try clear hb); (try clear hb2); (try clear hk); (try clear hi); have hnb45 := NB287_285.out; have hnc45 := NB285_287.out; have hnb46 := NB287_286.out; have hnc46 := NB286_287.out; obtain ⟨hcz47_0, hcz47_1, hcz47_2, hcz47_3⟩ := e4 BK287; obtain ⟨hfz47_0, hfz47_1, hfz47_2, hfz47_3⟩ := f4 BK287))
  refine bodyPost_ret (results_ct rfl _ _ gb287 27 #[.int .i64 0, .int .i64 0, .int .i64 0, .int .i64 0] (0, 0) _ rfl (bkp BK287) Try.underlying27 rfl (by kernel_rfl)) rfl ?_
  exact endB HB
/-! ### bocageref02_Ahead: function 35 -/
def bocageref02_Ahead.f (k : Nat) (a0 : Int) : Option (Int × Int) := (bocageref02_Canon.f k 0 a0).bind fun bt313 => (some (bt313.1, bt313.2))
theorem bocageref02_Ahead.mono : ∀ a0 k, LeO (bocageref02_Ahead.f k a0) (bocageref02_Ahead.f (k + 1) a0) := by
 intro a0 k
 unfold bocageref02_Ahead.f
 repeat' first
   | (with_reducible exact bocageref02_Canon.mono _ _ _)
   | (with_reducible exact LeO.refl _)
   | (with_reducible exact LeO.none _)
   | (with_reducible refine LeO.ite ?_ ?_)
   | (with_reducible refine LeO.bind ?_ (fun _ => ?_))
   | exact bocageref02_Canon.mono _ _ _
   | exact LeO.none _
   | refine LeO.ite ?_ ?_
   | refine LeO.bind ?_ (fun _ => ?_)
set_option maxHeartbeats 8000000 in
set_option maxRecDepth 100000 in
theorem bocageref02_Ahead.calls (k : Nat) (a0 : Int) (r1 : Int) (r2 : Int) (w : World) (h : bocageref02_Ahead.f k a0 = some (r1, r2)) :
  Calls Try.prog 35 #[.int .i64 a0] w fun e w' => e = .returned (.agg #[.int .i64 r1, .int .i64 r2]) ∧ Below w.heap.size w w' := by
 have hu25 := Try.underlying25
 have HB := Aside0.mk (Below.refl w.heap.size w)
 have H : ((bocageref02_Canon.f k 0 a0).bind fun bt313 => (some (bt313.1, bt313.2))) = some (r1, r2) := h
 clear h
 replace H := Option.bind_eq_some_iff.mp H
 obtain ⟨⟨t313, t314⟩, A20, H⟩ := H
 replace H : (some (t313, t314)) = some (r1, r2) := H
 have A2 := Aside0.mk A20
 clear A20
 simp only [Option.some.injEq, Prod.mk.injEq] at H
 obtain ⟨rfl, rfl⟩ := H
 go_enter Try.func35, Try.ntmps35
 go_wp2_with (first | ((with_reducible refine gate_dst (N := 2) rfl ?_); refine bxe (N := 2) (cs := #[.int .i64 0, .int .i64 0]) (t := 25) ?_; intro gb312 hg w3 hbox hb; have BK312 := Aside0.mk (hbox); have GW312 := lsz hg HB; have GE312 := lsz hg HB; replace HB := bst HB hb; clear hb hbox hg) | ((with_reducible refine gate_callee (f := 49) rfl ?_); refine gol (some 5) Try.func49 #[.agg #[.int .i64 0, .int .i64 a0]] ?_; (with_reducible refine (bocageref02_Canon.calls k 0 a0 t313 t314 _ A2.out).mono ?_); rintro e w4 ⟨rfl, hb⟩; refine ⟨_, rfl, ?_⟩; replace BK312 := bkb BK312 hb; replace HB := bst HB hb; (try clear hb); (try clear hb2); (try clear hk); (try clear hi); obtain ⟨hcz5_0, hcz5_1⟩ := e2 BK312; obtain ⟨hfz5_0, hfz5_1⟩ := f2 BK312))
 refine bodyPost_ret (results_cell_row rfl _ _ gb312 25 #[.int .i64 t313, .int .i64 t314] (0, 0) _ rfl (bkp BK312) Try.underlying25 rfl (by kernel_rfl)) rfl ?_
 exact endB HB
/-! ### bocageref02_Behind: function 51 -/
def bocageref02_Behind.f (a0 : Int) : Option (Int × Int) := if a0 = 9223372036854775807 then (some (1, 0)) else (some (0, wrap64 (a0 + 1)))
set_option maxHeartbeats 8000000 in
set_option maxRecDepth 100000 in
theorem bocageref02_Behind.calls (a0 : Int) (r1 : Int) (r2 : Int) (w : World) (h : bocageref02_Behind.f a0 = some (r1, r2)) :
  Calls Try.prog 51 #[.int .i64 a0] w fun e w' => e = .returned (.agg #[.int .i64 r1, .int .i64 r2]) ∧ Below w.heap.size w w' := by
 have hu25 := Try.underlying25
 have HB := Aside0.mk (Below.refl w.heap.size w)
 have H : (if a0 = 9223372036854775807 then (some (1, 0)) else (some (0, wrap64 (a0 + 1)))) = some (r1, r2) := h
 clear h
 by_cases c2 : a0 = 9223372036854775807
 ·rw [if_pos c2] at H
  have c2b0 : (a0 == 9223372036854775807) = true := beq_iff_eq.mpr c2
  have c2b1 : (a0 != 9223372036854775807) = false := bne_eq_false_iff_eq.mpr c2
  clear c2
  simp only [Option.some.injEq, Prod.mk.injEq] at H
  obtain ⟨rfl, rfl⟩ := H
  go_enter Try.func51, Try.ntmps51
  go_wp2_with (first | ((with_reducible refine gate_dst (N := 2) rfl ?_); refine bxe (N := 2) (cs := #[.int .i64 0, .int .i64 0]) (t := 25) ?_; intro gb315 hg w3 hbox hb; have BK315 := Aside0.mk (hbox); have GW315 := lsz hg HB; have GE315 := lsz hg HB; replace HB := bst HB hb; clear hb hbox hg; obtain ⟨hcz4_0, hcz4_1⟩ := e2 BK315; obtain ⟨hfz4_0, hfz4_1⟩ := f2 BK315))
  refine bodyPost_ret (results_cell_row rfl _ _ gb315 25 #[.int .i64 1, .int .i64 0] (0, 0) _ rfl (bkp BK315) Try.underlying25 rfl (by kernel_rfl)) rfl ?_
  exact endB HB
 ·rw [if_neg c2] at H
  have c2b0 : (a0 == 9223372036854775807) = false := beq_eq_false_iff_ne.mpr c2
  have c2b1 : (a0 != 9223372036854775807) = true := bne_iff_ne.mpr c2
  simp only [Option.some.injEq, Prod.mk.injEq] at H
  obtain ⟨rfl, rfl⟩ := H
  go_enter Try.func51, Try.ntmps51
  go_wp2_with (first | ((with_reducible refine gate_dst (N := 2) rfl ?_); refine bxe (N := 2) (cs := #[.int .i64 0, .int .i64 0]) (t := 25) ?_; intro gb315 hg w5 hbox hb; have BK315 := Aside0.mk (hbox); have GW315 := lsz hg HB; have GE315 := lsz hg HB; replace HB := bst HB hb; clear hb hbox hg; obtain ⟨hcz6_0, hcz6_1⟩ := e2 BK315; obtain ⟨hfz6_0, hfz6_1⟩ := f2 BK315))
  refine bodyPost_ret (results_cell_row rfl _ _ gb315 25 #[.int .i64 0, .int .i64 (wrap64 (a0 + 1))] (0, 0) _ rfl (bkp BK315) Try.underlying25 rfl (by kernel_rfl)) rfl ?_
  exact endB HB
/-! ### bocageref02_Next: function 54 -/
def bocageref02_Next.f (k : Nat) (a0_0 : Int) (a0_1 : Int) : Option (Int × Bool) := (bocageref02_Canon.f k a0_0 a0_1).bind fun bt344 => (if bt344.1 > 0 then (some (0, false)) else (if bt344.1 < 0 then ((bocageref02_Least64.f).bind fun t346 => (some (t346, true))) else (some (bt344.2, true))))
theorem bocageref02_Next.mono : ∀ a0 a1 k, LeO (bocageref02_Next.f k a0 a1) (bocageref02_Next.f (k + 1) a0 a1) := by
 intro a0 a1 k
 unfold bocageref02_Next.f
 repeat' first
   | (with_reducible exact bocageref02_Canon.mono _ _ _)
   | (with_reducible exact LeO.refl _)
   | (with_reducible exact LeO.none _)
   | (with_reducible refine LeO.ite ?_ ?_)
   | (with_reducible refine LeO.bind ?_ (fun _ => ?_))
   | exact bocageref02_Canon.mono _ _ _
   | exact LeO.none _
   | refine LeO.ite ?_ ?_
   | refine LeO.bind ?_ (fun _ => ?_)
set_option maxHeartbeats 8000000 in
set_option maxRecDepth 100000 in
theorem bocageref02_Next.calls (k : Nat) (a0_0 : Int) (a0_1 : Int) (r1 : Int) (r2 : Bool) (w : World) (h : bocageref02_Next.f k a0_0 a0_1 = some (r1, r2)) :
  Calls Try.prog 54 #[.agg #[.int .i64 a0_0, .int .i64 a0_1]] w fun e w' => e = .returned (.tuple #[.int .i64 r1, .bool r2]) ∧ Below w.heap.size w w' := by
 have hu25 := Try.underlying25
 have HB := Aside0.mk (Below.refl w.heap.size w)
 have H : ((bocageref02_Canon.f k a0_0 a0_1).bind fun bt344 => (if bt344.1 > 0 then (some (0, false)) else (if bt344.1 < 0 then ((bocageref02_Least64.f).bind fun t346 => (some (t346, true))) else (some (bt344.2, true))))) = some (r1, r2) := h
 clear h
 replace H := Option.bind_eq_some_iff.mp H
 obtain ⟨⟨t344, t345⟩, A20, H⟩ := H
 replace H : (if t344 > 0 then (some (0, false)) else (if t344 < 0 then ((bocageref02_Least64.f).bind fun t346 => (some (t346, true))) else (some (t345, true)))) = some (r1, r2) := H
 have A2 := Aside0.mk A20
 clear A20
 by_cases c3 : t344 > 0
 ·rw [if_pos c3] at H
  have c3b0 : decide (0 < t344) = true := decide_eq_true c3
  clear c3
  simp only [Option.some.injEq, Prod.mk.injEq] at H
  obtain ⟨rfl, rfl⟩ := H
  go_enter Try.func54, Try.ntmps54
  go_wp2_with (first | ((with_reducible refine gate_dst (N := 1) rfl ?_); refine bxe (N := 1) (cs := #[.int .i64 a0_0, .int .i64 a0_1]) (t := 25) ?_; intro gb343 hg w4 hbox hb; have BK343 := Aside0.mk (hbox); have GW343 := lsz hg HB; have GE343 := lsz hg HB; replace HB := bst HB hb; clear hb hbox hg; obtain ⟨hcz5_0, hcz5_1⟩ := e2 BK343; obtain ⟨hfz5_0, hfz5_1⟩ := f2 BK343) | ((with_reducible refine gate_callee (f := 49) rfl ?_); refine gol (some 5) Try.func49 #[.agg #[.int .i64 a0_0, .int .i64 a0_1]] ?_; (with_reducible refine (bocageref02_Canon.calls k a0_0 a0_1 t344 t345 _ A2.out).mono ?_); rintro e w6 ⟨rfl, hb⟩; refine ⟨_, rfl, ?_⟩; replace BK343 := bkb BK343 hb; replace HB := bst HB hb; (try clear hb); (try clear hb2); (try clear hk); (try clear hi); obtain ⟨hcz7_0, hcz7_1⟩ := e2 BK343; obtain ⟨hfz7_0, hfz7_1⟩ := f2 BK343))
  go_ret2
  exact endB HB
 ·rw [if_neg c3] at H
  have c3b0 : decide (0 < t344) = false := decide_eq_false c3
  clear c3
  by_cases c8 : t344 < 0
  ·rw [if_pos c8] at H
   have c8b0 : decide (t344 < 0) = true := decide_eq_true c8
   clear c8
   replace H := Option.bind_eq_some_iff.mp H
   obtain ⟨t346, A90, H⟩ := H
   replace H : (some (t346, true)) = some (r1, r2) := H
   have A9 := Aside0.mk A90
   clear A90
   simp only [Option.some.injEq, Prod.mk.injEq] at H
   obtain ⟨rfl, rfl⟩ := H
   go_enter Try.func54, Try.ntmps54
   go_wp2_with (first | ((with_reducible refine gate_dst (N := 1) rfl ?_); refine bxe (N := 1) (cs := #[.int .i64 a0_0, .int .i64 a0_1]) (t := 25) ?_; intro gb343 hg w10 hbox hb; have BK343 := Aside0.mk (hbox); have GW343 := lsz hg HB; have GE343 := lsz hg HB; replace HB := bst HB hb; clear hb hbox hg; obtain ⟨hcz11_0, hcz11_1⟩ := e2 BK343; obtain ⟨hfz11_0, hfz11_1⟩ := f2 BK343) | ((with_reducible refine gate_callee (f := 49) rfl ?_); refine gol (some 5) Try.func49 #[.agg #[.int .i64 a0_0, .int .i64 a0_1]] ?_; (with_reducible refine (bocageref02_Canon.calls k a0_0 a0_1 t344 t345 _ A2.out).mono ?_); rintro e w12 ⟨rfl, hb⟩; refine ⟨_, rfl, ?_⟩; replace BK343 := bkb BK343 hb; replace HB := bst HB hb; (try clear hb); (try clear hb2); (try clear hk); (try clear hi); obtain ⟨hcz13_0, hcz13_1⟩ := e2 BK343; obtain ⟨hfz13_0, hfz13_1⟩ := f2 BK343) | ((with_reducible refine gate_callee (f := 63) rfl ?_); refine gol (some 12) Try.func63 #[] ?_; (with_reducible refine (bocageref02_Least64.calls  t346 _ A9.out).mono ?_); rintro e w' ⟨rfl, ⟨nd, rfl⟩⟩; refine ⟨_, rfl, ?_⟩))
   go_ret2
   exact endB HB
  ·rw [if_neg c8] at H
   have c8b0 : decide (t344 < 0) = false := decide_eq_false c8
   clear c8
   simp only [Option.some.injEq, Prod.mk.injEq] at H
   obtain ⟨rfl, rfl⟩ := H
   go_enter Try.func54, Try.ntmps54
   go_wp2_with (first | ((with_reducible refine gate_dst (N := 1) rfl ?_); refine bxe (N := 1) (cs := #[.int .i64 a0_0, .int .i64 a0_1]) (t := 25) ?_; intro gb343 hg w14 hbox hb; have BK343 := Aside0.mk (hbox); have GW343 := lsz hg HB; have GE343 := lsz hg HB; replace HB := bst HB hb; clear hb hbox hg; obtain ⟨hcz15_0, hcz15_1⟩ := e2 BK343; obtain ⟨hfz15_0, hfz15_1⟩ := f2 BK343) | ((with_reducible refine gate_callee (f := 49) rfl ?_); refine gol (some 5) Try.func49 #[.agg #[.int .i64 a0_0, .int .i64 a0_1]] ?_; (with_reducible refine (bocageref02_Canon.calls k a0_0 a0_1 t344 t345 _ A2.out).mono ?_); rintro e w16 ⟨rfl, hb⟩; refine ⟨_, rfl, ?_⟩; replace BK343 := bkb BK343 hb; replace HB := bst HB hb; (try clear hb); (try clear hb2); (try clear hk); (try clear hi); obtain ⟨hcz17_0, hcz17_1⟩ := e2 BK343; obtain ⟨hfz17_0, hfz17_1⟩ := f2 BK343))
   go_ret2
   exact endB HB
end Go.Proofs.Ytpeidnkbliafkaa.Print
