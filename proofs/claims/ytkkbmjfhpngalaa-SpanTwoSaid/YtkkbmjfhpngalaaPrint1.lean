-- Laid by wip/print/bprint.py of this repo, over the kit's printer, with functions given by hand; not trusted: Lean checks it.
import Derived.Test.YtkkbmjfhpngalaaPrint0
import Derived.Test.YtkkbmjfhpngalaaSh
namespace Go.Proofs.Ytkkbmjfhpngalaa.Print
open Go.RowKit Go.Proofs.YtkkbmjfhpngalaaW.PrintWords Go.Proofs.YtkkbmjfhpngalaaW.PrintLast Go.Proofs.YtkkbmjfhpngalaaW.PrintMore
attribute [local go_sem] max2_int min2_int max_two min_two max_three min_three max_four min_four   -- for this text's walks alone
set_option linter.unusedVariables false
set_option linter.unusedSimpArgs false
/-! ### eqA23: a fact -/
theorem eqA23 (d : Nat) (w : World) (x0 y0 : Int) (x1 y1 : Int) :
    (Op.equalIn (d + 2) 23 (.agg #[.int .i64 x0, .int .i64 x1]) (.agg #[.int .i64 y0, .int .i64 y1])).run Try.prog w = .ok (x0 == y0 && (x1 == y1)) w := by
  refine eqA_of Try.underlying23 (by kernel_rfl) ?_
  refine eqf_cons (by rfl) (by go_simp; rfl) (by go_simp; rfl) (by go_simp) ?_
  exact eqf_last (by rfl) (by go_simp; rfl) (by go_simp; rfl) (by go_simp)
/-! ### eqA25: a fact -/
theorem eqA25 (d : Nat) (w : World) (x0 y0 : Int) (x1 y1 : Int) (x2 y2 : Int) (x3 y3 : Int) :
    (Op.equalIn (d + 3) 25 (.agg #[.int .i64 x0, .int .i64 x1, .int .i64 x2, .int .i64 x3]) (.agg #[.int .i64 y0, .int .i64 y1, .int .i64 y2, .int .i64 y3])).run Try.prog w = .ok ((x0 == y0 && (x1 == y1)) && ((x2 == y2 && (x3 == y3)))) w := by
  refine eqA_of Try.underlying25 (by kernel_rfl) ?_
  refine eqf_cons (by rfl) (by go_simp) (by go_simp) (eqA23 (d + 0) w _ _ _ _) ?_
  exact eqf_last (by rfl) (by go_simp) (by go_simp) (eqA23 (d + 0) w _ _ _ _)
/-! ### cut_First: function 69 -/
def cut_First.f  : Option (Int × Int) := some ((-1), 0)
set_option maxHeartbeats 8000000 in
set_option maxRecDepth 100000 in
theorem cut_First.calls  (r1 : Int) (r2 : Int) (w : World) (h : cut_First.f  = some (r1, r2)) :
    Calls Try.prog 69 #[] w fun e w' => e = .returned (.agg #[.int .i64 r1, .int .i64 r2]) ∧ Below w.heap.size w w' := by
  have hu23 := Try.underlying23
  have HB := Aside0.mk (Below.refl w.heap.size w)
  have H : (some ((-1), 0)) = some (r1, r2) := h
  clear h
  simp only [Option.some.injEq, Prod.mk.injEq] at H
  obtain ⟨rfl, rfl⟩ := H
  go_enter Try.func69, Try.ntmps69
  go_wp2_with (first | ((with_reducible refine gate_dst (N := 0) rfl ?_); refine bxe (N := 0) (cs := #[.int .i64 0, .int .i64 0]) (t := 23) ?_; intro gb217 hg w1 hbox hb; have BK217 := Aside0.mk (hbox); have GW217 := lsz hg HB; have GE217 := lsz hg HB; replace HB := bst HB hb; clear hb hbox hg; obtain ⟨hcz2_0, hcz2_1⟩ := e2 BK217; obtain ⟨hfz2_0, hfz2_1⟩ := f2 BK217))
  refine bodyPost_ret (results_cell_row rfl _ _ gb217 23 #[.int .i64 (-1), .int .i64 0] (0, 0) _ rfl (bkp BK217) Try.underlying23 rfl (by kernel_rfl)) rfl ?_
  exact endB HB
/-! ### cut_Last: function 70 -/
def cut_Last.f  : Option (Int × Int) := some (1, 0)
set_option maxHeartbeats 8000000 in
set_option maxRecDepth 100000 in
theorem cut_Last.calls  (r1 : Int) (r2 : Int) (w : World) (h : cut_Last.f  = some (r1, r2)) :
    Calls Try.prog 70 #[] w fun e w' => e = .returned (.agg #[.int .i64 r1, .int .i64 r2]) ∧ Below w.heap.size w w' := by
  have hu23 := Try.underlying23
  have HB := Aside0.mk (Below.refl w.heap.size w)
  have H : (some (1, 0)) = some (r1, r2) := h
  clear h
  simp only [Option.some.injEq, Prod.mk.injEq] at H
  obtain ⟨rfl, rfl⟩ := H
  go_enter Try.func70, Try.ntmps70
  go_wp2_with (first | ((with_reducible refine gate_dst (N := 0) rfl ?_); refine bxe (N := 0) (cs := #[.int .i64 0, .int .i64 0]) (t := 23) ?_; intro gb218 hg w1 hbox hb; have BK218 := Aside0.mk (hbox); have GW218 := lsz hg HB; have GE218 := lsz hg HB; replace HB := bst HB hb; clear hb hbox hg; obtain ⟨hcz2_0, hcz2_1⟩ := e2 BK218; obtain ⟨hfz2_0, hfz2_1⟩ := f2 BK218))
  refine bodyPost_ret (results_cell_row rfl _ _ gb218 23 #[.int .i64 1, .int .i64 0] (0, 0) _ rfl (bkp BK218) Try.underlying23 rfl (by kernel_rfl)) rfl ?_
  exact endB HB
/-! ### cut_Canon: function 55 -/
def cut_Canon.j0 : Nat → Bool → Int → Int → Option (Int × Int)
  | 0, _, _, _ => none
  | k + 1, x3, x220000, x220001 => if x3 = true then ((cut_First.f).bind fun bt221 => (some (bt221.1, bt221.2))) else (if x220000 > 0 then ((cut_Last.f).bind fun bt223 => (some (bt223.1, bt223.2))) else (some (x220000, x220001)))
def cut_Canon.f (k : Nat) (a0_0 : Int) (a0_1 : Int) : Option (Int × Int) := if a0_0 < 0 then (cut_Canon.j0 k true a0_0 a0_1) else (if a0_0 = 0 then (cut_Canon.j0 k (a0_1 == (-9223372036854775808)) a0_0 a0_1) else (cut_Canon.j0 k false a0_0 a0_1))
theorem cut_Canon.mono_l : ∀ k, (∀ y0 y1 y2, LeO (cut_Canon.j0 k y0 y1 y2) (cut_Canon.j0 (k + 1) y0 y1 y2))
  | 0 => fun _ _ _ r h => by simp [cut_Canon.j0] at h
  | k + 1 => by
    have ih0 := cut_Canon.mono_l k
    · intro y0 y1 y2
      unfold cut_Canon.j0
      repeat' first
      | (with_reducible exact ih0 _ _ _)
      | (with_reducible exact LeO.refl _)
      | (with_reducible exact LeO.none _)
      | (with_reducible refine LeO.ite ?_ ?_)
      | (with_reducible refine LeO.bind ?_ (fun _ => ?_))
      | exact ih0 _ _ _
      | exact LeO.none _
      | refine LeO.ite ?_ ?_
      | refine LeO.bind ?_ (fun _ => ?_)
theorem cut_Canon.mono : ∀ a0 a1 k, LeO (cut_Canon.f k a0 a1) (cut_Canon.f (k + 1) a0 a1) := by
  intro a0 a1 k
  have ih0 := cut_Canon.mono_l k
  unfold cut_Canon.f
  repeat' first
      | (with_reducible exact ih0 _ _ _)
      | (with_reducible exact LeO.refl _)
      | (with_reducible exact LeO.none _)
      | (with_reducible refine LeO.ite ?_ ?_)
      | (with_reducible refine LeO.bind ?_ (fun _ => ?_))
      | exact ih0 _ _ _
      | exact LeO.none _
      | refine LeO.ite ?_ ?_
      | refine LeO.bind ?_ (fun _ => ?_)
set_option maxHeartbeats 8000000 in
set_option maxRecDepth 100000 in
theorem cut_Canon.calls (k : Nat) (a0_0 : Int) (a0_1 : Int) (r1 : Int) (r2 : Int) (w : World) (h : cut_Canon.f k a0_0 a0_1 = some (r1, r2)) :
    Calls Try.prog 55 #[.agg #[.int .i64 a0_0, .int .i64 a0_1]] w fun e w' => e = .returned (.agg #[.int .i64 r1, .int .i64 r2]) ∧ Below w.heap.size w w' := by
  have hu23 := Try.underlying23
  have HB := Aside0.mk (Below.refl w.heap.size w)
  have H : (if a0_0 < 0 then (cut_Canon.j0 k true a0_0 a0_1) else (if a0_0 = 0 then (cut_Canon.j0 k (a0_1 == (-9223372036854775808)) a0_0 a0_1) else (cut_Canon.j0 k false a0_0 a0_1))) = some (r1, r2) := h
  clear h
  have HC2 := Aside0.mk H
  clear H
  go_enter Try.func55, Try.ntmps55
  go_upto_region 1 with (first | ((with_reducible refine gate_dst (N := 1) rfl ?_); refine bxe (N := 1) (cs := #[.int .i64 a0_0, .int .i64 a0_1]) (t := 23) ?_; intro gb219 hg w3 hbox hb; have BK219 := Aside0.mk (hbox); have GW219 := lsz hg HB; have GE219 := lsz hg HB; replace HB := bst HB hb; clear hb hbox hg) | ((with_reducible refine gate_dst (N := 2) rfl ?_); refine bxe (N := 2) (cs := #[.int .i64 0, .int .i64 0]) (t := 23) ?_; intro gb220 hg w4 hbox hb; have BK220 := Aside0.mk (hbox); have GW220 := lsz hg HB; have GE220 := lsz hg HB; replace HB := bst HB hb; have NB219_220 := nlt hg BK219; have NB220_219 := ngt hg BK219; replace BK219 := bkb BK219 hb; clear hb hbox hg))
  (try simp only [Act.put, List.setIfInBounds_toArray, List.set_cons_zero, List.set_cons_succ])
  go_cut [3] (fun v3 wc => ∃ (kq : Nat) (x3_1 : Bool), v3 = .bool x3_1 ∧ Aside0 (cut_Canon.j0 kq x3_1 a0_0 a0_1 = some (r1, r2)) ∧ Aside0 (kq ≤ k) ∧ Aside0 (wc.heap[gb219]? = some (.cells #[.int .i64 a0_0, .int .i64 a0_1] 23 (0, 0))) ∧ Aside0 (wc.heap[gb220]? = some (.cells #[.int .i64 0, .int .i64 0] 23 (0, 0))) ∧ Aside0 (Below w.heap.size w wc))
  case first =>
    have H := HC2.out
    clear HC2
    by_cases c5 : a0_0 < 0
    · rw [if_pos c5] at H
      have c5b0 : decide (a0_0 < 0) = true := decide_eq_true c5
      clear c5
      (first | rw [c5b0] | (simp only [i64_w, i32_w]; rw [c5b0]) | skip)
      have H' := Aside0.mk H
      clear H
      have hnb6 := NB219_220.out
      have hnc6 := NB220_219.out
      have hcz7_0 : w4.cell? ⟨gb219, 0, none⟩ = some (.int .i64 a0_0) := (blk_cell BK219.out 0).trans rfl
      have hcz7_1 : w4.cell? ⟨gb219, 1, none⟩ = some (.int .i64 a0_1) := (blk_cell BK219.out 1).trans rfl
      have hfz7_0 := blk_frozen BK219.out 0
      have hfz7_1 := blk_frozen BK219.out 1
      go_wp2
      go_meet
      case rel => exact ⟨_, (true), (by first | rfl | (simp; done) | (simp [*]; done)), H', ⟨by first | omega | exact Nat.le_refl _⟩, ⟨bk BK219⟩, ⟨bk BK220⟩, ⟨bl HB⟩⟩
    · rw [if_neg c5] at H
      have c5b0 : decide (a0_0 < 0) = false := decide_eq_false c5
      clear c5
      (first | rw [c5b0] | (simp only [i64_w, i32_w]; rw [c5b0]) | skip)
      by_cases c8 : a0_0 = 0
      · rw [if_pos c8] at H
        have c8b0 : (a0_0 == 0) = true := beq_iff_eq.mpr c8
        have c8b1 : (a0_0 != 0) = false := bne_eq_false_iff_eq.mpr c8
        clear c8
        have H' := Aside0.mk H
        clear H
        have hnb9 := NB219_220.out
        have hnc9 := NB220_219.out
        have hcz10_0 : w4.cell? ⟨gb219, 0, none⟩ = some (.int .i64 a0_0) := (blk_cell BK219.out 0).trans rfl
        have hcz10_1 : w4.cell? ⟨gb219, 1, none⟩ = some (.int .i64 a0_1) := (blk_cell BK219.out 1).trans rfl
        have hfz10_0 := blk_frozen BK219.out 0
        have hfz10_1 := blk_frozen BK219.out 1
        go_wp2
        go_meet
        case rel => exact ⟨_, ((a0_1 == (-9223372036854775808))), (by first | rfl | (simp; done) | (simp [*]; done)), H', ⟨by first | omega | exact Nat.le_refl _⟩, ⟨bk BK219⟩, ⟨bk BK220⟩, ⟨bl HB⟩⟩
      · rw [if_neg c8] at H
        have c8b0 : (a0_0 == 0) = false := beq_eq_false_iff_ne.mpr c8
        have c8b1 : (a0_0 != 0) = true := bne_iff_ne.mpr c8
        have H' := Aside0.mk H
        clear H
        have hnb11 := NB219_220.out
        have hnc11 := NB220_219.out
        have hcz12_0 : w4.cell? ⟨gb219, 0, none⟩ = some (.int .i64 a0_0) := (blk_cell BK219.out 0).trans rfl
        have hcz12_1 : w4.cell? ⟨gb219, 1, none⟩ = some (.int .i64 a0_1) := (blk_cell BK219.out 1).trans rfl
        have hfz12_0 := blk_frozen BK219.out 0
        have hfz12_1 := blk_frozen BK219.out 1
        go_wp2
        go_meet
        case rel => exact ⟨_, (false), (by first | rfl | (simp; done) | (simp [*]; done)), H', ⟨by first | omega | exact Nat.le_refl _⟩, ⟨bk BK219⟩, ⟨bk BK220⟩, ⟨bl HB⟩⟩
  case rest =>
    clear HC2
    try clear c1
    try clear p2
    try clear c5
    try clear c5b0
    try clear c6
    try clear c8
    try clear c8b0
    try clear c8b1
    try clear c9
    try clear c11
    try clear hcz10_0
    try clear hcz10_1
    try clear hcz12_0
    try clear hcz12_1
    try clear hcz7_0
    try clear hcz7_1
    try clear hfz10_0
    try clear hfz10_1
    try clear hfz12_0
    try clear hfz12_1
    try clear hfz7_0
    try clear hfz7_1
    obtain ⟨kq, x3_1, rfl, HA, HJ1, BK219, BK220, HB⟩ := hcut
    cases kq with
    | zero => exact absurd HA.out (by simp [cut_Canon.j0])
    | succ kj1 =>
      have H := HA.out
      clear HA
      simp only [cut_Canon.j0] at H
      by_cases c13 : x3_1 = true
      · subst c13
        have H1 : ((cut_First.f).bind fun bt221 => (some (bt221.1, bt221.2))) = some (r1, r2) := by rw [if_pos rfl] at H; exact H
        clear H
        have H := H1
        clear H1
        replace H := Option.bind_eq_some_iff.mp H
        obtain ⟨⟨t221, t222⟩, A140, H⟩ := H
        (try (set_option simprocs false in dsimp only at H))
        have A14 := Aside0.mk A140
        clear A140
        simp only [Option.some.injEq, Prod.mk.injEq] at H
        obtain ⟨rfl, rfl⟩ := H
        go_wp2_with (first | ((with_reducible refine gate_callee (f := 69) rfl ?_); refine gol (some 17) Try.func69 #[] ?_; (with_reducible refine (cut_First.calls  t221 t222 _ A14.out).mono ?_); rintro e w15 ⟨rfl, hb⟩; refine ⟨_, rfl, ?_⟩; replace BK219 := bkb BK219 hb; replace BK220 := bkb BK220 hb; replace HB := bst HB hb; (try clear hb); (try clear hb2); (try clear hk); (try clear hi); have hnb16 := NB220_219.out; have hnc16 := NB219_220.out; obtain ⟨hcz17_0, hcz17_1⟩ := e2 BK220; obtain ⟨hfz17_0, hfz17_1⟩ := f2 BK220))
        refine bodyPost_ret (results_cell_row rfl _ _ gb220 23 #[.int .i64 t221, .int .i64 t222] (0, 0) _ rfl (bkp BK220) Try.underlying23 rfl (by kernel_rfl)) rfl ?_
        exact endB HB
      · replace c13 := Bool.eq_false_iff.mpr c13
        subst c13
        have H1 : (if a0_0 > 0 then ((cut_Last.f).bind fun bt223 => (some (bt223.1, bt223.2))) else (some (a0_0, a0_1))) = some (r1, r2) := by rw [if_neg (show ¬ (false = true) by decide)] at H; exact H
        clear H
        have H := H1
        clear H1
        by_cases c18 : a0_0 > 0
        · rw [if_pos c18] at H
          have c18b0 : decide (0 < a0_0) = true := decide_eq_true c18
          clear c18
          replace H := Option.bind_eq_some_iff.mp H
          obtain ⟨⟨t223, t224⟩, A190, H⟩ := H
          (try (set_option simprocs false in dsimp only at H))
          have A19 := Aside0.mk A190
          clear A190
          simp only [Option.some.injEq, Prod.mk.injEq] at H
          obtain ⟨rfl, rfl⟩ := H
          have hnb20 := NB219_220.out
          have hnc20 := NB220_219.out
          have hcz21_0 : wc.cell? ⟨gb219, 0, none⟩ = some (.int .i64 a0_0) := (blk_cell BK219.out 0).trans rfl
          have hcz21_1 : wc.cell? ⟨gb219, 1, none⟩ = some (.int .i64 a0_1) := (blk_cell BK219.out 1).trans rfl
          have hfz21_0 := blk_frozen BK219.out 0
          have hfz21_1 := blk_frozen BK219.out 1
          go_wp2_with (first | ((with_reducible refine gate_callee (f := 70) rfl ?_); refine gol (some 22) Try.func70 #[] ?_; (with_reducible refine (cut_Last.calls  t223 t224 _ A19.out).mono ?_); rintro e w22 ⟨rfl, hb⟩; refine ⟨_, rfl, ?_⟩; replace BK219 := bkb BK219 hb; replace BK220 := bkb BK220 hb; replace HB := bst HB hb; (try clear hb); (try clear hb2); (try clear hk); (try clear hi); obtain ⟨hcz23_0, hcz23_1⟩ := e2 BK220; obtain ⟨hfz23_0, hfz23_1⟩ := f2 BK220))
          refine bodyPost_ret (results_cell_row rfl _ _ gb220 23 #[.int .i64 t223, .int .i64 t224] (0, 0) _ rfl (bkp BK220) Try.underlying23 rfl (by kernel_rfl)) rfl ?_
          exact endB HB
        · rw [if_neg c18] at H
          have c18b0 : decide (0 < a0_0) = false := decide_eq_false c18
          clear c18
          simp only [Option.some.injEq, Prod.mk.injEq] at H
          obtain ⟨rfl, rfl⟩ := H
          have hnb24 := NB219_220.out
          have hnc24 := NB220_219.out
          have hcz25_0 : wc.cell? ⟨gb219, 0, none⟩ = some (.int .i64 a0_0) := (blk_cell BK219.out 0).trans rfl
          have hcz25_1 : wc.cell? ⟨gb219, 1, none⟩ = some (.int .i64 a0_1) := (blk_cell BK219.out 1).trans rfl
          have hfz25_0 := blk_frozen BK219.out 0
          have hfz25_1 := blk_frozen BK219.out 1
          have hcz26_0 : wc.cell? ⟨gb220, 0, none⟩ = some (.int .i64 0) := (blk_cell BK220.out 0).trans rfl
          have hcz26_1 : wc.cell? ⟨gb220, 1, none⟩ = some (.int .i64 0) := (blk_cell BK220.out 1).trans rfl
          have hfz26_0 := blk_frozen BK220.out 0
          have hfz26_1 := blk_frozen BK220.out 1
          go_wp2
          refine bodyPost_ret (results_cell_row rfl _ _ gb220 23 #[.int .i64 a0_0, .int .i64 a0_1] (0, 0) _ rfl (bkp BK220) Try.underlying23 rfl (by kernel_rfl)) rfl ?_
          exact endB HB
/-! ### cmp_Or_int: function 66 -/
def cmp_Or_int.l0 : Nat → Int → List Int → Int → Int → Option (Int)
  | 0, _, _, _, _ => none
  | k + 1, x3, x6, x7, x8 => if x8 < x7 then (if 0 ≤ x8 then (if x8 < (x6.length : Int) then (if (rd x6 x8) = x3 then (cmp_Or_int.l0 k x3 x6 x7 (wrap64 (x8 + 1))) else (some (rd x6 x8))) else (none)) else (none)) else (some x3)
def cmp_Or_int.f (k : Nat) (l0 : List Int) : Option (Int) := cmp_Or_int.l0 k 0 l0 (l0.length : Int) 0
theorem cmp_Or_int.mono_l : ∀ k, (∀ y0 y1 y2 y3, LeO (cmp_Or_int.l0 k y0 y1 y2 y3) (cmp_Or_int.l0 (k + 1) y0 y1 y2 y3))
  | 0 => fun _ _ _ _ r h => by simp [cmp_Or_int.l0] at h
  | k + 1 => by
    have ih0 := cmp_Or_int.mono_l k
    · intro y0 y1 y2 y3
      unfold cmp_Or_int.l0
      repeat' first
      | (with_reducible exact ih0 _ _ _ _)
      | (with_reducible exact LeO.refl _)
      | (with_reducible exact LeO.none _)
      | (with_reducible refine LeO.ite ?_ ?_)
      | (with_reducible refine LeO.bind ?_ (fun _ => ?_))
      | exact ih0 _ _ _ _
      | exact LeO.none _
      | refine LeO.ite ?_ ?_
      | refine LeO.bind ?_ (fun _ => ?_)
theorem cmp_Or_int.mono : ∀ a0 k, LeO (cmp_Or_int.f k a0) (cmp_Or_int.f (k + 1) a0) := by
  intro a0 k
  have ih0 := cmp_Or_int.mono_l k
  unfold cmp_Or_int.f
  repeat' first
      | (with_reducible exact ih0 _ _ _ _)
      | (with_reducible exact LeO.refl _)
      | (with_reducible exact LeO.none _)
      | (with_reducible refine LeO.ite ?_ ?_)
      | (with_reducible refine LeO.bind ?_ (fun _ => ?_))
      | exact ih0 _ _ _ _
      | exact LeO.none _
      | refine LeO.ite ?_ ?_
      | refine LeO.bind ?_ (fun _ => ?_)
set_option maxHeartbeats 8000000 in
set_option maxRecDepth 100000 in
theorem cmp_Or_int.calls (k : Nat) (A0 : Option Addr) (c0 : Nat) (l0 : List Int) (r : Int) (w : World) (hr0 : Kd.C (Kd.int .i64) w A0 l0.length l0) (hc0 : l0.length ≤ c0) (h : cmp_Or_int.f k l0 = some r) :
    Calls Try.prog 66 #[.slice A0 l0.length c0] w fun e w' => e = .returned (.int .i64 r) ∧ Drawn0 w w' := by
  have HR0 := Aside0.mk hr0
  have HC0 := Aside0.mk hc0
  clear hr0 hc0
  have H : (cmp_Or_int.l0 k 0 l0 (l0.length : Int) 0) = some r := h
  clear h
  have H' := Aside0.mk H
  clear H
  go_enter Try.func66, Try.ntmps66
  go_wp2
  go_loopg [8] k (fun kq v8 w' => ∃ (x8_1 : Int), v8 = .int .i64 x8_1 ∧ Aside0 (cmp_Or_int.l0 kq 0 l0 (l0.length : Int) x8_1 = some r) ∧ Aside0 (kq ≤ k) ∧ Drawn0 w w')
  case atStart => exact ⟨(0), (by first | rfl | (simp; done) | (simp [*]; done)), H', ⟨Nat.le_refl _⟩, by repeat (first | exact Drawn0.refl _ | apply Drawn0.step)⟩
  case round =>
    clear H'
    obtain ⟨x8_1, rfl, HA, HK1, ⟨m1, rfl⟩⟩ := hrel
    cases gk with
    | zero => exact absurd HA.out (by simp [cmp_Or_int.l0])
    | succ k1 =>
      have H := HA.out
      clear HA
      simp only [cmp_Or_int.l0] at H
      by_cases c2 : x8_1 < (l0.length : Int)
      · rw [if_pos c2] at H
        have c2b0 : decide (x8_1 < (l0.length : Int)) = true := decide_eq_true c2
        clear c2
        by_cases c3 : 0 ≤ x8_1
        · rw [if_pos c3] at H
          have c3b0 : decide (0 ≤ x8_1) = true := decide_eq_true c3
          clear c3
          by_cases c4 : x8_1 < (l0.length : Int)
          · rw [if_pos c4] at H
            have c4b0 : decide (x8_1 < (l0.length : Int)) = true := decide_eq_true c4
            clear c4
            by_cases c5 : (rd l0 x8_1) = 0
            · rw [if_pos c5] at H
              have c5b0 : ((rd l0 x8_1) == 0) = true := beq_iff_eq.mpr c5
              have c5b1 : ((rd l0 x8_1) != 0) = false := bne_eq_false_iff_eq.mpr c5
              clear c5
              have H' := Aside0.mk H
              clear H
              have p225 : 0 ≤ (x8_1 : Int) := of_decide_eq_true (by first | (with_reducible assumption) | assumption)
              have q225 : x8_1 < (l0.length : Int) := of_decide_eq_true (by first | (with_reducible assumption) | assumption)
              obtain ⟨ad225, e225, hx225_0⟩ := Kd.at_int HR0.out x8_1 p225 q225
              cases e225
              replace p225 := eq_true p225
              replace q225 := eq_true q225
              go_wp2
              go_roundg k1
              case measure => have := HK1.out; omega
              case rel => exact ⟨(wrap64 (x8_1 + 1)), (by first | rfl | (simp; done) | (simp [*]; done)), H', ⟨by have := HK1.out; omega⟩, by repeat (first | exact Drawn0.refl _ | apply Drawn0.step)⟩
            · rw [if_neg c5] at H
              have c5b0 : ((rd l0 x8_1) == 0) = false := beq_eq_false_iff_ne.mpr c5
              have c5b1 : ((rd l0 x8_1) != 0) = true := bne_iff_ne.mpr c5
              obtain rfl := Option.some.inj H
              have p225 : 0 ≤ (x8_1 : Int) := of_decide_eq_true (by first | (with_reducible assumption) | assumption)
              have q225 : x8_1 < (l0.length : Int) := of_decide_eq_true (by first | (with_reducible assumption) | assumption)
              obtain ⟨ad225, e225, hx225_0⟩ := Kd.at_int HR0.out x8_1 p225 q225
              cases e225
              replace p225 := eq_true p225
              replace q225 := eq_true q225
              go_wp2
              go_ret
              exact ⟨by first | rfl | (simp; done) | (simp [*]; done), by repeat (first | exact Drawn0.refl _ | apply Drawn0.step)⟩
          · rw [if_neg c4] at H
            exact absurd H (by simp)
        · rw [if_neg c3] at H
          exact absurd H (by simp)
      · rw [if_neg c2] at H
        have c2b0 : decide (x8_1 < (l0.length : Int)) = false := decide_eq_false c2
        clear c2
        obtain rfl := Option.some.inj H
        go_wp2
        go_ret
        exact ⟨by first | rfl | (simp; done) | (simp [*]; done), by repeat (first | exact Drawn0.refl _ | apply Drawn0.step)⟩
/-! ### cmp_isNaN_int: function 83 -/
def cmp_isNaN_int.f (a0 : Int) : Option (Bool) := some (a0 != a0)
set_option maxHeartbeats 8000000 in
set_option maxRecDepth 100000 in
theorem cmp_isNaN_int.calls (a0 : Int) (r : Bool) (w : World) (h : cmp_isNaN_int.f a0 = some r) :
    Calls Try.prog 83 #[.int .i64 a0] w fun e w' => e = .returned (.bool r) ∧ Drawn0 w w' := by
  have H : (some (a0 != a0)) = some r := h
  clear h
  obtain rfl := Option.some.inj H
  go_enter Try.func83, Try.ntmps83
  go_wp2
  go_ret
  exact ⟨by first | rfl | (simp; done) | (simp [*]; done), by repeat (first | exact Drawn0.refl _ | apply Drawn0.step)⟩
/-! ### cmp_Compare_int: function 72 -/
def cmp_Compare_int.f (a0 : Int) (a1 : Int) : Option (Int) := (cmp_isNaN_int.f a0).bind fun t226 => ((cmp_isNaN_int.f a1).bind fun t227 => (if t226 = true then (if t227 = true then (some 0) else (some (-1))) else (if t227 = true then (some 1) else (if a0 < a1 then (some (-1)) else (if a0 > a1 then (some 1) else (some 0))))))
set_option maxHeartbeats 8000000 in
set_option maxRecDepth 100000 in
theorem cmp_Compare_int.calls (a0 : Int) (a1 : Int) (r : Int) (w : World) (h : cmp_Compare_int.f a0 a1 = some r) :
    Calls Try.prog 72 #[.int .i64 a0, .int .i64 a1] w fun e w' => e = .returned (.int .i64 r) ∧ Drawn0 w w' := by
  have H : ((cmp_isNaN_int.f a0).bind fun t226 => ((cmp_isNaN_int.f a1).bind fun t227 => (if t226 = true then (if t227 = true then (some 0) else (some (-1))) else (if t227 = true then (some 1) else (if a0 < a1 then (some (-1)) else (if a0 > a1 then (some 1) else (some 0))))))) = some r := h
  clear h
  replace H := Option.bind_eq_some_iff.mp H
  obtain ⟨t226, A30, H⟩ := H
  (try (set_option simprocs false in dsimp only at H))
  have A3 := Aside0.mk A30
  clear A30
  replace H := Option.bind_eq_some_iff.mp H
  obtain ⟨t227, A40, H⟩ := H
  (try (set_option simprocs false in dsimp only at H))
  have A4 := Aside0.mk A40
  clear A40
  by_cases c5 : t226 = true
  · subst c5
    have H1 : (if t227 = true then (some 0) else (some (-1))) = some r := by rw [if_pos rfl] at H; exact H
    clear H
    have H := H1
    clear H1
    by_cases c6 : t227 = true
    · subst c6
      have H1 : (some 0) = some r := by rw [if_pos rfl] at H; exact H
      clear H
      have H := H1
      clear H1
      obtain rfl := Option.some.inj H
      go_enter Try.func72, Try.ntmps72
      go_wp2_with (first | ((with_reducible refine gate_callee (f := 83) rfl ?_); refine gol (some 8) Try.func83 #[.int .i64 a0] ?_; (with_reducible refine (cmp_isNaN_int.calls a0 true _ A3.out).mono ?_); rintro e w' ⟨rfl, ⟨nd, rfl⟩⟩; refine ⟨_, rfl, ?_⟩) | ((with_reducible refine gate_callee (f := 83) rfl ?_); refine gol (some 10) Try.func83 #[.int .i64 a1] ?_; (with_reducible refine (cmp_isNaN_int.calls a1 true _ A4.out).mono ?_); rintro e w' ⟨rfl, ⟨nd, rfl⟩⟩; refine ⟨_, rfl, ?_⟩))
      go_ret
      exact ⟨by first | rfl | (simp; done) | (simp [*]; done), by repeat (first | exact Drawn0.refl _ | apply Drawn0.step)⟩
    · replace c6 := Bool.eq_false_iff.mpr c6
      subst c6
      have H1 : (some (-1)) = some r := by rw [if_neg (show ¬ (false = true) by decide)] at H; exact H
      clear H
      have H := H1
      clear H1
      obtain rfl := Option.some.inj H
      go_enter Try.func72, Try.ntmps72
      go_wp2_with (first | ((with_reducible refine gate_callee (f := 83) rfl ?_); refine gol (some 8) Try.func83 #[.int .i64 a0] ?_; (with_reducible refine (cmp_isNaN_int.calls a0 true _ A3.out).mono ?_); rintro e w' ⟨rfl, ⟨nd, rfl⟩⟩; refine ⟨_, rfl, ?_⟩) | ((with_reducible refine gate_callee (f := 83) rfl ?_); refine gol (some 10) Try.func83 #[.int .i64 a1] ?_; (with_reducible refine (cmp_isNaN_int.calls a1 false _ A4.out).mono ?_); rintro e w' ⟨rfl, ⟨nd, rfl⟩⟩; refine ⟨_, rfl, ?_⟩))
      go_ret
      exact ⟨by first | rfl | (simp; done) | (simp [*]; done), by repeat (first | exact Drawn0.refl _ | apply Drawn0.step)⟩
  · replace c5 := Bool.eq_false_iff.mpr c5
    subst c5
    have H1 : (if t227 = true then (some 1) else (if a0 < a1 then (some (-1)) else (if a0 > a1 then (some 1) else (some 0)))) = some r := by rw [if_neg (show ¬ (false = true) by decide)] at H; exact H
    clear H
    have H := H1
    clear H1
    by_cases c7 : t227 = true
    · subst c7
      have H1 : (some 1) = some r := by rw [if_pos rfl] at H; exact H
      clear H
      have H := H1
      clear H1
      obtain rfl := Option.some.inj H
      go_enter Try.func72, Try.ntmps72
      go_wp2_with (first | ((with_reducible refine gate_callee (f := 83) rfl ?_); refine gol (some 8) Try.func83 #[.int .i64 a0] ?_; (with_reducible refine (cmp_isNaN_int.calls a0 false _ A3.out).mono ?_); rintro e w' ⟨rfl, ⟨nd, rfl⟩⟩; refine ⟨_, rfl, ?_⟩) | ((with_reducible refine gate_callee (f := 83) rfl ?_); refine gol (some 10) Try.func83 #[.int .i64 a1] ?_; (with_reducible refine (cmp_isNaN_int.calls a1 true _ A4.out).mono ?_); rintro e w' ⟨rfl, ⟨nd, rfl⟩⟩; refine ⟨_, rfl, ?_⟩))
      go_ret
      exact ⟨by first | rfl | (simp; done) | (simp [*]; done), by repeat (first | exact Drawn0.refl _ | apply Drawn0.step)⟩
    · replace c7 := Bool.eq_false_iff.mpr c7
      subst c7
      have H1 : (if a0 < a1 then (some (-1)) else (if a0 > a1 then (some 1) else (some 0))) = some r := by rw [if_neg (show ¬ (false = true) by decide)] at H; exact H
      clear H
      have H := H1
      clear H1
      by_cases c8 : a0 < a1
      · rw [if_pos c8] at H
        have c8b0 : decide (a0 < a1) = true := decide_eq_true c8
        clear c8
        obtain rfl := Option.some.inj H
        go_enter Try.func72, Try.ntmps72
        go_wp2_with (first | ((with_reducible refine gate_callee (f := 83) rfl ?_); refine gol (some 8) Try.func83 #[.int .i64 a0] ?_; (with_reducible refine (cmp_isNaN_int.calls a0 false _ A3.out).mono ?_); rintro e w' ⟨rfl, ⟨nd, rfl⟩⟩; refine ⟨_, rfl, ?_⟩) | ((with_reducible refine gate_callee (f := 83) rfl ?_); refine gol (some 10) Try.func83 #[.int .i64 a1] ?_; (with_reducible refine (cmp_isNaN_int.calls a1 false _ A4.out).mono ?_); rintro e w' ⟨rfl, ⟨nd, rfl⟩⟩; refine ⟨_, rfl, ?_⟩))
        go_ret
        exact ⟨by first | rfl | (simp; done) | (simp [*]; done), by repeat (first | exact Drawn0.refl _ | apply Drawn0.step)⟩
      · rw [if_neg c8] at H
        have c8b0 : decide (a0 < a1) = false := decide_eq_false c8
        clear c8
        by_cases c9 : a0 > a1
        · rw [if_pos c9] at H
          have c9b0 : decide (a1 < a0) = true := decide_eq_true c9
          clear c9
          obtain rfl := Option.some.inj H
          go_enter Try.func72, Try.ntmps72
          go_wp2_with (first | ((with_reducible refine gate_callee (f := 83) rfl ?_); refine gol (some 8) Try.func83 #[.int .i64 a0] ?_; (with_reducible refine (cmp_isNaN_int.calls a0 false _ A3.out).mono ?_); rintro e w' ⟨rfl, ⟨nd, rfl⟩⟩; refine ⟨_, rfl, ?_⟩) | ((with_reducible refine gate_callee (f := 83) rfl ?_); refine gol (some 10) Try.func83 #[.int .i64 a1] ?_; (with_reducible refine (cmp_isNaN_int.calls a1 false _ A4.out).mono ?_); rintro e w' ⟨rfl, ⟨nd, rfl⟩⟩; refine ⟨_, rfl, ?_⟩))
          go_ret
          exact ⟨by first | rfl | (simp; done) | (simp [*]; done), by repeat (first | exact Drawn0.refl _ | apply Drawn0.step)⟩
        · rw [if_neg c9] at H
          have c9b0 : decide (a1 < a0) = false := decide_eq_false c9
          clear c9
          obtain rfl := Option.some.inj H
          go_enter Try.func72, Try.ntmps72
          go_wp2_with (first | ((with_reducible refine gate_callee (f := 83) rfl ?_); refine gol (some 8) Try.func83 #[.int .i64 a0] ?_; (with_reducible refine (cmp_isNaN_int.calls a0 false _ A3.out).mono ?_); rintro e w' ⟨rfl, ⟨nd, rfl⟩⟩; refine ⟨_, rfl, ?_⟩) | ((with_reducible refine gate_callee (f := 83) rfl ?_); refine gol (some 10) Try.func83 #[.int .i64 a1] ?_; (with_reducible refine (cmp_isNaN_int.calls a1 false _ A4.out).mono ?_); rintro e w' ⟨rfl, ⟨nd, rfl⟩⟩; refine ⟨_, rfl, ?_⟩))
          go_ret
          exact ⟨by first | rfl | (simp; done) | (simp [*]; done), by repeat (first | exact Drawn0.refl _ | apply Drawn0.step)⟩
/-! ### cmp_isNaN_int64: function 84 -/
def cmp_isNaN_int64.f (a0 : Int) : Option (Bool) := some (a0 != a0)
set_option maxHeartbeats 8000000 in
set_option maxRecDepth 100000 in
theorem cmp_isNaN_int64.calls (a0 : Int) (r : Bool) (w : World) (h : cmp_isNaN_int64.f a0 = some r) :
    Calls Try.prog 84 #[.int .i64 a0] w fun e w' => e = .returned (.bool r) ∧ Drawn0 w w' := by
  have H : (some (a0 != a0)) = some r := h
  clear h
  obtain rfl := Option.some.inj H
  go_enter Try.func84, Try.ntmps84
  go_wp2
  go_ret
  exact ⟨by first | rfl | (simp; done) | (simp [*]; done), by repeat (first | exact Drawn0.refl _ | apply Drawn0.step)⟩
/-! ### cmp_Compare_int64: function 73 -/
def cmp_Compare_int64.f (a0 : Int) (a1 : Int) : Option (Int) := (cmp_isNaN_int64.f a0).bind fun t228 => ((cmp_isNaN_int64.f a1).bind fun t229 => (if t228 = true then (if t229 = true then (some 0) else (some (-1))) else (if t229 = true then (some 1) else (if a0 < a1 then (some (-1)) else (if a0 > a1 then (some 1) else (some 0))))))
set_option maxHeartbeats 8000000 in
set_option maxRecDepth 100000 in
theorem cmp_Compare_int64.calls (a0 : Int) (a1 : Int) (r : Int) (w : World) (h : cmp_Compare_int64.f a0 a1 = some r) :
    Calls Try.prog 73 #[.int .i64 a0, .int .i64 a1] w fun e w' => e = .returned (.int .i64 r) ∧ Drawn0 w w' := by
  have H : ((cmp_isNaN_int64.f a0).bind fun t228 => ((cmp_isNaN_int64.f a1).bind fun t229 => (if t228 = true then (if t229 = true then (some 0) else (some (-1))) else (if t229 = true then (some 1) else (if a0 < a1 then (some (-1)) else (if a0 > a1 then (some 1) else (some 0))))))) = some r := h
  clear h
  replace H := Option.bind_eq_some_iff.mp H
  obtain ⟨t228, A30, H⟩ := H
  (try (set_option simprocs false in dsimp only at H))
  have A3 := Aside0.mk A30
  clear A30
  replace H := Option.bind_eq_some_iff.mp H
  obtain ⟨t229, A40, H⟩ := H
  (try (set_option simprocs false in dsimp only at H))
  have A4 := Aside0.mk A40
  clear A40
  by_cases c5 : t228 = true
  · subst c5
    have H1 : (if t229 = true then (some 0) else (some (-1))) = some r := by rw [if_pos rfl] at H; exact H
    clear H
    have H := H1
    clear H1
    by_cases c6 : t229 = true
    · subst c6
      have H1 : (some 0) = some r := by rw [if_pos rfl] at H; exact H
      clear H
      have H := H1
      clear H1
      obtain rfl := Option.some.inj H
      go_enter Try.func73, Try.ntmps73
      go_wp2_with (first | ((with_reducible refine gate_callee (f := 84) rfl ?_); refine gol (some 8) Try.func84 #[.int .i64 a0] ?_; (with_reducible refine (cmp_isNaN_int64.calls a0 true _ A3.out).mono ?_); rintro e w' ⟨rfl, ⟨nd, rfl⟩⟩; refine ⟨_, rfl, ?_⟩) | ((with_reducible refine gate_callee (f := 84) rfl ?_); refine gol (some 10) Try.func84 #[.int .i64 a1] ?_; (with_reducible refine (cmp_isNaN_int64.calls a1 true _ A4.out).mono ?_); rintro e w' ⟨rfl, ⟨nd, rfl⟩⟩; refine ⟨_, rfl, ?_⟩))
      go_ret
      exact ⟨by first | rfl | (simp; done) | (simp [*]; done), by repeat (first | exact Drawn0.refl _ | apply Drawn0.step)⟩
    · replace c6 := Bool.eq_false_iff.mpr c6
      subst c6
      have H1 : (some (-1)) = some r := by rw [if_neg (show ¬ (false = true) by decide)] at H; exact H
      clear H
      have H := H1
      clear H1
      obtain rfl := Option.some.inj H
      go_enter Try.func73, Try.ntmps73
      go_wp2_with (first | ((with_reducible refine gate_callee (f := 84) rfl ?_); refine gol (some 8) Try.func84 #[.int .i64 a0] ?_; (with_reducible refine (cmp_isNaN_int64.calls a0 true _ A3.out).mono ?_); rintro e w' ⟨rfl, ⟨nd, rfl⟩⟩; refine ⟨_, rfl, ?_⟩) | ((with_reducible refine gate_callee (f := 84) rfl ?_); refine gol (some 10) Try.func84 #[.int .i64 a1] ?_; (with_reducible refine (cmp_isNaN_int64.calls a1 false _ A4.out).mono ?_); rintro e w' ⟨rfl, ⟨nd, rfl⟩⟩; refine ⟨_, rfl, ?_⟩))
      go_ret
      exact ⟨by first | rfl | (simp; done) | (simp [*]; done), by repeat (first | exact Drawn0.refl _ | apply Drawn0.step)⟩
  · replace c5 := Bool.eq_false_iff.mpr c5
    subst c5
    have H1 : (if t229 = true then (some 1) else (if a0 < a1 then (some (-1)) else (if a0 > a1 then (some 1) else (some 0)))) = some r := by rw [if_neg (show ¬ (false = true) by decide)] at H; exact H
    clear H
    have H := H1
    clear H1
    by_cases c7 : t229 = true
    · subst c7
      have H1 : (some 1) = some r := by rw [if_pos rfl] at H; exact H
      clear H
      have H := H1
      clear H1
      obtain rfl := Option.some.inj H
      go_enter Try.func73, Try.ntmps73
      go_wp2_with (first | ((with_reducible refine gate_callee (f := 84) rfl ?_); refine gol (some 8) Try.func84 #[.int .i64 a0] ?_; (with_reducible refine (cmp_isNaN_int64.calls a0 false _ A3.out).mono ?_); rintro e w' ⟨rfl, ⟨nd, rfl⟩⟩; refine ⟨_, rfl, ?_⟩) | ((with_reducible refine gate_callee (f := 84) rfl ?_); refine gol (some 10) Try.func84 #[.int .i64 a1] ?_; (with_reducible refine (cmp_isNaN_int64.calls a1 true _ A4.out).mono ?_); rintro e w' ⟨rfl, ⟨nd, rfl⟩⟩; refine ⟨_, rfl, ?_⟩))
      go_ret
      exact ⟨by first | rfl | (simp; done) | (simp [*]; done), by repeat (first | exact Drawn0.refl _ | apply Drawn0.step)⟩
    · replace c7 := Bool.eq_false_iff.mpr c7
      subst c7
      have H1 : (if a0 < a1 then (some (-1)) else (if a0 > a1 then (some 1) else (some 0))) = some r := by rw [if_neg (show ¬ (false = true) by decide)] at H; exact H
      clear H
      have H := H1
      clear H1
      by_cases c8 : a0 < a1
      · rw [if_pos c8] at H
        have c8b0 : decide (a0 < a1) = true := decide_eq_true c8
        clear c8
        obtain rfl := Option.some.inj H
        go_enter Try.func73, Try.ntmps73
        go_wp2_with (first | ((with_reducible refine gate_callee (f := 84) rfl ?_); refine gol (some 8) Try.func84 #[.int .i64 a0] ?_; (with_reducible refine (cmp_isNaN_int64.calls a0 false _ A3.out).mono ?_); rintro e w' ⟨rfl, ⟨nd, rfl⟩⟩; refine ⟨_, rfl, ?_⟩) | ((with_reducible refine gate_callee (f := 84) rfl ?_); refine gol (some 10) Try.func84 #[.int .i64 a1] ?_; (with_reducible refine (cmp_isNaN_int64.calls a1 false _ A4.out).mono ?_); rintro e w' ⟨rfl, ⟨nd, rfl⟩⟩; refine ⟨_, rfl, ?_⟩))
        go_ret
        exact ⟨by first | rfl | (simp; done) | (simp [*]; done), by repeat (first | exact Drawn0.refl _ | apply Drawn0.step)⟩
      · rw [if_neg c8] at H
        have c8b0 : decide (a0 < a1) = false := decide_eq_false c8
        clear c8
        by_cases c9 : a0 > a1
        · rw [if_pos c9] at H
          have c9b0 : decide (a1 < a0) = true := decide_eq_true c9
          clear c9
          obtain rfl := Option.some.inj H
          go_enter Try.func73, Try.ntmps73
          go_wp2_with (first | ((with_reducible refine gate_callee (f := 84) rfl ?_); refine gol (some 8) Try.func84 #[.int .i64 a0] ?_; (with_reducible refine (cmp_isNaN_int64.calls a0 false _ A3.out).mono ?_); rintro e w' ⟨rfl, ⟨nd, rfl⟩⟩; refine ⟨_, rfl, ?_⟩) | ((with_reducible refine gate_callee (f := 84) rfl ?_); refine gol (some 10) Try.func84 #[.int .i64 a1] ?_; (with_reducible refine (cmp_isNaN_int64.calls a1 false _ A4.out).mono ?_); rintro e w' ⟨rfl, ⟨nd, rfl⟩⟩; refine ⟨_, rfl, ?_⟩))
          go_ret
          exact ⟨by first | rfl | (simp; done) | (simp [*]; done), by repeat (first | exact Drawn0.refl _ | apply Drawn0.step)⟩
        · rw [if_neg c9] at H
          have c9b0 : decide (a1 < a0) = false := decide_eq_false c9
          clear c9
          obtain rfl := Option.some.inj H
          go_enter Try.func73, Try.ntmps73
          go_wp2_with (first | ((with_reducible refine gate_callee (f := 84) rfl ?_); refine gol (some 8) Try.func84 #[.int .i64 a0] ?_; (with_reducible refine (cmp_isNaN_int64.calls a0 false _ A3.out).mono ?_); rintro e w' ⟨rfl, ⟨nd, rfl⟩⟩; refine ⟨_, rfl, ?_⟩) | ((with_reducible refine gate_callee (f := 84) rfl ?_); refine gol (some 10) Try.func84 #[.int .i64 a1] ?_; (with_reducible refine (cmp_isNaN_int64.calls a1 false _ A4.out).mono ?_); rintro e w' ⟨rfl, ⟨nd, rfl⟩⟩; refine ⟨_, rfl, ?_⟩))
          go_ret
          exact ⟨by first | rfl | (simp; done) | (simp [*]; done), by repeat (first | exact Drawn0.refl _ | apply Drawn0.step)⟩
/-! ### cut_Compare: function 53 -/
def cut_Compare.f (k : Nat) (a0_0 : Int) (a0_1 : Int) (a1_0 : Int) (a1_1 : Int) : Option (Int) := (cut_Canon.f k a0_0 a0_1).bind fun bt232 => ((cut_Canon.f k a1_0 a1_1).bind fun bt234 => ((cmp_Compare_int.f bt232.1 bt234.1).bind fun t236 => ((cmp_Compare_int64.f bt232.2 bt234.2).bind fun t237 => ((cmp_Or_int.f k (([t236, t237] : List Int))).bind fun t241 => (some t241)))))
theorem cut_Compare.mono : ∀ a0 a1 a2 a3 k, LeO (cut_Compare.f k a0 a1 a2 a3) (cut_Compare.f (k + 1) a0 a1 a2 a3) := by
  intro a0 a1 a2 a3 k
  unfold cut_Compare.f
  repeat' first
      | (with_reducible exact cmp_Or_int.mono _ _)
      | (with_reducible exact cut_Canon.mono _ _ _)
      | (with_reducible exact LeO.refl _)
      | (with_reducible exact LeO.none _)
      | (with_reducible refine LeO.ite ?_ ?_)
      | (with_reducible refine LeO.bind ?_ (fun _ => ?_))
      | exact cmp_Or_int.mono _ _
      | exact cut_Canon.mono _ _ _
      | exact LeO.none _
      | refine LeO.ite ?_ ?_
      | refine LeO.bind ?_ (fun _ => ?_)
def cut_Compare.T2 : Bool × List (List Nat × List Nat) := (true, [([], []), ([0], [0]), ([], []), ([2], [2]), ([1, 3], [1, 3]), ([], []), ([5], [5]), ([], []), ([7], [7]), ([6, 8, 4], [6, 8]), ([4, 9], [4, 9]), ([10, 9], [10]), ([11, 11, 0, 1, 2, 3, 4, 5, 6, 7, 8, 9, 10, 11], [11])])
def cut_Compare.B2 : List Nat := [0, 1, 0, 4, 15, 0, 32, 0, 128, 511, 1023, 2047, 4095]
theorem cut_Compare.tab2 : rtab .any (opsOf Try.f53 2) = cut_Compare.T2 := by kernel_rfl
theorem cut_Compare.bits2 : waitsOk cut_Compare.T2.2 cut_Compare.B2 = true := by kernel_rfl
set_option maxHeartbeats 8000000 in
set_option maxRecDepth 100000 in
theorem cut_Compare.calls (k : Nat) (a0_0 : Int) (a0_1 : Int) (a1_0 : Int) (a1_1 : Int) (r : Int) (w : World) (h : cut_Compare.f k a0_0 a0_1 a1_0 a1_1 = some r) :
    Calls Try.prog 53 #[.agg #[.int .i64 a0_0, .int .i64 a0_1], .agg #[.int .i64 a1_0, .int .i64 a1_1]] w fun e w' => e = .returned (.int .i64 r) ∧ Below w.heap.size w w' := by
  have hu23 := Try.underlying23
  have HB := Aside0.mk (Below.refl w.heap.size w)
  have H : ((cut_Canon.f k a0_0 a0_1).bind fun bt232 => ((cut_Canon.f k a1_0 a1_1).bind fun bt234 => ((cmp_Compare_int.f bt232.1 bt234.1).bind fun t236 => ((cmp_Compare_int64.f bt232.2 bt234.2).bind fun t237 => ((cmp_Or_int.f k (([t236, t237] : List Int))).bind fun t241 => (some t241)))))) = some r := h
  clear h
  replace H := Option.bind_eq_some_iff.mp H
  obtain ⟨⟨t232, t233⟩, A30, H⟩ := H
  (try (set_option simprocs false in dsimp only at H))
  have A3 := Aside0.mk A30
  clear A30
  replace H := Option.bind_eq_some_iff.mp H
  obtain ⟨⟨t234, t235⟩, A40, H⟩ := H
  (try (set_option simprocs false in dsimp only at H))
  have A4 := Aside0.mk A40
  clear A40
  replace H := Option.bind_eq_some_iff.mp H
  obtain ⟨t236, A50, H⟩ := H
  (try (set_option simprocs false in dsimp only at H))
  have A5 := Aside0.mk A50
  clear A50
  replace H := Option.bind_eq_some_iff.mp H
  obtain ⟨t237, A60, H⟩ := H
  (try (set_option simprocs false in dsimp only at H))
  have A6 := Aside0.mk A60
  clear A60
  obtain ⟨y238, hy238⟩ : ∃ y_ : List Int, y_ = (([t236, t237] : List Int)) := ⟨_, rfl⟩
  replace H : ((cmp_Or_int.f k y238).bind fun t241 => (some t241)) = some r := by first | (rw [hy238]; with_reducible exact H) | (have H2_ := (Option.bind_some _ _).symm.trans H; rw [hy238]; with_reducible exact H2_) | (have H2_ := (Option.bind_some _ _).symm.trans H; with_reducible exact H2_) | with_reducible exact H | (rw [hy238]; exact H) | exact H
  have Ny238 := Aside0.mk hy238
  clear hy238
  replace H := Option.bind_eq_some_iff.mp H
  obtain ⟨t241, A70, H⟩ := H
  (try (set_option simprocs false in dsimp only at H))
  have A7 := Aside0.mk A70
  clear A70
  obtain rfl := Option.some.inj H
  go_enter Try.func53, Try.ntmps53
  try go_wp2_with (first | ((with_reducible refine gate_dst (N := 2) rfl ?_); refine bxe (N := 2) (cs := #[.int .i64 a0_0, .int .i64 a0_1]) (t := 23) ?_; intro gb230 hg w8 hbox hb; have BK230 := Aside0.mk (hbox); have GW230 := lsz hg HB; have GE230 := lsz hg HB; replace HB := bst HB hb; clear hb hbox hg) | ((with_reducible refine gate_dst (N := 3) rfl ?_); refine bxe (N := 3) (cs := #[.int .i64 a1_0, .int .i64 a1_1]) (t := 23) ?_; intro gb231 hg w9 hbox hb; have BK231 := Aside0.mk (hbox); have GW231 := lsz hg HB; have GE231 := lsz hg HB; replace HB := bst HB hb; have NB230_231 := nlt hg BK230; have NB231_230 := ngt hg BK230; replace BK230 := bkb BK230 hb; clear hb hbox hg))
  replace BK230 := Aside0.mk (blk_drew BK230.out)
  replace BK231 := Aside0.mk (blk_drew BK231.out)
  replace HB := Aside0.mk (below_drew1 HB.out)
  refine start_ (n := 6) (S := fun w' => w'.cell? ⟨gb230, 0, none⟩ = some (.int .i64 a0_0) ∧ w'.cell? ⟨gb230, 1, none⟩ = some (.int .i64 a0_1) ∧ w'.cell? ⟨gb231, 0, none⟩ = some (.int .i64 a1_0) ∧ w'.cell? ⟨gb231, 1, none⟩ = some (.int .i64 a1_1)) (ds := [4, 5]) #[false, false, false, false, false, false] (by kernel_rfl) rfl rfl (c2 BK230 (e2 BK231)) (fun hHeld => ?_)
  generalize w9.drew = w10 at BK230 BK231 HB hHeld ⊢
  refine tk4 0 (some 5) #[true, false, false, false, false, false] (by kernel_rfl) hHeld ?_
  refine tk4 2 (some 7) #[true, false, true, false, false, false] (by kernel_rfl) hHeld ?_
  refine one_ (i := 1) (N := some 6) #[true, true, true, false, false, false] rfl rfl (by kernel_rfl) (by decide) (fun K hK => ?_)
  refine goes_ Try.func55 (by kernel_rfl) rfl #[.agg #[.int .i64 a0_0, .int .i64 a0_1]] (by rfl) rfl rfl (by (try simp only [List.map_toArray, List.map_cons, List.map_nil]); first | done | rfl | (simp only [List.length_drop, List.length_take]; rfl)) ?_
  with_reducible refine (cut_Canon.calls k a0_0 a0_1 t232 t233 _ A3.out).mono ?_
  rintro e w11 ⟨rfl, hb⟩
  refine ⟨_, rfl, ?_⟩
  replace BK230 := bkb BK230 hb
  replace BK231 := bkb BK231 hb
  replace HB := bst HB hb
  (try clear hb)
  (try clear hb2)
  (try clear hk)
  (try clear hi)
  refine hK.out _ _ (c2 BK230 (e2 BK231)) (fun hHeld => ?_)
  clear hK K
  refine nrp 6 ?_
  refine one_ (i := 3) (N := some 8) #[true, true, true, true, false, false] rfl rfl (by kernel_rfl) (by decide) (fun K hK => ?_)
  refine goes_ Try.func55 (by kernel_rfl) rfl #[.agg #[.int .i64 a1_0, .int .i64 a1_1]] (by rfl) rfl rfl (by (try simp only [List.map_toArray, List.map_cons, List.map_nil]); first | done | rfl | (simp only [List.length_drop, List.length_take]; rfl)) ?_
  with_reducible refine (cut_Canon.calls k a1_0 a1_1 t234 t235 _ A4.out).mono ?_
  rintro e w12 ⟨rfl, hb⟩
  refine ⟨_, rfl, ?_⟩
  replace BK230 := bkb BK230 hb
  replace BK231 := bkb BK231 hb
  replace HB := bst HB hb
  (try clear hb)
  (try clear hb2)
  (try clear hk)
  (try clear hi)
  refine hK.out _ _ (c2 BK230 (e2 BK231)) (fun hHeld => ?_)
  clear hK K
  refine nrp 8 ?_
  refine last_ (i := 4) (N := none) #[true, true, true, true, true, false] rfl rfl (by kernel_rfl) (by decide) (fun K hK => ?_)
  have hs13 : w12.cell? ⟨gb230, 0, none⟩ = some (.int .i64 a0_0) := (blk_cell BK230.out 0).trans rfl
  have hfs13 := blk_frozen BK230.out 0
  have hns13_1 := NB231_230.out
  have hms13_1 := NB230_231.out
  have hs14 : w12.cell? ⟨gb230, 1, none⟩ = some (.int .i64 a0_1) := (blk_cell BK230.out 1).trans rfl
  have hfs14 := blk_frozen BK230.out 1
  have hns14_1 := NB231_230.out
  have hms14_1 := NB230_231.out
  refine skip_ (w1 := ?_) (by rfl) rfl ?_ ?_
  rotate_left
  · go_simp
    rfl
  refine hK.out _ _ ?_
  clear hK K
  refine last_ (i := 5) (N := none) #[true, true, true, true, true, true] rfl rfl (by kernel_rfl) (by decide) (fun K hK => ?_)
  have hs15 : w12.cell? ⟨gb231, 0, none⟩ = some (.int .i64 a1_0) := (blk_cell BK231.out 0).trans rfl
  have hfs15 := blk_frozen BK231.out 0
  have hns15_0 := NB230_231.out
  have hms15_0 := NB231_230.out
  have hs16 : w12.cell? ⟨gb231, 1, none⟩ = some (.int .i64 a1_1) := (blk_cell BK231.out 1).trans rfl
  have hfs16 := blk_frozen BK231.out 1
  have hns16_0 := NB230_231.out
  have hms16_0 := NB231_230.out
  refine skip_ (w1 := ?_) (by rfl) rfl ?_ ?_
  rotate_left
  · go_simp
    rfl
  refine hK.out _ _ ?_
  clear hK K
  refine done_ (by kernel_rfl) ?_
  try go_wp2
  have n0_ : Aside0 (((((w12.setCell ⟨gb230, 0, none⟩ (.int .i64 t232)).setCell ⟨gb230, 1, none⟩ (.int .i64 t233)).setCell ⟨gb231, 0, none⟩ (.int .i64 t234)).setCell ⟨gb231, 1, none⟩ (.int .i64 t235)).heap[gb230]? = some (.cells #[.int .i64 t232, .int .i64 t233] 23 (0, 0))) := ⟨by (with_reducible repeat (first | refine blk_drewN ?_ _ | refine blk_drew ?_ | refine blk_alloc ?_ _)); refine blk_far ?_ NB230_231.out _; (with_reducible repeat (first | refine blk_drewN ?_ _ | refine blk_drew ?_ | refine blk_alloc ?_ _)); refine blk_far ?_ NB230_231.out _; (with_reducible repeat (first | refine blk_drewN ?_ _ | refine blk_drew ?_ | refine blk_alloc ?_ _)); refine blk_put (cs := #[.int .i64 t232, .int .i64 a0_1]) ?_ 1 _ rfl; (with_reducible repeat (first | refine blk_drewN ?_ _ | refine blk_drew ?_ | refine blk_alloc ?_ _)); refine blk_put (cs := #[.int .i64 a0_0, .int .i64 a0_1]) ?_ 0 _ rfl; (with_reducible repeat (first | refine blk_drewN ?_ _ | refine blk_drew ?_ | refine blk_alloc ?_ _)); exact BK230.out⟩
  have n1_ : Aside0 (((((w12.setCell ⟨gb230, 0, none⟩ (.int .i64 t232)).setCell ⟨gb230, 1, none⟩ (.int .i64 t233)).setCell ⟨gb231, 0, none⟩ (.int .i64 t234)).setCell ⟨gb231, 1, none⟩ (.int .i64 t235)).heap[gb231]? = some (.cells #[.int .i64 t234, .int .i64 t235] 23 (0, 0))) := ⟨by (with_reducible repeat (first | refine blk_drewN ?_ _ | refine blk_drew ?_ | refine blk_alloc ?_ _)); refine blk_put (cs := #[.int .i64 t234, .int .i64 a1_1]) ?_ 1 _ rfl; (with_reducible repeat (first | refine blk_drewN ?_ _ | refine blk_drew ?_ | refine blk_alloc ?_ _)); refine blk_put (cs := #[.int .i64 a1_0, .int .i64 a1_1]) ?_ 0 _ rfl; (with_reducible repeat (first | refine blk_drewN ?_ _ | refine blk_drew ?_ | refine blk_alloc ?_ _)); refine blk_far ?_ NB231_230.out _; (with_reducible repeat (first | refine blk_drewN ?_ _ | refine blk_drew ?_ | refine blk_alloc ?_ _)); refine blk_far ?_ NB231_230.out _; (with_reducible repeat (first | refine blk_drewN ?_ _ | refine blk_drew ?_ | refine blk_alloc ?_ _)); exact BK231.out⟩
  have n2_ : Aside0 (Below w.heap.size w ((((w12.setCell ⟨gb230, 0, none⟩ (.int .i64 t232)).setCell ⟨gb230, 1, none⟩ (.int .i64 t233)).setCell ⟨gb231, 0, none⟩ (.int .i64 t234)).setCell ⟨gb231, 1, none⟩ (.int .i64 t235))) := ⟨bl HB⟩
  (try clear BK230)
  (try clear BK231)
  (try clear HB)
  generalize ((((w12.setCell ⟨gb230, 0, none⟩ (.int .i64 t232)).setCell ⟨gb230, 1, none⟩ (.int .i64 t233)).setCell ⟨gb231, 0, none⟩ (.int .i64 t234)).setCell ⟨gb231, 1, none⟩ (.int .i64 t235)) = w17 at n0_ n1_ n2_ ⊢
  have BK230 := n0_
  have BK231 := n1_
  have HB := n2_
  clear n0_ n1_ n2_
  replace BK230 := Aside0.mk (blk_drew BK230.out)
  replace BK231 := Aside0.mk (blk_drew BK231.out)
  replace HB := Aside0.mk (below_drew1 HB.out)
  refine start_ (n := 13) (S := fun w' => w'.cell? ⟨gb230, 0, none⟩ = some (.int .i64 t232) ∧ w'.cell? ⟨gb230, 1, none⟩ = some (.int .i64 t233) ∧ w'.cell? ⟨gb231, 0, none⟩ = some (.int .i64 t234) ∧ w'.cell? ⟨gb231, 1, none⟩ = some (.int .i64 t235)) (ds := []) #[false, false, false, false, false, false, false, false, false, false, false, false, false] (by kernel_rfl) rfl rfl (c2 BK230 (e2 BK231)) (fun hHeld => ?_); refine with_tabW cut_Compare.tab2 cut_Compare.bits2 (fun HT_ HW_ => ?_)
  generalize w17.drew = w18 at BK230 BK231 HB hHeld ⊢
  refine pu 0 (some 9) #[true, false, false, false, false, false, false, false, false, false, false, false, false] (any_of HT_.out (by kernel_rfl)) ?_
  refine pu 2 (some 11) #[true, false, true, false, false, false, false, false, false, false, false, false, false] (any_of HT_.out (by kernel_rfl)) ?_
  refine pu 5 (some 14) #[true, false, true, false, false, true, false, false, false, false, false, false, false] (any_of HT_.out (by kernel_rfl)) ?_
  refine pu 7 (some 16) #[true, false, true, false, false, true, false, true, false, false, false, false, false] (any_of HT_.out (by kernel_rfl)) ?_
  refine tk4 1 (some 10) #[true, true, true, false, false, true, false, true, false, false, false, false, false] (take_ofW HT_.out HW_.out (by kernel_rfl)) hHeld ?_
  refine tk4 3 (some 12) #[true, true, true, true, false, true, false, true, false, false, false, false, false] (take_ofW HT_.out HW_.out (by kernel_rfl)) hHeld ?_
  refine tk4 6 (some 15) #[true, true, true, true, false, true, true, true, false, false, false, false, false] (take_ofW HT_.out HW_.out (by kernel_rfl)) hHeld ?_
  refine tk4 8 (some 17) #[true, true, true, true, false, true, true, true, true, false, false, false, false] (take_ofW HT_.out HW_.out (by kernel_rfl)) hHeld ?_
  refine one_ (i := 4) (N := some 13) #[true, true, true, true, true, true, true, true, true, false, false, false, false] rfl rfl (one_of HT_.out (by kernel_rfl)) (by decide) (fun K hK => ?_)
  refine goes_ Try.func72 (by kernel_rfl) rfl #[.int .i64 t232, .int .i64 t234] (by rfl) rfl rfl (by (try simp only [List.map_toArray, List.map_cons, List.map_nil]); first | done | rfl | (simp only [List.length_drop, List.length_take]; rfl)) ?_
  with_reducible refine (cmp_Compare_int.calls t232 t234 t236 _ A5.out).mono ?_
  rintro e w' ⟨rfl, ⟨nd, rfl⟩⟩
  refine ⟨_, rfl, ?_⟩
  refine hK.out _ _ (c2 BK230 (e2 BK231)) (fun hHeld => ?_)
  clear hK K
  refine nrp 13 ?_
  refine one_ (i := 9) (N := some 18) #[true, true, true, true, true, true, true, true, true, true, false, false, false] rfl rfl (one_of HT_.out (by kernel_rfl)) (by decide) (fun K hK => ?_)
  refine goes_ Try.func73 (by kernel_rfl) rfl #[.int .i64 t233, .int .i64 t235] (by rfl) rfl rfl (by (try simp only [List.map_toArray, List.map_cons, List.map_nil]); first | done | rfl | (simp only [List.length_drop, List.length_take]; rfl)) ?_
  with_reducible refine (cmp_Compare_int64.calls t233 t235 t237 _ A6.out).mono ?_
  rintro e w' ⟨rfl, ⟨nd, rfl⟩⟩
  refine ⟨_, rfl, ?_⟩
  refine hK.out _ _ (c2 BK230 (e2 BK231)) (fun hHeld => ?_)
  clear hK K
  refine nrp 18 ?_
  refine one_ (i := 10) (N := some 19) #[true, true, true, true, true, true, true, true, true, true, true, false, false] rfl rfl (one_of HT_.out (by kernel_rfl)) (by decide) (fun K hK => ?_)
  refine Kd.R_lit_step (Kd.int .i64) _ 3 ?hg (N := 19) ?hd (xs := ([t236, t237] : List Int)) (inner := [.int .i64 t236, .int .i64 t237]) (ok := fun _ => True) (okp := fun _ => True) ?hr ?hp (fun _ hk => hk) trivial (Below.refl _ _) (Nat.le_refl _) (by simp) ?_; (case hd => rfl); (case hg => rfl); (case hr => first | (go_simp; done) | (go_simp; rfl)); (case hp => exact (Reps.one (show Kd.M (Kd.int .i64) _ _ _ t236 [.int .i64 t236] from rfl) (Reps.one (show Kd.M (Kd.int .i64) _ _ _ t237 [.int .i64 t237] from rfl) (Reps.none _ _))))
  intro v239 w19 ho20 hb hg_ hnew_
  clear hg_ hnew_
  (first | rw [← Ny238.out] at ho20 | (simp only [Int.reduceToNat] at ho20; rw [← Ny238.out] at ho20))
  have HO240 := Aside0.mk (Kd.R_lower ho20 (below_size (bl HB)))
  replace BK230 := bkb BK230 hb
  replace BK231 := bkb BK231 hb
  replace HB := bst HB hb
  clear hb ho20
  obtain ⟨Ao21, co21, eo21⟩ := Kd.R_slice HO240.out
  (first | subst eo21 | (injection eo21 with f1_ f2_ f3_; have f4_ := f1_.symm; have f5_ := f3_.symm; clear f1_ f2_ f3_; subst f4_; subst f5_))
  refine hK.out _ _ (c2 BK230 (e2 BK231)) (fun hHeld => ?_)
  clear hK K
  refine nrp 19 ?_
  refine one_ (i := 11) (N := some 20) #[true, true, true, true, true, true, true, true, true, true, true, true, false] rfl rfl (one_of HT_.out (by kernel_rfl)) (by decide) (fun K hK => ?_)
  refine goes_ Try.func66 (by kernel_rfl) rfl #[.slice Ao21 y238.length co21] (by rfl) rfl rfl (by (try simp only [List.map_toArray, List.map_cons, List.map_nil]); first | done | rfl | (simp only [List.length_drop, List.length_take]; rfl)) ?_
  with_reducible refine (cmp_Or_int.calls k _ _ y238 t241 _ ?side1 ?side2 A7.out).mono ?_
  (case side1 => repeat (first | exact (Kd.R_reads' HO240.out).2.2 | (with_reducible refine Kd.C_alloc ?_ _) | (with_reducible refine Kd.C_drewN ?_ _) | (with_reducible refine Kd.C_drew ?_)))
  (case side2 => exact (Kd.R_reads' HO240.out).2.1)
  rintro e w' ⟨rfl, ⟨nd, rfl⟩⟩
  refine ⟨_, rfl, ?_⟩
  refine hK.out _ _ (c2 BK230 (e2 BK231)) (fun hHeld => ?_)
  clear hK K
  refine nrp 20 ?_
  refine pu 12 (some 4) #[true, true, true, true, true, true, true, true, true, true, true, true, true] (any_of HT_.out (by kernel_rfl)) ?_
  refine done_ (done_of HT_.out (by kernel_rfl)) ?_
  try go_wp2
  go_ret
  exact endB HB
section
attribute [local go_sem high] eqA23
/-! ### cut_Right: function 59 -/
def cut_Right.f (k : Nat) (a0_0 : Int) (a0_1 : Int) : Option (Bool) := (cut_Canon.f k a0_0 a0_1).bind fun bt243 => (some (bt243.1 == a0_0 && (bt243.2 == a0_1)))
theorem cut_Right.mono : ∀ a0 a1 k, LeO (cut_Right.f k a0 a1) (cut_Right.f (k + 1) a0 a1) := by
  intro a0 a1 k
  unfold cut_Right.f
  repeat' first
      | (with_reducible exact cut_Canon.mono _ _ _)
      | (with_reducible exact LeO.refl _)
      | (with_reducible exact LeO.none _)
      | (with_reducible refine LeO.ite ?_ ?_)
      | (with_reducible refine LeO.bind ?_ (fun _ => ?_))
      | exact cut_Canon.mono _ _ _
      | exact LeO.none _
      | refine LeO.ite ?_ ?_
      | refine LeO.bind ?_ (fun _ => ?_)
set_option maxHeartbeats 8000000 in
set_option maxRecDepth 100000 in
theorem cut_Right.calls (k : Nat) (a0_0 : Int) (a0_1 : Int) (r : Bool) (w : World) (h : cut_Right.f k a0_0 a0_1 = some r) :
    Calls Try.prog 59 #[.agg #[.int .i64 a0_0, .int .i64 a0_1]] w fun e w' => e = .returned (.bool r) ∧ Below w.heap.size w w' := by
  have hu23 := Try.underlying23
  have HB := Aside0.mk (Below.refl w.heap.size w)
  have H : ((cut_Canon.f k a0_0 a0_1).bind fun bt243 => (some (bt243.1 == a0_0 && (bt243.2 == a0_1)))) = some r := h
  clear h
  replace H := Option.bind_eq_some_iff.mp H
  obtain ⟨⟨t243, t244⟩, A20, H⟩ := H
  (try (set_option simprocs false in dsimp only at H))
  have A2 := Aside0.mk A20
  clear A20
  obtain rfl := Option.some.inj H
  go_enter Try.func59, Try.ntmps59
  try go_wp2_with (first | ((with_reducible refine gate_dst (N := 1) rfl ?_); refine bxe (N := 1) (cs := #[.int .i64 a0_0, .int .i64 a0_1]) (t := 23) ?_; intro gb242 hg w3 hbox hb; have BK242 := Aside0.mk (hbox); have GW242 := lsz hg HB; have GE242 := lsz hg HB; replace HB := bst HB hb; clear hb hbox hg))
  replace BK242 := Aside0.mk (blk_drew BK242.out)
  replace HB := Aside0.mk (below_drew1 HB.out)
  refine start_ (n := 5) (S := fun w' => w'.cell? ⟨gb242, 0, none⟩ = some (.int .i64 a0_0) ∧ w'.cell? ⟨gb242, 1, none⟩ = some (.int .i64 a0_1)) (ds := []) #[false, false, false, false, false] (by kernel_rfl) rfl rfl (e2 BK242) (fun hHeld => ?_)
  generalize w3.drew = w4 at BK242 HB hHeld ⊢
  refine tk2 0 (some 3) #[true, false, false, false, false] (by kernel_rfl) hHeld ?_
  refine tk2 2 (some 5) #[true, false, true, false, false] (by kernel_rfl) hHeld ?_
  refine one_ (i := 1) (N := some 4) #[true, true, true, false, false] rfl rfl (by kernel_rfl) (by decide) (fun K hK => ?_)
  refine goes_ Try.func55 (by kernel_rfl) rfl #[.agg #[.int .i64 a0_0, .int .i64 a0_1]] (by rfl) rfl rfl (by (try simp only [List.map_toArray, List.map_cons, List.map_nil]); first | done | rfl | (simp only [List.length_drop, List.length_take]; rfl)) ?_
  with_reducible refine (cut_Canon.calls k a0_0 a0_1 t243 t244 _ A2.out).mono ?_
  rintro e w5 ⟨rfl, hb⟩
  refine ⟨_, rfl, ?_⟩
  replace BK242 := bkb BK242 hb
  replace HB := bst HB hb
  (try clear hb)
  (try clear hb2)
  (try clear hk)
  (try clear hi)
  refine hK.out _ _ (e2 BK242) (fun hHeld => ?_)
  clear hK K
  refine nrp 4 ?_
  refine pu 3 (some 6) #[true, true, true, true, false] (by kernel_rfl) ?_
  refine pu 4 (some 2) #[true, true, true, true, true] (by kernel_rfl) ?_
  refine done_ (by kernel_rfl) ?_
  try go_wp2
  go_ret
  exact endB HB
end
section
attribute [local go_sem high] eqA23
/-! ### span_Right: function 28 -/
def span_Right.f (k : Nat) (a0_0 : Int) (a0_1 : Int) (a0_2 : Int) (a0_3 : Int) : Option (Bool) := (cut_Right.f k a0_0 a0_1).bind fun t246 => (if t246 = true then ((cut_Right.f k a0_2 a0_3).bind fun t247 => (if t247 = true then ((cut_Compare.f k a0_0 a0_1 a0_2 a0_3).bind fun t248 => (some (decide (t248 < 0)))) else (some false))) else (some false))
theorem span_Right.mono : ∀ a0 a1 a2 a3 k, LeO (span_Right.f k a0 a1 a2 a3) (span_Right.f (k + 1) a0 a1 a2 a3) := by
  intro a0 a1 a2 a3 k
  unfold span_Right.f
  repeat' first
      | (with_reducible exact cut_Compare.mono _ _ _ _ _)
      | (with_reducible exact cut_Right.mono _ _ _)
      | (with_reducible exact LeO.refl _)
      | (with_reducible exact LeO.none _)
      | (with_reducible refine LeO.ite ?_ ?_)
      | (with_reducible refine LeO.bind ?_ (fun _ => ?_))
      | exact cut_Compare.mono _ _ _ _ _
      | exact cut_Right.mono _ _ _
      | exact LeO.none _
      | refine LeO.ite ?_ ?_
      | refine LeO.bind ?_ (fun _ => ?_)
set_option maxHeartbeats 8000000 in
set_option maxRecDepth 100000 in
theorem span_Right.calls (k : Nat) (a0_0 : Int) (a0_1 : Int) (a0_2 : Int) (a0_3 : Int) (r : Bool) (w : World) (h : span_Right.f k a0_0 a0_1 a0_2 a0_3 = some r) :
    Calls Try.prog 28 #[.agg #[.int .i64 a0_0, .int .i64 a0_1, .int .i64 a0_2, .int .i64 a0_3]] w fun e w' => e = .returned (.bool r) ∧ Below w.heap.size w w' := by
  have hu25 := Try.underlying25
  have hu23 := Try.underlying23
  have HB := Aside0.mk (Below.refl w.heap.size w)
  have H : ((cut_Right.f k a0_0 a0_1).bind fun t246 => (if t246 = true then ((cut_Right.f k a0_2 a0_3).bind fun t247 => (if t247 = true then ((cut_Compare.f k a0_0 a0_1 a0_2 a0_3).bind fun t248 => (some (decide (t248 < 0)))) else (some false))) else (some false))) = some r := h
  clear h
  replace H := Option.bind_eq_some_iff.mp H
  obtain ⟨t246, A20, H⟩ := H
  (try (set_option simprocs false in dsimp only at H))
  have A2 := Aside0.mk A20
  clear A20
  by_cases c3 : t246 = true
  · subst c3
    have H1 : ((cut_Right.f k a0_2 a0_3).bind fun t247 => (if t247 = true then ((cut_Compare.f k a0_0 a0_1 a0_2 a0_3).bind fun t248 => (some (decide (t248 < 0)))) else (some false))) = some r := by rw [if_pos rfl] at H; exact H
    clear H
    have H := H1
    clear H1
    replace H := Option.bind_eq_some_iff.mp H
    obtain ⟨t247, A40, H⟩ := H
    (try (set_option simprocs false in dsimp only at H))
    have A4 := Aside0.mk A40
    clear A40
    by_cases c5 : t247 = true
    · subst c5
      have H1 : ((cut_Compare.f k a0_0 a0_1 a0_2 a0_3).bind fun t248 => (some (decide (t248 < 0)))) = some r := by rw [if_pos rfl] at H; exact H
      clear H
      have H := H1
      clear H1
      replace H := Option.bind_eq_some_iff.mp H
      obtain ⟨t248, A60, H⟩ := H
      (try (set_option simprocs false in dsimp only at H))
      have A6 := Aside0.mk A60
      clear A60
      obtain rfl := Option.some.inj H
      go_enter Try.func28, Try.ntmps28
      go_wp2_with (first | ((with_reducible refine gate_dst (N := 1) rfl ?_); refine bxe (N := 1) (cs := #[.int .i64 a0_0, .int .i64 a0_1, .int .i64 a0_2, .int .i64 a0_3]) (t := 25) ?_; intro gb245 hg w7 hbox hb; have BK245 := Aside0.mk (hbox); have GW245 := lsz hg HB; have GE245 := lsz hg HB; replace HB := bst HB hb; clear hb hbox hg; obtain ⟨hcz8_0, hcz8_1, hcz8_2, hcz8_3⟩ := e4 BK245; obtain ⟨hfz8_0, hfz8_1, hfz8_2, hfz8_3⟩ := f4 BK245) | ((with_reducible refine gate_callee (f := 59) rfl ?_); refine gol (some 5) Try.func59 #[.agg #[.int .i64 a0_0, .int .i64 a0_1]] ?_; (with_reducible refine (cut_Right.calls k a0_0 a0_1 true _ A2.out).mono ?_); rintro e w9 ⟨rfl, hb⟩; refine ⟨_, rfl, ?_⟩; replace BK245 := bkb BK245 hb; replace HB := bst HB hb; (try clear hb); (try clear hb2); (try clear hk); (try clear hi); obtain ⟨hcz10_0, hcz10_1, hcz10_2, hcz10_3⟩ := e4 BK245; obtain ⟨hfz10_0, hfz10_1, hfz10_2, hfz10_3⟩ := f4 BK245) | (go_at_call 59; (with_reducible refine (cut_Right.calls k a0_2 a0_3 true _ A4.out).mono ?_); rintro e w11 ⟨rfl, hb⟩; replace BK245 := bkb BK245 hb; replace HB := bst HB hb; (try clear hb); (try clear hb2); (try clear hk); (try clear hi); obtain ⟨hcz12_0, hcz12_1, hcz12_2, hcz12_3⟩ := e4 BK245; obtain ⟨hfz12_0, hfz12_1, hfz12_2, hfz12_3⟩ := f4 BK245) | (go_at_call 53; (with_reducible refine (cut_Compare.calls k a0_0 a0_1 a0_2 a0_3 t248 _ A6.out).mono ?_); rintro e w13 ⟨rfl, hb⟩; replace BK245 := bkb BK245 hb; replace HB := bst HB hb; (try clear hb); (try clear hb2); (try clear hk); (try clear hi)))
      go_ret
      exact endB HB
    · replace c5 := Bool.eq_false_iff.mpr c5
      subst c5
      have H1 : (some false) = some r := by rw [if_neg (show ¬ (false = true) by decide)] at H; exact H
      clear H
      have H := H1
      clear H1
      obtain rfl := Option.some.inj H
      go_enter Try.func28, Try.ntmps28
      go_wp2_with (first | ((with_reducible refine gate_dst (N := 1) rfl ?_); refine bxe (N := 1) (cs := #[.int .i64 a0_0, .int .i64 a0_1, .int .i64 a0_2, .int .i64 a0_3]) (t := 25) ?_; intro gb245 hg w14 hbox hb; have BK245 := Aside0.mk (hbox); have GW245 := lsz hg HB; have GE245 := lsz hg HB; replace HB := bst HB hb; clear hb hbox hg; obtain ⟨hcz15_0, hcz15_1, hcz15_2, hcz15_3⟩ := e4 BK245; obtain ⟨hfz15_0, hfz15_1, hfz15_2, hfz15_3⟩ := f4 BK245) | ((with_reducible refine gate_callee (f := 59) rfl ?_); refine gol (some 5) Try.func59 #[.agg #[.int .i64 a0_0, .int .i64 a0_1]] ?_; (with_reducible refine (cut_Right.calls k a0_0 a0_1 true _ A2.out).mono ?_); rintro e w16 ⟨rfl, hb⟩; refine ⟨_, rfl, ?_⟩; replace BK245 := bkb BK245 hb; replace HB := bst HB hb; (try clear hb); (try clear hb2); (try clear hk); (try clear hi); obtain ⟨hcz17_0, hcz17_1, hcz17_2, hcz17_3⟩ := e4 BK245; obtain ⟨hfz17_0, hfz17_1, hfz17_2, hfz17_3⟩ := f4 BK245) | (go_at_call 59; (with_reducible refine (cut_Right.calls k a0_2 a0_3 false _ A4.out).mono ?_); rintro e w18 ⟨rfl, hb⟩; replace BK245 := bkb BK245 hb; replace HB := bst HB hb; (try clear hb); (try clear hb2); (try clear hk); (try clear hi)))
      go_ret
      exact endB HB
  · replace c3 := Bool.eq_false_iff.mpr c3
    subst c3
    have H1 : (some false) = some r := by rw [if_neg (show ¬ (false = true) by decide)] at H; exact H
    clear H
    have H := H1
    clear H1
    obtain rfl := Option.some.inj H
    go_enter Try.func28, Try.ntmps28
    go_wp2_with (first | ((with_reducible refine gate_dst (N := 1) rfl ?_); refine bxe (N := 1) (cs := #[.int .i64 a0_0, .int .i64 a0_1, .int .i64 a0_2, .int .i64 a0_3]) (t := 25) ?_; intro gb245 hg w19 hbox hb; have BK245 := Aside0.mk (hbox); have GW245 := lsz hg HB; have GE245 := lsz hg HB; replace HB := bst HB hb; clear hb hbox hg; obtain ⟨hcz20_0, hcz20_1, hcz20_2, hcz20_3⟩ := e4 BK245; obtain ⟨hfz20_0, hfz20_1, hfz20_2, hfz20_3⟩ := f4 BK245) | ((with_reducible refine gate_callee (f := 59) rfl ?_); refine gol (some 5) Try.func59 #[.agg #[.int .i64 a0_0, .int .i64 a0_1]] ?_; (with_reducible refine (cut_Right.calls k a0_0 a0_1 false _ A2.out).mono ?_); rintro e w21 ⟨rfl, hb⟩; refine ⟨_, rfl, ?_⟩; replace BK245 := bkb BK245 hb; replace HB := bst HB hb; (try clear hb); (try clear hb2); (try clear hk); (try clear hi)))
    go_ret
    exact endB HB
end
/-! ### span_Of: function 24 -/
def span_Of.f (k : Nat) (a0_0 : Int) (a0_1 : Int) (a1_0 : Int) (a1_1 : Int) : Option (Int × Int × Int × Int × Int) := (cut_Canon.f k a0_0 a0_1).bind fun bt252 => ((cut_Canon.f k a1_0 a1_1).bind fun bt254 => ((span_Right.f k bt252.1 bt252.2 bt254.1 bt254.2).bind fun t257 => (if t257 = true then (some (bt252.1, bt252.2, bt254.1, bt254.2, 0)) else (some (0, 0, 0, 0, 30)))))
theorem span_Of.mono : ∀ a0 a1 a2 a3 k, LeO (span_Of.f k a0 a1 a2 a3) (span_Of.f (k + 1) a0 a1 a2 a3) := by
  intro a0 a1 a2 a3 k
  unfold span_Of.f
  repeat' first
      | (with_reducible exact cut_Canon.mono _ _ _)
      | (with_reducible exact span_Right.mono _ _ _ _ _)
      | (with_reducible exact LeO.refl _)
      | (with_reducible exact LeO.none _)
      | (with_reducible refine LeO.ite ?_ ?_)
      | (with_reducible refine LeO.bind ?_ (fun _ => ?_))
      | exact cut_Canon.mono _ _ _
      | exact span_Right.mono _ _ _ _ _
      | exact LeO.none _
      | refine LeO.ite ?_ ?_
      | refine LeO.bind ?_ (fun _ => ?_)
set_option maxHeartbeats 8000000 in
set_option maxRecDepth 100000 in
theorem span_Of.calls (k : Nat) (a0_0 : Int) (a0_1 : Int) (a1_0 : Int) (a1_1 : Int) (r1 : Int) (r2 : Int) (r3 : Int) (r4 : Int) (r5 : Int) (w : World) (h : span_Of.f k a0_0 a0_1 a1_0 a1_1 = some (r1, r2, r3, r4, r5)) :
    Calls Try.prog 24 #[.agg #[.int .i64 a0_0, .int .i64 a0_1], .agg #[.int .i64 a1_0, .int .i64 a1_1]] w fun e w' => e = .returned (.tuple #[.agg #[.int .i64 r1, .int .i64 r2, .int .i64 r3, .int .i64 r4], .int .i64 r5]) ∧ Below w.heap.size w w' := by
  have hu23 := Try.underlying23
  have hu25 := Try.underlying25
  have HB := Aside0.mk (Below.refl w.heap.size w)
  have H : ((cut_Canon.f k a0_0 a0_1).bind fun bt252 => ((cut_Canon.f k a1_0 a1_1).bind fun bt254 => ((span_Right.f k bt252.1 bt252.2 bt254.1 bt254.2).bind fun t257 => (if t257 = true then (some (bt252.1, bt252.2, bt254.1, bt254.2, 0)) else (some (0, 0, 0, 0, 30)))))) = some (r1, r2, r3, r4, r5) := h
  clear h
  replace H := Option.bind_eq_some_iff.mp H
  obtain ⟨⟨t252, t253⟩, A30, H⟩ := H
  (try (set_option simprocs false in dsimp only at H))
  have A3 := Aside0.mk A30
  clear A30
  replace H := Option.bind_eq_some_iff.mp H
  obtain ⟨⟨t254, t255⟩, A40, H⟩ := H
  (try (set_option simprocs false in dsimp only at H))
  have A4 := Aside0.mk A40
  clear A40
  replace H := Option.bind_eq_some_iff.mp H
  obtain ⟨t257, A50, H⟩ := H
  (try (set_option simprocs false in dsimp only at H))
  have A5 := Aside0.mk A50
  clear A50
  by_cases c6 : t257 = true
  · subst c6
    have H1 : (some (t252, t253, t254, t255, 0)) = some (r1, r2, r3, r4, r5) := by rw [if_pos rfl] at H; exact H
    clear H
    have H := H1
    clear H1
    simp only [Option.some.injEq, Prod.mk.injEq] at H
    obtain ⟨rfl, rfl, rfl, rfl, rfl⟩ := H
    go_enter Try.func24, Try.ntmps24
    try go_wp2_with (first | ((with_reducible refine gate_dst (N := 2) rfl ?_); refine bxe (N := 2) (cs := #[.int .i64 a0_0, .int .i64 a0_1]) (t := 23) ?_; intro gb249 hg w7 hbox hb; have BK249 := Aside0.mk (hbox); have GW249 := lsz hg HB; have GE249 := lsz hg HB; replace HB := bst HB hb; clear hb hbox hg) | ((with_reducible refine gate_dst (N := 3) rfl ?_); refine bxe (N := 3) (cs := #[.int .i64 a1_0, .int .i64 a1_1]) (t := 23) ?_; intro gb250 hg w8 hbox hb; have BK250 := Aside0.mk (hbox); have GW250 := lsz hg HB; have GE250 := lsz hg HB; replace HB := bst HB hb; have NB249_250 := nlt hg BK249; have NB250_249 := ngt hg BK249; replace BK249 := bkb BK249 hb; clear hb hbox hg) | ((with_reducible refine gate_dst (N := 4) rfl ?_); refine bxe (N := 4) (cs := #[.int .i64 0, .int .i64 0, .int .i64 0, .int .i64 0]) (t := 25) ?_; intro gb251 hg w9 hbox hb; have BK251 := Aside0.mk (hbox); have GW251 := lsz hg HB; have GE251 := lsz hg HB; replace HB := bst HB hb; have NB249_251 := nlt hg BK249; have NB251_249 := ngt hg BK249; replace BK249 := bkb BK249 hb; have NB250_251 := nlt hg BK250; have NB251_250 := ngt hg BK250; replace BK250 := bkb BK250 hb; clear hb hbox hg))
    replace BK249 := Aside0.mk (blk_drew BK249.out)
    replace BK250 := Aside0.mk (blk_drew BK250.out)
    replace BK251 := Aside0.mk (blk_drew BK251.out)
    replace HB := Aside0.mk (below_drew1 HB.out)
    refine start_ (n := 7) (S := fun w' => w'.cell? ⟨gb249, 0, none⟩ = some (.int .i64 a0_0) ∧ w'.cell? ⟨gb249, 1, none⟩ = some (.int .i64 a0_1) ∧ w'.cell? ⟨gb250, 0, none⟩ = some (.int .i64 a1_0) ∧ w'.cell? ⟨gb250, 1, none⟩ = some (.int .i64 a1_1)) (ds := []) #[false, false, false, false, false, false, false] (by kernel_rfl) rfl rfl (c2 BK249 (e2 BK250)) (fun hHeld => ?_)
    generalize w9.drew = w10 at BK249 BK250 BK251 HB hHeld ⊢
    refine tk4 0 (some 7) #[true, false, false, false, false, false, false] (by kernel_rfl) hHeld ?_
    refine tk4 2 (some 9) #[true, false, true, false, false, false, false] (by kernel_rfl) hHeld ?_
    refine join_ (σ := Nat) 1 #[true, true, true, true, true, true, false] (fun s_ => [(8, .agg #[.int .i64 t252, .int .i64 t253]), (10, .agg #[.int .i64 t254, .int .i64 t255]), (6, .pointer (some ⟨s_, 0, none⟩)), (11, .agg #[.int .i64 t252, .int .i64 t253, .int .i64 t254, .int .i64 t255])]) (fun s_ w' => (w'.cell? ⟨gb249, 0, none⟩ = some (.int .i64 a0_0) ∧ w'.cell? ⟨gb249, 1, none⟩ = some (.int .i64 a0_1) ∧ w'.cell? ⟨gb250, 0, none⟩ = some (.int .i64 a1_0) ∧ w'.cell? ⟨gb250, 1, none⟩ = some (.int .i64 a1_1)) ∧ (w'.heap[gb249]? = some (.cells #[.int .i64 a0_0, .int .i64 a0_1] 23 (0, 0))) ∧ (w'.heap[gb250]? = some (.cells #[.int .i64 a1_0, .int .i64 a1_1] 23 (0, 0))) ∧ (w'.heap[gb251]? = some (.cells #[.int .i64 0, .int .i64 0, .int .i64 0, .int .i64 0] 25 (0, 0))) ∧ (w'.heap[s_]? = some (.cells #[.int .i64 0, .int .i64 0, .int .i64 0, .int .i64 0] 25 (0, 0))) ∧ (w.heap.size ≤ s_) ∧ (w.heap.size ≤ s_) ∧ (gb249 ≠ s_) ∧ (s_ ≠ gb249) ∧ (gb250 ≠ s_) ∧ (s_ ≠ gb250) ∧ (gb251 ≠ s_) ∧ (s_ ≠ gb251) ∧ (Below w.heap.size w w')) ?_ ?_
    rotate_left
    · intro hCont
      refine two_ (i := 1) (j := 5) (Ni := some 8) (Nj := some 6) #[true, true, true, false, false, false, false] #[true, false, true, false, false, true, false] rfl rfl rfl rfl (by kernel_rfl) (by decide) (by decide) (fun K hK => ?_) (fun K hK => ?_)
      · skip
        refine goes_ Try.func55 (by kernel_rfl) rfl #[.agg #[.int .i64 a0_0, .int .i64 a0_1]] (by rfl) rfl rfl (by (try simp only [List.map_toArray, List.map_cons, List.map_nil]); first | done | rfl | (simp only [List.length_drop, List.length_take]; rfl)) ?_
        with_reducible refine (cut_Canon.calls k a0_0 a0_1 t252 t253 _ A3.out).mono ?_
        rintro e w11 ⟨rfl, hb⟩
        refine ⟨_, rfl, ?_⟩
        replace BK249 := bkb BK249 hb
        replace BK250 := bkb BK250 hb
        replace BK251 := bkb BK251 hb
        replace HB := bst HB hb
        (try clear hb)
        (try clear hb2)
        (try clear hk)
        (try clear hi)
        refine hK.out _ _ (c2 BK249 (e2 BK250)) (fun hHeld => ?_)
        clear hK K
        refine nrp 8 ?_
        refine two_ (i := 3) (j := 5) (Ni := some 10) (Nj := some 6) #[true, true, true, true, false, false, false] #[true, true, true, false, false, true, false] rfl rfl rfl rfl (by kernel_rfl) (by decide) (by decide) (fun K hK => ?_) (fun K hK => ?_)
        · skip
          refine goes_ Try.func55 (by kernel_rfl) rfl #[.agg #[.int .i64 a1_0, .int .i64 a1_1]] (by rfl) rfl rfl (by (try simp only [List.map_toArray, List.map_cons, List.map_nil]); first | done | rfl | (simp only [List.length_drop, List.length_take]; rfl)) ?_
          with_reducible refine (cut_Canon.calls k a1_0 a1_1 t254 t255 _ A4.out).mono ?_
          rintro e w12 ⟨rfl, hb⟩
          refine ⟨_, rfl, ?_⟩
          replace BK249 := bkb BK249 hb
          replace BK250 := bkb BK250 hb
          replace BK251 := bkb BK251 hb
          replace HB := bst HB hb
          (try clear hb)
          (try clear hb2)
          (try clear hk)
          (try clear hi)
          refine hK.out _ _ (c2 BK249 (e2 BK250)) (fun hHeld => ?_)
          clear hK K
          refine nrp 10 ?_
          refine pu 4 (some 11) #[true, true, true, true, true, false, false] (by kernel_rfl) ?_
          refine one_ (i := 5) (N := some 6) #[true, true, true, true, true, true, false] rfl rfl (by kernel_rfl) (by decide) (fun K hK => ?_)
          refine box_step ?hg (N := 6) ?hd (cs := #[.int .i64 0, .int .i64 0, .int .i64 0, .int .i64 0]) (t := 25) ?hr ?_; (case hd => rfl); (case hg => rfl); (case hr => first | (go_simp; done) | (go_simp; rfl))
          intro gb256 hg w13 hbox hb
          have BK256 := Aside0.mk (hbox)
          have GW256 := lsz hg HB
          have GE256 := lsz hg HB
          replace HB := bst HB hb
          have NB249_256 := nlt hg BK249
          have NB256_249 := ngt hg BK249
          replace BK249 := bkb BK249 hb
          have NB250_256 := nlt hg BK250
          have NB256_250 := ngt hg BK250
          replace BK250 := bkb BK250 hb
          have NB251_256 := nlt hg BK251
          have NB256_251 := ngt hg BK251
          replace BK251 := bkb BK251 hb
          clear hb hbox hg
          refine hK.out _ _ (c2 BK249 (e2 BK250)) (fun hHeld => ?_)
          clear hK K
          refine nrp 6 ?_
          exact nrm (hCont (gb256) _ ⟨hHeld, (bk BK249), (bk BK250), (bk BK251), (bk BK256), GW256.out, GE256.out, NB249_256.out, NB256_249.out, NB250_256.out, NB256_250.out, NB251_256.out, NB256_251.out, (bl HB)⟩)
        · skip
          refine box_step ?hg (N := 6) ?hd (cs := #[.int .i64 0, .int .i64 0, .int .i64 0, .int .i64 0]) (t := 25) ?hr ?_; (case hd => rfl); (case hg => rfl); (case hr => first | (go_simp; done) | (go_simp; rfl))
          intro gb256 hg w12 hbox hb
          have BK256 := Aside0.mk (hbox)
          have GW256 := lsz hg HB
          have GE256 := lsz hg HB
          replace HB := bst HB hb
          have NB249_256 := nlt hg BK249
          have NB256_249 := ngt hg BK249
          replace BK249 := bkb BK249 hb
          have NB250_256 := nlt hg BK250
          have NB256_250 := ngt hg BK250
          replace BK250 := bkb BK250 hb
          have NB251_256 := nlt hg BK251
          have NB256_251 := ngt hg BK251
          replace BK251 := bkb BK251 hb
          clear hb hbox hg
          refine hK.out _ _ (c2 BK249 (e2 BK250)) (fun hHeld => ?_)
          clear hK K
          refine nrp 6 ?_
          refine one_ (i := 3) (N := some 10) #[true, true, true, true, false, true, false] rfl rfl (by kernel_rfl) (by decide) (fun K hK => ?_)
          refine goes_ Try.func55 (by kernel_rfl) rfl #[.agg #[.int .i64 a1_0, .int .i64 a1_1]] (by rfl) rfl rfl (by (try simp only [List.map_toArray, List.map_cons, List.map_nil]); first | done | rfl | (simp only [List.length_drop, List.length_take]; rfl)) ?_
          with_reducible refine (cut_Canon.calls k a1_0 a1_1 t254 t255 _ A4.out).mono ?_
          rintro e w13 ⟨rfl, hb⟩
          refine ⟨_, rfl, ?_⟩
          replace BK249 := bkb BK249 hb
          replace BK250 := bkb BK250 hb
          replace BK251 := bkb BK251 hb
          replace BK256 := bkb BK256 hb
          replace HB := bst HB hb
          (try clear hb)
          (try clear hb2)
          (try clear hk)
          (try clear hi)
          refine hK.out _ _ (c2 BK249 (e2 BK250)) (fun hHeld => ?_)
          clear hK K
          refine nrp 10 ?_
          refine pu 4 (some 11) #[true, true, true, true, true, true, false] (by kernel_rfl) ?_
          exact nrm (hCont (gb256) _ ⟨hHeld, (bk BK249), (bk BK250), (bk BK251), (bk BK256), GW256.out, GE256.out, NB249_256.out, NB256_249.out, NB250_256.out, NB256_250.out, NB251_256.out, NB256_251.out, (bl HB)⟩)
      · skip
        refine box_step ?hg (N := 6) ?hd (cs := #[.int .i64 0, .int .i64 0, .int .i64 0, .int .i64 0]) (t := 25) ?hr ?_; (case hd => rfl); (case hg => rfl); (case hr => first | (go_simp; done) | (go_simp; rfl))
        intro gb256 hg w11 hbox hb
        have BK256 := Aside0.mk (hbox)
        have GW256 := lsz hg HB
        have GE256 := lsz hg HB
        replace HB := bst HB hb
        have NB249_256 := nlt hg BK249
        have NB256_249 := ngt hg BK249
        replace BK249 := bkb BK249 hb
        have NB250_256 := nlt hg BK250
        have NB256_250 := ngt hg BK250
        replace BK250 := bkb BK250 hb
        have NB251_256 := nlt hg BK251
        have NB256_251 := ngt hg BK251
        replace BK251 := bkb BK251 hb
        clear hb hbox hg
        refine hK.out _ _ (c2 BK249 (e2 BK250)) (fun hHeld => ?_)
        clear hK K
        refine nrp 6 ?_
        refine one_ (i := 1) (N := some 8) #[true, true, true, false, false, true, false] rfl rfl (by kernel_rfl) (by decide) (fun K hK => ?_)
        refine goes_ Try.func55 (by kernel_rfl) rfl #[.agg #[.int .i64 a0_0, .int .i64 a0_1]] (by rfl) rfl rfl (by (try simp only [List.map_toArray, List.map_cons, List.map_nil]); first | done | rfl | (simp only [List.length_drop, List.length_take]; rfl)) ?_
        with_reducible refine (cut_Canon.calls k a0_0 a0_1 t252 t253 _ A3.out).mono ?_
        rintro e w12 ⟨rfl, hb⟩
        refine ⟨_, rfl, ?_⟩
        replace BK249 := bkb BK249 hb
        replace BK250 := bkb BK250 hb
        replace BK251 := bkb BK251 hb
        replace BK256 := bkb BK256 hb
        replace HB := bst HB hb
        (try clear hb)
        (try clear hb2)
        (try clear hk)
        (try clear hi)
        refine hK.out _ _ (c2 BK249 (e2 BK250)) (fun hHeld => ?_)
        clear hK K
        refine nrp 8 ?_
        refine one_ (i := 3) (N := some 10) #[true, true, true, true, false, true, false] rfl rfl (by kernel_rfl) (by decide) (fun K hK => ?_)
        refine goes_ Try.func55 (by kernel_rfl) rfl #[.agg #[.int .i64 a1_0, .int .i64 a1_1]] (by rfl) rfl rfl (by (try simp only [List.map_toArray, List.map_cons, List.map_nil]); first | done | rfl | (simp only [List.length_drop, List.length_take]; rfl)) ?_
        with_reducible refine (cut_Canon.calls k a1_0 a1_1 t254 t255 _ A4.out).mono ?_
        rintro e w13 ⟨rfl, hb⟩
        refine ⟨_, rfl, ?_⟩
        replace BK249 := bkb BK249 hb
        replace BK250 := bkb BK250 hb
        replace BK251 := bkb BK251 hb
        replace BK256 := bkb BK256 hb
        replace HB := bst HB hb
        (try clear hb)
        (try clear hb2)
        (try clear hk)
        (try clear hi)
        refine hK.out _ _ (c2 BK249 (e2 BK250)) (fun hHeld => ?_)
        clear hK K
        refine nrp 10 ?_
        refine pu 4 (some 11) #[true, true, true, true, true, true, false] (by kernel_rfl) ?_
        exact nrm (hCont (gb256) _ ⟨hHeld, (bk BK249), (bk BK250), (bk BK251), (bk BK256), GW256.out, GE256.out, NB249_256.out, NB256_249.out, NB250_256.out, NB256_250.out, NB251_256.out, NB256_251.out, (bl HB)⟩)
    rintro gb256 w14 ⟨hS_, h0_, h1_, h2_, h3_, h4_, h5_, h6_, h7_, h8_, h9_, h10_, h11_, h12_⟩
    replace BK249 : Aside0 (w14.heap[gb249]? = some (.cells #[.int .i64 a0_0, .int .i64 a0_1] 23 (0, 0))) := ⟨h0_⟩
    replace BK250 : Aside0 (w14.heap[gb250]? = some (.cells #[.int .i64 a1_0, .int .i64 a1_1] 23 (0, 0))) := ⟨h1_⟩
    replace BK251 : Aside0 (w14.heap[gb251]? = some (.cells #[.int .i64 0, .int .i64 0, .int .i64 0, .int .i64 0] 25 (0, 0))) := ⟨h2_⟩
    have BK256 : Aside0 (w14.heap[gb256]? = some (.cells #[.int .i64 0, .int .i64 0, .int .i64 0, .int .i64 0] 25 (0, 0))) := ⟨h3_⟩
    have GW256 : Aside0 (w.heap.size ≤ gb256) := ⟨h4_⟩
    have GE256 : Aside0 (w.heap.size ≤ gb256) := ⟨h5_⟩
    have NB249_256 : Aside0 (gb249 ≠ gb256) := ⟨h6_⟩
    have NB256_249 : Aside0 (gb256 ≠ gb249) := ⟨h7_⟩
    have NB250_256 : Aside0 (gb250 ≠ gb256) := ⟨h8_⟩
    have NB256_250 : Aside0 (gb256 ≠ gb250) := ⟨h9_⟩
    have NB251_256 : Aside0 (gb251 ≠ gb256) := ⟨h10_⟩
    have NB256_251 : Aside0 (gb256 ≠ gb251) := ⟨h11_⟩
    replace HB : Aside0 (Below w.heap.size w w14) := ⟨h12_⟩
    clear h0_ h1_ h2_ h3_ h4_ h5_ h6_ h7_ h8_ h9_ h10_ h11_ h12_
    have hHeld : w14.cell? ⟨gb249, 0, none⟩ = some (.int .i64 a0_0) ∧ w14.cell? ⟨gb249, 1, none⟩ = some (.int .i64 a0_1) ∧ w14.cell? ⟨gb250, 0, none⟩ = some (.int .i64 a1_0) ∧ w14.cell? ⟨gb250, 1, none⟩ = some (.int .i64 a1_1) := hS_
    refine nra ?_
    refine one_ (i := 6) (N := none) #[true, true, true, true, true, true, true] rfl rfl (by kernel_rfl) (by decide) (fun K hK => ?_)
    have hs15 : w14.cell? ⟨gb256, 0, none⟩ = some (.int .i64 0) := (blk_cell BK256.out 0).trans rfl
    have hfs15 := blk_frozen BK256.out 0
    have hns15_0 := NB249_256.out
    have hns15_1 := NB250_256.out
    have hns15_2 := NB251_256.out
    have hms15_0 := NB256_249.out
    have hms15_1 := NB256_250.out
    have hms15_2 := NB256_251.out
    have hs16 : w14.cell? ⟨gb256, 1, none⟩ = some (.int .i64 0) := (blk_cell BK256.out 1).trans rfl
    have hfs16 := blk_frozen BK256.out 1
    have hns16_0 := NB249_256.out
    have hns16_1 := NB250_256.out
    have hns16_2 := NB251_256.out
    have hms16_0 := NB256_249.out
    have hms16_1 := NB256_250.out
    have hms16_2 := NB256_251.out
    have hs17 : w14.cell? ⟨gb256, 2, none⟩ = some (.int .i64 0) := (blk_cell BK256.out 2).trans rfl
    have hfs17 := blk_frozen BK256.out 2
    have hns17_0 := NB249_256.out
    have hns17_1 := NB250_256.out
    have hns17_2 := NB251_256.out
    have hms17_0 := NB256_249.out
    have hms17_1 := NB256_250.out
    have hms17_2 := NB256_251.out
    have hs18 : w14.cell? ⟨gb256, 3, none⟩ = some (.int .i64 0) := (blk_cell BK256.out 3).trans rfl
    have hfs18 := blk_frozen BK256.out 3
    have hns18_0 := NB249_256.out
    have hns18_1 := NB250_256.out
    have hns18_2 := NB251_256.out
    have hms18_0 := NB256_249.out
    have hms18_1 := NB256_250.out
    have hms18_2 := NB256_251.out
    refine skip_ (w1 := ?_) (by rfl) rfl ?_ ?_
    rotate_left
    · go_simp
      rfl
    refine hK.out _ _ ⟨((cell_far (p := ⟨gb256, _, none⟩) NB249_256.out _).trans (((cell_far (p := ⟨gb256, _, none⟩) NB249_256.out _).trans (((cell_far (p := ⟨gb256, _, none⟩) NB249_256.out _).trans (((cell_far (p := ⟨gb256, _, none⟩) NB249_256.out _).trans (hHeld.1)))))))), ((cell_far (p := ⟨gb256, _, none⟩) NB249_256.out _).trans (((cell_far (p := ⟨gb256, _, none⟩) NB249_256.out _).trans (((cell_far (p := ⟨gb256, _, none⟩) NB249_256.out _).trans (((cell_far (p := ⟨gb256, _, none⟩) NB249_256.out _).trans (hHeld.2.1)))))))), ((cell_far (p := ⟨gb256, _, none⟩) NB250_256.out _).trans (((cell_far (p := ⟨gb256, _, none⟩) NB250_256.out _).trans (((cell_far (p := ⟨gb256, _, none⟩) NB250_256.out _).trans (((cell_far (p := ⟨gb256, _, none⟩) NB250_256.out _).trans (hHeld.2.2.1)))))))), ((cell_far (p := ⟨gb256, _, none⟩) NB250_256.out _).trans (((cell_far (p := ⟨gb256, _, none⟩) NB250_256.out _).trans (((cell_far (p := ⟨gb256, _, none⟩) NB250_256.out _).trans (((cell_far (p := ⟨gb256, _, none⟩) NB250_256.out _).trans (hHeld.2.2.2))))))))⟩ (fun hHeld => ?_)
    clear hK K
    refine done_ (by kernel_rfl) ?_
    have hnb19 := NB256_249.out
    have hnc19 := NB249_256.out
    have hnb20 := NB256_250.out
    have hnc20 := NB250_256.out
    have hnb21 := NB256_251.out
    have hnc21 := NB251_256.out
    have hcz22_0 : w14.cell? ⟨gb256, 0, none⟩ = some (.int .i64 0) := (blk_cell BK256.out 0).trans rfl
    have hcz22_1 : w14.cell? ⟨gb256, 1, none⟩ = some (.int .i64 0) := (blk_cell BK256.out 1).trans rfl
    have hcz22_2 : w14.cell? ⟨gb256, 2, none⟩ = some (.int .i64 0) := (blk_cell BK256.out 2).trans rfl
    have hcz22_3 : w14.cell? ⟨gb256, 3, none⟩ = some (.int .i64 0) := (blk_cell BK256.out 3).trans rfl
    have hfz22_0 := blk_frozen BK256.out 0
    have hfz22_1 := blk_frozen BK256.out 1
    have hfz22_2 := blk_frozen BK256.out 2
    have hfz22_3 := blk_frozen BK256.out 3
    try go_wp2_with (first | ((with_reducible refine gate_callee (f := 28) rfl ?_); refine gol (some 13) Try.func28 #[.agg #[.int .i64 t252, .int .i64 t253, .int .i64 t254, .int .i64 t255]] ?_; (with_reducible refine (span_Right.calls k t252 t253 t254 t255 true _ A5.out).mono ?_); rintro e w23 ⟨rfl, hb⟩; refine ⟨_, rfl, ?_⟩; replace BK249 := Aside0.mk (blk_below (bkf BK249 NB249_256) hb); replace BK250 := Aside0.mk (blk_below (bkf BK250 NB250_256) hb); replace BK251 := Aside0.mk (blk_below (bkf BK251 NB251_256) hb); replace BK256 := Aside0.mk (blk_below (g := gb256) (o := .cells #[.int .i64 t252, .int .i64 t253, .int .i64 t254, .int .i64 t255] 25 (0, 0)) (bkp BK256) hb); replace HB := bst HB hb; (try clear hb); (try clear hb2); (try clear hk); (try clear hi); obtain ⟨hcz24_0, hcz24_1, hcz24_2, hcz24_3⟩ := e4 BK256; obtain ⟨hfz24_0, hfz24_1, hfz24_2, hfz24_3⟩ := f4 BK256; have hnb25 := NB251_249.out; have hnc25 := NB249_251.out; have hnb26 := NB251_250.out; have hnc26 := NB250_251.out; obtain ⟨hcz27_0, hcz27_1, hcz27_2, hcz27_3⟩ := e4 BK251; obtain ⟨hfz27_0, hfz27_1, hfz27_2, hfz27_3⟩ := f4 BK251))
    refine bodyPost_ret (results_ct rfl _ _ gb251 25 #[.int .i64 t252, .int .i64 t253, .int .i64 t254, .int .i64 t255] (0, 0) _ rfl (bkp BK251) Try.underlying25 rfl (by kernel_rfl)) rfl ?_
    exact endB HB
  · replace c6 := Bool.eq_false_iff.mpr c6
    subst c6
    have H1 : (some (0, 0, 0, 0, 30)) = some (r1, r2, r3, r4, r5) := by rw [if_neg (show ¬ (false = true) by decide)] at H; exact H
    clear H
    have H := H1
    clear H1
    simp only [Option.some.injEq, Prod.mk.injEq] at H
    obtain ⟨rfl, rfl, rfl, rfl, rfl⟩ := H
    go_enter Try.func24, Try.ntmps24
    try go_wp2_with (first | ((with_reducible refine gate_dst (N := 2) rfl ?_); refine bxe (N := 2) (cs := #[.int .i64 a0_0, .int .i64 a0_1]) (t := 23) ?_; intro gb249 hg w28 hbox hb; have BK249 := Aside0.mk (hbox); have GW249 := lsz hg HB; have GE249 := lsz hg HB; replace HB := bst HB hb; clear hb hbox hg) | ((with_reducible refine gate_dst (N := 3) rfl ?_); refine bxe (N := 3) (cs := #[.int .i64 a1_0, .int .i64 a1_1]) (t := 23) ?_; intro gb250 hg w29 hbox hb; have BK250 := Aside0.mk (hbox); have GW250 := lsz hg HB; have GE250 := lsz hg HB; replace HB := bst HB hb; have NB249_250 := nlt hg BK249; have NB250_249 := ngt hg BK249; replace BK249 := bkb BK249 hb; clear hb hbox hg) | ((with_reducible refine gate_dst (N := 4) rfl ?_); refine bxe (N := 4) (cs := #[.int .i64 0, .int .i64 0, .int .i64 0, .int .i64 0]) (t := 25) ?_; intro gb251 hg w30 hbox hb; have BK251 := Aside0.mk (hbox); have GW251 := lsz hg HB; have GE251 := lsz hg HB; replace HB := bst HB hb; have NB249_251 := nlt hg BK249; have NB251_249 := ngt hg BK249; replace BK249 := bkb BK249 hb; have NB250_251 := nlt hg BK250; have NB251_250 := ngt hg BK250; replace BK250 := bkb BK250 hb; clear hb hbox hg))
    replace BK249 := Aside0.mk (blk_drew BK249.out)
    replace BK250 := Aside0.mk (blk_drew BK250.out)
    replace BK251 := Aside0.mk (blk_drew BK251.out)
    replace HB := Aside0.mk (below_drew1 HB.out)
    refine start_ (n := 7) (S := fun w' => w'.cell? ⟨gb249, 0, none⟩ = some (.int .i64 a0_0) ∧ w'.cell? ⟨gb249, 1, none⟩ = some (.int .i64 a0_1) ∧ w'.cell? ⟨gb250, 0, none⟩ = some (.int .i64 a1_0) ∧ w'.cell? ⟨gb250, 1, none⟩ = some (.int .i64 a1_1)) (ds := []) #[false, false, false, false, false, false, false] (by kernel_rfl) rfl rfl (c2 BK249 (e2 BK250)) (fun hHeld => ?_)
    generalize w30.drew = w31 at BK249 BK250 BK251 HB hHeld ⊢
    refine tk4 0 (some 7) #[true, false, false, false, false, false, false] (by kernel_rfl) hHeld ?_
    refine tk4 2 (some 9) #[true, false, true, false, false, false, false] (by kernel_rfl) hHeld ?_
    refine join_ (σ := Nat) 1 #[true, true, true, true, true, true, false] (fun s_ => [(8, .agg #[.int .i64 t252, .int .i64 t253]), (10, .agg #[.int .i64 t254, .int .i64 t255]), (6, .pointer (some ⟨s_, 0, none⟩)), (11, .agg #[.int .i64 t252, .int .i64 t253, .int .i64 t254, .int .i64 t255])]) (fun s_ w' => (w'.cell? ⟨gb249, 0, none⟩ = some (.int .i64 a0_0) ∧ w'.cell? ⟨gb249, 1, none⟩ = some (.int .i64 a0_1) ∧ w'.cell? ⟨gb250, 0, none⟩ = some (.int .i64 a1_0) ∧ w'.cell? ⟨gb250, 1, none⟩ = some (.int .i64 a1_1)) ∧ (w'.heap[gb249]? = some (.cells #[.int .i64 a0_0, .int .i64 a0_1] 23 (0, 0))) ∧ (w'.heap[gb250]? = some (.cells #[.int .i64 a1_0, .int .i64 a1_1] 23 (0, 0))) ∧ (w'.heap[gb251]? = some (.cells #[.int .i64 0, .int .i64 0, .int .i64 0, .int .i64 0] 25 (0, 0))) ∧ (w'.heap[s_]? = some (.cells #[.int .i64 0, .int .i64 0, .int .i64 0, .int .i64 0] 25 (0, 0))) ∧ (w.heap.size ≤ s_) ∧ (w.heap.size ≤ s_) ∧ (gb249 ≠ s_) ∧ (s_ ≠ gb249) ∧ (gb250 ≠ s_) ∧ (s_ ≠ gb250) ∧ (gb251 ≠ s_) ∧ (s_ ≠ gb251) ∧ (Below w.heap.size w w')) ?_ ?_
    rotate_left
    · intro hCont
      refine two_ (i := 1) (j := 5) (Ni := some 8) (Nj := some 6) #[true, true, true, false, false, false, false] #[true, false, true, false, false, true, false] rfl rfl rfl rfl (by kernel_rfl) (by decide) (by decide) (fun K hK => ?_) (fun K hK => ?_)
      · skip
        refine goes_ Try.func55 (by kernel_rfl) rfl #[.agg #[.int .i64 a0_0, .int .i64 a0_1]] (by rfl) rfl rfl (by (try simp only [List.map_toArray, List.map_cons, List.map_nil]); first | done | rfl | (simp only [List.length_drop, List.length_take]; rfl)) ?_
        with_reducible refine (cut_Canon.calls k a0_0 a0_1 t252 t253 _ A3.out).mono ?_
        rintro e w32 ⟨rfl, hb⟩
        refine ⟨_, rfl, ?_⟩
        replace BK249 := bkb BK249 hb
        replace BK250 := bkb BK250 hb
        replace BK251 := bkb BK251 hb
        replace HB := bst HB hb
        (try clear hb)
        (try clear hb2)
        (try clear hk)
        (try clear hi)
        refine hK.out _ _ (c2 BK249 (e2 BK250)) (fun hHeld => ?_)
        clear hK K
        refine nrp 8 ?_
        refine two_ (i := 3) (j := 5) (Ni := some 10) (Nj := some 6) #[true, true, true, true, false, false, false] #[true, true, true, false, false, true, false] rfl rfl rfl rfl (by kernel_rfl) (by decide) (by decide) (fun K hK => ?_) (fun K hK => ?_)
        · skip
          refine goes_ Try.func55 (by kernel_rfl) rfl #[.agg #[.int .i64 a1_0, .int .i64 a1_1]] (by rfl) rfl rfl (by (try simp only [List.map_toArray, List.map_cons, List.map_nil]); first | done | rfl | (simp only [List.length_drop, List.length_take]; rfl)) ?_
          with_reducible refine (cut_Canon.calls k a1_0 a1_1 t254 t255 _ A4.out).mono ?_
          rintro e w33 ⟨rfl, hb⟩
          refine ⟨_, rfl, ?_⟩
          replace BK249 := bkb BK249 hb
          replace BK250 := bkb BK250 hb
          replace BK251 := bkb BK251 hb
          replace HB := bst HB hb
          (try clear hb)
          (try clear hb2)
          (try clear hk)
          (try clear hi)
          refine hK.out _ _ (c2 BK249 (e2 BK250)) (fun hHeld => ?_)
          clear hK K
          refine nrp 10 ?_
          refine pu 4 (some 11) #[true, true, true, true, true, false, false] (by kernel_rfl) ?_
          refine one_ (i := 5) (N := some 6) #[true, true, true, true, true, true, false] rfl rfl (by kernel_rfl) (by decide) (fun K hK => ?_)
          refine box_step ?hg (N := 6) ?hd (cs := #[.int .i64 0, .int .i64 0, .int .i64 0, .int .i64 0]) (t := 25) ?hr ?_; (case hd => rfl); (case hg => rfl); (case hr => first | (go_simp; done) | (go_simp; rfl))
          intro gb256 hg w34 hbox hb
          have BK256 := Aside0.mk (hbox)
          have GW256 := lsz hg HB
          have GE256 := lsz hg HB
          replace HB := bst HB hb
          have NB249_256 := nlt hg BK249
          have NB256_249 := ngt hg BK249
          replace BK249 := bkb BK249 hb
          have NB250_256 := nlt hg BK250
          have NB256_250 := ngt hg BK250
          replace BK250 := bkb BK250 hb
          have NB251_256 := nlt hg BK251
          have NB256_251 := ngt hg BK251
          replace BK251 := bkb BK251 hb
          clear hb hbox hg
          refine hK.out _ _ (c2 BK249 (e2 BK250)) (fun hHeld => ?_)
          clear hK K
          refine nrp 6 ?_
          exact nrm (hCont (gb256) _ ⟨hHeld, (bk BK249), (bk BK250), (bk BK251), (bk BK256), GW256.out, GE256.out, NB249_256.out, NB256_249.out, NB250_256.out, NB256_250.out, NB251_256.out, NB256_251.out, (bl HB)⟩)
        · skip
          refine box_step ?hg (N := 6) ?hd (cs := #[.int .i64 0, .int .i64 0, .int .i64 0, .int .i64 0]) (t := 25) ?hr ?_; (case hd => rfl); (case hg => rfl); (case hr => first | (go_simp; done) | (go_simp; rfl))
          intro gb256 hg w33 hbox hb
          have BK256 := Aside0.mk (hbox)
          have GW256 := lsz hg HB
          have GE256 := lsz hg HB
          replace HB := bst HB hb
          have NB249_256 := nlt hg BK249
          have NB256_249 := ngt hg BK249
          replace BK249 := bkb BK249 hb
          have NB250_256 := nlt hg BK250
          have NB256_250 := ngt hg BK250
          replace BK250 := bkb BK250 hb
          have NB251_256 := nlt hg BK251
          have NB256_251 := ngt hg BK251
          replace BK251 := bkb BK251 hb
          clear hb hbox hg
          refine hK.out _ _ (c2 BK249 (e2 BK250)) (fun hHeld => ?_)
          clear hK K
          refine nrp 6 ?_
          refine one_ (i := 3) (N := some 10) #[true, true, true, true, false, true, false] rfl rfl (by kernel_rfl) (by decide) (fun K hK => ?_)
          refine goes_ Try.func55 (by kernel_rfl) rfl #[.agg #[.int .i64 a1_0, .int .i64 a1_1]] (by rfl) rfl rfl (by (try simp only [List.map_toArray, List.map_cons, List.map_nil]); first | done | rfl | (simp only [List.length_drop, List.length_take]; rfl)) ?_
          with_reducible refine (cut_Canon.calls k a1_0 a1_1 t254 t255 _ A4.out).mono ?_
          rintro e w34 ⟨rfl, hb⟩
          refine ⟨_, rfl, ?_⟩
          replace BK249 := bkb BK249 hb
          replace BK250 := bkb BK250 hb
          replace BK251 := bkb BK251 hb
          replace BK256 := bkb BK256 hb
          replace HB := bst HB hb
          (try clear hb)
          (try clear hb2)
          (try clear hk)
          (try clear hi)
          refine hK.out _ _ (c2 BK249 (e2 BK250)) (fun hHeld => ?_)
          clear hK K
          refine nrp 10 ?_
          refine pu 4 (some 11) #[true, true, true, true, true, true, false] (by kernel_rfl) ?_
          exact nrm (hCont (gb256) _ ⟨hHeld, (bk BK249), (bk BK250), (bk BK251), (bk BK256), GW256.out, GE256.out, NB249_256.out, NB256_249.out, NB250_256.out, NB256_250.out, NB251_256.out, NB256_251.out, (bl HB)⟩)
      · skip
        refine box_step ?hg (N := 6) ?hd (cs := #[.int .i64 0, .int .i64 0, .int .i64 0, .int .i64 0]) (t := 25) ?hr ?_; (case hd => rfl); (case hg => rfl); (case hr => first | (go_simp; done) | (go_simp; rfl))
        intro gb256 hg w32 hbox hb
        have BK256 := Aside0.mk (hbox)
        have GW256 := lsz hg HB
        have GE256 := lsz hg HB
        replace HB := bst HB hb
        have NB249_256 := nlt hg BK249
        have NB256_249 := ngt hg BK249
        replace BK249 := bkb BK249 hb
        have NB250_256 := nlt hg BK250
        have NB256_250 := ngt hg BK250
        replace BK250 := bkb BK250 hb
        have NB251_256 := nlt hg BK251
        have NB256_251 := ngt hg BK251
        replace BK251 := bkb BK251 hb
        clear hb hbox hg
        refine hK.out _ _ (c2 BK249 (e2 BK250)) (fun hHeld => ?_)
        clear hK K
        refine nrp 6 ?_
        refine one_ (i := 1) (N := some 8) #[true, true, true, false, false, true, false] rfl rfl (by kernel_rfl) (by decide) (fun K hK => ?_)
        refine goes_ Try.func55 (by kernel_rfl) rfl #[.agg #[.int .i64 a0_0, .int .i64 a0_1]] (by rfl) rfl rfl (by (try simp only [List.map_toArray, List.map_cons, List.map_nil]); first | done | rfl | (simp only [List.length_drop, List.length_take]; rfl)) ?_
        with_reducible refine (cut_Canon.calls k a0_0 a0_1 t252 t253 _ A3.out).mono ?_
        rintro e w33 ⟨rfl, hb⟩
        refine ⟨_, rfl, ?_⟩
        replace BK249 := bkb BK249 hb
        replace BK250 := bkb BK250 hb
        replace BK251 := bkb BK251 hb
        replace BK256 := bkb BK256 hb
        replace HB := bst HB hb
        (try clear hb)
        (try clear hb2)
        (try clear hk)
        (try clear hi)
        refine hK.out _ _ (c2 BK249 (e2 BK250)) (fun hHeld => ?_)
        clear hK K
        refine nrp 8 ?_
        refine one_ (i := 3) (N := some 10) #[true, true, true, true, false, true, false] rfl rfl (by kernel_rfl) (by decide) (fun K hK => ?_)
        refine goes_ Try.func55 (by kernel_rfl) rfl #[.agg #[.int .i64 a1_0, .int .i64 a1_1]] (by rfl) rfl rfl (by (try simp only [List.map_toArray, List.map_cons, List.map_nil]); first | done | rfl | (simp only [List.length_drop, List.length_take]; rfl)) ?_
        with_reducible refine (cut_Canon.calls k a1_0 a1_1 t254 t255 _ A4.out).mono ?_
        rintro e w34 ⟨rfl, hb⟩
        refine ⟨_, rfl, ?_⟩
        replace BK249 := bkb BK249 hb
        replace BK250 := bkb BK250 hb
        replace BK251 := bkb BK251 hb
        replace BK256 := bkb BK256 hb
        replace HB := bst HB hb
        (try clear hb)
        (try clear hb2)
        (try clear hk)
        (try clear hi)
        refine hK.out _ _ (c2 BK249 (e2 BK250)) (fun hHeld => ?_)
        clear hK K
        refine nrp 10 ?_
        refine pu 4 (some 11) #[true, true, true, true, true, true, false] (by kernel_rfl) ?_
        exact nrm (hCont (gb256) _ ⟨hHeld, (bk BK249), (bk BK250), (bk BK251), (bk BK256), GW256.out, GE256.out, NB249_256.out, NB256_249.out, NB250_256.out, NB256_250.out, NB251_256.out, NB256_251.out, (bl HB)⟩)
    rintro gb256 w35 ⟨hS_, h0_, h1_, h2_, h3_, h4_, h5_, h6_, h7_, h8_, h9_, h10_, h11_, h12_⟩
    replace BK249 : Aside0 (w35.heap[gb249]? = some (.cells #[.int .i64 a0_0, .int .i64 a0_1] 23 (0, 0))) := ⟨h0_⟩
    replace BK250 : Aside0 (w35.heap[gb250]? = some (.cells #[.int .i64 a1_0, .int .i64 a1_1] 23 (0, 0))) := ⟨h1_⟩
    replace BK251 : Aside0 (w35.heap[gb251]? = some (.cells #[.int .i64 0, .int .i64 0, .int .i64 0, .int .i64 0] 25 (0, 0))) := ⟨h2_⟩
    have BK256 : Aside0 (w35.heap[gb256]? = some (.cells #[.int .i64 0, .int .i64 0, .int .i64 0, .int .i64 0] 25 (0, 0))) := ⟨h3_⟩
    have GW256 : Aside0 (w.heap.size ≤ gb256) := ⟨h4_⟩
    have GE256 : Aside0 (w.heap.size ≤ gb256) := ⟨h5_⟩
    have NB249_256 : Aside0 (gb249 ≠ gb256) := ⟨h6_⟩
    have NB256_249 : Aside0 (gb256 ≠ gb249) := ⟨h7_⟩
    have NB250_256 : Aside0 (gb250 ≠ gb256) := ⟨h8_⟩
    have NB256_250 : Aside0 (gb256 ≠ gb250) := ⟨h9_⟩
    have NB251_256 : Aside0 (gb251 ≠ gb256) := ⟨h10_⟩
    have NB256_251 : Aside0 (gb256 ≠ gb251) := ⟨h11_⟩
    replace HB : Aside0 (Below w.heap.size w w35) := ⟨h12_⟩
    clear h0_ h1_ h2_ h3_ h4_ h5_ h6_ h7_ h8_ h9_ h10_ h11_ h12_
    have hHeld : w35.cell? ⟨gb249, 0, none⟩ = some (.int .i64 a0_0) ∧ w35.cell? ⟨gb249, 1, none⟩ = some (.int .i64 a0_1) ∧ w35.cell? ⟨gb250, 0, none⟩ = some (.int .i64 a1_0) ∧ w35.cell? ⟨gb250, 1, none⟩ = some (.int .i64 a1_1) := hS_
    refine nra ?_
    refine one_ (i := 6) (N := none) #[true, true, true, true, true, true, true] rfl rfl (by kernel_rfl) (by decide) (fun K hK => ?_)
    have hs36 : w35.cell? ⟨gb256, 0, none⟩ = some (.int .i64 0) := (blk_cell BK256.out 0).trans rfl
    have hfs36 := blk_frozen BK256.out 0
    have hns36_0 := NB249_256.out
    have hns36_1 := NB250_256.out
    have hns36_2 := NB251_256.out
    have hms36_0 := NB256_249.out
    have hms36_1 := NB256_250.out
    have hms36_2 := NB256_251.out
    have hs37 : w35.cell? ⟨gb256, 1, none⟩ = some (.int .i64 0) := (blk_cell BK256.out 1).trans rfl
    have hfs37 := blk_frozen BK256.out 1
    have hns37_0 := NB249_256.out
    have hns37_1 := NB250_256.out
    have hns37_2 := NB251_256.out
    have hms37_0 := NB256_249.out
    have hms37_1 := NB256_250.out
    have hms37_2 := NB256_251.out
    have hs38 : w35.cell? ⟨gb256, 2, none⟩ = some (.int .i64 0) := (blk_cell BK256.out 2).trans rfl
    have hfs38 := blk_frozen BK256.out 2
    have hns38_0 := NB249_256.out
    have hns38_1 := NB250_256.out
    have hns38_2 := NB251_256.out
    have hms38_0 := NB256_249.out
    have hms38_1 := NB256_250.out
    have hms38_2 := NB256_251.out
    have hs39 : w35.cell? ⟨gb256, 3, none⟩ = some (.int .i64 0) := (blk_cell BK256.out 3).trans rfl
    have hfs39 := blk_frozen BK256.out 3
    have hns39_0 := NB249_256.out
    have hns39_1 := NB250_256.out
    have hns39_2 := NB251_256.out
    have hms39_0 := NB256_249.out
    have hms39_1 := NB256_250.out
    have hms39_2 := NB256_251.out
    refine skip_ (w1 := ?_) (by rfl) rfl ?_ ?_
    rotate_left
    · go_simp
      rfl
    refine hK.out _ _ ⟨((cell_far (p := ⟨gb256, _, none⟩) NB249_256.out _).trans (((cell_far (p := ⟨gb256, _, none⟩) NB249_256.out _).trans (((cell_far (p := ⟨gb256, _, none⟩) NB249_256.out _).trans (((cell_far (p := ⟨gb256, _, none⟩) NB249_256.out _).trans (hHeld.1)))))))), ((cell_far (p := ⟨gb256, _, none⟩) NB249_256.out _).trans (((cell_far (p := ⟨gb256, _, none⟩) NB249_256.out _).trans (((cell_far (p := ⟨gb256, _, none⟩) NB249_256.out _).trans (((cell_far (p := ⟨gb256, _, none⟩) NB249_256.out _).trans (hHeld.2.1)))))))), ((cell_far (p := ⟨gb256, _, none⟩) NB250_256.out _).trans (((cell_far (p := ⟨gb256, _, none⟩) NB250_256.out _).trans (((cell_far (p := ⟨gb256, _, none⟩) NB250_256.out _).trans (((cell_far (p := ⟨gb256, _, none⟩) NB250_256.out _).trans (hHeld.2.2.1)))))))), ((cell_far (p := ⟨gb256, _, none⟩) NB250_256.out _).trans (((cell_far (p := ⟨gb256, _, none⟩) NB250_256.out _).trans (((cell_far (p := ⟨gb256, _, none⟩) NB250_256.out _).trans (((cell_far (p := ⟨gb256, _, none⟩) NB250_256.out _).trans (hHeld.2.2.2))))))))⟩ (fun hHeld => ?_)
    clear hK K
    refine done_ (by kernel_rfl) ?_
    have hnb40 := NB256_249.out
    have hnc40 := NB249_256.out
    have hnb41 := NB256_250.out
    have hnc41 := NB250_256.out
    have hnb42 := NB256_251.out
    have hnc42 := NB251_256.out
    have hcz43_0 : w35.cell? ⟨gb256, 0, none⟩ = some (.int .i64 0) := (blk_cell BK256.out 0).trans rfl
    have hcz43_1 : w35.cell? ⟨gb256, 1, none⟩ = some (.int .i64 0) := (blk_cell BK256.out 1).trans rfl
    have hcz43_2 : w35.cell? ⟨gb256, 2, none⟩ = some (.int .i64 0) := (blk_cell BK256.out 2).trans rfl
    have hcz43_3 : w35.cell? ⟨gb256, 3, none⟩ = some (.int .i64 0) := (blk_cell BK256.out 3).trans rfl
    have hfz43_0 := blk_frozen BK256.out 0
    have hfz43_1 := blk_frozen BK256.out 1
    have hfz43_2 := blk_frozen BK256.out 2
    have hfz43_3 := blk_frozen BK256.out 3
    try go_wp2_with (first | ((with_reducible refine gate_callee (f := 28) rfl ?_); refine gol (some 13) Try.func28 #[.agg #[.int .i64 t252, .int .i64 t253, .int .i64 t254, .int .i64 t255]] ?_; (with_reducible refine (span_Right.calls k t252 t253 t254 t255 false _ A5.out).mono ?_); rintro e w44 ⟨rfl, hb⟩; refine ⟨_, rfl, ?_⟩; replace BK249 := Aside0.mk (blk_below (bkf BK249 NB249_256) hb); replace BK250 := Aside0.mk (blk_below (bkf BK250 NB250_256) hb); replace BK251 := Aside0.mk (blk_below (bkf BK251 NB251_256) hb); replace BK256 := Aside0.mk (blk_below (g := gb256) (o := .cells #[.int .i64 t252, .int .i64 t253, .int .i64 t254, .int .i64 t255] 25 (0, 0)) (bkp BK256) hb); replace HB := bst HB hb; (try clear hb); (try clear hb2); (try clear hk); (try clear hi); have hnb45 := NB251_249.out; have hnc45 := NB249_251.out; have hnb46 := NB251_250.out; have hnc46 := NB250_251.out; obtain ⟨hcz47_0, hcz47_1, hcz47_2, hcz47_3⟩ := e4 BK251; obtain ⟨hfz47_0, hfz47_1, hfz47_2, hfz47_3⟩ := f4 BK251))
    refine bodyPost_ret (results_ct rfl _ _ gb251 25 #[.int .i64 0, .int .i64 0, .int .i64 0, .int .i64 0] (0, 0) _ rfl (bkp BK251) Try.underlying25 rfl (by kernel_rfl)) rfl ?_
    exact endB HB
/-! ### span_both: function 45 -/
def span_both.f (k : Nat) (a0_0 : Int) (a0_1 : Int) (a0_2 : Int) (a0_3 : Int) (a1_0 : Int) (a1_1 : Int) (a1_2 : Int) (a1_3 : Int) : Option (Bool) := (span_Right.f k a0_0 a0_1 a0_2 a0_3).bind fun t260 => (if t260 = true then ((span_Right.f k a1_0 a1_1 a1_2 a1_3).bind fun t261 => (some t261)) else (some false))
theorem span_both.mono : ∀ a0 a1 a2 a3 a4 a5 a6 a7 k, LeO (span_both.f k a0 a1 a2 a3 a4 a5 a6 a7) (span_both.f (k + 1) a0 a1 a2 a3 a4 a5 a6 a7) := by
  intro a0 a1 a2 a3 a4 a5 a6 a7 k
  unfold span_both.f
  repeat' first
      | (with_reducible exact span_Right.mono _ _ _ _ _)
      | (with_reducible exact LeO.refl _)
      | (with_reducible exact LeO.none _)
      | (with_reducible refine LeO.ite ?_ ?_)
      | (with_reducible refine LeO.bind ?_ (fun _ => ?_))
      | exact span_Right.mono _ _ _ _ _
      | exact LeO.none _
      | refine LeO.ite ?_ ?_
      | refine LeO.bind ?_ (fun _ => ?_)
set_option maxHeartbeats 8000000 in
set_option maxRecDepth 100000 in
theorem span_both.calls (k : Nat) (a0_0 : Int) (a0_1 : Int) (a0_2 : Int) (a0_3 : Int) (a1_0 : Int) (a1_1 : Int) (a1_2 : Int) (a1_3 : Int) (r : Bool) (w : World) (h : span_both.f k a0_0 a0_1 a0_2 a0_3 a1_0 a1_1 a1_2 a1_3 = some r) :
    Calls Try.prog 45 #[.agg #[.int .i64 a0_0, .int .i64 a0_1, .int .i64 a0_2, .int .i64 a0_3], .agg #[.int .i64 a1_0, .int .i64 a1_1, .int .i64 a1_2, .int .i64 a1_3]] w fun e w' => e = .returned (.bool r) ∧ Below w.heap.size w w' := by
  have hu25 := Try.underlying25
  have HB := Aside0.mk (Below.refl w.heap.size w)
  have H : ((span_Right.f k a0_0 a0_1 a0_2 a0_3).bind fun t260 => (if t260 = true then ((span_Right.f k a1_0 a1_1 a1_2 a1_3).bind fun t261 => (some t261)) else (some false))) = some r := h
  clear h
  replace H := Option.bind_eq_some_iff.mp H
  obtain ⟨t260, A30, H⟩ := H
  (try (set_option simprocs false in dsimp only at H))
  have A3 := Aside0.mk A30
  clear A30
  by_cases c4 : t260 = true
  · subst c4
    have H1 : ((span_Right.f k a1_0 a1_1 a1_2 a1_3).bind fun t261 => (some t261)) = some r := by rw [if_pos rfl] at H; exact H
    clear H
    have H := H1
    clear H1
    replace H := Option.bind_eq_some_iff.mp H
    obtain ⟨t261, A50, H⟩ := H
    (try (set_option simprocs false in dsimp only at H))
    have A5 := Aside0.mk A50
    clear A50
    obtain rfl := Option.some.inj H
    go_enter Try.func45, Try.ntmps45
    go_wp2_with (first | ((with_reducible refine gate_dst (N := 2) rfl ?_); refine bxe (N := 2) (cs := #[.int .i64 a0_0, .int .i64 a0_1, .int .i64 a0_2, .int .i64 a0_3]) (t := 25) ?_; intro gb258 hg w6 hbox hb; have BK258 := Aside0.mk (hbox); have GW258 := lsz hg HB; have GE258 := lsz hg HB; replace HB := bst HB hb; clear hb hbox hg) | ((with_reducible refine gate_dst (N := 3) rfl ?_); refine bxe (N := 3) (cs := #[.int .i64 a1_0, .int .i64 a1_1, .int .i64 a1_2, .int .i64 a1_3]) (t := 25) ?_; intro gb259 hg w7 hbox hb; have BK259 := Aside0.mk (hbox); have GW259 := lsz hg HB; have GE259 := lsz hg HB; replace HB := bst HB hb; have NB258_259 := nlt hg BK258; have NB259_258 := ngt hg BK258; replace BK258 := bkb BK258 hb; clear hb hbox hg; have hnb8 := NB258_259.out; have hnc8 := NB259_258.out; obtain ⟨hcz9_0, hcz9_1, hcz9_2, hcz9_3⟩ := e4 BK258; obtain ⟨hfz9_0, hfz9_1, hfz9_2, hfz9_3⟩ := f4 BK258) | ((with_reducible refine gate_callee (f := 28) rfl ?_); refine gol (some 6) Try.func28 #[.agg #[.int .i64 a0_0, .int .i64 a0_1, .int .i64 a0_2, .int .i64 a0_3]] ?_; (with_reducible refine (span_Right.calls k a0_0 a0_1 a0_2 a0_3 true _ A3.out).mono ?_); rintro e w10 ⟨rfl, hb⟩; refine ⟨_, rfl, ?_⟩; replace BK258 := bkb BK258 hb; replace BK259 := bkb BK259 hb; replace HB := bst HB hb; (try clear hb); (try clear hb2); (try clear hk); (try clear hi); obtain ⟨hcz11_0, hcz11_1, hcz11_2, hcz11_3⟩ := e4 BK259; obtain ⟨hfz11_0, hfz11_1, hfz11_2, hfz11_3⟩ := f4 BK259) | (go_at_call 28; (with_reducible refine (span_Right.calls k a1_0 a1_1 a1_2 a1_3 t261 _ A5.out).mono ?_); rintro e w12 ⟨rfl, hb⟩; replace BK258 := bkb BK258 hb; replace BK259 := bkb BK259 hb; replace HB := bst HB hb; (try clear hb); (try clear hb2); (try clear hk); (try clear hi)))
    go_ret
    exact endB HB
  · replace c4 := Bool.eq_false_iff.mpr c4
    subst c4
    have H1 : (some false) = some r := by rw [if_neg (show ¬ (false = true) by decide)] at H; exact H
    clear H
    have H := H1
    clear H1
    obtain rfl := Option.some.inj H
    go_enter Try.func45, Try.ntmps45
    go_wp2_with (first | ((with_reducible refine gate_dst (N := 2) rfl ?_); refine bxe (N := 2) (cs := #[.int .i64 a0_0, .int .i64 a0_1, .int .i64 a0_2, .int .i64 a0_3]) (t := 25) ?_; intro gb258 hg w13 hbox hb; have BK258 := Aside0.mk (hbox); have GW258 := lsz hg HB; have GE258 := lsz hg HB; replace HB := bst HB hb; clear hb hbox hg) | ((with_reducible refine gate_dst (N := 3) rfl ?_); refine bxe (N := 3) (cs := #[.int .i64 a1_0, .int .i64 a1_1, .int .i64 a1_2, .int .i64 a1_3]) (t := 25) ?_; intro gb259 hg w14 hbox hb; have BK259 := Aside0.mk (hbox); have GW259 := lsz hg HB; have GE259 := lsz hg HB; replace HB := bst HB hb; have NB258_259 := nlt hg BK258; have NB259_258 := ngt hg BK258; replace BK258 := bkb BK258 hb; clear hb hbox hg; have hnb15 := NB258_259.out; have hnc15 := NB259_258.out; obtain ⟨hcz16_0, hcz16_1, hcz16_2, hcz16_3⟩ := e4 BK258; obtain ⟨hfz16_0, hfz16_1, hfz16_2, hfz16_3⟩ := f4 BK258) | ((with_reducible refine gate_callee (f := 28) rfl ?_); refine gol (some 6) Try.func28 #[.agg #[.int .i64 a0_0, .int .i64 a0_1, .int .i64 a0_2, .int .i64 a0_3]] ?_; (with_reducible refine (span_Right.calls k a0_0 a0_1 a0_2 a0_3 false _ A3.out).mono ?_); rintro e w17 ⟨rfl, hb⟩; refine ⟨_, rfl, ?_⟩; replace BK258 := bkb BK258 hb; replace BK259 := bkb BK259 hb; replace HB := bst HB hb; (try clear hb); (try clear hb2); (try clear hk); (try clear hi)))
    go_ret
    exact endB HB
/-! ### cut_Greatest: function 46 -/
def cut_Greatest.l0 : Nat → List (S23) → Int → Int → Int → Int → Option (Int × Int)
  | 0, _, _, _, _, _ => none
  | k + 1, x7, x8, x9, x266000, x266001 => if x9 < x8 then (if 0 ≤ x9 then (if x9 < (x7.length : Int) then ((cut_Compare.f k ((rd_T23 x7 x9).f0) ((rd_T23 x7 x9).f1) x266000 x266001).bind fun t268 => (if t268 > 0 then ((cut_Canon.f k ((rd_T23 x7 x9).f0) ((rd_T23 x7 x9).f1)).bind fun bt269 => (cut_Greatest.l0 k x7 x8 (wrap64 (x9 + 1)) bt269.1 bt269.2)) else (cut_Greatest.l0 k x7 x8 (wrap64 (x9 + 1)) x266000 x266001))) else (none)) else (none)) else (some (x266000, x266001))
def cut_Greatest.f (k : Nat) (l0 : List (S23)) : Option (Int × Int) := (cut_First.f).bind fun bt263 => (cut_Greatest.l0 k l0 (l0.length : Int) 0 bt263.1 bt263.2)
theorem cut_Greatest.mono_l : ∀ k, (∀ y0 y1 y2 y3 y4, LeO (cut_Greatest.l0 k y0 y1 y2 y3 y4) (cut_Greatest.l0 (k + 1) y0 y1 y2 y3 y4))
  | 0 => fun _ _ _ _ _ r h => by simp [cut_Greatest.l0] at h
  | k + 1 => by
    have ih0 := cut_Greatest.mono_l k
    · intro y0 y1 y2 y3 y4
      unfold cut_Greatest.l0
      repeat' first
      | (with_reducible exact ih0 _ _ _ _ _)
      | (with_reducible exact cut_Canon.mono _ _ _)
      | (with_reducible exact cut_Compare.mono _ _ _ _ _)
      | (with_reducible exact LeO.refl _)
      | (with_reducible exact LeO.none _)
      | (with_reducible refine LeO.ite ?_ ?_)
      | (with_reducible refine LeO.bind ?_ (fun _ => ?_))
      | exact ih0 _ _ _ _ _
      | exact cut_Canon.mono _ _ _
      | exact cut_Compare.mono _ _ _ _ _
      | exact LeO.none _
      | refine LeO.ite ?_ ?_
      | refine LeO.bind ?_ (fun _ => ?_)
theorem cut_Greatest.mono : ∀ a0 k, LeO (cut_Greatest.f k a0) (cut_Greatest.f (k + 1) a0) := by
  intro a0 k
  have ih0 := cut_Greatest.mono_l k
  unfold cut_Greatest.f
  repeat' first
      | (with_reducible exact ih0 _ _ _ _ _)
      | (with_reducible exact cut_Canon.mono _ _ _)
      | (with_reducible exact cut_Compare.mono _ _ _ _ _)
      | (with_reducible exact LeO.refl _)
      | (with_reducible exact LeO.none _)
      | (with_reducible refine LeO.ite ?_ ?_)
      | (with_reducible refine LeO.bind ?_ (fun _ => ?_))
      | exact ih0 _ _ _ _ _
      | exact cut_Canon.mono _ _ _
      | exact cut_Compare.mono _ _ _ _ _
      | exact LeO.none _
      | refine LeO.ite ?_ ?_
      | refine LeO.bind ?_ (fun _ => ?_)
set_option maxHeartbeats 8000000 in
set_option maxRecDepth 100000 in
theorem cut_Greatest.calls (k : Nat) (A0 : Option Addr) (c0 : Nat) (l0 : List (S23)) (r1 : Int) (r2 : Int) (w : World) (hr0 : Kd.C k23 w A0 l0.length l0) (hc0 : l0.length ≤ c0) (h : cut_Greatest.f k l0 = some (r1, r2)) :
    Calls Try.prog 46 #[.slice A0 l0.length c0] w fun e w' => e = .returned (.agg #[.int .i64 r1, .int .i64 r2]) ∧ Below w.heap.size w w' := by
  have hu23 := Try.underlying23
  have HR0 := Aside0.mk hr0
  have HC0 := Aside0.mk hc0
  clear hr0 hc0
  have HB := Aside0.mk (Below.refl w.heap.size w)
  have H : ((cut_First.f).bind fun bt263 => (cut_Greatest.l0 k l0 (l0.length : Int) 0 bt263.1 bt263.2)) = some (r1, r2) := h
  clear h
  replace H := Option.bind_eq_some_iff.mp H
  obtain ⟨⟨t263, t264⟩, A20, H⟩ := H
  (try (set_option simprocs false in dsimp only at H))
  have A2 := Aside0.mk A20
  clear A20
  have H' := Aside0.mk H
  clear H
  go_enter Try.func46, Try.ntmps46
  go_wp2_with (first | ((with_reducible refine gate_dst (N := 2) rfl ?_); refine bxe (N := 2) (cs := #[.int .i64 0, .int .i64 0]) (t := 23) ?_; intro gb262 hg w3 hbox hb; have BK262 := Aside0.mk (hbox); have GW262 := lsz hg HB; have GE262 := lsz hg HB; replace HB := bst HB hb; clear hb hbox hg) | ((with_reducible refine gate_callee (f := 69) rfl ?_); refine gol (some 6) Try.func69 #[] ?_; (with_reducible refine (cut_First.calls  t263 t264 _ A2.out).mono ?_); rintro e w4 ⟨rfl, hb⟩; refine ⟨_, rfl, ?_⟩; replace BK262 := bkb BK262 hb; replace HB := bst HB hb; (try clear hb); (try clear hb2); (try clear hk); (try clear hi)) | ((with_reducible refine gate_dst (N := 3) rfl ?_); refine bxe (N := 3) (cs := #[.int .i64 0, .int .i64 0]) (t := 23) ?_; intro gb265 hg w5 hbox hb; have BK265 := Aside0.mk (hbox); have GW265 := lsz hg HB; have GE265 := lsz hg HB; replace HB := bst HB hb; have NB262_265 := nlt hg BK262; have NB265_262 := ngt hg BK262; replace BK262 := bkb BK262 hb; clear hb hbox hg; have hnb6 := NB265_262.out; have hnc6 := NB262_265.out; obtain ⟨hcz7_0, hcz7_1⟩ := e2 BK265; obtain ⟨hfz7_0, hfz7_1⟩ := f2 BK265))
  go_loopg [9] k (fun kq v9 w' => ∃ (x9_1 : Int) (x266000_1 : Int) (x266001_1 : Int), v9 = .int .i64 x9_1 ∧ Aside0 (cut_Greatest.l0 kq l0 (l0.length : Int) x9_1 x266000_1 x266001_1 = some (r1, r2)) ∧ Aside0 (kq ≤ k) ∧ Aside0 (w'.heap[gb262]? = some (.cells #[.int .i64 0, .int .i64 0] 23 (0, 0))) ∧ Aside0 (w'.heap[gb265]? = some (.cells #[.int .i64 x266000_1, .int .i64 x266001_1] 23 (0, 0))) ∧ Aside0 (Below w.heap.size w w'))
  case atStart => exact ⟨(0), (t263), (t264), (by first | rfl | (simp; done) | (simp [*]; done)), H', ⟨Nat.le_refl _⟩, ⟨by (with_reducible repeat (first | refine blk_drewN ?_ _ | refine blk_drew ?_ | refine blk_alloc ?_ _)); refine blk_far ?_ NB262_265.out _; (with_reducible repeat (first | refine blk_drewN ?_ _ | refine blk_drew ?_ | refine blk_alloc ?_ _)); refine blk_far ?_ NB262_265.out _; (with_reducible repeat (first | refine blk_drewN ?_ _ | refine blk_drew ?_ | refine blk_alloc ?_ _)); exact BK262.out⟩, ⟨by (with_reducible repeat (first | refine blk_drewN ?_ _ | refine blk_drew ?_ | refine blk_alloc ?_ _)); refine blk_put (cs := #[.int .i64 t263, .int .i64 0]) ?_ 1 _ rfl; (with_reducible repeat (first | refine blk_drewN ?_ _ | refine blk_drew ?_ | refine blk_alloc ?_ _)); refine blk_put (cs := #[.int .i64 0, .int .i64 0]) ?_ 0 _ rfl; (with_reducible repeat (first | refine blk_drewN ?_ _ | refine blk_drew ?_ | refine blk_alloc ?_ _)); exact BK265.out⟩, ⟨bl HB⟩⟩
  case round =>
    clear H'
    try clear p2
    try clear c4
    try clear c6
    try clear hcz7_0
    try clear hcz7_1
    try clear hfz7_0
    try clear hfz7_1
    obtain ⟨x9_1, x266000_1, x266001_1, rfl, HA, HK1, BK262, BK265, HB⟩ := hrel
    cases gk with
    | zero => exact absurd HA.out (by simp [cut_Greatest.l0])
    | succ k1 =>
      have H := HA.out
      clear HA
      simp only [cut_Greatest.l0] at H
      by_cases c8 : x9_1 < (l0.length : Int)
      · rw [if_pos c8] at H
        have c8b0 : decide (x9_1 < (l0.length : Int)) = true := decide_eq_true c8
        clear c8
        by_cases c9 : 0 ≤ x9_1
        · rw [if_pos c9] at H
          have c9b0 : decide (0 ≤ x9_1) = true := decide_eq_true c9
          clear c9
          by_cases c10 : x9_1 < (l0.length : Int)
          · rw [if_pos c10] at H
            have c10b0 : decide (x9_1 < (l0.length : Int)) = true := decide_eq_true c10
            clear c10
            replace H := Option.bind_eq_some_iff.mp H
            obtain ⟨t268, A110, H⟩ := H
            (try (set_option simprocs false in dsimp only at H))
            have A11 := Aside0.mk A110
            clear A110
            by_cases c12 : t268 > 0
            · rw [if_pos c12] at H
              have c12b0 : decide (0 < t268) = true := decide_eq_true c12
              clear c12
              replace H := Option.bind_eq_some_iff.mp H
              obtain ⟨⟨t269, t270⟩, A130, H⟩ := H
              (try (set_option simprocs false in dsimp only at H))
              have A13 := Aside0.mk A130
              clear A130
              have H' := Aside0.mk H
              clear H
              have p266 : 0 ≤ (x9_1 : Int) := of_decide_eq_true (by first | (with_reducible assumption) | assumption)
              have q266 : x9_1 < (l0.length : Int) := of_decide_eq_true (by first | (with_reducible assumption) | assumption)
              obtain ⟨ad266, e266, hx266_0, hx266_1⟩ := at_T23 HR0.out x9_1 p266 q266
              cases e266
              replace hx266_0 := (HB.out.cell (World.block_lt_of_cell? w _ hx266_0)).trans hx266_0
              replace hx266_1 := (HB.out.cell (World.block_lt_of_cell? w _ hx266_1)).trans hx266_1
              replace p266 := eq_true p266
              replace q266 := eq_true q266
              go_wp2_with (first | ((with_reducible refine gate_dst (N := 5) rfl ?_); refine bxe (N := 5) (cs := #[.int .i64 0, .int .i64 0]) (t := 23) ?_; intro gb267 hg w14 hbox hb; have BK267 := Aside0.mk (hbox); have GW267 := lsz hg HB; have GE267 := lsz hg HB; replace HB := bst HB hb; have NB262_267 := nlt hg BK262; have NB267_262 := ngt hg BK262; replace BK262 := bkb BK262 hb; have NB265_267 := nlt hg BK265; have NB267_265 := ngt hg BK265; replace BK265 := bkb BK265 hb; clear hb hbox hg; have hnb15 := NB267_262.out; have hnc15 := NB262_267.out; have hnb16 := NB267_265.out; have hnc16 := NB265_267.out; obtain ⟨hcz17_0, hcz17_1⟩ := e2 BK267; obtain ⟨hfz17_0, hfz17_1⟩ := f2 BK267; have hnb18 := NB265_262.out; have hnc18 := NB262_265.out; obtain ⟨hcz19_0, hcz19_1⟩ := e2 BK265; obtain ⟨hfz19_0, hfz19_1⟩ := f2 BK265) | ((with_reducible refine gate_callee (f := 53) rfl ?_); refine gol (some 15) Try.func53 #[.agg #[.int .i64 ((rd_T23 l0 x9_1).f0), .int .i64 ((rd_T23 l0 x9_1).f1)], .agg #[.int .i64 x266000_1, .int .i64 x266001_1]] ?_; (with_reducible refine (cut_Compare.calls k1 ((rd_T23 l0 x9_1).f0) ((rd_T23 l0 x9_1).f1) x266000_1 x266001_1 t268 _ A11.out).mono ?_); rintro e w20 ⟨rfl, hb⟩; refine ⟨_, rfl, ?_⟩; replace BK262 := Aside0.mk (blk_below (bkf BK262 NB262_267) hb); replace BK265 := Aside0.mk (blk_below (bkf BK265 NB265_267) hb); replace BK267 := Aside0.mk (blk_below (g := gb267) (o := .cells #[.int .i64 ((rd_T23 l0 x9_1).f0), .int .i64 ((rd_T23 l0 x9_1).f1)] 23 (0, 0)) (bkp BK267) hb); replace HB := bst HB hb; (try clear hb); (try clear hb2); (try clear hk); (try clear hi); obtain ⟨hcz21_0, hcz21_1⟩ := e2 BK267; obtain ⟨hfz21_0, hfz21_1⟩ := f2 BK267) | ((with_reducible refine gate_callee (f := 55) rfl ?_); refine gol (some 18) Try.func55 #[.agg #[.int .i64 ((rd_T23 l0 x9_1).f0), .int .i64 ((rd_T23 l0 x9_1).f1)]] ?_; (with_reducible refine (cut_Canon.calls k1 ((rd_T23 l0 x9_1).f0) ((rd_T23 l0 x9_1).f1) t269 t270 _ A13.out).mono ?_); rintro e w22 ⟨rfl, hb⟩; refine ⟨_, rfl, ?_⟩; replace BK262 := bkb BK262 hb; replace BK265 := bkb BK265 hb; replace BK267 := bkb BK267 hb; replace HB := bst HB hb; (try clear hb); (try clear hb2); (try clear hk); (try clear hi); obtain ⟨hcz23_0, hcz23_1⟩ := e2 BK265; obtain ⟨hfz23_0, hfz23_1⟩ := f2 BK265))
              go_roundg k1
              case measure => have := HK1.out; omega
              case rel => exact ⟨(wrap64 (x9_1 + 1)), (t269), (t270), (by first | rfl | (simp; done) | (simp [*]; done)), H', ⟨by have := HK1.out; omega⟩, ⟨by (with_reducible repeat (first | refine blk_drewN ?_ _ | refine blk_drew ?_ | refine blk_alloc ?_ _)); refine blk_far ?_ NB262_265.out _; (with_reducible repeat (first | refine blk_drewN ?_ _ | refine blk_drew ?_ | refine blk_alloc ?_ _)); refine blk_far ?_ NB262_265.out _; (with_reducible repeat (first | refine blk_drewN ?_ _ | refine blk_drew ?_ | refine blk_alloc ?_ _)); exact BK262.out⟩, ⟨by (with_reducible repeat (first | refine blk_drewN ?_ _ | refine blk_drew ?_ | refine blk_alloc ?_ _)); refine blk_put (cs := #[.int .i64 t269, .int .i64 x266001_1]) ?_ 1 _ rfl; (with_reducible repeat (first | refine blk_drewN ?_ _ | refine blk_drew ?_ | refine blk_alloc ?_ _)); refine blk_put (cs := #[.int .i64 x266000_1, .int .i64 x266001_1]) ?_ 0 _ rfl; (with_reducible repeat (first | refine blk_drewN ?_ _ | refine blk_drew ?_ | refine blk_alloc ?_ _)); exact BK265.out⟩, ⟨bl HB⟩⟩
            · rw [if_neg c12] at H
              have c12b0 : decide (0 < t268) = false := decide_eq_false c12
              clear c12
              have H' := Aside0.mk H
              clear H
              have p266 : 0 ≤ (x9_1 : Int) := of_decide_eq_true (by first | (with_reducible assumption) | assumption)
              have q266 : x9_1 < (l0.length : Int) := of_decide_eq_true (by first | (with_reducible assumption) | assumption)
              obtain ⟨ad266, e266, hx266_0, hx266_1⟩ := at_T23 HR0.out x9_1 p266 q266
              cases e266
              replace hx266_0 := (HB.out.cell (World.block_lt_of_cell? w _ hx266_0)).trans hx266_0
              replace hx266_1 := (HB.out.cell (World.block_lt_of_cell? w _ hx266_1)).trans hx266_1
              replace p266 := eq_true p266
              replace q266 := eq_true q266
              go_wp2_with (first | ((with_reducible refine gate_dst (N := 5) rfl ?_); refine bxe (N := 5) (cs := #[.int .i64 0, .int .i64 0]) (t := 23) ?_; intro gb267 hg w24 hbox hb; have BK267 := Aside0.mk (hbox); have GW267 := lsz hg HB; have GE267 := lsz hg HB; replace HB := bst HB hb; have NB262_267 := nlt hg BK262; have NB267_262 := ngt hg BK262; replace BK262 := bkb BK262 hb; have NB265_267 := nlt hg BK265; have NB267_265 := ngt hg BK265; replace BK265 := bkb BK265 hb; clear hb hbox hg; have hnb25 := NB267_262.out; have hnc25 := NB262_267.out; have hnb26 := NB267_265.out; have hnc26 := NB265_267.out; obtain ⟨hcz27_0, hcz27_1⟩ := e2 BK267; obtain ⟨hfz27_0, hfz27_1⟩ := f2 BK267; have hnb28 := NB265_262.out; have hnc28 := NB262_265.out; obtain ⟨hcz29_0, hcz29_1⟩ := e2 BK265; obtain ⟨hfz29_0, hfz29_1⟩ := f2 BK265) | ((with_reducible refine gate_callee (f := 53) rfl ?_); refine gol (some 15) Try.func53 #[.agg #[.int .i64 ((rd_T23 l0 x9_1).f0), .int .i64 ((rd_T23 l0 x9_1).f1)], .agg #[.int .i64 x266000_1, .int .i64 x266001_1]] ?_; (with_reducible refine (cut_Compare.calls k1 ((rd_T23 l0 x9_1).f0) ((rd_T23 l0 x9_1).f1) x266000_1 x266001_1 t268 _ A11.out).mono ?_); rintro e w30 ⟨rfl, hb⟩; refine ⟨_, rfl, ?_⟩; replace BK262 := Aside0.mk (blk_below (bkf BK262 NB262_267) hb); replace BK265 := Aside0.mk (blk_below (bkf BK265 NB265_267) hb); replace BK267 := Aside0.mk (blk_below (g := gb267) (o := .cells #[.int .i64 ((rd_T23 l0 x9_1).f0), .int .i64 ((rd_T23 l0 x9_1).f1)] 23 (0, 0)) (bkp BK267) hb); replace HB := bst HB hb; (try clear hb); (try clear hb2); (try clear hk); (try clear hi)))
              go_roundg k1
              case measure => have := HK1.out; omega
              case rel => exact ⟨(wrap64 (x9_1 + 1)), (x266000_1), (x266001_1), (by first | rfl | (simp; done) | (simp [*]; done)), H', ⟨by have := HK1.out; omega⟩, ⟨bk BK262⟩, ⟨bk BK265⟩, ⟨bl HB⟩⟩
          · rw [if_neg c10] at H
            exact absurd H (by simp)
        · rw [if_neg c9] at H
          exact absurd H (by simp)
      · rw [if_neg c8] at H
        have c8b0 : decide (x9_1 < (l0.length : Int)) = false := decide_eq_false c8
        clear c8
        simp only [Option.some.injEq, Prod.mk.injEq] at H
        obtain ⟨rfl, rfl⟩ := H
        have hnb31 := NB265_262.out
        have hnc31 := NB262_265.out
        have hcz32_0 : wr.cell? ⟨gb265, 0, none⟩ = some (.int .i64 x266000_1) := (blk_cell BK265.out 0).trans rfl
        have hcz32_1 : wr.cell? ⟨gb265, 1, none⟩ = some (.int .i64 x266001_1) := (blk_cell BK265.out 1).trans rfl
        have hfz32_0 := blk_frozen BK265.out 0
        have hfz32_1 := blk_frozen BK265.out 1
        have hcz33_0 : wr.cell? ⟨gb262, 0, none⟩ = some (.int .i64 0) := (blk_cell BK262.out 0).trans rfl
        have hcz33_1 : wr.cell? ⟨gb262, 1, none⟩ = some (.int .i64 0) := (blk_cell BK262.out 1).trans rfl
        have hfz33_0 := blk_frozen BK262.out 0
        have hfz33_1 := blk_frozen BK262.out 1
        go_wp2
        refine bodyPost_ret (results_cell_row rfl _ _ gb262 23 #[.int .i64 x266000_1, .int .i64 x266001_1] (0, 0) _ rfl (bkp BK262) Try.underlying23 rfl (by kernel_rfl)) rfl ?_
        exact endB HB
/-! ### cut_Least: function 47 -/
def cut_Least.l0 : Nat → List (S23) → Int → Int → Int → Int → Option (Int × Int)
  | 0, _, _, _, _, _ => none
  | k + 1, x7, x8, x9, x275000, x275001 => if x9 < x8 then (if 0 ≤ x9 then (if x9 < (x7.length : Int) then ((cut_Compare.f k ((rd_T23 x7 x9).f0) ((rd_T23 x7 x9).f1) x275000 x275001).bind fun t277 => (if t277 < 0 then ((cut_Canon.f k ((rd_T23 x7 x9).f0) ((rd_T23 x7 x9).f1)).bind fun bt278 => (cut_Least.l0 k x7 x8 (wrap64 (x9 + 1)) bt278.1 bt278.2)) else (cut_Least.l0 k x7 x8 (wrap64 (x9 + 1)) x275000 x275001))) else (none)) else (none)) else (some (x275000, x275001))
def cut_Least.f (k : Nat) (l0 : List (S23)) : Option (Int × Int) := (cut_Last.f).bind fun bt272 => (cut_Least.l0 k l0 (l0.length : Int) 0 bt272.1 bt272.2)
theorem cut_Least.mono_l : ∀ k, (∀ y0 y1 y2 y3 y4, LeO (cut_Least.l0 k y0 y1 y2 y3 y4) (cut_Least.l0 (k + 1) y0 y1 y2 y3 y4))
  | 0 => fun _ _ _ _ _ r h => by simp [cut_Least.l0] at h
  | k + 1 => by
    have ih0 := cut_Least.mono_l k
    · intro y0 y1 y2 y3 y4
      unfold cut_Least.l0
      repeat' first
      | (with_reducible exact ih0 _ _ _ _ _)
      | (with_reducible exact cut_Canon.mono _ _ _)
      | (with_reducible exact cut_Compare.mono _ _ _ _ _)
      | (with_reducible exact LeO.refl _)
      | (with_reducible exact LeO.none _)
      | (with_reducible refine LeO.ite ?_ ?_)
      | (with_reducible refine LeO.bind ?_ (fun _ => ?_))
      | exact ih0 _ _ _ _ _
      | exact cut_Canon.mono _ _ _
      | exact cut_Compare.mono _ _ _ _ _
      | exact LeO.none _
      | refine LeO.ite ?_ ?_
      | refine LeO.bind ?_ (fun _ => ?_)
theorem cut_Least.mono : ∀ a0 k, LeO (cut_Least.f k a0) (cut_Least.f (k + 1) a0) := by
  intro a0 k
  have ih0 := cut_Least.mono_l k
  unfold cut_Least.f
  repeat' first
      | (with_reducible exact ih0 _ _ _ _ _)
      | (with_reducible exact cut_Canon.mono _ _ _)
      | (with_reducible exact cut_Compare.mono _ _ _ _ _)
      | (with_reducible exact LeO.refl _)
      | (with_reducible exact LeO.none _)
      | (with_reducible refine LeO.ite ?_ ?_)
      | (with_reducible refine LeO.bind ?_ (fun _ => ?_))
      | exact ih0 _ _ _ _ _
      | exact cut_Canon.mono _ _ _
      | exact cut_Compare.mono _ _ _ _ _
      | exact LeO.none _
      | refine LeO.ite ?_ ?_
      | refine LeO.bind ?_ (fun _ => ?_)
set_option maxHeartbeats 8000000 in
set_option maxRecDepth 100000 in
theorem cut_Least.calls (k : Nat) (A0 : Option Addr) (c0 : Nat) (l0 : List (S23)) (r1 : Int) (r2 : Int) (w : World) (hr0 : Kd.C k23 w A0 l0.length l0) (hc0 : l0.length ≤ c0) (h : cut_Least.f k l0 = some (r1, r2)) :
    Calls Try.prog 47 #[.slice A0 l0.length c0] w fun e w' => e = .returned (.agg #[.int .i64 r1, .int .i64 r2]) ∧ Below w.heap.size w w' := by
  have hu23 := Try.underlying23
  have HR0 := Aside0.mk hr0
  have HC0 := Aside0.mk hc0
  clear hr0 hc0
  have HB := Aside0.mk (Below.refl w.heap.size w)
  have H : ((cut_Last.f).bind fun bt272 => (cut_Least.l0 k l0 (l0.length : Int) 0 bt272.1 bt272.2)) = some (r1, r2) := h
  clear h
  replace H := Option.bind_eq_some_iff.mp H
  obtain ⟨⟨t272, t273⟩, A20, H⟩ := H
  (try (set_option simprocs false in dsimp only at H))
  have A2 := Aside0.mk A20
  clear A20
  have H' := Aside0.mk H
  clear H
  go_enter Try.func47, Try.ntmps47
  go_wp2_with (first | ((with_reducible refine gate_dst (N := 2) rfl ?_); refine bxe (N := 2) (cs := #[.int .i64 0, .int .i64 0]) (t := 23) ?_; intro gb271 hg w3 hbox hb; have BK271 := Aside0.mk (hbox); have GW271 := lsz hg HB; have GE271 := lsz hg HB; replace HB := bst HB hb; clear hb hbox hg) | ((with_reducible refine gate_callee (f := 70) rfl ?_); refine gol (some 6) Try.func70 #[] ?_; (with_reducible refine (cut_Last.calls  t272 t273 _ A2.out).mono ?_); rintro e w4 ⟨rfl, hb⟩; refine ⟨_, rfl, ?_⟩; replace BK271 := bkb BK271 hb; replace HB := bst HB hb; (try clear hb); (try clear hb2); (try clear hk); (try clear hi)) | ((with_reducible refine gate_dst (N := 3) rfl ?_); refine bxe (N := 3) (cs := #[.int .i64 0, .int .i64 0]) (t := 23) ?_; intro gb274 hg w5 hbox hb; have BK274 := Aside0.mk (hbox); have GW274 := lsz hg HB; have GE274 := lsz hg HB; replace HB := bst HB hb; have NB271_274 := nlt hg BK271; have NB274_271 := ngt hg BK271; replace BK271 := bkb BK271 hb; clear hb hbox hg; have hnb6 := NB274_271.out; have hnc6 := NB271_274.out; obtain ⟨hcz7_0, hcz7_1⟩ := e2 BK274; obtain ⟨hfz7_0, hfz7_1⟩ := f2 BK274))
  go_loopg [9] k (fun kq v9 w' => ∃ (x9_1 : Int) (x275000_1 : Int) (x275001_1 : Int), v9 = .int .i64 x9_1 ∧ Aside0 (cut_Least.l0 kq l0 (l0.length : Int) x9_1 x275000_1 x275001_1 = some (r1, r2)) ∧ Aside0 (kq ≤ k) ∧ Aside0 (w'.heap[gb271]? = some (.cells #[.int .i64 0, .int .i64 0] 23 (0, 0))) ∧ Aside0 (w'.heap[gb274]? = some (.cells #[.int .i64 x275000_1, .int .i64 x275001_1] 23 (0, 0))) ∧ Aside0 (Below w.heap.size w w'))
  case atStart => exact ⟨(0), (t272), (t273), (by first | rfl | (simp; done) | (simp [*]; done)), H', ⟨Nat.le_refl _⟩, ⟨by (with_reducible repeat (first | refine blk_drewN ?_ _ | refine blk_drew ?_ | refine blk_alloc ?_ _)); refine blk_far ?_ NB271_274.out _; (with_reducible repeat (first | refine blk_drewN ?_ _ | refine blk_drew ?_ | refine blk_alloc ?_ _)); refine blk_far ?_ NB271_274.out _; (with_reducible repeat (first | refine blk_drewN ?_ _ | refine blk_drew ?_ | refine blk_alloc ?_ _)); exact BK271.out⟩, ⟨by (with_reducible repeat (first | refine blk_drewN ?_ _ | refine blk_drew ?_ | refine blk_alloc ?_ _)); refine blk_put (cs := #[.int .i64 t272, .int .i64 0]) ?_ 1 _ rfl; (with_reducible repeat (first | refine blk_drewN ?_ _ | refine blk_drew ?_ | refine blk_alloc ?_ _)); refine blk_put (cs := #[.int .i64 0, .int .i64 0]) ?_ 0 _ rfl; (with_reducible repeat (first | refine blk_drewN ?_ _ | refine blk_drew ?_ | refine blk_alloc ?_ _)); exact BK274.out⟩, ⟨bl HB⟩⟩
  case round =>
    clear H'
    try clear p2
    try clear c4
    try clear c6
    try clear c7
    try clear hcz7_0
    try clear hcz7_1
    try clear hfz7_0
    try clear hfz7_1
    obtain ⟨x9_1, x275000_1, x275001_1, rfl, HA, HK1, BK271, BK274, HB⟩ := hrel
    cases gk with
    | zero => exact absurd HA.out (by simp [cut_Least.l0])
    | succ k1 =>
      have H := HA.out
      clear HA
      simp only [cut_Least.l0] at H
      by_cases c8 : x9_1 < (l0.length : Int)
      · rw [if_pos c8] at H
        have c8b0 : decide (x9_1 < (l0.length : Int)) = true := decide_eq_true c8
        clear c8
        by_cases c9 : 0 ≤ x9_1
        · rw [if_pos c9] at H
          have c9b0 : decide (0 ≤ x9_1) = true := decide_eq_true c9
          clear c9
          by_cases c10 : x9_1 < (l0.length : Int)
          · rw [if_pos c10] at H
            have c10b0 : decide (x9_1 < (l0.length : Int)) = true := decide_eq_true c10
            clear c10
            replace H := Option.bind_eq_some_iff.mp H
            obtain ⟨t277, A110, H⟩ := H
            (try (set_option simprocs false in dsimp only at H))
            have A11 := Aside0.mk A110
            clear A110
            by_cases c12 : t277 < 0
            · rw [if_pos c12] at H
              have c12b0 : decide (t277 < 0) = true := decide_eq_true c12
              clear c12
              replace H := Option.bind_eq_some_iff.mp H
              obtain ⟨⟨t278, t279⟩, A130, H⟩ := H
              (try (set_option simprocs false in dsimp only at H))
              have A13 := Aside0.mk A130
              clear A130
              have H' := Aside0.mk H
              clear H
              have p275 : 0 ≤ (x9_1 : Int) := of_decide_eq_true (by first | (with_reducible assumption) | assumption)
              have q275 : x9_1 < (l0.length : Int) := of_decide_eq_true (by first | (with_reducible assumption) | assumption)
              obtain ⟨ad275, e275, hx275_0, hx275_1⟩ := at_T23 HR0.out x9_1 p275 q275
              cases e275
              replace hx275_0 := (HB.out.cell (World.block_lt_of_cell? w _ hx275_0)).trans hx275_0
              replace hx275_1 := (HB.out.cell (World.block_lt_of_cell? w _ hx275_1)).trans hx275_1
              replace p275 := eq_true p275
              replace q275 := eq_true q275
              go_wp2_with (first | ((with_reducible refine gate_dst (N := 5) rfl ?_); refine bxe (N := 5) (cs := #[.int .i64 0, .int .i64 0]) (t := 23) ?_; intro gb276 hg w14 hbox hb; have BK276 := Aside0.mk (hbox); have GW276 := lsz hg HB; have GE276 := lsz hg HB; replace HB := bst HB hb; have NB271_276 := nlt hg BK271; have NB276_271 := ngt hg BK271; replace BK271 := bkb BK271 hb; have NB274_276 := nlt hg BK274; have NB276_274 := ngt hg BK274; replace BK274 := bkb BK274 hb; clear hb hbox hg; have hnb15 := NB276_271.out; have hnc15 := NB271_276.out; have hnb16 := NB276_274.out; have hnc16 := NB274_276.out; obtain ⟨hcz17_0, hcz17_1⟩ := e2 BK276; obtain ⟨hfz17_0, hfz17_1⟩ := f2 BK276; have hnb18 := NB274_271.out; have hnc18 := NB271_274.out; obtain ⟨hcz19_0, hcz19_1⟩ := e2 BK274; obtain ⟨hfz19_0, hfz19_1⟩ := f2 BK274) | ((with_reducible refine gate_callee (f := 53) rfl ?_); refine gol (some 15) Try.func53 #[.agg #[.int .i64 ((rd_T23 l0 x9_1).f0), .int .i64 ((rd_T23 l0 x9_1).f1)], .agg #[.int .i64 x275000_1, .int .i64 x275001_1]] ?_; (with_reducible refine (cut_Compare.calls k1 ((rd_T23 l0 x9_1).f0) ((rd_T23 l0 x9_1).f1) x275000_1 x275001_1 t277 _ A11.out).mono ?_); rintro e w20 ⟨rfl, hb⟩; refine ⟨_, rfl, ?_⟩; replace BK271 := Aside0.mk (blk_below (bkf BK271 NB271_276) hb); replace BK274 := Aside0.mk (blk_below (bkf BK274 NB274_276) hb); replace BK276 := Aside0.mk (blk_below (g := gb276) (o := .cells #[.int .i64 ((rd_T23 l0 x9_1).f0), .int .i64 ((rd_T23 l0 x9_1).f1)] 23 (0, 0)) (bkp BK276) hb); replace HB := bst HB hb; (try clear hb); (try clear hb2); (try clear hk); (try clear hi); obtain ⟨hcz21_0, hcz21_1⟩ := e2 BK276; obtain ⟨hfz21_0, hfz21_1⟩ := f2 BK276) | ((with_reducible refine gate_callee (f := 55) rfl ?_); refine gol (some 18) Try.func55 #[.agg #[.int .i64 ((rd_T23 l0 x9_1).f0), .int .i64 ((rd_T23 l0 x9_1).f1)]] ?_; (with_reducible refine (cut_Canon.calls k1 ((rd_T23 l0 x9_1).f0) ((rd_T23 l0 x9_1).f1) t278 t279 _ A13.out).mono ?_); rintro e w22 ⟨rfl, hb⟩; refine ⟨_, rfl, ?_⟩; replace BK271 := bkb BK271 hb; replace BK274 := bkb BK274 hb; replace BK276 := bkb BK276 hb; replace HB := bst HB hb; (try clear hb); (try clear hb2); (try clear hk); (try clear hi); obtain ⟨hcz23_0, hcz23_1⟩ := e2 BK274; obtain ⟨hfz23_0, hfz23_1⟩ := f2 BK274))
              go_roundg k1
              case measure => have := HK1.out; omega
              case rel => exact ⟨(wrap64 (x9_1 + 1)), (t278), (t279), (by first | rfl | (simp; done) | (simp [*]; done)), H', ⟨by have := HK1.out; omega⟩, ⟨by (with_reducible repeat (first | refine blk_drewN ?_ _ | refine blk_drew ?_ | refine blk_alloc ?_ _)); refine blk_far ?_ NB271_274.out _; (with_reducible repeat (first | refine blk_drewN ?_ _ | refine blk_drew ?_ | refine blk_alloc ?_ _)); refine blk_far ?_ NB271_274.out _; (with_reducible repeat (first | refine blk_drewN ?_ _ | refine blk_drew ?_ | refine blk_alloc ?_ _)); exact BK271.out⟩, ⟨by (with_reducible repeat (first | refine blk_drewN ?_ _ | refine blk_drew ?_ | refine blk_alloc ?_ _)); refine blk_put (cs := #[.int .i64 t278, .int .i64 x275001_1]) ?_ 1 _ rfl; (with_reducible repeat (first | refine blk_drewN ?_ _ | refine blk_drew ?_ | refine blk_alloc ?_ _)); refine blk_put (cs := #[.int .i64 x275000_1, .int .i64 x275001_1]) ?_ 0 _ rfl; (with_reducible repeat (first | refine blk_drewN ?_ _ | refine blk_drew ?_ | refine blk_alloc ?_ _)); exact BK274.out⟩, ⟨bl HB⟩⟩
            · rw [if_neg c12] at H
              have c12b0 : decide (t277 < 0) = false := decide_eq_false c12
              clear c12
              have H' := Aside0.mk H
              clear H
              have p275 : 0 ≤ (x9_1 : Int) := of_decide_eq_true (by first | (with_reducible assumption) | assumption)
              have q275 : x9_1 < (l0.length : Int) := of_decide_eq_true (by first | (with_reducible assumption) | assumption)
              obtain ⟨ad275, e275, hx275_0, hx275_1⟩ := at_T23 HR0.out x9_1 p275 q275
              cases e275
              replace hx275_0 := (HB.out.cell (World.block_lt_of_cell? w _ hx275_0)).trans hx275_0
              replace hx275_1 := (HB.out.cell (World.block_lt_of_cell? w _ hx275_1)).trans hx275_1
              replace p275 := eq_true p275
              replace q275 := eq_true q275
              go_wp2_with (first | ((with_reducible refine gate_dst (N := 5) rfl ?_); refine bxe (N := 5) (cs := #[.int .i64 0, .int .i64 0]) (t := 23) ?_; intro gb276 hg w24 hbox hb; have BK276 := Aside0.mk (hbox); have GW276 := lsz hg HB; have GE276 := lsz hg HB; replace HB := bst HB hb; have NB271_276 := nlt hg BK271; have NB276_271 := ngt hg BK271; replace BK271 := bkb BK271 hb; have NB274_276 := nlt hg BK274; have NB276_274 := ngt hg BK274; replace BK274 := bkb BK274 hb; clear hb hbox hg; have hnb25 := NB276_271.out; have hnc25 := NB271_276.out; have hnb26 := NB276_274.out; have hnc26 := NB274_276.out; obtain ⟨hcz27_0, hcz27_1⟩ := e2 BK276; obtain ⟨hfz27_0, hfz27_1⟩ := f2 BK276; have hnb28 := NB274_271.out; have hnc28 := NB271_274.out; obtain ⟨hcz29_0, hcz29_1⟩ := e2 BK274; obtain ⟨hfz29_0, hfz29_1⟩ := f2 BK274) | ((with_reducible refine gate_callee (f := 53) rfl ?_); refine gol (some 15) Try.func53 #[.agg #[.int .i64 ((rd_T23 l0 x9_1).f0), .int .i64 ((rd_T23 l0 x9_1).f1)], .agg #[.int .i64 x275000_1, .int .i64 x275001_1]] ?_; (with_reducible refine (cut_Compare.calls k1 ((rd_T23 l0 x9_1).f0) ((rd_T23 l0 x9_1).f1) x275000_1 x275001_1 t277 _ A11.out).mono ?_); rintro e w30 ⟨rfl, hb⟩; refine ⟨_, rfl, ?_⟩; replace BK271 := Aside0.mk (blk_below (bkf BK271 NB271_276) hb); replace BK274 := Aside0.mk (blk_below (bkf BK274 NB274_276) hb); replace BK276 := Aside0.mk (blk_below (g := gb276) (o := .cells #[.int .i64 ((rd_T23 l0 x9_1).f0), .int .i64 ((rd_T23 l0 x9_1).f1)] 23 (0, 0)) (bkp BK276) hb); replace HB := bst HB hb; (try clear hb); (try clear hb2); (try clear hk); (try clear hi)))
              go_roundg k1
              case measure => have := HK1.out; omega
              case rel => exact ⟨(wrap64 (x9_1 + 1)), (x275000_1), (x275001_1), (by first | rfl | (simp; done) | (simp [*]; done)), H', ⟨by have := HK1.out; omega⟩, ⟨bk BK271⟩, ⟨bk BK274⟩, ⟨bl HB⟩⟩
          · rw [if_neg c10] at H
            exact absurd H (by simp)
        · rw [if_neg c9] at H
          exact absurd H (by simp)
      · rw [if_neg c8] at H
        have c8b0 : decide (x9_1 < (l0.length : Int)) = false := decide_eq_false c8
        clear c8
        simp only [Option.some.injEq, Prod.mk.injEq] at H
        obtain ⟨rfl, rfl⟩ := H
        have hnb31 := NB274_271.out
        have hnc31 := NB271_274.out
        have hcz32_0 : wr.cell? ⟨gb274, 0, none⟩ = some (.int .i64 x275000_1) := (blk_cell BK274.out 0).trans rfl
        have hcz32_1 : wr.cell? ⟨gb274, 1, none⟩ = some (.int .i64 x275001_1) := (blk_cell BK274.out 1).trans rfl
        have hfz32_0 := blk_frozen BK274.out 0
        have hfz32_1 := blk_frozen BK274.out 1
        have hcz33_0 : wr.cell? ⟨gb271, 0, none⟩ = some (.int .i64 0) := (blk_cell BK271.out 0).trans rfl
        have hcz33_1 : wr.cell? ⟨gb271, 1, none⟩ = some (.int .i64 0) := (blk_cell BK271.out 1).trans rfl
        have hfz33_0 := blk_frozen BK271.out 0
        have hfz33_1 := blk_frozen BK271.out 1
        go_wp2
        refine bodyPost_ret (results_cell_row rfl _ _ gb271 23 #[.int .i64 x275000_1, .int .i64 x275001_1] (0, 0) _ rfl (bkp BK271) Try.underlying23 rfl (by kernel_rfl)) rfl ?_
        exact endB HB
/-! ### span_Meet: function 11 -/
def span_Meet.f (k : Nat) (a0_0 : Int) (a0_1 : Int) (a0_2 : Int) (a0_3 : Int) (a1_0 : Int) (a1_1 : Int) (a1_2 : Int) (a1_3 : Int) : Option (Int × Int × Int × Int × Bool) := (span_both.f k a0_0 a0_1 a0_2 a0_3 a1_0 a1_1 a1_2 a1_3).bind fun t283 => (if t283 = true then ((cut_Greatest.f k (([(⟨a0_0, a0_1⟩ : S23), (⟨a1_0, a1_1⟩ : S23)] : List (S23)))).bind fun bt287 => ((cut_Least.f k (([(⟨a0_2, a0_3⟩ : S23), (⟨a1_2, a1_3⟩ : S23)] : List (S23)))).bind fun bt292 => ((span_Of.f k bt287.1 bt287.2 bt292.1 bt292.2).bind fun bt294 => (some (bt294.1, bt294.2.1, bt294.2.2.1, bt294.2.2.2.1, (bt294.2.2.2.2 == 0)))))) else (some (0, 0, 0, 0, false)))
theorem span_Meet.mono : ∀ a0 a1 a2 a3 a4 a5 a6 a7 k, LeO (span_Meet.f k a0 a1 a2 a3 a4 a5 a6 a7) (span_Meet.f (k + 1) a0 a1 a2 a3 a4 a5 a6 a7) := by
  intro a0 a1 a2 a3 a4 a5 a6 a7 k
  unfold span_Meet.f
  repeat' first
      | (with_reducible exact cut_Greatest.mono _ _)
      | (with_reducible exact cut_Least.mono _ _)
      | (with_reducible exact span_Of.mono _ _ _ _ _)
      | (with_reducible exact span_both.mono _ _ _ _ _ _ _ _ _)
      | (with_reducible exact LeO.refl _)
      | (with_reducible exact LeO.none _)
      | (with_reducible refine LeO.ite ?_ ?_)
      | (with_reducible refine LeO.bind ?_ (fun _ => ?_))
      | exact cut_Greatest.mono _ _
      | exact cut_Least.mono _ _
      | exact span_Of.mono _ _ _ _ _
      | exact span_both.mono _ _ _ _ _ _ _ _ _
      | exact LeO.none _
      | refine LeO.ite ?_ ?_
      | refine LeO.bind ?_ (fun _ => ?_)
def span_Meet.T3 : Bool × List (List Nat × List Nat) := (true, [([], []), ([0], [0]), ([], []), ([2], [2]), ([1, 3], [1, 3]), ([4], [4]), ([], []), ([6], [6]), ([], []), ([8], [8]), ([7, 9], [7, 9]), ([10, 5], [10]), ([5, 11, 11], [5, 11]), ([12], [12]), ([13], [13]), ([13], [13]), ([], []), ([16, 14, 12, 0, 1, 2, 3, 4, 5, 6, 7, 8, 9, 10, 11, 12, 13, 14, 16], [14, 16]), ([15, 17, 0, 1, 2, 3, 4, 5, 6, 7, 8, 9, 10, 11, 12, 13, 14, 15, 16, 17], [15])])
def span_Meet.B3 : List Nat := [0, 1, 0, 4, 15, 31, 0, 64, 0, 256, 960, 2047, 4095, 8191, 16383, 16383, 0, 98303, 262143]
theorem span_Meet.tab3 : rtab .any (opsOf Try.f11 3) = span_Meet.T3 := by kernel_rfl
theorem span_Meet.bits3 : waitsOk span_Meet.T3.2 span_Meet.B3 = true := by kernel_rfl
set_option maxHeartbeats 8000000 in
set_option maxRecDepth 100000 in
theorem span_Meet.calls (k : Nat) (a0_0 : Int) (a0_1 : Int) (a0_2 : Int) (a0_3 : Int) (a1_0 : Int) (a1_1 : Int) (a1_2 : Int) (a1_3 : Int) (r1 : Int) (r2 : Int) (r3 : Int) (r4 : Int) (r5 : Bool) (w : World) (h : span_Meet.f k a0_0 a0_1 a0_2 a0_3 a1_0 a1_1 a1_2 a1_3 = some (r1, r2, r3, r4, r5)) :
    Calls Try.prog 11 #[.agg #[.int .i64 a0_0, .int .i64 a0_1, .int .i64 a0_2, .int .i64 a0_3], .agg #[.int .i64 a1_0, .int .i64 a1_1, .int .i64 a1_2, .int .i64 a1_3]] w fun e w' => e = .returned (.tuple #[.agg #[.int .i64 r1, .int .i64 r2, .int .i64 r3, .int .i64 r4], .bool r5]) ∧ Below w.heap.size w w' := by
  have hu25 := Try.underlying25
  have hu23 := Try.underlying23
  have HB := Aside0.mk (Below.refl w.heap.size w)
  have H : ((span_both.f k a0_0 a0_1 a0_2 a0_3 a1_0 a1_1 a1_2 a1_3).bind fun t283 => (if t283 = true then ((cut_Greatest.f k (([(⟨a0_0, a0_1⟩ : S23), (⟨a1_0, a1_1⟩ : S23)] : List (S23)))).bind fun bt287 => ((cut_Least.f k (([(⟨a0_2, a0_3⟩ : S23), (⟨a1_2, a1_3⟩ : S23)] : List (S23)))).bind fun bt292 => ((span_Of.f k bt287.1 bt287.2 bt292.1 bt292.2).bind fun bt294 => (some (bt294.1, bt294.2.1, bt294.2.2.1, bt294.2.2.2.1, (bt294.2.2.2.2 == 0)))))) else (some (0, 0, 0, 0, false)))) = some (r1, r2, r3, r4, r5) := h
  clear h
  replace H := Option.bind_eq_some_iff.mp H
  obtain ⟨t283, A30, H⟩ := H
  (try (set_option simprocs false in dsimp only at H))
  have A3 := Aside0.mk A30
  clear A30
  by_cases c4 : t283 = true
  · subst c4
    have H1 : ((cut_Greatest.f k (([(⟨a0_0, a0_1⟩ : S23), (⟨a1_0, a1_1⟩ : S23)] : List (S23)))).bind fun bt287 => ((cut_Least.f k (([(⟨a0_2, a0_3⟩ : S23), (⟨a1_2, a1_3⟩ : S23)] : List (S23)))).bind fun bt292 => ((span_Of.f k bt287.1 bt287.2 bt292.1 bt292.2).bind fun bt294 => (some (bt294.1, bt294.2.1, bt294.2.2.1, bt294.2.2.2.1, (bt294.2.2.2.2 == 0)))))) = some (r1, r2, r3, r4, r5) := by rw [if_pos rfl] at H; exact H
    clear H
    have H := H1
    clear H1
    obtain ⟨y284, hy284⟩ : ∃ y_ : List (S23), y_ = (([(⟨a0_0, a0_1⟩ : S23), (⟨a1_0, a1_1⟩ : S23)] : List (S23))) := ⟨_, rfl⟩
    replace H : ((cut_Greatest.f k y284).bind fun bt287 => ((cut_Least.f k (([(⟨a0_2, a0_3⟩ : S23), (⟨a1_2, a1_3⟩ : S23)] : List (S23)))).bind fun bt292 => ((span_Of.f k bt287.1 bt287.2 bt292.1 bt292.2).bind fun bt294 => (some (bt294.1, bt294.2.1, bt294.2.2.1, bt294.2.2.2.1, (bt294.2.2.2.2 == 0)))))) = some (r1, r2, r3, r4, r5) := by first | (rw [hy284]; with_reducible exact H) | (have H2_ := (Option.bind_some _ _).symm.trans H; rw [hy284]; with_reducible exact H2_) | (have H2_ := (Option.bind_some _ _).symm.trans H; with_reducible exact H2_) | with_reducible exact H | (rw [hy284]; exact H) | exact H
    have Ny284 := Aside0.mk hy284
    clear hy284
    replace H := Option.bind_eq_some_iff.mp H
    obtain ⟨⟨t287, t288⟩, A50, H⟩ := H
    (try (set_option simprocs false in dsimp only at H))
    have A5 := Aside0.mk A50
    clear A50
    obtain ⟨y289, hy289⟩ : ∃ y_ : List (S23), y_ = (([(⟨a0_2, a0_3⟩ : S23), (⟨a1_2, a1_3⟩ : S23)] : List (S23))) := ⟨_, rfl⟩
    replace H : ((cut_Least.f k y289).bind fun bt292 => ((span_Of.f k t287 t288 bt292.1 bt292.2).bind fun bt294 => (some (bt294.1, bt294.2.1, bt294.2.2.1, bt294.2.2.2.1, (bt294.2.2.2.2 == 0))))) = some (r1, r2, r3, r4, r5) := by first | (rw [hy289]; with_reducible exact H) | (have H2_ := (Option.bind_some _ _).symm.trans H; rw [hy289]; with_reducible exact H2_) | (have H2_ := (Option.bind_some _ _).symm.trans H; with_reducible exact H2_) | with_reducible exact H | (rw [hy289]; exact H) | exact H
    have Ny289 := Aside0.mk hy289
    clear hy289
    replace H := Option.bind_eq_some_iff.mp H
    obtain ⟨⟨t292, t293⟩, A60, H⟩ := H
    (try (set_option simprocs false in dsimp only at H))
    have A6 := Aside0.mk A60
    clear A60
    replace H := Option.bind_eq_some_iff.mp H
    obtain ⟨⟨t294, t295, t296, t297, t298⟩, A70, H⟩ := H
    (try (set_option simprocs false in dsimp only at H))
    have A7 := Aside0.mk A70
    clear A70
    simp only [Option.some.injEq, Prod.mk.injEq] at H
    obtain ⟨rfl, rfl, rfl, rfl, rfl⟩ := H
    go_enter Try.func11, Try.ntmps11
    try go_wp2_with (first | ((with_reducible refine gate_dst (N := 2) rfl ?_); refine bxe (N := 2) (cs := #[.int .i64 a0_0, .int .i64 a0_1, .int .i64 a0_2, .int .i64 a0_3]) (t := 25) ?_; intro gb280 hg w8 hbox hb; have BK280 := Aside0.mk (hbox); have GW280 := lsz hg HB; have GE280 := lsz hg HB; replace HB := bst HB hb; clear hb hbox hg) | ((with_reducible refine gate_dst (N := 3) rfl ?_); refine bxe (N := 3) (cs := #[.int .i64 a1_0, .int .i64 a1_1, .int .i64 a1_2, .int .i64 a1_3]) (t := 25) ?_; intro gb281 hg w9 hbox hb; have BK281 := Aside0.mk (hbox); have GW281 := lsz hg HB; have GE281 := lsz hg HB; replace HB := bst HB hb; have NB280_281 := nlt hg BK280; have NB281_280 := ngt hg BK280; replace BK280 := bkb BK280 hb; clear hb hbox hg) | ((with_reducible refine gate_dst (N := 4) rfl ?_); refine bxe (N := 4) (cs := #[.int .i64 0, .int .i64 0, .int .i64 0, .int .i64 0]) (t := 25) ?_; intro gb282 hg w10 hbox hb; have BK282 := Aside0.mk (hbox); have GW282 := lsz hg HB; have GE282 := lsz hg HB; replace HB := bst HB hb; have NB280_282 := nlt hg BK280; have NB282_280 := ngt hg BK280; replace BK280 := bkb BK280 hb; have NB281_282 := nlt hg BK281; have NB282_281 := ngt hg BK281; replace BK281 := bkb BK281 hb; clear hb hbox hg; have hnb11 := NB280_281.out; have hnc11 := NB281_280.out; have hnb12 := NB280_282.out; have hnc12 := NB282_280.out; obtain ⟨hcz13_0, hcz13_1, hcz13_2, hcz13_3⟩ := e4 BK280; obtain ⟨hfz13_0, hfz13_1, hfz13_2, hfz13_3⟩ := f4 BK280; have hnb14 := NB281_282.out; have hnc14 := NB282_281.out; obtain ⟨hcz15_0, hcz15_1, hcz15_2, hcz15_3⟩ := e4 BK281; obtain ⟨hfz15_0, hfz15_1, hfz15_2, hfz15_3⟩ := f4 BK281) | ((with_reducible refine gate_callee (f := 45) rfl ?_); refine gol (some 10) Try.func45 #[.agg #[.int .i64 a0_0, .int .i64 a0_1, .int .i64 a0_2, .int .i64 a0_3], .agg #[.int .i64 a1_0, .int .i64 a1_1, .int .i64 a1_2, .int .i64 a1_3]] ?_; (with_reducible refine (span_both.calls k a0_0 a0_1 a0_2 a0_3 a1_0 a1_1 a1_2 a1_3 true _ A3.out).mono ?_); rintro e w16 ⟨rfl, hb⟩; refine ⟨_, rfl, ?_⟩; replace BK280 := bkb BK280 hb; replace BK281 := bkb BK281 hb; replace BK282 := bkb BK282 hb; replace HB := bst HB hb; (try clear hb); (try clear hb2); (try clear hk); (try clear hi)))
    replace BK280 := Aside0.mk (blk_drew BK280.out)
    replace BK281 := Aside0.mk (blk_drew BK281.out)
    replace BK282 := Aside0.mk (blk_drew BK282.out)
    replace HB := Aside0.mk (below_drew1 HB.out)
    refine start_ (n := 19) (S := fun w' => w'.cell? ⟨gb280, 0, none⟩ = some (.int .i64 a0_0) ∧ w'.cell? ⟨gb280, 1, none⟩ = some (.int .i64 a0_1) ∧ w'.cell? ⟨gb280, 2, none⟩ = some (.int .i64 a0_2) ∧ w'.cell? ⟨gb280, 3, none⟩ = some (.int .i64 a0_3) ∧ w'.cell? ⟨gb281, 0, none⟩ = some (.int .i64 a1_0) ∧ w'.cell? ⟨gb281, 1, none⟩ = some (.int .i64 a1_1) ∧ w'.cell? ⟨gb281, 2, none⟩ = some (.int .i64 a1_2) ∧ w'.cell? ⟨gb281, 3, none⟩ = some (.int .i64 a1_3)) (ds := []) #[false, false, false, false, false, false, false, false, false, false, false, false, false, false, false, false, false, false, false] (by kernel_rfl) rfl rfl (c4 BK280 (e4 BK281)) (fun hHeld => ?_); refine with_tabW span_Meet.tab3 span_Meet.bits3 (fun HT_ HW_ => ?_)
    generalize w16.drew = w17 at BK280 BK281 BK282 HB hHeld ⊢
    refine pu 0 (some 14) #[true, false, false, false, false, false, false, false, false, false, false, false, false, false, false, false, false, false, false] (any_of HT_.out (by kernel_rfl)) ?_
    refine pu 2 (some 16) #[true, false, true, false, false, false, false, false, false, false, false, false, false, false, false, false, false, false, false] (any_of HT_.out (by kernel_rfl)) ?_
    refine pu 6 (some 20) #[true, false, true, false, false, false, true, false, false, false, false, false, false, false, false, false, false, false, false] (any_of HT_.out (by kernel_rfl)) ?_
    refine pu 8 (some 22) #[true, false, true, false, false, false, true, false, true, false, false, false, false, false, false, false, false, false, false] (any_of HT_.out (by kernel_rfl)) ?_
    refine tk8 1 (some 15) #[true, true, true, false, false, false, true, false, true, false, false, false, false, false, false, false, false, false, false] (take_ofW HT_.out HW_.out (by kernel_rfl)) hHeld ?_
    refine tk8 3 (some 17) #[true, true, true, true, false, false, true, false, true, false, false, false, false, false, false, false, false, false, false] (take_ofW HT_.out HW_.out (by kernel_rfl)) hHeld ?_
    refine tk8 7 (some 21) #[true, true, true, true, false, false, true, true, true, false, false, false, false, false, false, false, false, false, false] (take_ofW HT_.out HW_.out (by kernel_rfl)) hHeld ?_
    refine tk8 9 (some 23) #[true, true, true, true, false, false, true, true, true, true, false, false, false, false, false, false, false, false, false] (take_ofW HT_.out HW_.out (by kernel_rfl)) hHeld ?_
    refine join_ (σ := Value × Value × Nat) 2 #[true, true, true, true, true, true, true, true, true, true, true, true, true, true, true, true, true, false, false] (fun s_ => [(18, s_.1), (19, .agg #[.int .i64 t287, .int .i64 t288]), (24, s_.2.1), (25, .agg #[.int .i64 t292, .int .i64 t293]), (26, .tuple #[.agg #[.int .i64 t294, .int .i64 t295, .int .i64 t296, .int .i64 t297], .int .i64 t298]), (6, .pointer (some ⟨s_.2.2, 0, none⟩)), (13, .tuple #[.agg #[.int .i64 t294, .int .i64 t295, .int .i64 t296, .int .i64 t297], .int .i64 t298]), (27, .agg #[.int .i64 t294, .int .i64 t295, .int .i64 t296, .int .i64 t297]), (28, .int .i64 t298)]) (fun s_ w' => (w'.cell? ⟨gb280, 0, none⟩ = some (.int .i64 a0_0) ∧ w'.cell? ⟨gb280, 1, none⟩ = some (.int .i64 a0_1) ∧ w'.cell? ⟨gb280, 2, none⟩ = some (.int .i64 a0_2) ∧ w'.cell? ⟨gb280, 3, none⟩ = some (.int .i64 a0_3) ∧ w'.cell? ⟨gb281, 0, none⟩ = some (.int .i64 a1_0) ∧ w'.cell? ⟨gb281, 1, none⟩ = some (.int .i64 a1_1) ∧ w'.cell? ⟨gb281, 2, none⟩ = some (.int .i64 a1_2) ∧ w'.cell? ⟨gb281, 3, none⟩ = some (.int .i64 a1_3)) ∧ (Kd.R k23 23 w' w.heap.size (fun k_ => some k_ ≠ (s_.2.1 : Value).ownBlock) s_.1 y284) ∧ (Kd.R k23 23 w' w.heap.size (fun k_ => some k_ ≠ (s_.1 : Value).ownBlock) s_.2.1 y289) ∧ (w'.heap[gb280]? = some (.cells #[.int .i64 a0_0, .int .i64 a0_1, .int .i64 a0_2, .int .i64 a0_3] 25 (0, 0))) ∧ (w'.heap[gb281]? = some (.cells #[.int .i64 a1_0, .int .i64 a1_1, .int .i64 a1_2, .int .i64 a1_3] 25 (0, 0))) ∧ (w'.heap[gb282]? = some (.cells #[.int .i64 0, .int .i64 0, .int .i64 0, .int .i64 0] 25 (0, 0))) ∧ (w'.heap[s_.2.2]? = some (.cells #[.int .i64 0, .int .i64 0, .int .i64 0, .int .i64 0] 25 (0, 0))) ∧ (w.heap.size ≤ s_.2.2) ∧ (w.heap.size ≤ s_.2.2) ∧ (gb280 ≠ s_.2.2) ∧ (s_.2.2 ≠ gb280) ∧ (gb281 ≠ s_.2.2) ∧ (s_.2.2 ≠ gb281) ∧ (gb282 ≠ s_.2.2) ∧ (s_.2.2 ≠ gb282) ∧ (Below w.heap.size w w')) ?_ ?_
    rotate_left
    · intro hJ4_5_10_11_12_16
      refine join_ (σ := Value × Value) 3 #[true, true, true, true, true, true, true, true, true, true, true, true, true, true, true, true, false, false, false] (fun s_ => [(18, s_.1), (19, .agg #[.int .i64 t287, .int .i64 t288]), (24, s_.2), (25, .agg #[.int .i64 t292, .int .i64 t293]), (26, .tuple #[.agg #[.int .i64 t294, .int .i64 t295, .int .i64 t296, .int .i64 t297], .int .i64 t298]), (13, .tuple #[.agg #[.int .i64 t294, .int .i64 t295, .int .i64 t296, .int .i64 t297], .int .i64 t298]), (27, .agg #[.int .i64 t294, .int .i64 t295, .int .i64 t296, .int .i64 t297]), (28, .int .i64 t298)]) (fun s_ w' => (w'.cell? ⟨gb280, 0, none⟩ = some (.int .i64 a0_0) ∧ w'.cell? ⟨gb280, 1, none⟩ = some (.int .i64 a0_1) ∧ w'.cell? ⟨gb280, 2, none⟩ = some (.int .i64 a0_2) ∧ w'.cell? ⟨gb280, 3, none⟩ = some (.int .i64 a0_3) ∧ w'.cell? ⟨gb281, 0, none⟩ = some (.int .i64 a1_0) ∧ w'.cell? ⟨gb281, 1, none⟩ = some (.int .i64 a1_1) ∧ w'.cell? ⟨gb281, 2, none⟩ = some (.int .i64 a1_2) ∧ w'.cell? ⟨gb281, 3, none⟩ = some (.int .i64 a1_3)) ∧ (Kd.R k23 23 w' w.heap.size (fun k_ => some k_ ≠ (s_.2 : Value).ownBlock) s_.1 y284) ∧ (Kd.R k23 23 w' w.heap.size (fun k_ => some k_ ≠ (s_.1 : Value).ownBlock) s_.2 y289) ∧ (w'.heap[gb280]? = some (.cells #[.int .i64 a0_0, .int .i64 a0_1, .int .i64 a0_2, .int .i64 a0_3] 25 (0, 0))) ∧ (w'.heap[gb281]? = some (.cells #[.int .i64 a1_0, .int .i64 a1_1, .int .i64 a1_2, .int .i64 a1_3] 25 (0, 0))) ∧ (w'.heap[gb282]? = some (.cells #[.int .i64 0, .int .i64 0, .int .i64 0, .int .i64 0] 25 (0, 0))) ∧ (Below w.heap.size w w')) ?_ ?_
      rotate_left
      · intro hJ4_5_10_11_12
        refine join_ (σ := Value × Value × Nat) 6 #[true, true, true, true, true, true, true, true, true, true, true, true, false, false, false, false, true, false, false] (fun s_ => [(18, s_.1), (19, .agg #[.int .i64 t287, .int .i64 t288]), (24, s_.2.1), (25, .agg #[.int .i64 t292, .int .i64 t293]), (6, .pointer (some ⟨s_.2.2, 0, none⟩))]) (fun s_ w' => (w'.cell? ⟨gb280, 0, none⟩ = some (.int .i64 a0_0) ∧ w'.cell? ⟨gb280, 1, none⟩ = some (.int .i64 a0_1) ∧ w'.cell? ⟨gb280, 2, none⟩ = some (.int .i64 a0_2) ∧ w'.cell? ⟨gb280, 3, none⟩ = some (.int .i64 a0_3) ∧ w'.cell? ⟨gb281, 0, none⟩ = some (.int .i64 a1_0) ∧ w'.cell? ⟨gb281, 1, none⟩ = some (.int .i64 a1_1) ∧ w'.cell? ⟨gb281, 2, none⟩ = some (.int .i64 a1_2) ∧ w'.cell? ⟨gb281, 3, none⟩ = some (.int .i64 a1_3)) ∧ (Kd.R k23 23 w' w.heap.size (fun k_ => some k_ ≠ (s_.2.1 : Value).ownBlock) s_.1 y284) ∧ (Kd.R k23 23 w' w.heap.size (fun k_ => some k_ ≠ (s_.1 : Value).ownBlock) s_.2.1 y289) ∧ (w'.heap[gb280]? = some (.cells #[.int .i64 a0_0, .int .i64 a0_1, .int .i64 a0_2, .int .i64 a0_3] 25 (0, 0))) ∧ (w'.heap[gb281]? = some (.cells #[.int .i64 a1_0, .int .i64 a1_1, .int .i64 a1_2, .int .i64 a1_3] 25 (0, 0))) ∧ (w'.heap[gb282]? = some (.cells #[.int .i64 0, .int .i64 0, .int .i64 0, .int .i64 0] 25 (0, 0))) ∧ (w'.heap[s_.2.2]? = some (.cells #[.int .i64 0, .int .i64 0, .int .i64 0, .int .i64 0] 25 (0, 0))) ∧ (w.heap.size ≤ s_.2.2) ∧ (w.heap.size ≤ s_.2.2) ∧ (gb280 ≠ s_.2.2) ∧ (s_.2.2 ≠ gb280) ∧ (gb281 ≠ s_.2.2) ∧ (s_.2.2 ≠ gb281) ∧ (gb282 ≠ s_.2.2) ∧ (s_.2.2 ≠ gb282) ∧ (Below w.heap.size w w')) ?_ ?_
        rotate_left
        · intro hJ4_5_10_11_16
          refine join_ (σ := Value × Value) 7 #[true, true, true, true, true, true, true, true, true, true, true, true, false, false, false, false, false, false, false] (fun s_ => [(18, s_.1), (19, .agg #[.int .i64 t287, .int .i64 t288]), (24, s_.2), (25, .agg #[.int .i64 t292, .int .i64 t293])]) (fun s_ w' => (w'.cell? ⟨gb280, 0, none⟩ = some (.int .i64 a0_0) ∧ w'.cell? ⟨gb280, 1, none⟩ = some (.int .i64 a0_1) ∧ w'.cell? ⟨gb280, 2, none⟩ = some (.int .i64 a0_2) ∧ w'.cell? ⟨gb280, 3, none⟩ = some (.int .i64 a0_3) ∧ w'.cell? ⟨gb281, 0, none⟩ = some (.int .i64 a1_0) ∧ w'.cell? ⟨gb281, 1, none⟩ = some (.int .i64 a1_1) ∧ w'.cell? ⟨gb281, 2, none⟩ = some (.int .i64 a1_2) ∧ w'.cell? ⟨gb281, 3, none⟩ = some (.int .i64 a1_3)) ∧ (Kd.R k23 23 w' w.heap.size (fun k_ => some k_ ≠ (s_.2 : Value).ownBlock) s_.1 y284) ∧ (Kd.R k23 23 w' w.heap.size (fun k_ => some k_ ≠ (s_.1 : Value).ownBlock) s_.2 y289) ∧ (w'.heap[gb280]? = some (.cells #[.int .i64 a0_0, .int .i64 a0_1, .int .i64 a0_2, .int .i64 a0_3] 25 (0, 0))) ∧ (w'.heap[gb281]? = some (.cells #[.int .i64 a1_0, .int .i64 a1_1, .int .i64 a1_2, .int .i64 a1_3] 25 (0, 0))) ∧ (w'.heap[gb282]? = some (.cells #[.int .i64 0, .int .i64 0, .int .i64 0, .int .i64 0] 25 (0, 0))) ∧ (Below w.heap.size w w')) ?_ ?_
          rotate_left
          · intro hJ4_5_10_11
            refine join_ (σ := Value × Value × Nat) 7 #[true, true, true, true, true, true, true, true, true, true, true, false, false, false, false, false, true, false, false] (fun s_ => [(18, s_.1), (19, .agg #[.int .i64 t287, .int .i64 t288]), (24, s_.2.1), (6, .pointer (some ⟨s_.2.2, 0, none⟩))]) (fun s_ w' => (w'.cell? ⟨gb280, 0, none⟩ = some (.int .i64 a0_0) ∧ w'.cell? ⟨gb280, 1, none⟩ = some (.int .i64 a0_1) ∧ w'.cell? ⟨gb280, 2, none⟩ = some (.int .i64 a0_2) ∧ w'.cell? ⟨gb280, 3, none⟩ = some (.int .i64 a0_3) ∧ w'.cell? ⟨gb281, 0, none⟩ = some (.int .i64 a1_0) ∧ w'.cell? ⟨gb281, 1, none⟩ = some (.int .i64 a1_1) ∧ w'.cell? ⟨gb281, 2, none⟩ = some (.int .i64 a1_2) ∧ w'.cell? ⟨gb281, 3, none⟩ = some (.int .i64 a1_3)) ∧ (Kd.R k23 23 w' w.heap.size (fun k_ => some k_ ≠ (s_.2.1 : Value).ownBlock) s_.1 y284) ∧ (Kd.R k23 23 w' w.heap.size (fun k_ => some k_ ≠ (s_.1 : Value).ownBlock) s_.2.1 y289) ∧ (w'.heap[gb280]? = some (.cells #[.int .i64 a0_0, .int .i64 a0_1, .int .i64 a0_2, .int .i64 a0_3] 25 (0, 0))) ∧ (w'.heap[gb281]? = some (.cells #[.int .i64 a1_0, .int .i64 a1_1, .int .i64 a1_2, .int .i64 a1_3] 25 (0, 0))) ∧ (w'.heap[gb282]? = some (.cells #[.int .i64 0, .int .i64 0, .int .i64 0, .int .i64 0] 25 (0, 0))) ∧ (w'.heap[s_.2.2]? = some (.cells #[.int .i64 0, .int .i64 0, .int .i64 0, .int .i64 0] 25 (0, 0))) ∧ (w.heap.size ≤ s_.2.2) ∧ (w.heap.size ≤ s_.2.2) ∧ (gb280 ≠ s_.2.2) ∧ (s_.2.2 ≠ gb280) ∧ (gb281 ≠ s_.2.2) ∧ (s_.2.2 ≠ gb281) ∧ (gb282 ≠ s_.2.2) ∧ (s_.2.2 ≠ gb282) ∧ (Below w.heap.size w w')) ?_ ?_
            rotate_left
            · intro hJ4_5_10_16
              refine join_ (σ := Value × Value) 8 #[true, true, true, true, true, true, true, true, true, true, true, false, false, false, false, false, false, false, false] (fun s_ => [(18, s_.1), (19, .agg #[.int .i64 t287, .int .i64 t288]), (24, s_.2)]) (fun s_ w' => (w'.cell? ⟨gb280, 0, none⟩ = some (.int .i64 a0_0) ∧ w'.cell? ⟨gb280, 1, none⟩ = some (.int .i64 a0_1) ∧ w'.cell? ⟨gb280, 2, none⟩ = some (.int .i64 a0_2) ∧ w'.cell? ⟨gb280, 3, none⟩ = some (.int .i64 a0_3) ∧ w'.cell? ⟨gb281, 0, none⟩ = some (.int .i64 a1_0) ∧ w'.cell? ⟨gb281, 1, none⟩ = some (.int .i64 a1_1) ∧ w'.cell? ⟨gb281, 2, none⟩ = some (.int .i64 a1_2) ∧ w'.cell? ⟨gb281, 3, none⟩ = some (.int .i64 a1_3)) ∧ (Kd.R k23 23 w' w.heap.size (fun k_ => some k_ ≠ (s_.2 : Value).ownBlock) s_.1 y284) ∧ (Kd.R k23 23 w' w.heap.size (fun k_ => some k_ ≠ (s_.1 : Value).ownBlock) s_.2 y289) ∧ (w'.heap[gb280]? = some (.cells #[.int .i64 a0_0, .int .i64 a0_1, .int .i64 a0_2, .int .i64 a0_3] 25 (0, 0))) ∧ (w'.heap[gb281]? = some (.cells #[.int .i64 a1_0, .int .i64 a1_1, .int .i64 a1_2, .int .i64 a1_3] 25 (0, 0))) ∧ (w'.heap[gb282]? = some (.cells #[.int .i64 0, .int .i64 0, .int .i64 0, .int .i64 0] 25 (0, 0))) ∧ (Below w.heap.size w w')) ?_ ?_
              rotate_left
              · intro hJ4_5_10
                refine join_ (σ := Value × Nat) 8 #[true, true, true, true, true, true, true, true, true, true, false, false, false, false, false, false, true, false, false] (fun s_ => [(18, s_.1), (19, .agg #[.int .i64 t287, .int .i64 t288]), (6, .pointer (some ⟨s_.2, 0, none⟩))]) (fun s_ w' => (w'.cell? ⟨gb280, 0, none⟩ = some (.int .i64 a0_0) ∧ w'.cell? ⟨gb280, 1, none⟩ = some (.int .i64 a0_1) ∧ w'.cell? ⟨gb280, 2, none⟩ = some (.int .i64 a0_2) ∧ w'.cell? ⟨gb280, 3, none⟩ = some (.int .i64 a0_3) ∧ w'.cell? ⟨gb281, 0, none⟩ = some (.int .i64 a1_0) ∧ w'.cell? ⟨gb281, 1, none⟩ = some (.int .i64 a1_1) ∧ w'.cell? ⟨gb281, 2, none⟩ = some (.int .i64 a1_2) ∧ w'.cell? ⟨gb281, 3, none⟩ = some (.int .i64 a1_3)) ∧ (Kd.R k23 23 w' w.heap.size (fun _ => True) s_.1 y284) ∧ (w'.heap[gb280]? = some (.cells #[.int .i64 a0_0, .int .i64 a0_1, .int .i64 a0_2, .int .i64 a0_3] 25 (0, 0))) ∧ (w'.heap[gb281]? = some (.cells #[.int .i64 a1_0, .int .i64 a1_1, .int .i64 a1_2, .int .i64 a1_3] 25 (0, 0))) ∧ (w'.heap[gb282]? = some (.cells #[.int .i64 0, .int .i64 0, .int .i64 0, .int .i64 0] 25 (0, 0))) ∧ (w'.heap[s_.2]? = some (.cells #[.int .i64 0, .int .i64 0, .int .i64 0, .int .i64 0] 25 (0, 0))) ∧ (w.heap.size ≤ s_.2) ∧ (w.heap.size ≤ s_.2) ∧ (gb280 ≠ s_.2) ∧ (s_.2 ≠ gb280) ∧ (gb281 ≠ s_.2) ∧ (s_.2 ≠ gb281) ∧ (gb282 ≠ s_.2) ∧ (s_.2 ≠ gb282) ∧ (Below w.heap.size w w')) ?_ ?_
                rotate_left
                · intro hJ4_5_16
                  refine join_ (σ := Value × Value × Nat) 8 #[true, true, true, true, true, false, true, true, true, true, true, false, false, false, false, false, true, false, false] (fun s_ => [(18, s_.1), (24, s_.2.1), (6, .pointer (some ⟨s_.2.2, 0, none⟩))]) (fun s_ w' => (w'.cell? ⟨gb280, 0, none⟩ = some (.int .i64 a0_0) ∧ w'.cell? ⟨gb280, 1, none⟩ = some (.int .i64 a0_1) ∧ w'.cell? ⟨gb280, 2, none⟩ = some (.int .i64 a0_2) ∧ w'.cell? ⟨gb280, 3, none⟩ = some (.int .i64 a0_3) ∧ w'.cell? ⟨gb281, 0, none⟩ = some (.int .i64 a1_0) ∧ w'.cell? ⟨gb281, 1, none⟩ = some (.int .i64 a1_1) ∧ w'.cell? ⟨gb281, 2, none⟩ = some (.int .i64 a1_2) ∧ w'.cell? ⟨gb281, 3, none⟩ = some (.int .i64 a1_3)) ∧ (Kd.R k23 23 w' w.heap.size (fun k_ => some k_ ≠ (s_.2.1 : Value).ownBlock) s_.1 y284) ∧ (Kd.R k23 23 w' w.heap.size (fun k_ => some k_ ≠ (s_.1 : Value).ownBlock) s_.2.1 y289) ∧ (w'.heap[gb280]? = some (.cells #[.int .i64 a0_0, .int .i64 a0_1, .int .i64 a0_2, .int .i64 a0_3] 25 (0, 0))) ∧ (w'.heap[gb281]? = some (.cells #[.int .i64 a1_0, .int .i64 a1_1, .int .i64 a1_2, .int .i64 a1_3] 25 (0, 0))) ∧ (w'.heap[gb282]? = some (.cells #[.int .i64 0, .int .i64 0, .int .i64 0, .int .i64 0] 25 (0, 0))) ∧ (w'.heap[s_.2.2]? = some (.cells #[.int .i64 0, .int .i64 0, .int .i64 0, .int .i64 0] 25 (0, 0))) ∧ (w.heap.size ≤ s_.2.2) ∧ (w.heap.size ≤ s_.2.2) ∧ (gb280 ≠ s_.2.2) ∧ (s_.2.2 ≠ gb280) ∧ (gb281 ≠ s_.2.2) ∧ (s_.2.2 ≠ gb281) ∧ (gb282 ≠ s_.2.2) ∧ (s_.2.2 ≠ gb282) ∧ (Below w.heap.size w w')) ?_ ?_
                  rotate_left
                  · intro hJ4_10_16
                    refine join_ (σ := Value) 9 #[true, true, true, true, true, true, true, true, true, true, false, false, false, false, false, false, false, false, false] (fun s_ => [(18, s_), (19, .agg #[.int .i64 t287, .int .i64 t288])]) (fun s_ w' => (w'.cell? ⟨gb280, 0, none⟩ = some (.int .i64 a0_0) ∧ w'.cell? ⟨gb280, 1, none⟩ = some (.int .i64 a0_1) ∧ w'.cell? ⟨gb280, 2, none⟩ = some (.int .i64 a0_2) ∧ w'.cell? ⟨gb280, 3, none⟩ = some (.int .i64 a0_3) ∧ w'.cell? ⟨gb281, 0, none⟩ = some (.int .i64 a1_0) ∧ w'.cell? ⟨gb281, 1, none⟩ = some (.int .i64 a1_1) ∧ w'.cell? ⟨gb281, 2, none⟩ = some (.int .i64 a1_2) ∧ w'.cell? ⟨gb281, 3, none⟩ = some (.int .i64 a1_3)) ∧ (Kd.R k23 23 w' w.heap.size (fun _ => True) s_ y284) ∧ (w'.heap[gb280]? = some (.cells #[.int .i64 a0_0, .int .i64 a0_1, .int .i64 a0_2, .int .i64 a0_3] 25 (0, 0))) ∧ (w'.heap[gb281]? = some (.cells #[.int .i64 a1_0, .int .i64 a1_1, .int .i64 a1_2, .int .i64 a1_3] 25 (0, 0))) ∧ (w'.heap[gb282]? = some (.cells #[.int .i64 0, .int .i64 0, .int .i64 0, .int .i64 0] 25 (0, 0))) ∧ (Below w.heap.size w w')) ?_ ?_
                    rotate_left
                    · intro hJ4_5
                      refine join_ (σ := Value × Value) 9 #[true, true, true, true, true, false, true, true, true, true, true, false, false, false, false, false, false, false, false] (fun s_ => [(18, s_.1), (24, s_.2)]) (fun s_ w' => (w'.cell? ⟨gb280, 0, none⟩ = some (.int .i64 a0_0) ∧ w'.cell? ⟨gb280, 1, none⟩ = some (.int .i64 a0_1) ∧ w'.cell? ⟨gb280, 2, none⟩ = some (.int .i64 a0_2) ∧ w'.cell? ⟨gb280, 3, none⟩ = some (.int .i64 a0_3) ∧ w'.cell? ⟨gb281, 0, none⟩ = some (.int .i64 a1_0) ∧ w'.cell? ⟨gb281, 1, none⟩ = some (.int .i64 a1_1) ∧ w'.cell? ⟨gb281, 2, none⟩ = some (.int .i64 a1_2) ∧ w'.cell? ⟨gb281, 3, none⟩ = some (.int .i64 a1_3)) ∧ (Kd.R k23 23 w' w.heap.size (fun k_ => some k_ ≠ (s_.2 : Value).ownBlock) s_.1 y284) ∧ (Kd.R k23 23 w' w.heap.size (fun k_ => some k_ ≠ (s_.1 : Value).ownBlock) s_.2 y289) ∧ (w'.heap[gb280]? = some (.cells #[.int .i64 a0_0, .int .i64 a0_1, .int .i64 a0_2, .int .i64 a0_3] 25 (0, 0))) ∧ (w'.heap[gb281]? = some (.cells #[.int .i64 a1_0, .int .i64 a1_1, .int .i64 a1_2, .int .i64 a1_3] 25 (0, 0))) ∧ (w'.heap[gb282]? = some (.cells #[.int .i64 0, .int .i64 0, .int .i64 0, .int .i64 0] 25 (0, 0))) ∧ (Below w.heap.size w w')) ?_ ?_
                      rotate_left
                      · intro hJ4_10
                        refine join_ (σ := Value × Nat) 9 #[true, true, true, true, true, false, true, true, true, true, false, false, false, false, false, false, true, false, false] (fun s_ => [(18, s_.1), (6, .pointer (some ⟨s_.2, 0, none⟩))]) (fun s_ w' => (w'.cell? ⟨gb280, 0, none⟩ = some (.int .i64 a0_0) ∧ w'.cell? ⟨gb280, 1, none⟩ = some (.int .i64 a0_1) ∧ w'.cell? ⟨gb280, 2, none⟩ = some (.int .i64 a0_2) ∧ w'.cell? ⟨gb280, 3, none⟩ = some (.int .i64 a0_3) ∧ w'.cell? ⟨gb281, 0, none⟩ = some (.int .i64 a1_0) ∧ w'.cell? ⟨gb281, 1, none⟩ = some (.int .i64 a1_1) ∧ w'.cell? ⟨gb281, 2, none⟩ = some (.int .i64 a1_2) ∧ w'.cell? ⟨gb281, 3, none⟩ = some (.int .i64 a1_3)) ∧ (Kd.R k23 23 w' w.heap.size (fun _ => True) s_.1 y284) ∧ (w'.heap[gb280]? = some (.cells #[.int .i64 a0_0, .int .i64 a0_1, .int .i64 a0_2, .int .i64 a0_3] 25 (0, 0))) ∧ (w'.heap[gb281]? = some (.cells #[.int .i64 a1_0, .int .i64 a1_1, .int .i64 a1_2, .int .i64 a1_3] 25 (0, 0))) ∧ (w'.heap[gb282]? = some (.cells #[.int .i64 0, .int .i64 0, .int .i64 0, .int .i64 0] 25 (0, 0))) ∧ (w'.heap[s_.2]? = some (.cells #[.int .i64 0, .int .i64 0, .int .i64 0, .int .i64 0] 25 (0, 0))) ∧ (w.heap.size ≤ s_.2) ∧ (w.heap.size ≤ s_.2) ∧ (gb280 ≠ s_.2) ∧ (s_.2 ≠ gb280) ∧ (gb281 ≠ s_.2) ∧ (s_.2 ≠ gb281) ∧ (gb282 ≠ s_.2) ∧ (s_.2 ≠ gb282) ∧ (Below w.heap.size w w')) ?_ ?_
                        rotate_left
                        · intro hJ4_16
                          refine join_ (σ := Value × Nat) 9 #[true, true, true, true, false, false, true, true, true, true, true, false, false, false, false, false, true, false, false] (fun s_ => [(24, s_.1), (6, .pointer (some ⟨s_.2, 0, none⟩))]) (fun s_ w' => (w'.cell? ⟨gb280, 0, none⟩ = some (.int .i64 a0_0) ∧ w'.cell? ⟨gb280, 1, none⟩ = some (.int .i64 a0_1) ∧ w'.cell? ⟨gb280, 2, none⟩ = some (.int .i64 a0_2) ∧ w'.cell? ⟨gb280, 3, none⟩ = some (.int .i64 a0_3) ∧ w'.cell? ⟨gb281, 0, none⟩ = some (.int .i64 a1_0) ∧ w'.cell? ⟨gb281, 1, none⟩ = some (.int .i64 a1_1) ∧ w'.cell? ⟨gb281, 2, none⟩ = some (.int .i64 a1_2) ∧ w'.cell? ⟨gb281, 3, none⟩ = some (.int .i64 a1_3)) ∧ (Kd.R k23 23 w' w.heap.size (fun _ => True) s_.1 y289) ∧ (w'.heap[gb280]? = some (.cells #[.int .i64 a0_0, .int .i64 a0_1, .int .i64 a0_2, .int .i64 a0_3] 25 (0, 0))) ∧ (w'.heap[gb281]? = some (.cells #[.int .i64 a1_0, .int .i64 a1_1, .int .i64 a1_2, .int .i64 a1_3] 25 (0, 0))) ∧ (w'.heap[gb282]? = some (.cells #[.int .i64 0, .int .i64 0, .int .i64 0, .int .i64 0] 25 (0, 0))) ∧ (w'.heap[s_.2]? = some (.cells #[.int .i64 0, .int .i64 0, .int .i64 0, .int .i64 0] 25 (0, 0))) ∧ (w.heap.size ≤ s_.2) ∧ (w.heap.size ≤ s_.2) ∧ (gb280 ≠ s_.2) ∧ (s_.2 ≠ gb280) ∧ (gb281 ≠ s_.2) ∧ (s_.2 ≠ gb281) ∧ (gb282 ≠ s_.2) ∧ (s_.2 ≠ gb282) ∧ (Below w.heap.size w w')) ?_ ?_
                          rotate_left
                          · intro hJ10_16
                            refine join_ (σ := Value) 10 #[true, true, true, true, true, false, true, true, true, true, false, false, false, false, false, false, false, false, false] (fun s_ => [(18, s_)]) (fun s_ w' => (w'.cell? ⟨gb280, 0, none⟩ = some (.int .i64 a0_0) ∧ w'.cell? ⟨gb280, 1, none⟩ = some (.int .i64 a0_1) ∧ w'.cell? ⟨gb280, 2, none⟩ = some (.int .i64 a0_2) ∧ w'.cell? ⟨gb280, 3, none⟩ = some (.int .i64 a0_3) ∧ w'.cell? ⟨gb281, 0, none⟩ = some (.int .i64 a1_0) ∧ w'.cell? ⟨gb281, 1, none⟩ = some (.int .i64 a1_1) ∧ w'.cell? ⟨gb281, 2, none⟩ = some (.int .i64 a1_2) ∧ w'.cell? ⟨gb281, 3, none⟩ = some (.int .i64 a1_3)) ∧ (Kd.R k23 23 w' w.heap.size (fun _ => True) s_ y284) ∧ (w'.heap[gb280]? = some (.cells #[.int .i64 a0_0, .int .i64 a0_1, .int .i64 a0_2, .int .i64 a0_3] 25 (0, 0))) ∧ (w'.heap[gb281]? = some (.cells #[.int .i64 a1_0, .int .i64 a1_1, .int .i64 a1_2, .int .i64 a1_3] 25 (0, 0))) ∧ (w'.heap[gb282]? = some (.cells #[.int .i64 0, .int .i64 0, .int .i64 0, .int .i64 0] 25 (0, 0))) ∧ (Below w.heap.size w w')) ?_ ?_
                            rotate_left
                            · intro hJ4
                              refine join_ (σ := Value) 10 #[true, true, true, true, false, false, true, true, true, true, true, false, false, false, false, false, false, false, false] (fun s_ => [(24, s_)]) (fun s_ w' => (w'.cell? ⟨gb280, 0, none⟩ = some (.int .i64 a0_0) ∧ w'.cell? ⟨gb280, 1, none⟩ = some (.int .i64 a0_1) ∧ w'.cell? ⟨gb280, 2, none⟩ = some (.int .i64 a0_2) ∧ w'.cell? ⟨gb280, 3, none⟩ = some (.int .i64 a0_3) ∧ w'.cell? ⟨gb281, 0, none⟩ = some (.int .i64 a1_0) ∧ w'.cell? ⟨gb281, 1, none⟩ = some (.int .i64 a1_1) ∧ w'.cell? ⟨gb281, 2, none⟩ = some (.int .i64 a1_2) ∧ w'.cell? ⟨gb281, 3, none⟩ = some (.int .i64 a1_3)) ∧ (Kd.R k23 23 w' w.heap.size (fun _ => True) s_ y289) ∧ (w'.heap[gb280]? = some (.cells #[.int .i64 a0_0, .int .i64 a0_1, .int .i64 a0_2, .int .i64 a0_3] 25 (0, 0))) ∧ (w'.heap[gb281]? = some (.cells #[.int .i64 a1_0, .int .i64 a1_1, .int .i64 a1_2, .int .i64 a1_3] 25 (0, 0))) ∧ (w'.heap[gb282]? = some (.cells #[.int .i64 0, .int .i64 0, .int .i64 0, .int .i64 0] 25 (0, 0))) ∧ (Below w.heap.size w w')) ?_ ?_
                              rotate_left
                              · intro hJ10
                                refine join_ (σ := Nat) 10 #[true, true, true, true, false, false, true, true, true, true, false, false, false, false, false, false, true, false, false] (fun s_ => [(6, .pointer (some ⟨s_, 0, none⟩))]) (fun s_ w' => (w'.cell? ⟨gb280, 0, none⟩ = some (.int .i64 a0_0) ∧ w'.cell? ⟨gb280, 1, none⟩ = some (.int .i64 a0_1) ∧ w'.cell? ⟨gb280, 2, none⟩ = some (.int .i64 a0_2) ∧ w'.cell? ⟨gb280, 3, none⟩ = some (.int .i64 a0_3) ∧ w'.cell? ⟨gb281, 0, none⟩ = some (.int .i64 a1_0) ∧ w'.cell? ⟨gb281, 1, none⟩ = some (.int .i64 a1_1) ∧ w'.cell? ⟨gb281, 2, none⟩ = some (.int .i64 a1_2) ∧ w'.cell? ⟨gb281, 3, none⟩ = some (.int .i64 a1_3)) ∧ (w'.heap[gb280]? = some (.cells #[.int .i64 a0_0, .int .i64 a0_1, .int .i64 a0_2, .int .i64 a0_3] 25 (0, 0))) ∧ (w'.heap[gb281]? = some (.cells #[.int .i64 a1_0, .int .i64 a1_1, .int .i64 a1_2, .int .i64 a1_3] 25 (0, 0))) ∧ (w'.heap[gb282]? = some (.cells #[.int .i64 0, .int .i64 0, .int .i64 0, .int .i64 0] 25 (0, 0))) ∧ (w'.heap[s_]? = some (.cells #[.int .i64 0, .int .i64 0, .int .i64 0, .int .i64 0] 25 (0, 0))) ∧ (w.heap.size ≤ s_) ∧ (w.heap.size ≤ s_) ∧ (gb280 ≠ s_) ∧ (s_ ≠ gb280) ∧ (gb281 ≠ s_) ∧ (s_ ≠ gb281) ∧ (gb282 ≠ s_) ∧ (s_ ≠ gb282) ∧ (Below w.heap.size w w')) ?_ ?_
                                rotate_left
                                · intro hJ16
                                  refine three_ (i := 4) (j := 10) (k := 16) (Ni := some 18) (Nj := some 24) (Nk := some 6) #[true, true, true, true, true, false, true, true, true, true, false, false, false, false, false, false, false, false, false] #[true, true, true, true, false, false, true, true, true, true, true, false, false, false, false, false, false, false, false] #[true, true, true, true, false, false, true, true, true, true, false, false, false, false, false, false, true, false, false] rfl rfl rfl rfl rfl rfl (three_of HT_.out (by kernel_rfl)) (by decide) (by decide) (by decide) (fun K hK => ?_) (fun K hK => ?_) (fun K hK => ?_)
                                  · skip
                                    refine Kd.R_lit_step k23 _ 23 ?hg (N := 18) ?hd (xs := ([(⟨a0_0, a0_1⟩ : S23), (⟨a1_0, a1_1⟩ : S23)] : List (S23))) (inner := [.int .i64 a0_0, .int .i64 a0_1, .int .i64 a1_0, .int .i64 a1_1]) (ok := fun _ => True) (okp := fun _ => True) ?hr ?hp (fun _ hk => hk) trivial (Below.refl _ _) (Nat.le_refl _) (by simp) ?_; (case hd => rfl); (case hg => rfl); (case hr => first | (go_simp; done) | (go_simp; rfl)); (case hp => exact (Reps.c2 (show Kd.M k23 _ _ _ (⟨a0_0, a0_1⟩ : S23) [.int .i64 a0_0, .int .i64 a0_1] from (k23_mkM _ _ _ (⟨a0_0, a0_1⟩ : S23) )) (Reps.c2 (show Kd.M k23 _ _ _ (⟨a1_0, a1_1⟩ : S23) [.int .i64 a1_0, .int .i64 a1_1] from (k23_mkM _ _ _ (⟨a1_0, a1_1⟩ : S23) )) (Reps.none _ _))))
                                    intro v285 w18 ho19 hb hg_ hnew_
                                    clear hg_ hnew_
                                    (first | rw [← Ny284.out] at ho19 | (simp only [Int.reduceToNat] at ho19; rw [← Ny284.out] at ho19))
                                    have HO286 := Aside0.mk (Kd.R_lower ho19 (below_size (bl HB)))
                                    replace BK280 := bkb BK280 hb
                                    replace BK281 := bkb BK281 hb
                                    replace BK282 := bkb BK282 hb
                                    replace HB := bst HB hb
                                    clear hb ho19
                                    refine hK.out _ _ (c4 BK280 (e4 BK281)) (fun hHeld => ?_)
                                    clear hK K
                                    refine nrp 18 ?_
                                    exact nrm (hJ4 (v285) _ ⟨hHeld, (kr HO286), (bk BK280), (bk BK281), (bk BK282), (bl HB)⟩)
                                  · skip
                                    refine Kd.R_lit_step k23 _ 23 ?hg (N := 24) ?hd (xs := ([(⟨a0_2, a0_3⟩ : S23), (⟨a1_2, a1_3⟩ : S23)] : List (S23))) (inner := [.int .i64 a0_2, .int .i64 a0_3, .int .i64 a1_2, .int .i64 a1_3]) (ok := fun _ => True) (okp := fun _ => True) ?hr ?hp (fun _ hk => hk) trivial (Below.refl _ _) (Nat.le_refl _) (by simp) ?_; (case hd => rfl); (case hg => rfl); (case hr => first | (go_simp; done) | (go_simp; rfl)); (case hp => exact (Reps.c2 (show Kd.M k23 _ _ _ (⟨a0_2, a0_3⟩ : S23) [.int .i64 a0_2, .int .i64 a0_3] from (k23_mkM _ _ _ (⟨a0_2, a0_3⟩ : S23) )) (Reps.c2 (show Kd.M k23 _ _ _ (⟨a1_2, a1_3⟩ : S23) [.int .i64 a1_2, .int .i64 a1_3] from (k23_mkM _ _ _ (⟨a1_2, a1_3⟩ : S23) )) (Reps.none _ _))))
                                    intro v290 w18 ho19 hb hg_ hnew_
                                    clear hg_ hnew_
                                    (first | rw [← Ny289.out] at ho19 | (simp only [Int.reduceToNat] at ho19; rw [← Ny289.out] at ho19))
                                    have HO291 := Aside0.mk (Kd.R_lower ho19 (below_size (bl HB)))
                                    replace BK280 := bkb BK280 hb
                                    replace BK281 := bkb BK281 hb
                                    replace BK282 := bkb BK282 hb
                                    replace HB := bst HB hb
                                    clear hb ho19
                                    refine hK.out _ _ (c4 BK280 (e4 BK281)) (fun hHeld => ?_)
                                    clear hK K
                                    refine nrp 24 ?_
                                    exact nrm (hJ10 (v290) _ ⟨hHeld, (kr HO291), (bk BK280), (bk BK281), (bk BK282), (bl HB)⟩)
                                  · skip
                                    refine box_step ?hg (N := 6) ?hd (cs := #[.int .i64 0, .int .i64 0, .int .i64 0, .int .i64 0]) (t := 25) ?hr ?_; (case hd => rfl); (case hg => rfl); (case hr => first | (go_simp; done) | (go_simp; rfl))
                                    intro gb299 hg w18 hbox hb
                                    have BK299 := Aside0.mk (hbox)
                                    have GW299 := lsz hg HB
                                    have GE299 := lsz hg HB
                                    replace HB := bst HB hb
                                    have NB280_299 := nlt hg BK280
                                    have NB299_280 := ngt hg BK280
                                    replace BK280 := bkb BK280 hb
                                    have NB281_299 := nlt hg BK281
                                    have NB299_281 := ngt hg BK281
                                    replace BK281 := bkb BK281 hb
                                    have NB282_299 := nlt hg BK282
                                    have NB299_282 := ngt hg BK282
                                    replace BK282 := bkb BK282 hb
                                    clear hb hbox hg
                                    refine hK.out _ _ (c4 BK280 (e4 BK281)) (fun hHeld => ?_)
                                    clear hK K
                                    refine nrp 6 ?_
                                    exact nrm (hJ16 (gb299) _ ⟨hHeld, (bk BK280), (bk BK281), (bk BK282), (bk BK299), GW299.out, GE299.out, NB280_299.out, NB299_280.out, NB281_299.out, NB299_281.out, NB282_299.out, NB299_282.out, (bl HB)⟩)
                                · skip
                                  rintro gb299 w19 ⟨hS_, h0_, h1_, h2_, h3_, h4_, h5_, h6_, h7_, h8_, h9_, h10_, h11_, h12_⟩
                                  replace BK280 : Aside0 (w19.heap[gb280]? = some (.cells #[.int .i64 a0_0, .int .i64 a0_1, .int .i64 a0_2, .int .i64 a0_3] 25 (0, 0))) := ⟨h0_⟩
                                  replace BK281 : Aside0 (w19.heap[gb281]? = some (.cells #[.int .i64 a1_0, .int .i64 a1_1, .int .i64 a1_2, .int .i64 a1_3] 25 (0, 0))) := ⟨h1_⟩
                                  replace BK282 : Aside0 (w19.heap[gb282]? = some (.cells #[.int .i64 0, .int .i64 0, .int .i64 0, .int .i64 0] 25 (0, 0))) := ⟨h2_⟩
                                  have BK299 : Aside0 (w19.heap[gb299]? = some (.cells #[.int .i64 0, .int .i64 0, .int .i64 0, .int .i64 0] 25 (0, 0))) := ⟨h3_⟩
                                  have GW299 : Aside0 (w.heap.size ≤ gb299) := ⟨h4_⟩
                                  have GE299 : Aside0 (w.heap.size ≤ gb299) := ⟨h5_⟩
                                  have NB280_299 : Aside0 (gb280 ≠ gb299) := ⟨h6_⟩
                                  have NB299_280 : Aside0 (gb299 ≠ gb280) := ⟨h7_⟩
                                  have NB281_299 : Aside0 (gb281 ≠ gb299) := ⟨h8_⟩
                                  have NB299_281 : Aside0 (gb299 ≠ gb281) := ⟨h9_⟩
                                  have NB282_299 : Aside0 (gb282 ≠ gb299) := ⟨h10_⟩
                                  have NB299_282 : Aside0 (gb299 ≠ gb282) := ⟨h11_⟩
                                  replace HB : Aside0 (Below w.heap.size w w19) := ⟨h12_⟩
                                  clear h0_ h1_ h2_ h3_ h4_ h5_ h6_ h7_ h8_ h9_ h10_ h11_ h12_
                                  have hHeld : w19.cell? ⟨gb280, 0, none⟩ = some (.int .i64 a0_0) ∧ w19.cell? ⟨gb280, 1, none⟩ = some (.int .i64 a0_1) ∧ w19.cell? ⟨gb280, 2, none⟩ = some (.int .i64 a0_2) ∧ w19.cell? ⟨gb280, 3, none⟩ = some (.int .i64 a0_3) ∧ w19.cell? ⟨gb281, 0, none⟩ = some (.int .i64 a1_0) ∧ w19.cell? ⟨gb281, 1, none⟩ = some (.int .i64 a1_1) ∧ w19.cell? ⟨gb281, 2, none⟩ = some (.int .i64 a1_2) ∧ w19.cell? ⟨gb281, 3, none⟩ = some (.int .i64 a1_3) := hS_
                                  refine nra ?_
                                  refine two_ (i := 4) (j := 10) (Ni := some 18) (Nj := some 24) #[true, true, true, true, true, false, true, true, true, true, false, false, false, false, false, false, true, false, false] #[true, true, true, true, false, false, true, true, true, true, true, false, false, false, false, false, true, false, false] rfl rfl rfl rfl (two_of HT_.out (by kernel_rfl)) (by decide) (by decide) (fun K hK => ?_) (fun K hK => ?_)
                                  · skip
                                    refine Kd.R_lit_step k23 _ 23 ?hg (N := 18) ?hd (xs := ([(⟨a0_0, a0_1⟩ : S23), (⟨a1_0, a1_1⟩ : S23)] : List (S23))) (inner := [.int .i64 a0_0, .int .i64 a0_1, .int .i64 a1_0, .int .i64 a1_1]) (ok := fun _ => True) (okp := fun _ => True) ?hr ?hp (fun _ hk => hk) trivial (Below.refl _ _) (Nat.le_refl _) (by simp) ?_; (case hd => rfl); (case hg => rfl); (case hr => first | (go_simp; done) | (go_simp; rfl)); (case hp => exact (Reps.c2 (show Kd.M k23 _ _ _ (⟨a0_0, a0_1⟩ : S23) [.int .i64 a0_0, .int .i64 a0_1] from (k23_mkM _ _ _ (⟨a0_0, a0_1⟩ : S23) )) (Reps.c2 (show Kd.M k23 _ _ _ (⟨a1_0, a1_1⟩ : S23) [.int .i64 a1_0, .int .i64 a1_1] from (k23_mkM _ _ _ (⟨a1_0, a1_1⟩ : S23) )) (Reps.none _ _))))
                                    intro v285 w20 ho21 hb hg_ hnew_
                                    clear hg_ hnew_
                                    (first | rw [← Ny284.out] at ho21 | (simp only [Int.reduceToNat] at ho21; rw [← Ny284.out] at ho21))
                                    have HO286 := Aside0.mk (Kd.R_lower ho21 (below_size (bl HB)))
                                    replace BK280 := bkb BK280 hb
                                    replace BK281 := bkb BK281 hb
                                    replace BK282 := bkb BK282 hb
                                    replace BK299 := bkb BK299 hb
                                    replace HB := bst HB hb
                                    clear hb ho21
                                    refine hK.out _ _ (c4 BK280 (e4 BK281)) (fun hHeld => ?_)
                                    clear hK K
                                    refine nrp 18 ?_
                                    exact nrm (hJ4_16 (v285, gb299) _ ⟨hHeld, (kr HO286), (bk BK280), (bk BK281), (bk BK282), (bk BK299), GW299.out, GE299.out, NB280_299.out, NB299_280.out, NB281_299.out, NB299_281.out, NB282_299.out, NB299_282.out, (bl HB)⟩)
                                  · skip
                                    refine Kd.R_lit_step k23 _ 23 ?hg (N := 24) ?hd (xs := ([(⟨a0_2, a0_3⟩ : S23), (⟨a1_2, a1_3⟩ : S23)] : List (S23))) (inner := [.int .i64 a0_2, .int .i64 a0_3, .int .i64 a1_2, .int .i64 a1_3]) (ok := fun _ => True) (okp := fun _ => True) ?hr ?hp (fun _ hk => hk) trivial (Below.refl _ _) (Nat.le_refl _) (by simp) ?_; (case hd => rfl); (case hg => rfl); (case hr => first | (go_simp; done) | (go_simp; rfl)); (case hp => exact (Reps.c2 (show Kd.M k23 _ _ _ (⟨a0_2, a0_3⟩ : S23) [.int .i64 a0_2, .int .i64 a0_3] from (k23_mkM _ _ _ (⟨a0_2, a0_3⟩ : S23) )) (Reps.c2 (show Kd.M k23 _ _ _ (⟨a1_2, a1_3⟩ : S23) [.int .i64 a1_2, .int .i64 a1_3] from (k23_mkM _ _ _ (⟨a1_2, a1_3⟩ : S23) )) (Reps.none _ _))))
                                    intro v290 w20 ho21 hb hg_ hnew_
                                    clear hg_ hnew_
                                    (first | rw [← Ny289.out] at ho21 | (simp only [Int.reduceToNat] at ho21; rw [← Ny289.out] at ho21))
                                    have HO291 := Aside0.mk (Kd.R_lower ho21 (below_size (bl HB)))
                                    replace BK280 := bkb BK280 hb
                                    replace BK281 := bkb BK281 hb
                                    replace BK282 := bkb BK282 hb
                                    replace BK299 := bkb BK299 hb
                                    replace HB := bst HB hb
                                    clear hb ho21
                                    refine hK.out _ _ (c4 BK280 (e4 BK281)) (fun hHeld => ?_)
                                    clear hK K
                                    refine nrp 24 ?_
                                    exact nrm (hJ10_16 (v290, gb299) _ ⟨hHeld, (kr HO291), (bk BK280), (bk BK281), (bk BK282), (bk BK299), GW299.out, GE299.out, NB280_299.out, NB299_280.out, NB281_299.out, NB299_281.out, NB282_299.out, NB299_282.out, (bl HB)⟩)
                              · skip
                                rintro v290 w20 ⟨hS_, h0_, h1_, h2_, h3_, h4_⟩
                                have HO291 : Aside0 (Kd.R k23 23 w20 w.heap.size (fun _ => True) v290 y289) := ⟨h0_⟩
                                replace BK280 : Aside0 (w20.heap[gb280]? = some (.cells #[.int .i64 a0_0, .int .i64 a0_1, .int .i64 a0_2, .int .i64 a0_3] 25 (0, 0))) := ⟨h1_⟩
                                replace BK281 : Aside0 (w20.heap[gb281]? = some (.cells #[.int .i64 a1_0, .int .i64 a1_1, .int .i64 a1_2, .int .i64 a1_3] 25 (0, 0))) := ⟨h2_⟩
                                replace BK282 : Aside0 (w20.heap[gb282]? = some (.cells #[.int .i64 0, .int .i64 0, .int .i64 0, .int .i64 0] 25 (0, 0))) := ⟨h3_⟩
                                replace HB : Aside0 (Below w.heap.size w w20) := ⟨h4_⟩
                                clear h0_ h1_ h2_ h3_ h4_
                                have hHeld : w20.cell? ⟨gb280, 0, none⟩ = some (.int .i64 a0_0) ∧ w20.cell? ⟨gb280, 1, none⟩ = some (.int .i64 a0_1) ∧ w20.cell? ⟨gb280, 2, none⟩ = some (.int .i64 a0_2) ∧ w20.cell? ⟨gb280, 3, none⟩ = some (.int .i64 a0_3) ∧ w20.cell? ⟨gb281, 0, none⟩ = some (.int .i64 a1_0) ∧ w20.cell? ⟨gb281, 1, none⟩ = some (.int .i64 a1_1) ∧ w20.cell? ⟨gb281, 2, none⟩ = some (.int .i64 a1_2) ∧ w20.cell? ⟨gb281, 3, none⟩ = some (.int .i64 a1_3) := hS_
                                refine nra ?_
                                refine two_ (i := 4) (j := 16) (Ni := some 18) (Nj := some 6) #[true, true, true, true, true, false, true, true, true, true, true, false, false, false, false, false, false, false, false] #[true, true, true, true, false, false, true, true, true, true, true, false, false, false, false, false, true, false, false] rfl rfl rfl rfl (two_of HT_.out (by kernel_rfl)) (by decide) (by decide) (fun K hK => ?_) (fun K hK => ?_)
                                · skip
                                  refine Kd.R_lit_step k23 _ 23 ?hg (N := 18) ?hd (xs := ([(⟨a0_0, a0_1⟩ : S23), (⟨a1_0, a1_1⟩ : S23)] : List (S23))) (inner := [.int .i64 a0_0, .int .i64 a0_1, .int .i64 a1_0, .int .i64 a1_1]) (ok := fun _ => True) (okp := fun _ => True) ?hr ?hp (fun _ hk => hk) trivial (Below.refl _ _) (Nat.le_refl _) (by simp) ?_; (case hd => rfl); (case hg => rfl); (case hr => first | (go_simp; done) | (go_simp; rfl)); (case hp => exact (Reps.c2 (show Kd.M k23 _ _ _ (⟨a0_0, a0_1⟩ : S23) [.int .i64 a0_0, .int .i64 a0_1] from (k23_mkM _ _ _ (⟨a0_0, a0_1⟩ : S23) )) (Reps.c2 (show Kd.M k23 _ _ _ (⟨a1_0, a1_1⟩ : S23) [.int .i64 a1_0, .int .i64 a1_1] from (k23_mkM _ _ _ (⟨a1_0, a1_1⟩ : S23) )) (Reps.none _ _))))
                                  intro v285 w21 ho22 hb hg_ hnew_
                                  clear hg_ hnew_
                                  (first | rw [← Ny284.out] at ho22 | (simp only [Int.reduceToNat] at ho22; rw [← Ny284.out] at ho22))
                                  have HO286 := Aside0.mk (Kd.R_lower (Kd.R_new' ho22 (Kd.R_lt (kr HO291))) (below_size (bl HB)))
                                  replace HO291 := Aside0.mk (Kd.R_elder' (kr HO291) (Kd.R_base ho22) hb)
                                  replace BK280 := bkb BK280 hb
                                  replace BK281 := bkb BK281 hb
                                  replace BK282 := bkb BK282 hb
                                  replace HB := bst HB hb
                                  clear hb ho22
                                  refine hK.out _ _ (c4 BK280 (e4 BK281)) (fun hHeld => ?_)
                                  clear hK K
                                  refine nrp 18 ?_
                                  exact nrm (hJ4_10 (v285, v290) _ ⟨hHeld, (by (with_reducible repeat (first | apply Kd.R_alloc | apply Kd.R_drewN | apply Kd.R_drew)); exact Kd.R_mono HO286.out (fun _ hk => hk.2)), (by (with_reducible repeat (first | apply Kd.R_alloc | apply Kd.R_drewN | apply Kd.R_drew)); exact Kd.R_mono HO291.out (fun _ hk => hk.2)), (bk BK280), (bk BK281), (bk BK282), (bl HB)⟩)
                                · skip
                                  refine box_step ?hg (N := 6) ?hd (cs := #[.int .i64 0, .int .i64 0, .int .i64 0, .int .i64 0]) (t := 25) ?hr ?_; (case hd => rfl); (case hg => rfl); (case hr => first | (go_simp; done) | (go_simp; rfl))
                                  intro gb299 hg w21 hbox hb
                                  replace HO291 := krb HO291 hb
                                  have BK299 := Aside0.mk (hbox)
                                  have GW299 := lsz hg HB
                                  have GE299 := lsz hg HB
                                  replace HB := bst HB hb
                                  have NB280_299 := nlt hg BK280
                                  have NB299_280 := ngt hg BK280
                                  replace BK280 := bkb BK280 hb
                                  have NB281_299 := nlt hg BK281
                                  have NB299_281 := ngt hg BK281
                                  replace BK281 := bkb BK281 hb
                                  have NB282_299 := nlt hg BK282
                                  have NB299_282 := ngt hg BK282
                                  replace BK282 := bkb BK282 hb
                                  clear hb hbox hg
                                  refine hK.out _ _ (c4 BK280 (e4 BK281)) (fun hHeld => ?_)
                                  clear hK K
                                  refine nrp 6 ?_
                                  exact nrm (hJ10_16 (v290, gb299) _ ⟨hHeld, (kr HO291), (bk BK280), (bk BK281), (bk BK282), (bk BK299), GW299.out, GE299.out, NB280_299.out, NB299_280.out, NB281_299.out, NB299_281.out, NB282_299.out, NB299_282.out, (bl HB)⟩)
                            · skip
                              rintro v285 w20 ⟨hS_, h0_, h1_, h2_, h3_, h4_⟩
                              have HO286 : Aside0 (Kd.R k23 23 w20 w.heap.size (fun _ => True) v285 y284) := ⟨h0_⟩
                              replace BK280 : Aside0 (w20.heap[gb280]? = some (.cells #[.int .i64 a0_0, .int .i64 a0_1, .int .i64 a0_2, .int .i64 a0_3] 25 (0, 0))) := ⟨h1_⟩
                              replace BK281 : Aside0 (w20.heap[gb281]? = some (.cells #[.int .i64 a1_0, .int .i64 a1_1, .int .i64 a1_2, .int .i64 a1_3] 25 (0, 0))) := ⟨h2_⟩
                              replace BK282 : Aside0 (w20.heap[gb282]? = some (.cells #[.int .i64 0, .int .i64 0, .int .i64 0, .int .i64 0] 25 (0, 0))) := ⟨h3_⟩
                              replace HB : Aside0 (Below w.heap.size w w20) := ⟨h4_⟩
                              clear h0_ h1_ h2_ h3_ h4_
                              have hHeld : w20.cell? ⟨gb280, 0, none⟩ = some (.int .i64 a0_0) ∧ w20.cell? ⟨gb280, 1, none⟩ = some (.int .i64 a0_1) ∧ w20.cell? ⟨gb280, 2, none⟩ = some (.int .i64 a0_2) ∧ w20.cell? ⟨gb280, 3, none⟩ = some (.int .i64 a0_3) ∧ w20.cell? ⟨gb281, 0, none⟩ = some (.int .i64 a1_0) ∧ w20.cell? ⟨gb281, 1, none⟩ = some (.int .i64 a1_1) ∧ w20.cell? ⟨gb281, 2, none⟩ = some (.int .i64 a1_2) ∧ w20.cell? ⟨gb281, 3, none⟩ = some (.int .i64 a1_3) := hS_
                              obtain ⟨Ao21, co21, eo21⟩ := Kd.R_slice HO286.out
                              (first | subst eo21 | (injection eo21 with f1_ f2_ f3_; have f4_ := f1_.symm; have f5_ := f3_.symm; clear f1_ f2_ f3_; subst f4_; subst f5_))
                              refine nra ?_
                              refine three_ (i := 5) (j := 10) (k := 16) (Ni := some 19) (Nj := some 24) (Nk := some 6) #[true, true, true, true, true, true, true, true, true, true, false, false, false, false, false, false, false, false, false] #[true, true, true, true, true, false, true, true, true, true, true, false, false, false, false, false, false, false, false] #[true, true, true, true, true, false, true, true, true, true, false, false, false, false, false, false, true, false, false] rfl rfl rfl rfl rfl rfl (three_of HT_.out (by kernel_rfl)) (by decide) (by decide) (by decide) (fun K hK => ?_) (fun K hK => ?_) (fun K hK => ?_)
                              · skip
                                refine goes_ Try.func46 (by kernel_rfl) rfl #[.slice Ao21 y284.length co21] (by rfl) rfl rfl (by (try simp only [List.map_toArray, List.map_cons, List.map_nil]); first | done | rfl | (simp only [List.length_drop, List.length_take]; rfl)) ?_
                                with_reducible refine (cut_Greatest.calls k _ _ y284 t287 t288 _ ?side1 ?side2 A5.out).mono ?_
                                (case side1 => repeat (first | exact (Kd.R_reads' HO286.out).2.2 | (with_reducible refine Kd.C_alloc ?_ _) | (with_reducible refine Kd.C_drewN ?_ _) | (with_reducible refine Kd.C_drew ?_)))
                                (case side2 => exact (Kd.R_reads' HO286.out).2.1)
                                rintro e w22 ⟨rfl, hb⟩
                                refine ⟨_, rfl, ?_⟩
                                replace HO286 := krb HO286 hb
                                replace BK280 := bkb BK280 hb
                                replace BK281 := bkb BK281 hb
                                replace BK282 := bkb BK282 hb
                                replace HB := bst HB hb
                                (try clear hb)
                                (try clear hb2)
                                (try clear hk)
                                (try clear hi)
                                refine hK.out _ _ (c4 BK280 (e4 BK281)) (fun hHeld => ?_)
                                clear hK K
                                refine nrp 19 ?_
                                exact nrm (hJ4_5 (.slice Ao21 y284.length co21) _ ⟨hHeld, (kr HO286), (bk BK280), (bk BK281), (bk BK282), (bl HB)⟩)
                              · skip
                                refine Kd.R_lit_step k23 _ 23 ?hg (N := 24) ?hd (xs := ([(⟨a0_2, a0_3⟩ : S23), (⟨a1_2, a1_3⟩ : S23)] : List (S23))) (inner := [.int .i64 a0_2, .int .i64 a0_3, .int .i64 a1_2, .int .i64 a1_3]) (ok := fun _ => True) (okp := fun _ => True) ?hr ?hp (fun _ hk => hk) trivial (Below.refl _ _) (Nat.le_refl _) (by simp) ?_; (case hd => rfl); (case hg => rfl); (case hr => first | (go_simp; done) | (go_simp; rfl)); (case hp => exact (Reps.c2 (show Kd.M k23 _ _ _ (⟨a0_2, a0_3⟩ : S23) [.int .i64 a0_2, .int .i64 a0_3] from (k23_mkM _ _ _ (⟨a0_2, a0_3⟩ : S23) )) (Reps.c2 (show Kd.M k23 _ _ _ (⟨a1_2, a1_3⟩ : S23) [.int .i64 a1_2, .int .i64 a1_3] from (k23_mkM _ _ _ (⟨a1_2, a1_3⟩ : S23) )) (Reps.none _ _))))
                                intro v290 w21 ho22 hb hg_ hnew_
                                clear hg_ hnew_
                                (first | rw [← Ny289.out] at ho22 | (simp only [Int.reduceToNat] at ho22; rw [← Ny289.out] at ho22))
                                have HO291 := Aside0.mk (Kd.R_lower (Kd.R_new' ho22 (Kd.R_lt (kr HO286))) (below_size (bl HB)))
                                replace HO286 := Aside0.mk (Kd.R_elder' (kr HO286) (Kd.R_base ho22) hb)
                                replace BK280 := bkb BK280 hb
                                replace BK281 := bkb BK281 hb
                                replace BK282 := bkb BK282 hb
                                replace HB := bst HB hb
                                clear hb ho22
                                refine hK.out _ _ (c4 BK280 (e4 BK281)) (fun hHeld => ?_)
                                clear hK K
                                refine nrp 24 ?_
                                exact nrm (hJ4_10 ((Value.slice Ao21 y284.length co21), v290) _ ⟨hHeld, (by (with_reducible repeat (first | apply Kd.R_alloc | apply Kd.R_drewN | apply Kd.R_drew)); exact Kd.R_mono HO286.out (fun _ hk => hk.2)), (by (with_reducible repeat (first | apply Kd.R_alloc | apply Kd.R_drewN | apply Kd.R_drew)); exact Kd.R_mono HO291.out (fun _ hk => hk.2)), (bk BK280), (bk BK281), (bk BK282), (bl HB)⟩)
                              · skip
                                refine box_step ?hg (N := 6) ?hd (cs := #[.int .i64 0, .int .i64 0, .int .i64 0, .int .i64 0]) (t := 25) ?hr ?_; (case hd => rfl); (case hg => rfl); (case hr => first | (go_simp; done) | (go_simp; rfl))
                                intro gb299 hg w21 hbox hb
                                replace HO286 := krb HO286 hb
                                have BK299 := Aside0.mk (hbox)
                                have GW299 := lsz hg HB
                                have GE299 := lsz hg HB
                                replace HB := bst HB hb
                                have NB280_299 := nlt hg BK280
                                have NB299_280 := ngt hg BK280
                                replace BK280 := bkb BK280 hb
                                have NB281_299 := nlt hg BK281
                                have NB299_281 := ngt hg BK281
                                replace BK281 := bkb BK281 hb
                                have NB282_299 := nlt hg BK282
                                have NB299_282 := ngt hg BK282
                                replace BK282 := bkb BK282 hb
                                clear hb hbox hg
                                refine hK.out _ _ (c4 BK280 (e4 BK281)) (fun hHeld => ?_)
                                clear hK K
                                refine nrp 6 ?_
                                exact nrm (hJ4_16 ((Value.slice Ao21 y284.length co21), gb299) _ ⟨hHeld, (kr HO286), (bk BK280), (bk BK281), (bk BK282), (bk BK299), GW299.out, GE299.out, NB280_299.out, NB299_280.out, NB281_299.out, NB299_281.out, NB282_299.out, NB299_282.out, (bl HB)⟩)
                          · skip
                            rintro ⟨v290, gb299⟩ w21 ⟨hS_, h0_, h1_, h2_, h3_, h4_, h5_, h6_, h7_, h8_, h9_, h10_, h11_, h12_, h13_⟩
                            have HO291 : Aside0 (Kd.R k23 23 w21 w.heap.size (fun _ => True) v290 y289) := ⟨h0_⟩
                            replace BK280 : Aside0 (w21.heap[gb280]? = some (.cells #[.int .i64 a0_0, .int .i64 a0_1, .int .i64 a0_2, .int .i64 a0_3] 25 (0, 0))) := ⟨h1_⟩
                            replace BK281 : Aside0 (w21.heap[gb281]? = some (.cells #[.int .i64 a1_0, .int .i64 a1_1, .int .i64 a1_2, .int .i64 a1_3] 25 (0, 0))) := ⟨h2_⟩
                            replace BK282 : Aside0 (w21.heap[gb282]? = some (.cells #[.int .i64 0, .int .i64 0, .int .i64 0, .int .i64 0] 25 (0, 0))) := ⟨h3_⟩
                            have BK299 : Aside0 (w21.heap[gb299]? = some (.cells #[.int .i64 0, .int .i64 0, .int .i64 0, .int .i64 0] 25 (0, 0))) := ⟨h4_⟩
                            have GW299 : Aside0 (w.heap.size ≤ gb299) := ⟨h5_⟩
                            have GE299 : Aside0 (w.heap.size ≤ gb299) := ⟨h6_⟩
                            have NB280_299 : Aside0 (gb280 ≠ gb299) := ⟨h7_⟩
                            have NB299_280 : Aside0 (gb299 ≠ gb280) := ⟨h8_⟩
                            have NB281_299 : Aside0 (gb281 ≠ gb299) := ⟨h9_⟩
                            have NB299_281 : Aside0 (gb299 ≠ gb281) := ⟨h10_⟩
                            have NB282_299 : Aside0 (gb282 ≠ gb299) := ⟨h11_⟩
                            have NB299_282 : Aside0 (gb299 ≠ gb282) := ⟨h12_⟩
                            replace HB : Aside0 (Below w.heap.size w w21) := ⟨h13_⟩
                            clear h0_ h1_ h2_ h3_ h4_ h5_ h6_ h7_ h8_ h9_ h10_ h11_ h12_ h13_
                            have hHeld : w21.cell? ⟨gb280, 0, none⟩ = some (.int .i64 a0_0) ∧ w21.cell? ⟨gb280, 1, none⟩ = some (.int .i64 a0_1) ∧ w21.cell? ⟨gb280, 2, none⟩ = some (.int .i64 a0_2) ∧ w21.cell? ⟨gb280, 3, none⟩ = some (.int .i64 a0_3) ∧ w21.cell? ⟨gb281, 0, none⟩ = some (.int .i64 a1_0) ∧ w21.cell? ⟨gb281, 1, none⟩ = some (.int .i64 a1_1) ∧ w21.cell? ⟨gb281, 2, none⟩ = some (.int .i64 a1_2) ∧ w21.cell? ⟨gb281, 3, none⟩ = some (.int .i64 a1_3) := hS_
                            refine nra ?_
                            refine one_ (i := 4) (N := some 18) #[true, true, true, true, true, false, true, true, true, true, true, false, false, false, false, false, true, false, false] rfl rfl (one_of HT_.out (by kernel_rfl)) (by decide) (fun K hK => ?_)
                            refine Kd.R_lit_step k23 _ 23 ?hg (N := 18) ?hd (xs := ([(⟨a0_0, a0_1⟩ : S23), (⟨a1_0, a1_1⟩ : S23)] : List (S23))) (inner := [.int .i64 a0_0, .int .i64 a0_1, .int .i64 a1_0, .int .i64 a1_1]) (ok := fun _ => True) (okp := fun _ => True) ?hr ?hp (fun _ hk => hk) trivial (Below.refl _ _) (Nat.le_refl _) (by simp) ?_; (case hd => rfl); (case hg => rfl); (case hr => first | (go_simp; done) | (go_simp; rfl)); (case hp => exact (Reps.c2 (show Kd.M k23 _ _ _ (⟨a0_0, a0_1⟩ : S23) [.int .i64 a0_0, .int .i64 a0_1] from (k23_mkM _ _ _ (⟨a0_0, a0_1⟩ : S23) )) (Reps.c2 (show Kd.M k23 _ _ _ (⟨a1_0, a1_1⟩ : S23) [.int .i64 a1_0, .int .i64 a1_1] from (k23_mkM _ _ _ (⟨a1_0, a1_1⟩ : S23) )) (Reps.none _ _))))
                            intro v285 w22 ho23 hb hg_ hnew_
                            clear hg_ hnew_
                            (first | rw [← Ny284.out] at ho23 | (simp only [Int.reduceToNat] at ho23; rw [← Ny284.out] at ho23))
                            have HO286 := Aside0.mk (Kd.R_lower (Kd.R_new' ho23 (Kd.R_lt (kr HO291))) (below_size (bl HB)))
                            replace HO291 := Aside0.mk (Kd.R_elder' (kr HO291) (Kd.R_base ho23) hb)
                            replace BK280 := bkb BK280 hb
                            replace BK281 := bkb BK281 hb
                            replace BK282 := bkb BK282 hb
                            replace BK299 := bkb BK299 hb
                            replace HB := bst HB hb
                            clear hb ho23
                            refine hK.out _ _ (c4 BK280 (e4 BK281)) (fun hHeld => ?_)
                            clear hK K
                            refine nrp 18 ?_
                            exact nrm (hJ4_10_16 (v285, v290, gb299) _ ⟨hHeld, (by (with_reducible repeat (first | apply Kd.R_alloc | apply Kd.R_drewN | apply Kd.R_drew)); exact Kd.R_mono HO286.out (fun _ hk => hk.2)), (by (with_reducible repeat (first | apply Kd.R_alloc | apply Kd.R_drewN | apply Kd.R_drew)); exact Kd.R_mono HO291.out (fun _ hk => hk.2)), (bk BK280), (bk BK281), (bk BK282), (bk BK299), GW299.out, GE299.out, NB280_299.out, NB299_280.out, NB281_299.out, NB299_281.out, NB282_299.out, NB299_282.out, (bl HB)⟩)
                        · skip
                          rintro ⟨v285, gb299⟩ w21 ⟨hS_, h0_, h1_, h2_, h3_, h4_, h5_, h6_, h7_, h8_, h9_, h10_, h11_, h12_, h13_⟩
                          have HO286 : Aside0 (Kd.R k23 23 w21 w.heap.size (fun _ => True) v285 y284) := ⟨h0_⟩
                          replace BK280 : Aside0 (w21.heap[gb280]? = some (.cells #[.int .i64 a0_0, .int .i64 a0_1, .int .i64 a0_2, .int .i64 a0_3] 25 (0, 0))) := ⟨h1_⟩
                          replace BK281 : Aside0 (w21.heap[gb281]? = some (.cells #[.int .i64 a1_0, .int .i64 a1_1, .int .i64 a1_2, .int .i64 a1_3] 25 (0, 0))) := ⟨h2_⟩
                          replace BK282 : Aside0 (w21.heap[gb282]? = some (.cells #[.int .i64 0, .int .i64 0, .int .i64 0, .int .i64 0] 25 (0, 0))) := ⟨h3_⟩
                          have BK299 : Aside0 (w21.heap[gb299]? = some (.cells #[.int .i64 0, .int .i64 0, .int .i64 0, .int .i64 0] 25 (0, 0))) := ⟨h4_⟩
                          have GW299 : Aside0 (w.heap.size ≤ gb299) := ⟨h5_⟩
                          have GE299 : Aside0 (w.heap.size ≤ gb299) := ⟨h6_⟩
                          have NB280_299 : Aside0 (gb280 ≠ gb299) := ⟨h7_⟩
                          have NB299_280 : Aside0 (gb299 ≠ gb280) := ⟨h8_⟩
                          have NB281_299 : Aside0 (gb281 ≠ gb299) := ⟨h9_⟩
                          have NB299_281 : Aside0 (gb299 ≠ gb281) := ⟨h10_⟩
                          have NB282_299 : Aside0 (gb282 ≠ gb299) := ⟨h11_⟩
                          have NB299_282 : Aside0 (gb299 ≠ gb282) := ⟨h12_⟩
                          replace HB : Aside0 (Below w.heap.size w w21) := ⟨h13_⟩
                          clear h0_ h1_ h2_ h3_ h4_ h5_ h6_ h7_ h8_ h9_ h10_ h11_ h12_ h13_
                          have hHeld : w21.cell? ⟨gb280, 0, none⟩ = some (.int .i64 a0_0) ∧ w21.cell? ⟨gb280, 1, none⟩ = some (.int .i64 a0_1) ∧ w21.cell? ⟨gb280, 2, none⟩ = some (.int .i64 a0_2) ∧ w21.cell? ⟨gb280, 3, none⟩ = some (.int .i64 a0_3) ∧ w21.cell? ⟨gb281, 0, none⟩ = some (.int .i64 a1_0) ∧ w21.cell? ⟨gb281, 1, none⟩ = some (.int .i64 a1_1) ∧ w21.cell? ⟨gb281, 2, none⟩ = some (.int .i64 a1_2) ∧ w21.cell? ⟨gb281, 3, none⟩ = some (.int .i64 a1_3) := hS_
                          obtain ⟨Ao22, co22, eo22⟩ := Kd.R_slice HO286.out
                          (first | subst eo22 | (injection eo22 with f1_ f2_ f3_; have f4_ := f1_.symm; have f5_ := f3_.symm; clear f1_ f2_ f3_; subst f4_; subst f5_))
                          refine nra ?_
                          refine two_ (i := 5) (j := 10) (Ni := some 19) (Nj := some 24) #[true, true, true, true, true, true, true, true, true, true, false, false, false, false, false, false, true, false, false] #[true, true, true, true, true, false, true, true, true, true, true, false, false, false, false, false, true, false, false] rfl rfl rfl rfl (two_of HT_.out (by kernel_rfl)) (by decide) (by decide) (fun K hK => ?_) (fun K hK => ?_)
                          · skip
                            refine goes_ Try.func46 (by kernel_rfl) rfl #[.slice Ao22 y284.length co22] (by rfl) rfl rfl (by (try simp only [List.map_toArray, List.map_cons, List.map_nil]); first | done | rfl | (simp only [List.length_drop, List.length_take]; rfl)) ?_
                            with_reducible refine (cut_Greatest.calls k _ _ y284 t287 t288 _ ?side1 ?side2 A5.out).mono ?_
                            (case side1 => repeat (first | exact (Kd.R_reads' HO286.out).2.2 | (with_reducible refine Kd.C_alloc ?_ _) | (with_reducible refine Kd.C_drewN ?_ _) | (with_reducible refine Kd.C_drew ?_)))
                            (case side2 => exact (Kd.R_reads' HO286.out).2.1)
                            rintro e w23 ⟨rfl, hb⟩
                            refine ⟨_, rfl, ?_⟩
                            replace HO286 := krb HO286 hb
                            replace BK280 := bkb BK280 hb
                            replace BK281 := bkb BK281 hb
                            replace BK282 := bkb BK282 hb
                            replace BK299 := bkb BK299 hb
                            replace HB := bst HB hb
                            (try clear hb)
                            (try clear hb2)
                            (try clear hk)
                            (try clear hi)
                            refine hK.out _ _ (c4 BK280 (e4 BK281)) (fun hHeld => ?_)
                            clear hK K
                            refine nrp 19 ?_
                            exact nrm (hJ4_5_16 (.slice Ao22 y284.length co22, gb299) _ ⟨hHeld, (kr HO286), (bk BK280), (bk BK281), (bk BK282), (bk BK299), GW299.out, GE299.out, NB280_299.out, NB299_280.out, NB281_299.out, NB299_281.out, NB282_299.out, NB299_282.out, (bl HB)⟩)
                          · skip
                            refine Kd.R_lit_step k23 _ 23 ?hg (N := 24) ?hd (xs := ([(⟨a0_2, a0_3⟩ : S23), (⟨a1_2, a1_3⟩ : S23)] : List (S23))) (inner := [.int .i64 a0_2, .int .i64 a0_3, .int .i64 a1_2, .int .i64 a1_3]) (ok := fun _ => True) (okp := fun _ => True) ?hr ?hp (fun _ hk => hk) trivial (Below.refl _ _) (Nat.le_refl _) (by simp) ?_; (case hd => rfl); (case hg => rfl); (case hr => first | (go_simp; done) | (go_simp; rfl)); (case hp => exact (Reps.c2 (show Kd.M k23 _ _ _ (⟨a0_2, a0_3⟩ : S23) [.int .i64 a0_2, .int .i64 a0_3] from (k23_mkM _ _ _ (⟨a0_2, a0_3⟩ : S23) )) (Reps.c2 (show Kd.M k23 _ _ _ (⟨a1_2, a1_3⟩ : S23) [.int .i64 a1_2, .int .i64 a1_3] from (k23_mkM _ _ _ (⟨a1_2, a1_3⟩ : S23) )) (Reps.none _ _))))
                            intro v290 w22 ho23 hb hg_ hnew_
                            clear hg_ hnew_
                            (first | rw [← Ny289.out] at ho23 | (simp only [Int.reduceToNat] at ho23; rw [← Ny289.out] at ho23))
                            have HO291 := Aside0.mk (Kd.R_lower (Kd.R_new' ho23 (Kd.R_lt (kr HO286))) (below_size (bl HB)))
                            replace HO286 := Aside0.mk (Kd.R_elder' (kr HO286) (Kd.R_base ho23) hb)
                            replace BK280 := bkb BK280 hb
                            replace BK281 := bkb BK281 hb
                            replace BK282 := bkb BK282 hb
                            replace BK299 := bkb BK299 hb
                            replace HB := bst HB hb
                            clear hb ho23
                            refine hK.out _ _ (c4 BK280 (e4 BK281)) (fun hHeld => ?_)
                            clear hK K
                            refine nrp 24 ?_
                            exact nrm (hJ4_10_16 ((Value.slice Ao22 y284.length co22), v290, gb299) _ ⟨hHeld, (by (with_reducible repeat (first | apply Kd.R_alloc | apply Kd.R_drewN | apply Kd.R_drew)); exact Kd.R_mono HO286.out (fun _ hk => hk.2)), (by (with_reducible repeat (first | apply Kd.R_alloc | apply Kd.R_drewN | apply Kd.R_drew)); exact Kd.R_mono HO291.out (fun _ hk => hk.2)), (bk BK280), (bk BK281), (bk BK282), (bk BK299), GW299.out, GE299.out, NB280_299.out, NB299_280.out, NB281_299.out, NB299_281.out, NB282_299.out, NB299_282.out, (bl HB)⟩)
                      · skip
                        rintro ⟨v285, v290⟩ w22 ⟨hS_, h0_, h1_, h2_, h3_, h4_, h5_⟩
                        have HO286 : Aside0 (Kd.R k23 23 w22 w.heap.size (fun k_ => some k_ ≠ (v290 : Value).ownBlock) v285 y284) := ⟨h0_⟩
                        have HO291 : Aside0 (Kd.R k23 23 w22 w.heap.size (fun k_ => some k_ ≠ (v285 : Value).ownBlock) v290 y289) := ⟨h1_⟩
                        replace BK280 : Aside0 (w22.heap[gb280]? = some (.cells #[.int .i64 a0_0, .int .i64 a0_1, .int .i64 a0_2, .int .i64 a0_3] 25 (0, 0))) := ⟨h2_⟩
                        replace BK281 : Aside0 (w22.heap[gb281]? = some (.cells #[.int .i64 a1_0, .int .i64 a1_1, .int .i64 a1_2, .int .i64 a1_3] 25 (0, 0))) := ⟨h3_⟩
                        replace BK282 : Aside0 (w22.heap[gb282]? = some (.cells #[.int .i64 0, .int .i64 0, .int .i64 0, .int .i64 0] 25 (0, 0))) := ⟨h4_⟩
                        replace HB : Aside0 (Below w.heap.size w w22) := ⟨h5_⟩
                        clear h0_ h1_ h2_ h3_ h4_ h5_
                        have hHeld : w22.cell? ⟨gb280, 0, none⟩ = some (.int .i64 a0_0) ∧ w22.cell? ⟨gb280, 1, none⟩ = some (.int .i64 a0_1) ∧ w22.cell? ⟨gb280, 2, none⟩ = some (.int .i64 a0_2) ∧ w22.cell? ⟨gb280, 3, none⟩ = some (.int .i64 a0_3) ∧ w22.cell? ⟨gb281, 0, none⟩ = some (.int .i64 a1_0) ∧ w22.cell? ⟨gb281, 1, none⟩ = some (.int .i64 a1_1) ∧ w22.cell? ⟨gb281, 2, none⟩ = some (.int .i64 a1_2) ∧ w22.cell? ⟨gb281, 3, none⟩ = some (.int .i64 a1_3) := hS_
                        obtain ⟨Ao23, co23, eo23⟩ := Kd.R_slice HO286.out
                        (first | subst eo23 | (injection eo23 with f1_ f2_ f3_; have f4_ := f1_.symm; have f5_ := f3_.symm; clear f1_ f2_ f3_; subst f4_; subst f5_))
                        refine nra ?_
                        refine two_ (i := 5) (j := 16) (Ni := some 19) (Nj := some 6) #[true, true, true, true, true, true, true, true, true, true, true, false, false, false, false, false, false, false, false] #[true, true, true, true, true, false, true, true, true, true, true, false, false, false, false, false, true, false, false] rfl rfl rfl rfl (two_of HT_.out (by kernel_rfl)) (by decide) (by decide) (fun K hK => ?_) (fun K hK => ?_)
                        · skip
                          refine goes_ Try.func46 (by kernel_rfl) rfl #[.slice Ao23 y284.length co23] (by rfl) rfl rfl (by (try simp only [List.map_toArray, List.map_cons, List.map_nil]); first | done | rfl | (simp only [List.length_drop, List.length_take]; rfl)) ?_
                          with_reducible refine (cut_Greatest.calls k _ _ y284 t287 t288 _ ?side1 ?side2 A5.out).mono ?_
                          (case side1 => repeat (first | exact (Kd.R_reads' HO286.out).2.2 | (with_reducible refine Kd.C_alloc ?_ _) | (with_reducible refine Kd.C_drewN ?_ _) | (with_reducible refine Kd.C_drew ?_)))
                          (case side2 => exact (Kd.R_reads' HO286.out).2.1)
                          rintro e w24 ⟨rfl, hb⟩
                          refine ⟨_, rfl, ?_⟩
                          replace HO286 := krb HO286 hb
                          replace HO291 := krb HO291 hb
                          replace BK280 := bkb BK280 hb
                          replace BK281 := bkb BK281 hb
                          replace BK282 := bkb BK282 hb
                          replace HB := bst HB hb
                          (try clear hb)
                          (try clear hb2)
                          (try clear hk)
                          (try clear hi)
                          refine hK.out _ _ (c4 BK280 (e4 BK281)) (fun hHeld => ?_)
                          clear hK K
                          refine nrp 19 ?_
                          exact nrm (hJ4_5_10 (.slice Ao23 y284.length co23, v290) _ ⟨hHeld, (kr HO286), (kr HO291), (bk BK280), (bk BK281), (bk BK282), (bl HB)⟩)
                        · skip
                          refine box_step ?hg (N := 6) ?hd (cs := #[.int .i64 0, .int .i64 0, .int .i64 0, .int .i64 0]) (t := 25) ?hr ?_; (case hd => rfl); (case hg => rfl); (case hr => first | (go_simp; done) | (go_simp; rfl))
                          intro gb299 hg w23 hbox hb
                          replace HO286 := krb HO286 hb
                          replace HO291 := krb HO291 hb
                          have BK299 := Aside0.mk (hbox)
                          have GW299 := lsz hg HB
                          have GE299 := lsz hg HB
                          replace HB := bst HB hb
                          have NB280_299 := nlt hg BK280
                          have NB299_280 := ngt hg BK280
                          replace BK280 := bkb BK280 hb
                          have NB281_299 := nlt hg BK281
                          have NB299_281 := ngt hg BK281
                          replace BK281 := bkb BK281 hb
                          have NB282_299 := nlt hg BK282
                          have NB299_282 := ngt hg BK282
                          replace BK282 := bkb BK282 hb
                          clear hb hbox hg
                          refine hK.out _ _ (c4 BK280 (e4 BK281)) (fun hHeld => ?_)
                          clear hK K
                          refine nrp 6 ?_
                          exact nrm (hJ4_10_16 ((Value.slice Ao23 y284.length co23), v290, gb299) _ ⟨hHeld, (kr HO286), (kr HO291), (bk BK280), (bk BK281), (bk BK282), (bk BK299), GW299.out, GE299.out, NB280_299.out, NB299_280.out, NB281_299.out, NB299_281.out, NB282_299.out, NB299_282.out, (bl HB)⟩)
                    · skip
                      rintro v285 w22 ⟨hS_, h0_, h1_, h2_, h3_, h4_⟩
                      have HO286 : Aside0 (Kd.R k23 23 w22 w.heap.size (fun _ => True) v285 y284) := ⟨h0_⟩
                      replace BK280 : Aside0 (w22.heap[gb280]? = some (.cells #[.int .i64 a0_0, .int .i64 a0_1, .int .i64 a0_2, .int .i64 a0_3] 25 (0, 0))) := ⟨h1_⟩
                      replace BK281 : Aside0 (w22.heap[gb281]? = some (.cells #[.int .i64 a1_0, .int .i64 a1_1, .int .i64 a1_2, .int .i64 a1_3] 25 (0, 0))) := ⟨h2_⟩
                      replace BK282 : Aside0 (w22.heap[gb282]? = some (.cells #[.int .i64 0, .int .i64 0, .int .i64 0, .int .i64 0] 25 (0, 0))) := ⟨h3_⟩
                      replace HB : Aside0 (Below w.heap.size w w22) := ⟨h4_⟩
                      clear h0_ h1_ h2_ h3_ h4_
                      have hHeld : w22.cell? ⟨gb280, 0, none⟩ = some (.int .i64 a0_0) ∧ w22.cell? ⟨gb280, 1, none⟩ = some (.int .i64 a0_1) ∧ w22.cell? ⟨gb280, 2, none⟩ = some (.int .i64 a0_2) ∧ w22.cell? ⟨gb280, 3, none⟩ = some (.int .i64 a0_3) ∧ w22.cell? ⟨gb281, 0, none⟩ = some (.int .i64 a1_0) ∧ w22.cell? ⟨gb281, 1, none⟩ = some (.int .i64 a1_1) ∧ w22.cell? ⟨gb281, 2, none⟩ = some (.int .i64 a1_2) ∧ w22.cell? ⟨gb281, 3, none⟩ = some (.int .i64 a1_3) := hS_
                      refine nra ?_
                      refine two_ (i := 10) (j := 16) (Ni := some 24) (Nj := some 6) #[true, true, true, true, true, true, true, true, true, true, true, false, false, false, false, false, false, false, false] #[true, true, true, true, true, true, true, true, true, true, false, false, false, false, false, false, true, false, false] rfl rfl rfl rfl (two_of HT_.out (by kernel_rfl)) (by decide) (by decide) (fun K hK => ?_) (fun K hK => ?_)
                      · skip
                        refine Kd.R_lit_step k23 _ 23 ?hg (N := 24) ?hd (xs := ([(⟨a0_2, a0_3⟩ : S23), (⟨a1_2, a1_3⟩ : S23)] : List (S23))) (inner := [.int .i64 a0_2, .int .i64 a0_3, .int .i64 a1_2, .int .i64 a1_3]) (ok := fun _ => True) (okp := fun _ => True) ?hr ?hp (fun _ hk => hk) trivial (Below.refl _ _) (Nat.le_refl _) (by simp) ?_; (case hd => rfl); (case hg => rfl); (case hr => first | (go_simp; done) | (go_simp; rfl)); (case hp => exact (Reps.c2 (show Kd.M k23 _ _ _ (⟨a0_2, a0_3⟩ : S23) [.int .i64 a0_2, .int .i64 a0_3] from (k23_mkM _ _ _ (⟨a0_2, a0_3⟩ : S23) )) (Reps.c2 (show Kd.M k23 _ _ _ (⟨a1_2, a1_3⟩ : S23) [.int .i64 a1_2, .int .i64 a1_3] from (k23_mkM _ _ _ (⟨a1_2, a1_3⟩ : S23) )) (Reps.none _ _))))
                        intro v290 w23 ho24 hb hg_ hnew_
                        clear hg_ hnew_
                        (first | rw [← Ny289.out] at ho24 | (simp only [Int.reduceToNat] at ho24; rw [← Ny289.out] at ho24))
                        have HO291 := Aside0.mk (Kd.R_lower (Kd.R_new' ho24 (Kd.R_lt (kr HO286))) (below_size (bl HB)))
                        replace HO286 := Aside0.mk (Kd.R_elder' (kr HO286) (Kd.R_base ho24) hb)
                        replace BK280 := bkb BK280 hb
                        replace BK281 := bkb BK281 hb
                        replace BK282 := bkb BK282 hb
                        replace HB := bst HB hb
                        clear hb ho24
                        refine hK.out _ _ (c4 BK280 (e4 BK281)) (fun hHeld => ?_)
                        clear hK K
                        refine nrp 24 ?_
                        exact nrm (hJ4_5_10 (v285, v290) _ ⟨hHeld, (by (with_reducible repeat (first | apply Kd.R_alloc | apply Kd.R_drewN | apply Kd.R_drew)); exact Kd.R_mono HO286.out (fun _ hk => hk.2)), (by (with_reducible repeat (first | apply Kd.R_alloc | apply Kd.R_drewN | apply Kd.R_drew)); exact Kd.R_mono HO291.out (fun _ hk => hk.2)), (bk BK280), (bk BK281), (bk BK282), (bl HB)⟩)
                      · skip
                        refine box_step ?hg (N := 6) ?hd (cs := #[.int .i64 0, .int .i64 0, .int .i64 0, .int .i64 0]) (t := 25) ?hr ?_; (case hd => rfl); (case hg => rfl); (case hr => first | (go_simp; done) | (go_simp; rfl))
                        intro gb299 hg w23 hbox hb
                        replace HO286 := krb HO286 hb
                        have BK299 := Aside0.mk (hbox)
                        have GW299 := lsz hg HB
                        have GE299 := lsz hg HB
                        replace HB := bst HB hb
                        have NB280_299 := nlt hg BK280
                        have NB299_280 := ngt hg BK280
                        replace BK280 := bkb BK280 hb
                        have NB281_299 := nlt hg BK281
                        have NB299_281 := ngt hg BK281
                        replace BK281 := bkb BK281 hb
                        have NB282_299 := nlt hg BK282
                        have NB299_282 := ngt hg BK282
                        replace BK282 := bkb BK282 hb
                        clear hb hbox hg
                        refine hK.out _ _ (c4 BK280 (e4 BK281)) (fun hHeld => ?_)
                        clear hK K
                        refine nrp 6 ?_
                        exact nrm (hJ4_5_16 (v285, gb299) _ ⟨hHeld, (kr HO286), (bk BK280), (bk BK281), (bk BK282), (bk BK299), GW299.out, GE299.out, NB280_299.out, NB299_280.out, NB281_299.out, NB299_281.out, NB282_299.out, NB299_282.out, (bl HB)⟩)
                  · skip
                    rintro ⟨v285, v290, gb299⟩ w23 ⟨hS_, h0_, h1_, h2_, h3_, h4_, h5_, h6_, h7_, h8_, h9_, h10_, h11_, h12_, h13_, h14_⟩
                    have HO286 : Aside0 (Kd.R k23 23 w23 w.heap.size (fun k_ => some k_ ≠ (v290 : Value).ownBlock) v285 y284) := ⟨h0_⟩
                    have HO291 : Aside0 (Kd.R k23 23 w23 w.heap.size (fun k_ => some k_ ≠ (v285 : Value).ownBlock) v290 y289) := ⟨h1_⟩
                    replace BK280 : Aside0 (w23.heap[gb280]? = some (.cells #[.int .i64 a0_0, .int .i64 a0_1, .int .i64 a0_2, .int .i64 a0_3] 25 (0, 0))) := ⟨h2_⟩
                    replace BK281 : Aside0 (w23.heap[gb281]? = some (.cells #[.int .i64 a1_0, .int .i64 a1_1, .int .i64 a1_2, .int .i64 a1_3] 25 (0, 0))) := ⟨h3_⟩
                    replace BK282 : Aside0 (w23.heap[gb282]? = some (.cells #[.int .i64 0, .int .i64 0, .int .i64 0, .int .i64 0] 25 (0, 0))) := ⟨h4_⟩
                    have BK299 : Aside0 (w23.heap[gb299]? = some (.cells #[.int .i64 0, .int .i64 0, .int .i64 0, .int .i64 0] 25 (0, 0))) := ⟨h5_⟩
                    have GW299 : Aside0 (w.heap.size ≤ gb299) := ⟨h6_⟩
                    have GE299 : Aside0 (w.heap.size ≤ gb299) := ⟨h7_⟩
                    have NB280_299 : Aside0 (gb280 ≠ gb299) := ⟨h8_⟩
                    have NB299_280 : Aside0 (gb299 ≠ gb280) := ⟨h9_⟩
                    have NB281_299 : Aside0 (gb281 ≠ gb299) := ⟨h10_⟩
                    have NB299_281 : Aside0 (gb299 ≠ gb281) := ⟨h11_⟩
                    have NB282_299 : Aside0 (gb282 ≠ gb299) := ⟨h12_⟩
                    have NB299_282 : Aside0 (gb299 ≠ gb282) := ⟨h13_⟩
                    replace HB : Aside0 (Below w.heap.size w w23) := ⟨h14_⟩
                    clear h0_ h1_ h2_ h3_ h4_ h5_ h6_ h7_ h8_ h9_ h10_ h11_ h12_ h13_ h14_
                    have hHeld : w23.cell? ⟨gb280, 0, none⟩ = some (.int .i64 a0_0) ∧ w23.cell? ⟨gb280, 1, none⟩ = some (.int .i64 a0_1) ∧ w23.cell? ⟨gb280, 2, none⟩ = some (.int .i64 a0_2) ∧ w23.cell? ⟨gb280, 3, none⟩ = some (.int .i64 a0_3) ∧ w23.cell? ⟨gb281, 0, none⟩ = some (.int .i64 a1_0) ∧ w23.cell? ⟨gb281, 1, none⟩ = some (.int .i64 a1_1) ∧ w23.cell? ⟨gb281, 2, none⟩ = some (.int .i64 a1_2) ∧ w23.cell? ⟨gb281, 3, none⟩ = some (.int .i64 a1_3) := hS_
                    obtain ⟨Ao24, co24, eo24⟩ := Kd.R_slice HO286.out
                    (first | subst eo24 | (injection eo24 with f1_ f2_ f3_; have f4_ := f1_.symm; have f5_ := f3_.symm; clear f1_ f2_ f3_; subst f4_; subst f5_))
                    refine nra ?_
                    refine one_ (i := 5) (N := some 19) #[true, true, true, true, true, true, true, true, true, true, true, false, false, false, false, false, true, false, false] rfl rfl (one_of HT_.out (by kernel_rfl)) (by decide) (fun K hK => ?_)
                    refine goes_ Try.func46 (by kernel_rfl) rfl #[.slice Ao24 y284.length co24] (by rfl) rfl rfl (by (try simp only [List.map_toArray, List.map_cons, List.map_nil]); first | done | rfl | (simp only [List.length_drop, List.length_take]; rfl)) ?_
                    with_reducible refine (cut_Greatest.calls k _ _ y284 t287 t288 _ ?side1 ?side2 A5.out).mono ?_
                    (case side1 => repeat (first | exact (Kd.R_reads' HO286.out).2.2 | (with_reducible refine Kd.C_alloc ?_ _) | (with_reducible refine Kd.C_drewN ?_ _) | (with_reducible refine Kd.C_drew ?_)))
                    (case side2 => exact (Kd.R_reads' HO286.out).2.1)
                    rintro e w25 ⟨rfl, hb⟩
                    refine ⟨_, rfl, ?_⟩
                    replace HO286 := krb HO286 hb
                    replace HO291 := krb HO291 hb
                    replace BK280 := bkb BK280 hb
                    replace BK281 := bkb BK281 hb
                    replace BK282 := bkb BK282 hb
                    replace BK299 := bkb BK299 hb
                    replace HB := bst HB hb
                    (try clear hb)
                    (try clear hb2)
                    (try clear hk)
                    (try clear hi)
                    refine hK.out _ _ (c4 BK280 (e4 BK281)) (fun hHeld => ?_)
                    clear hK K
                    refine nrp 19 ?_
                    exact nrm (hJ4_5_10_16 (.slice Ao24 y284.length co24, v290, gb299) _ ⟨hHeld, (kr HO286), (kr HO291), (bk BK280), (bk BK281), (bk BK282), (bk BK299), GW299.out, GE299.out, NB280_299.out, NB299_280.out, NB281_299.out, NB299_281.out, NB282_299.out, NB299_282.out, (bl HB)⟩)
                · skip
                  rintro ⟨v285, gb299⟩ w23 ⟨hS_, h0_, h1_, h2_, h3_, h4_, h5_, h6_, h7_, h8_, h9_, h10_, h11_, h12_, h13_⟩
                  have HO286 : Aside0 (Kd.R k23 23 w23 w.heap.size (fun _ => True) v285 y284) := ⟨h0_⟩
                  replace BK280 : Aside0 (w23.heap[gb280]? = some (.cells #[.int .i64 a0_0, .int .i64 a0_1, .int .i64 a0_2, .int .i64 a0_3] 25 (0, 0))) := ⟨h1_⟩
                  replace BK281 : Aside0 (w23.heap[gb281]? = some (.cells #[.int .i64 a1_0, .int .i64 a1_1, .int .i64 a1_2, .int .i64 a1_3] 25 (0, 0))) := ⟨h2_⟩
                  replace BK282 : Aside0 (w23.heap[gb282]? = some (.cells #[.int .i64 0, .int .i64 0, .int .i64 0, .int .i64 0] 25 (0, 0))) := ⟨h3_⟩
                  have BK299 : Aside0 (w23.heap[gb299]? = some (.cells #[.int .i64 0, .int .i64 0, .int .i64 0, .int .i64 0] 25 (0, 0))) := ⟨h4_⟩
                  have GW299 : Aside0 (w.heap.size ≤ gb299) := ⟨h5_⟩
                  have GE299 : Aside0 (w.heap.size ≤ gb299) := ⟨h6_⟩
                  have NB280_299 : Aside0 (gb280 ≠ gb299) := ⟨h7_⟩
                  have NB299_280 : Aside0 (gb299 ≠ gb280) := ⟨h8_⟩
                  have NB281_299 : Aside0 (gb281 ≠ gb299) := ⟨h9_⟩
                  have NB299_281 : Aside0 (gb299 ≠ gb281) := ⟨h10_⟩
                  have NB282_299 : Aside0 (gb282 ≠ gb299) := ⟨h11_⟩
                  have NB299_282 : Aside0 (gb299 ≠ gb282) := ⟨h12_⟩
                  replace HB : Aside0 (Below w.heap.size w w23) := ⟨h13_⟩
                  clear h0_ h1_ h2_ h3_ h4_ h5_ h6_ h7_ h8_ h9_ h10_ h11_ h12_ h13_
                  have hHeld : w23.cell? ⟨gb280, 0, none⟩ = some (.int .i64 a0_0) ∧ w23.cell? ⟨gb280, 1, none⟩ = some (.int .i64 a0_1) ∧ w23.cell? ⟨gb280, 2, none⟩ = some (.int .i64 a0_2) ∧ w23.cell? ⟨gb280, 3, none⟩ = some (.int .i64 a0_3) ∧ w23.cell? ⟨gb281, 0, none⟩ = some (.int .i64 a1_0) ∧ w23.cell? ⟨gb281, 1, none⟩ = some (.int .i64 a1_1) ∧ w23.cell? ⟨gb281, 2, none⟩ = some (.int .i64 a1_2) ∧ w23.cell? ⟨gb281, 3, none⟩ = some (.int .i64 a1_3) := hS_
                  refine nra ?_
                  refine one_ (i := 10) (N := some 24) #[true, true, true, true, true, true, true, true, true, true, true, false, false, false, false, false, true, false, false] rfl rfl (one_of HT_.out (by kernel_rfl)) (by decide) (fun K hK => ?_)
                  refine Kd.R_lit_step k23 _ 23 ?hg (N := 24) ?hd (xs := ([(⟨a0_2, a0_3⟩ : S23), (⟨a1_2, a1_3⟩ : S23)] : List (S23))) (inner := [.int .i64 a0_2, .int .i64 a0_3, .int .i64 a1_2, .int .i64 a1_3]) (ok := fun _ => True) (okp := fun _ => True) ?hr ?hp (fun _ hk => hk) trivial (Below.refl _ _) (Nat.le_refl _) (by simp) ?_; (case hd => rfl); (case hg => rfl); (case hr => first | (go_simp; done) | (go_simp; rfl)); (case hp => exact (Reps.c2 (show Kd.M k23 _ _ _ (⟨a0_2, a0_3⟩ : S23) [.int .i64 a0_2, .int .i64 a0_3] from (k23_mkM _ _ _ (⟨a0_2, a0_3⟩ : S23) )) (Reps.c2 (show Kd.M k23 _ _ _ (⟨a1_2, a1_3⟩ : S23) [.int .i64 a1_2, .int .i64 a1_3] from (k23_mkM _ _ _ (⟨a1_2, a1_3⟩ : S23) )) (Reps.none _ _))))
                  intro v290 w24 ho25 hb hg_ hnew_
                  clear hg_ hnew_
                  (first | rw [← Ny289.out] at ho25 | (simp only [Int.reduceToNat] at ho25; rw [← Ny289.out] at ho25))
                  have HO291 := Aside0.mk (Kd.R_lower (Kd.R_new' ho25 (Kd.R_lt (kr HO286))) (below_size (bl HB)))
                  replace HO286 := Aside0.mk (Kd.R_elder' (kr HO286) (Kd.R_base ho25) hb)
                  replace BK280 := bkb BK280 hb
                  replace BK281 := bkb BK281 hb
                  replace BK282 := bkb BK282 hb
                  replace BK299 := bkb BK299 hb
                  replace HB := bst HB hb
                  clear hb ho25
                  refine hK.out _ _ (c4 BK280 (e4 BK281)) (fun hHeld => ?_)
                  clear hK K
                  refine nrp 24 ?_
                  exact nrm (hJ4_5_10_16 (v285, v290, gb299) _ ⟨hHeld, (by (with_reducible repeat (first | apply Kd.R_alloc | apply Kd.R_drewN | apply Kd.R_drew)); exact Kd.R_mono HO286.out (fun _ hk => hk.2)), (by (with_reducible repeat (first | apply Kd.R_alloc | apply Kd.R_drewN | apply Kd.R_drew)); exact Kd.R_mono HO291.out (fun _ hk => hk.2)), (bk BK280), (bk BK281), (bk BK282), (bk BK299), GW299.out, GE299.out, NB280_299.out, NB299_280.out, NB281_299.out, NB299_281.out, NB282_299.out, NB299_282.out, (bl HB)⟩)
              · skip
                rintro ⟨v285, v290⟩ w24 ⟨hS_, h0_, h1_, h2_, h3_, h4_, h5_⟩
                have HO286 : Aside0 (Kd.R k23 23 w24 w.heap.size (fun k_ => some k_ ≠ (v290 : Value).ownBlock) v285 y284) := ⟨h0_⟩
                have HO291 : Aside0 (Kd.R k23 23 w24 w.heap.size (fun k_ => some k_ ≠ (v285 : Value).ownBlock) v290 y289) := ⟨h1_⟩
                replace BK280 : Aside0 (w24.heap[gb280]? = some (.cells #[.int .i64 a0_0, .int .i64 a0_1, .int .i64 a0_2, .int .i64 a0_3] 25 (0, 0))) := ⟨h2_⟩
                replace BK281 : Aside0 (w24.heap[gb281]? = some (.cells #[.int .i64 a1_0, .int .i64 a1_1, .int .i64 a1_2, .int .i64 a1_3] 25 (0, 0))) := ⟨h3_⟩
                replace BK282 : Aside0 (w24.heap[gb282]? = some (.cells #[.int .i64 0, .int .i64 0, .int .i64 0, .int .i64 0] 25 (0, 0))) := ⟨h4_⟩
                replace HB : Aside0 (Below w.heap.size w w24) := ⟨h5_⟩
                clear h0_ h1_ h2_ h3_ h4_ h5_
                have hHeld : w24.cell? ⟨gb280, 0, none⟩ = some (.int .i64 a0_0) ∧ w24.cell? ⟨gb280, 1, none⟩ = some (.int .i64 a0_1) ∧ w24.cell? ⟨gb280, 2, none⟩ = some (.int .i64 a0_2) ∧ w24.cell? ⟨gb280, 3, none⟩ = some (.int .i64 a0_3) ∧ w24.cell? ⟨gb281, 0, none⟩ = some (.int .i64 a1_0) ∧ w24.cell? ⟨gb281, 1, none⟩ = some (.int .i64 a1_1) ∧ w24.cell? ⟨gb281, 2, none⟩ = some (.int .i64 a1_2) ∧ w24.cell? ⟨gb281, 3, none⟩ = some (.int .i64 a1_3) := hS_
                obtain ⟨Ao25, co25, eo25⟩ := Kd.R_slice HO291.out
                (first | subst eo25 | (injection eo25 with f1_ f2_ f3_; have f4_ := f1_.symm; have f5_ := f3_.symm; clear f1_ f2_ f3_; subst f4_; subst f5_))
                refine nra ?_
                refine two_ (i := 11) (j := 16) (Ni := some 25) (Nj := some 6) #[true, true, true, true, true, true, true, true, true, true, true, true, false, false, false, false, false, false, false] #[true, true, true, true, true, true, true, true, true, true, true, false, false, false, false, false, true, false, false] rfl rfl rfl rfl (two_of HT_.out (by kernel_rfl)) (by decide) (by decide) (fun K hK => ?_) (fun K hK => ?_)
                · skip
                  refine goes_ Try.func47 (by kernel_rfl) rfl #[.slice Ao25 y289.length co25] (by rfl) rfl rfl (by (try simp only [List.map_toArray, List.map_cons, List.map_nil]); first | done | rfl | (simp only [List.length_drop, List.length_take]; rfl)) ?_
                  with_reducible refine (cut_Least.calls k _ _ y289 t292 t293 _ ?side1 ?side2 A6.out).mono ?_
                  (case side1 => repeat (first | exact (Kd.R_reads' HO291.out).2.2 | (with_reducible refine Kd.C_alloc ?_ _) | (with_reducible refine Kd.C_drewN ?_ _) | (with_reducible refine Kd.C_drew ?_)))
                  (case side2 => exact (Kd.R_reads' HO291.out).2.1)
                  rintro e w26 ⟨rfl, hb⟩
                  refine ⟨_, rfl, ?_⟩
                  replace HO286 := krb HO286 hb
                  replace HO291 := krb HO291 hb
                  replace BK280 := bkb BK280 hb
                  replace BK281 := bkb BK281 hb
                  replace BK282 := bkb BK282 hb
                  replace HB := bst HB hb
                  (try clear hb)
                  (try clear hb2)
                  (try clear hk)
                  (try clear hi)
                  refine hK.out _ _ (c4 BK280 (e4 BK281)) (fun hHeld => ?_)
                  clear hK K
                  refine nrp 25 ?_
                  exact nrm (hJ4_5_10_11 (v285, .slice Ao25 y289.length co25) _ ⟨hHeld, (kr HO286), (kr HO291), (bk BK280), (bk BK281), (bk BK282), (bl HB)⟩)
                · skip
                  refine box_step ?hg (N := 6) ?hd (cs := #[.int .i64 0, .int .i64 0, .int .i64 0, .int .i64 0]) (t := 25) ?hr ?_; (case hd => rfl); (case hg => rfl); (case hr => first | (go_simp; done) | (go_simp; rfl))
                  intro gb299 hg w25 hbox hb
                  replace HO286 := krb HO286 hb
                  replace HO291 := krb HO291 hb
                  have BK299 := Aside0.mk (hbox)
                  have GW299 := lsz hg HB
                  have GE299 := lsz hg HB
                  replace HB := bst HB hb
                  have NB280_299 := nlt hg BK280
                  have NB299_280 := ngt hg BK280
                  replace BK280 := bkb BK280 hb
                  have NB281_299 := nlt hg BK281
                  have NB299_281 := ngt hg BK281
                  replace BK281 := bkb BK281 hb
                  have NB282_299 := nlt hg BK282
                  have NB299_282 := ngt hg BK282
                  replace BK282 := bkb BK282 hb
                  clear hb hbox hg
                  refine hK.out _ _ (c4 BK280 (e4 BK281)) (fun hHeld => ?_)
                  clear hK K
                  refine nrp 6 ?_
                  exact nrm (hJ4_5_10_16 (v285, (Value.slice Ao25 y289.length co25), gb299) _ ⟨hHeld, (kr HO286), (kr HO291), (bk BK280), (bk BK281), (bk BK282), (bk BK299), GW299.out, GE299.out, NB280_299.out, NB299_280.out, NB281_299.out, NB299_281.out, NB282_299.out, NB299_282.out, (bl HB)⟩)
            · skip
              rintro ⟨v285, v290, gb299⟩ w25 ⟨hS_, h0_, h1_, h2_, h3_, h4_, h5_, h6_, h7_, h8_, h9_, h10_, h11_, h12_, h13_, h14_⟩
              have HO286 : Aside0 (Kd.R k23 23 w25 w.heap.size (fun k_ => some k_ ≠ (v290 : Value).ownBlock) v285 y284) := ⟨h0_⟩
              have HO291 : Aside0 (Kd.R k23 23 w25 w.heap.size (fun k_ => some k_ ≠ (v285 : Value).ownBlock) v290 y289) := ⟨h1_⟩
              replace BK280 : Aside0 (w25.heap[gb280]? = some (.cells #[.int .i64 a0_0, .int .i64 a0_1, .int .i64 a0_2, .int .i64 a0_3] 25 (0, 0))) := ⟨h2_⟩
              replace BK281 : Aside0 (w25.heap[gb281]? = some (.cells #[.int .i64 a1_0, .int .i64 a1_1, .int .i64 a1_2, .int .i64 a1_3] 25 (0, 0))) := ⟨h3_⟩
              replace BK282 : Aside0 (w25.heap[gb282]? = some (.cells #[.int .i64 0, .int .i64 0, .int .i64 0, .int .i64 0] 25 (0, 0))) := ⟨h4_⟩
              have BK299 : Aside0 (w25.heap[gb299]? = some (.cells #[.int .i64 0, .int .i64 0, .int .i64 0, .int .i64 0] 25 (0, 0))) := ⟨h5_⟩
              have GW299 : Aside0 (w.heap.size ≤ gb299) := ⟨h6_⟩
              have GE299 : Aside0 (w.heap.size ≤ gb299) := ⟨h7_⟩
              have NB280_299 : Aside0 (gb280 ≠ gb299) := ⟨h8_⟩
              have NB299_280 : Aside0 (gb299 ≠ gb280) := ⟨h9_⟩
              have NB281_299 : Aside0 (gb281 ≠ gb299) := ⟨h10_⟩
              have NB299_281 : Aside0 (gb299 ≠ gb281) := ⟨h11_⟩
              have NB282_299 : Aside0 (gb282 ≠ gb299) := ⟨h12_⟩
              have NB299_282 : Aside0 (gb299 ≠ gb282) := ⟨h13_⟩
              replace HB : Aside0 (Below w.heap.size w w25) := ⟨h14_⟩
              clear h0_ h1_ h2_ h3_ h4_ h5_ h6_ h7_ h8_ h9_ h10_ h11_ h12_ h13_ h14_
              have hHeld : w25.cell? ⟨gb280, 0, none⟩ = some (.int .i64 a0_0) ∧ w25.cell? ⟨gb280, 1, none⟩ = some (.int .i64 a0_1) ∧ w25.cell? ⟨gb280, 2, none⟩ = some (.int .i64 a0_2) ∧ w25.cell? ⟨gb280, 3, none⟩ = some (.int .i64 a0_3) ∧ w25.cell? ⟨gb281, 0, none⟩ = some (.int .i64 a1_0) ∧ w25.cell? ⟨gb281, 1, none⟩ = some (.int .i64 a1_1) ∧ w25.cell? ⟨gb281, 2, none⟩ = some (.int .i64 a1_2) ∧ w25.cell? ⟨gb281, 3, none⟩ = some (.int .i64 a1_3) := hS_
              obtain ⟨Ao26, co26, eo26⟩ := Kd.R_slice HO291.out
              (first | subst eo26 | (injection eo26 with f1_ f2_ f3_; have f4_ := f1_.symm; have f5_ := f3_.symm; clear f1_ f2_ f3_; subst f4_; subst f5_))
              refine nra ?_
              refine one_ (i := 11) (N := some 25) #[true, true, true, true, true, true, true, true, true, true, true, true, false, false, false, false, true, false, false] rfl rfl (one_of HT_.out (by kernel_rfl)) (by decide) (fun K hK => ?_)
              refine goes_ Try.func47 (by kernel_rfl) rfl #[.slice Ao26 y289.length co26] (by rfl) rfl rfl (by (try simp only [List.map_toArray, List.map_cons, List.map_nil]); first | done | rfl | (simp only [List.length_drop, List.length_take]; rfl)) ?_
              with_reducible refine (cut_Least.calls k _ _ y289 t292 t293 _ ?side1 ?side2 A6.out).mono ?_
              (case side1 => repeat (first | exact (Kd.R_reads' HO291.out).2.2 | (with_reducible refine Kd.C_alloc ?_ _) | (with_reducible refine Kd.C_drewN ?_ _) | (with_reducible refine Kd.C_drew ?_)))
              (case side2 => exact (Kd.R_reads' HO291.out).2.1)
              rintro e w27 ⟨rfl, hb⟩
              refine ⟨_, rfl, ?_⟩
              replace HO286 := krb HO286 hb
              replace HO291 := krb HO291 hb
              replace BK280 := bkb BK280 hb
              replace BK281 := bkb BK281 hb
              replace BK282 := bkb BK282 hb
              replace BK299 := bkb BK299 hb
              replace HB := bst HB hb
              (try clear hb)
              (try clear hb2)
              (try clear hk)
              (try clear hi)
              refine hK.out _ _ (c4 BK280 (e4 BK281)) (fun hHeld => ?_)
              clear hK K
              refine nrp 25 ?_
              exact nrm (hJ4_5_10_11_16 (v285, .slice Ao26 y289.length co26, gb299) _ ⟨hHeld, (kr HO286), (kr HO291), (bk BK280), (bk BK281), (bk BK282), (bk BK299), GW299.out, GE299.out, NB280_299.out, NB299_280.out, NB281_299.out, NB299_281.out, NB282_299.out, NB299_282.out, (bl HB)⟩)
          · skip
            rintro ⟨v285, v290⟩ w26 ⟨hS_, h0_, h1_, h2_, h3_, h4_, h5_⟩
            have HO286 : Aside0 (Kd.R k23 23 w26 w.heap.size (fun k_ => some k_ ≠ (v290 : Value).ownBlock) v285 y284) := ⟨h0_⟩
            have HO291 : Aside0 (Kd.R k23 23 w26 w.heap.size (fun k_ => some k_ ≠ (v285 : Value).ownBlock) v290 y289) := ⟨h1_⟩
            replace BK280 : Aside0 (w26.heap[gb280]? = some (.cells #[.int .i64 a0_0, .int .i64 a0_1, .int .i64 a0_2, .int .i64 a0_3] 25 (0, 0))) := ⟨h2_⟩
            replace BK281 : Aside0 (w26.heap[gb281]? = some (.cells #[.int .i64 a1_0, .int .i64 a1_1, .int .i64 a1_2, .int .i64 a1_3] 25 (0, 0))) := ⟨h3_⟩
            replace BK282 : Aside0 (w26.heap[gb282]? = some (.cells #[.int .i64 0, .int .i64 0, .int .i64 0, .int .i64 0] 25 (0, 0))) := ⟨h4_⟩
            replace HB : Aside0 (Below w.heap.size w w26) := ⟨h5_⟩
            clear h0_ h1_ h2_ h3_ h4_ h5_
            have hHeld : w26.cell? ⟨gb280, 0, none⟩ = some (.int .i64 a0_0) ∧ w26.cell? ⟨gb280, 1, none⟩ = some (.int .i64 a0_1) ∧ w26.cell? ⟨gb280, 2, none⟩ = some (.int .i64 a0_2) ∧ w26.cell? ⟨gb280, 3, none⟩ = some (.int .i64 a0_3) ∧ w26.cell? ⟨gb281, 0, none⟩ = some (.int .i64 a1_0) ∧ w26.cell? ⟨gb281, 1, none⟩ = some (.int .i64 a1_1) ∧ w26.cell? ⟨gb281, 2, none⟩ = some (.int .i64 a1_2) ∧ w26.cell? ⟨gb281, 3, none⟩ = some (.int .i64 a1_3) := hS_
            refine nra ?_
            refine two_ (i := 12) (j := 16) (Ni := some 26) (Nj := some 6) #[true, true, true, true, true, true, true, true, true, true, true, true, true, false, false, false, false, false, false] #[true, true, true, true, true, true, true, true, true, true, true, true, false, false, false, false, true, false, false] rfl rfl rfl rfl (two_of HT_.out (by kernel_rfl)) (by decide) (by decide) (fun K hK => ?_) (fun K hK => ?_)
            · skip
              refine goes_ Try.func24 (by kernel_rfl) rfl #[.agg #[.int .i64 t287, .int .i64 t288], .agg #[.int .i64 t292, .int .i64 t293]] (by rfl) rfl rfl (by (try simp only [List.map_toArray, List.map_cons, List.map_nil]); first | done | rfl | (simp only [List.length_drop, List.length_take]; rfl)) ?_
              with_reducible refine (span_Of.calls k t287 t288 t292 t293 t294 t295 t296 t297 t298 _ A7.out).mono ?_
              rintro e w27 ⟨rfl, hb⟩
              refine ⟨_, rfl, ?_⟩
              replace HO286 := krb HO286 hb
              replace HO291 := krb HO291 hb
              replace BK280 := bkb BK280 hb
              replace BK281 := bkb BK281 hb
              replace BK282 := bkb BK282 hb
              replace HB := bst HB hb
              (try clear hb)
              (try clear hb2)
              (try clear hk)
              (try clear hi)
              refine hK.out _ _ (c4 BK280 (e4 BK281)) (fun hHeld => ?_)
              clear hK K
              refine nrp 26 ?_
              refine pu 13 (some 13) #[true, true, true, true, true, true, true, true, true, true, true, true, true, true, false, false, false, false, false] (any_of HT_.out (by kernel_rfl)) ?_
              refine pu 14 (some 27) #[true, true, true, true, true, true, true, true, true, true, true, true, true, true, true, false, false, false, false] (any_of HT_.out (by kernel_rfl)) ?_
              refine pu 15 (some 28) #[true, true, true, true, true, true, true, true, true, true, true, true, true, true, true, true, false, false, false] (any_of HT_.out (by kernel_rfl)) ?_
              exact nrm (hJ4_5_10_11_12 (v285, v290) _ ⟨hHeld, (kr HO286), (kr HO291), (bk BK280), (bk BK281), (bk BK282), (bl HB)⟩)
            · skip
              refine box_step ?hg (N := 6) ?hd (cs := #[.int .i64 0, .int .i64 0, .int .i64 0, .int .i64 0]) (t := 25) ?hr ?_; (case hd => rfl); (case hg => rfl); (case hr => first | (go_simp; done) | (go_simp; rfl))
              intro gb299 hg w27 hbox hb
              replace HO286 := krb HO286 hb
              replace HO291 := krb HO291 hb
              have BK299 := Aside0.mk (hbox)
              have GW299 := lsz hg HB
              have GE299 := lsz hg HB
              replace HB := bst HB hb
              have NB280_299 := nlt hg BK280
              have NB299_280 := ngt hg BK280
              replace BK280 := bkb BK280 hb
              have NB281_299 := nlt hg BK281
              have NB299_281 := ngt hg BK281
              replace BK281 := bkb BK281 hb
              have NB282_299 := nlt hg BK282
              have NB299_282 := ngt hg BK282
              replace BK282 := bkb BK282 hb
              clear hb hbox hg
              refine hK.out _ _ (c4 BK280 (e4 BK281)) (fun hHeld => ?_)
              clear hK K
              refine nrp 6 ?_
              exact nrm (hJ4_5_10_11_16 (v285, v290, gb299) _ ⟨hHeld, (kr HO286), (kr HO291), (bk BK280), (bk BK281), (bk BK282), (bk BK299), GW299.out, GE299.out, NB280_299.out, NB299_280.out, NB281_299.out, NB299_281.out, NB282_299.out, NB299_282.out, (bl HB)⟩)
        · skip
          rintro ⟨v285, v290, gb299⟩ w27 ⟨hS_, h0_, h1_, h2_, h3_, h4_, h5_, h6_, h7_, h8_, h9_, h10_, h11_, h12_, h13_, h14_⟩
          have HO286 : Aside0 (Kd.R k23 23 w27 w.heap.size (fun k_ => some k_ ≠ (v290 : Value).ownBlock) v285 y284) := ⟨h0_⟩
          have HO291 : Aside0 (Kd.R k23 23 w27 w.heap.size (fun k_ => some k_ ≠ (v285 : Value).ownBlock) v290 y289) := ⟨h1_⟩
          replace BK280 : Aside0 (w27.heap[gb280]? = some (.cells #[.int .i64 a0_0, .int .i64 a0_1, .int .i64 a0_2, .int .i64 a0_3] 25 (0, 0))) := ⟨h2_⟩
          replace BK281 : Aside0 (w27.heap[gb281]? = some (.cells #[.int .i64 a1_0, .int .i64 a1_1, .int .i64 a1_2, .int .i64 a1_3] 25 (0, 0))) := ⟨h3_⟩
          replace BK282 : Aside0 (w27.heap[gb282]? = some (.cells #[.int .i64 0, .int .i64 0, .int .i64 0, .int .i64 0] 25 (0, 0))) := ⟨h4_⟩
          have BK299 : Aside0 (w27.heap[gb299]? = some (.cells #[.int .i64 0, .int .i64 0, .int .i64 0, .int .i64 0] 25 (0, 0))) := ⟨h5_⟩
          have GW299 : Aside0 (w.heap.size ≤ gb299) := ⟨h6_⟩
          have GE299 : Aside0 (w.heap.size ≤ gb299) := ⟨h7_⟩
          have NB280_299 : Aside0 (gb280 ≠ gb299) := ⟨h8_⟩
          have NB299_280 : Aside0 (gb299 ≠ gb280) := ⟨h9_⟩
          have NB281_299 : Aside0 (gb281 ≠ gb299) := ⟨h10_⟩
          have NB299_281 : Aside0 (gb299 ≠ gb281) := ⟨h11_⟩
          have NB282_299 : Aside0 (gb282 ≠ gb299) := ⟨h12_⟩
          have NB299_282 : Aside0 (gb299 ≠ gb282) := ⟨h13_⟩
          replace HB : Aside0 (Below w.heap.size w w27) := ⟨h14_⟩
          clear h0_ h1_ h2_ h3_ h4_ h5_ h6_ h7_ h8_ h9_ h10_ h11_ h12_ h13_ h14_
          have hHeld : w27.cell? ⟨gb280, 0, none⟩ = some (.int .i64 a0_0) ∧ w27.cell? ⟨gb280, 1, none⟩ = some (.int .i64 a0_1) ∧ w27.cell? ⟨gb280, 2, none⟩ = some (.int .i64 a0_2) ∧ w27.cell? ⟨gb280, 3, none⟩ = some (.int .i64 a0_3) ∧ w27.cell? ⟨gb281, 0, none⟩ = some (.int .i64 a1_0) ∧ w27.cell? ⟨gb281, 1, none⟩ = some (.int .i64 a1_1) ∧ w27.cell? ⟨gb281, 2, none⟩ = some (.int .i64 a1_2) ∧ w27.cell? ⟨gb281, 3, none⟩ = some (.int .i64 a1_3) := hS_
          refine nra ?_
          refine one_ (i := 12) (N := some 26) #[true, true, true, true, true, true, true, true, true, true, true, true, true, false, false, false, true, false, false] rfl rfl (one_of HT_.out (by kernel_rfl)) (by decide) (fun K hK => ?_)
          refine goes_ Try.func24 (by kernel_rfl) rfl #[.agg #[.int .i64 t287, .int .i64 t288], .agg #[.int .i64 t292, .int .i64 t293]] (by rfl) rfl rfl (by (try simp only [List.map_toArray, List.map_cons, List.map_nil]); first | done | rfl | (simp only [List.length_drop, List.length_take]; rfl)) ?_
          with_reducible refine (span_Of.calls k t287 t288 t292 t293 t294 t295 t296 t297 t298 _ A7.out).mono ?_
          rintro e w28 ⟨rfl, hb⟩
          refine ⟨_, rfl, ?_⟩
          replace HO286 := krb HO286 hb
          replace HO291 := krb HO291 hb
          replace BK280 := bkb BK280 hb
          replace BK281 := bkb BK281 hb
          replace BK282 := bkb BK282 hb
          replace BK299 := bkb BK299 hb
          replace HB := bst HB hb
          (try clear hb)
          (try clear hb2)
          (try clear hk)
          (try clear hi)
          refine hK.out _ _ (c4 BK280 (e4 BK281)) (fun hHeld => ?_)
          clear hK K
          refine nrp 26 ?_
          refine pu 13 (some 13) #[true, true, true, true, true, true, true, true, true, true, true, true, true, true, false, false, true, false, false] (any_of HT_.out (by kernel_rfl)) ?_
          refine pu 14 (some 27) #[true, true, true, true, true, true, true, true, true, true, true, true, true, true, true, false, true, false, false] (any_of HT_.out (by kernel_rfl)) ?_
          refine pu 15 (some 28) #[true, true, true, true, true, true, true, true, true, true, true, true, true, true, true, true, true, false, false] (any_of HT_.out (by kernel_rfl)) ?_
          exact nrm (hJ4_5_10_11_12_16 (v285, v290, gb299) _ ⟨hHeld, (kr HO286), (kr HO291), (bk BK280), (bk BK281), (bk BK282), (bk BK299), GW299.out, GE299.out, NB280_299.out, NB299_280.out, NB281_299.out, NB299_281.out, NB282_299.out, NB299_282.out, (bl HB)⟩)
      · skip
        rintro ⟨v285, v290⟩ w27 ⟨hS_, h0_, h1_, h2_, h3_, h4_, h5_⟩
        have HO286 : Aside0 (Kd.R k23 23 w27 w.heap.size (fun k_ => some k_ ≠ (v290 : Value).ownBlock) v285 y284) := ⟨h0_⟩
        have HO291 : Aside0 (Kd.R k23 23 w27 w.heap.size (fun k_ => some k_ ≠ (v285 : Value).ownBlock) v290 y289) := ⟨h1_⟩
        replace BK280 : Aside0 (w27.heap[gb280]? = some (.cells #[.int .i64 a0_0, .int .i64 a0_1, .int .i64 a0_2, .int .i64 a0_3] 25 (0, 0))) := ⟨h2_⟩
        replace BK281 : Aside0 (w27.heap[gb281]? = some (.cells #[.int .i64 a1_0, .int .i64 a1_1, .int .i64 a1_2, .int .i64 a1_3] 25 (0, 0))) := ⟨h3_⟩
        replace BK282 : Aside0 (w27.heap[gb282]? = some (.cells #[.int .i64 0, .int .i64 0, .int .i64 0, .int .i64 0] 25 (0, 0))) := ⟨h4_⟩
        replace HB : Aside0 (Below w.heap.size w w27) := ⟨h5_⟩
        clear h0_ h1_ h2_ h3_ h4_ h5_
        have hHeld : w27.cell? ⟨gb280, 0, none⟩ = some (.int .i64 a0_0) ∧ w27.cell? ⟨gb280, 1, none⟩ = some (.int .i64 a0_1) ∧ w27.cell? ⟨gb280, 2, none⟩ = some (.int .i64 a0_2) ∧ w27.cell? ⟨gb280, 3, none⟩ = some (.int .i64 a0_3) ∧ w27.cell? ⟨gb281, 0, none⟩ = some (.int .i64 a1_0) ∧ w27.cell? ⟨gb281, 1, none⟩ = some (.int .i64 a1_1) ∧ w27.cell? ⟨gb281, 2, none⟩ = some (.int .i64 a1_2) ∧ w27.cell? ⟨gb281, 3, none⟩ = some (.int .i64 a1_3) := hS_
        refine nra ?_
        refine one_ (i := 16) (N := some 6) #[true, true, true, true, true, true, true, true, true, true, true, true, true, true, true, true, true, false, false] rfl rfl (one_of HT_.out (by kernel_rfl)) (by decide) (fun K hK => ?_)
        refine box_step ?hg (N := 6) ?hd (cs := #[.int .i64 0, .int .i64 0, .int .i64 0, .int .i64 0]) (t := 25) ?hr ?_; (case hd => rfl); (case hg => rfl); (case hr => first | (go_simp; done) | (go_simp; rfl))
        intro gb299 hg w28 hbox hb
        replace HO286 := krb HO286 hb
        replace HO291 := krb HO291 hb
        have BK299 := Aside0.mk (hbox)
        have GW299 := lsz hg HB
        have GE299 := lsz hg HB
        replace HB := bst HB hb
        have NB280_299 := nlt hg BK280
        have NB299_280 := ngt hg BK280
        replace BK280 := bkb BK280 hb
        have NB281_299 := nlt hg BK281
        have NB299_281 := ngt hg BK281
        replace BK281 := bkb BK281 hb
        have NB282_299 := nlt hg BK282
        have NB299_282 := ngt hg BK282
        replace BK282 := bkb BK282 hb
        clear hb hbox hg
        refine hK.out _ _ (c4 BK280 (e4 BK281)) (fun hHeld => ?_)
        clear hK K
        refine nrp 6 ?_
        exact nrm (hJ4_5_10_11_12_16 (v285, v290, gb299) _ ⟨hHeld, (kr HO286), (kr HO291), (bk BK280), (bk BK281), (bk BK282), (bk BK299), GW299.out, GE299.out, NB280_299.out, NB299_280.out, NB281_299.out, NB299_281.out, NB282_299.out, NB299_282.out, (bl HB)⟩)
    rintro ⟨v285, v290, gb299⟩ w28 ⟨hS_, h0_, h1_, h2_, h3_, h4_, h5_, h6_, h7_, h8_, h9_, h10_, h11_, h12_, h13_, h14_⟩
    have HO286 : Aside0 (Kd.R k23 23 w28 w.heap.size (fun k_ => some k_ ≠ (v290 : Value).ownBlock) v285 y284) := ⟨h0_⟩
    have HO291 : Aside0 (Kd.R k23 23 w28 w.heap.size (fun k_ => some k_ ≠ (v285 : Value).ownBlock) v290 y289) := ⟨h1_⟩
    replace BK280 : Aside0 (w28.heap[gb280]? = some (.cells #[.int .i64 a0_0, .int .i64 a0_1, .int .i64 a0_2, .int .i64 a0_3] 25 (0, 0))) := ⟨h2_⟩
    replace BK281 : Aside0 (w28.heap[gb281]? = some (.cells #[.int .i64 a1_0, .int .i64 a1_1, .int .i64 a1_2, .int .i64 a1_3] 25 (0, 0))) := ⟨h3_⟩
    replace BK282 : Aside0 (w28.heap[gb282]? = some (.cells #[.int .i64 0, .int .i64 0, .int .i64 0, .int .i64 0] 25 (0, 0))) := ⟨h4_⟩
    have BK299 : Aside0 (w28.heap[gb299]? = some (.cells #[.int .i64 0, .int .i64 0, .int .i64 0, .int .i64 0] 25 (0, 0))) := ⟨h5_⟩
    have GW299 : Aside0 (w.heap.size ≤ gb299) := ⟨h6_⟩
    have GE299 : Aside0 (w.heap.size ≤ gb299) := ⟨h7_⟩
    have NB280_299 : Aside0 (gb280 ≠ gb299) := ⟨h8_⟩
    have NB299_280 : Aside0 (gb299 ≠ gb280) := ⟨h9_⟩
    have NB281_299 : Aside0 (gb281 ≠ gb299) := ⟨h10_⟩
    have NB299_281 : Aside0 (gb299 ≠ gb281) := ⟨h11_⟩
    have NB282_299 : Aside0 (gb282 ≠ gb299) := ⟨h12_⟩
    have NB299_282 : Aside0 (gb299 ≠ gb282) := ⟨h13_⟩
    replace HB : Aside0 (Below w.heap.size w w28) := ⟨h14_⟩
    clear h0_ h1_ h2_ h3_ h4_ h5_ h6_ h7_ h8_ h9_ h10_ h11_ h12_ h13_ h14_
    have hHeld : w28.cell? ⟨gb280, 0, none⟩ = some (.int .i64 a0_0) ∧ w28.cell? ⟨gb280, 1, none⟩ = some (.int .i64 a0_1) ∧ w28.cell? ⟨gb280, 2, none⟩ = some (.int .i64 a0_2) ∧ w28.cell? ⟨gb280, 3, none⟩ = some (.int .i64 a0_3) ∧ w28.cell? ⟨gb281, 0, none⟩ = some (.int .i64 a1_0) ∧ w28.cell? ⟨gb281, 1, none⟩ = some (.int .i64 a1_1) ∧ w28.cell? ⟨gb281, 2, none⟩ = some (.int .i64 a1_2) ∧ w28.cell? ⟨gb281, 3, none⟩ = some (.int .i64 a1_3) := hS_
    refine nra ?_
    refine one_ (i := 17) (N := none) #[true, true, true, true, true, true, true, true, true, true, true, true, true, true, true, true, true, true, false] rfl rfl (one_of HT_.out (by kernel_rfl)) (by decide) (fun K hK => ?_)
    have hs29 : w28.cell? ⟨gb299, 0, none⟩ = some (.int .i64 0) := (blk_cell BK299.out 0).trans rfl
    have hfs29 := blk_frozen BK299.out 0
    have hns29_0 := NB280_299.out
    have hns29_1 := NB281_299.out
    have hns29_2 := NB282_299.out
    have hms29_0 := NB299_280.out
    have hms29_1 := NB299_281.out
    have hms29_2 := NB299_282.out
    have hs30 : w28.cell? ⟨gb299, 1, none⟩ = some (.int .i64 0) := (blk_cell BK299.out 1).trans rfl
    have hfs30 := blk_frozen BK299.out 1
    have hns30_0 := NB280_299.out
    have hns30_1 := NB281_299.out
    have hns30_2 := NB282_299.out
    have hms30_0 := NB299_280.out
    have hms30_1 := NB299_281.out
    have hms30_2 := NB299_282.out
    have hs31 : w28.cell? ⟨gb299, 2, none⟩ = some (.int .i64 0) := (blk_cell BK299.out 2).trans rfl
    have hfs31 := blk_frozen BK299.out 2
    have hns31_0 := NB280_299.out
    have hns31_1 := NB281_299.out
    have hns31_2 := NB282_299.out
    have hms31_0 := NB299_280.out
    have hms31_1 := NB299_281.out
    have hms31_2 := NB299_282.out
    have hs32 : w28.cell? ⟨gb299, 3, none⟩ = some (.int .i64 0) := (blk_cell BK299.out 3).trans rfl
    have hfs32 := blk_frozen BK299.out 3
    have hns32_0 := NB280_299.out
    have hns32_1 := NB281_299.out
    have hns32_2 := NB282_299.out
    have hms32_0 := NB299_280.out
    have hms32_1 := NB299_281.out
    have hms32_2 := NB299_282.out
    refine skip_ (w1 := ?_) (by rfl) rfl ?_ ?_
    rotate_left
    · go_simp
      rfl
    refine hK.out _ _ ⟨((cell_far (p := ⟨gb299, _, none⟩) NB280_299.out _).trans (((cell_far (p := ⟨gb299, _, none⟩) NB280_299.out _).trans (((cell_far (p := ⟨gb299, _, none⟩) NB280_299.out _).trans (((cell_far (p := ⟨gb299, _, none⟩) NB280_299.out _).trans (hHeld.1)))))))), ((cell_far (p := ⟨gb299, _, none⟩) NB280_299.out _).trans (((cell_far (p := ⟨gb299, _, none⟩) NB280_299.out _).trans (((cell_far (p := ⟨gb299, _, none⟩) NB280_299.out _).trans (((cell_far (p := ⟨gb299, _, none⟩) NB280_299.out _).trans (hHeld.2.1)))))))), ((cell_far (p := ⟨gb299, _, none⟩) NB280_299.out _).trans (((cell_far (p := ⟨gb299, _, none⟩) NB280_299.out _).trans (((cell_far (p := ⟨gb299, _, none⟩) NB280_299.out _).trans (((cell_far (p := ⟨gb299, _, none⟩) NB280_299.out _).trans (hHeld.2.2.1)))))))), ((cell_far (p := ⟨gb299, _, none⟩) NB280_299.out _).trans (((cell_far (p := ⟨gb299, _, none⟩) NB280_299.out _).trans (((cell_far (p := ⟨gb299, _, none⟩) NB280_299.out _).trans (((cell_far (p := ⟨gb299, _, none⟩) NB280_299.out _).trans (hHeld.2.2.2.1)))))))), ((cell_far (p := ⟨gb299, _, none⟩) NB281_299.out _).trans (((cell_far (p := ⟨gb299, _, none⟩) NB281_299.out _).trans (((cell_far (p := ⟨gb299, _, none⟩) NB281_299.out _).trans (((cell_far (p := ⟨gb299, _, none⟩) NB281_299.out _).trans (hHeld.2.2.2.2.1)))))))), ((cell_far (p := ⟨gb299, _, none⟩) NB281_299.out _).trans (((cell_far (p := ⟨gb299, _, none⟩) NB281_299.out _).trans (((cell_far (p := ⟨gb299, _, none⟩) NB281_299.out _).trans (((cell_far (p := ⟨gb299, _, none⟩) NB281_299.out _).trans (hHeld.2.2.2.2.2.1)))))))), ((cell_far (p := ⟨gb299, _, none⟩) NB281_299.out _).trans (((cell_far (p := ⟨gb299, _, none⟩) NB281_299.out _).trans (((cell_far (p := ⟨gb299, _, none⟩) NB281_299.out _).trans (((cell_far (p := ⟨gb299, _, none⟩) NB281_299.out _).trans (hHeld.2.2.2.2.2.2.1)))))))), ((cell_far (p := ⟨gb299, _, none⟩) NB281_299.out _).trans (((cell_far (p := ⟨gb299, _, none⟩) NB281_299.out _).trans (((cell_far (p := ⟨gb299, _, none⟩) NB281_299.out _).trans (((cell_far (p := ⟨gb299, _, none⟩) NB281_299.out _).trans (hHeld.2.2.2.2.2.2.2))))))))⟩ (fun hHeld => ?_)
    clear hK K
    refine pu 18 (some 7) #[true, true, true, true, true, true, true, true, true, true, true, true, true, true, true, true, true, true, true] (any_of HT_.out (by kernel_rfl)) ?_
    refine done_ (done_of HT_.out (by kernel_rfl)) ?_
    have hnb33 := NB299_280.out
    have hnc33 := NB280_299.out
    have hnb34 := NB299_281.out
    have hnc34 := NB281_299.out
    have hnb35 := NB299_282.out
    have hnc35 := NB282_299.out
    have hcz36_0 : w28.cell? ⟨gb299, 0, none⟩ = some (.int .i64 0) := (blk_cell BK299.out 0).trans rfl
    have hcz36_1 : w28.cell? ⟨gb299, 1, none⟩ = some (.int .i64 0) := (blk_cell BK299.out 1).trans rfl
    have hcz36_2 : w28.cell? ⟨gb299, 2, none⟩ = some (.int .i64 0) := (blk_cell BK299.out 2).trans rfl
    have hcz36_3 : w28.cell? ⟨gb299, 3, none⟩ = some (.int .i64 0) := (blk_cell BK299.out 3).trans rfl
    have hfz36_0 := blk_frozen BK299.out 0
    have hfz36_1 := blk_frozen BK299.out 1
    have hfz36_2 := blk_frozen BK299.out 2
    have hfz36_3 := blk_frozen BK299.out 3
    have hcz37_0 : w28.cell? ⟨gb282, 0, none⟩ = some (.int .i64 0) := (blk_cell BK282.out 0).trans rfl
    have hcz37_1 : w28.cell? ⟨gb282, 1, none⟩ = some (.int .i64 0) := (blk_cell BK282.out 1).trans rfl
    have hcz37_2 : w28.cell? ⟨gb282, 2, none⟩ = some (.int .i64 0) := (blk_cell BK282.out 2).trans rfl
    have hcz37_3 : w28.cell? ⟨gb282, 3, none⟩ = some (.int .i64 0) := (blk_cell BK282.out 3).trans rfl
    have hfz37_0 := blk_frozen BK282.out 0
    have hfz37_1 := blk_frozen BK282.out 1
    have hfz37_2 := blk_frozen BK282.out 2
    have hfz37_3 := blk_frozen BK282.out 3
    try go_wp2
    refine bodyPost_ret (results_ct rfl _ _ gb282 25 #[.int .i64 t294, .int .i64 t295, .int .i64 t296, .int .i64 t297] (0, 0) _ rfl (by (with_reducible repeat (first | refine blk_drewN ?_ _ | refine blk_drew ?_ | refine blk_alloc ?_ _)); refine blk_put (cs := #[.int .i64 t294, .int .i64 t295, .int .i64 t296, .int .i64 0]) ?_ 3 _ rfl; (with_reducible repeat (first | refine blk_drewN ?_ _ | refine blk_drew ?_ | refine blk_alloc ?_ _)); refine blk_put (cs := #[.int .i64 t294, .int .i64 t295, .int .i64 0, .int .i64 0]) ?_ 2 _ rfl; (with_reducible repeat (first | refine blk_drewN ?_ _ | refine blk_drew ?_ | refine blk_alloc ?_ _)); refine blk_put (cs := #[.int .i64 t294, .int .i64 0, .int .i64 0, .int .i64 0]) ?_ 1 _ rfl; (with_reducible repeat (first | refine blk_drewN ?_ _ | refine blk_drew ?_ | refine blk_alloc ?_ _)); refine blk_put (cs := #[.int .i64 0, .int .i64 0, .int .i64 0, .int .i64 0]) ?_ 0 _ rfl; (with_reducible repeat (first | refine blk_drewN ?_ _ | refine blk_drew ?_ | refine blk_alloc ?_ _)); refine blk_far ?_ NB282_299.out _; (with_reducible repeat (first | refine blk_drewN ?_ _ | refine blk_drew ?_ | refine blk_alloc ?_ _)); refine blk_far ?_ NB282_299.out _; (with_reducible repeat (first | refine blk_drewN ?_ _ | refine blk_drew ?_ | refine blk_alloc ?_ _)); refine blk_far ?_ NB282_299.out _; (with_reducible repeat (first | refine blk_drewN ?_ _ | refine blk_drew ?_ | refine blk_alloc ?_ _)); refine blk_far ?_ NB282_299.out _; (with_reducible repeat (first | refine blk_drewN ?_ _ | refine blk_drew ?_ | refine blk_alloc ?_ _)); exact BK282.out) Try.underlying25 rfl (by kernel_rfl)) rfl ?_
    exact endB HB
  · replace c4 := Bool.eq_false_iff.mpr c4
    subst c4
    have H1 : (some (0, 0, 0, 0, false)) = some (r1, r2, r3, r4, r5) := by rw [if_neg (show ¬ (false = true) by decide)] at H; exact H
    clear H
    have H := H1
    clear H1
    simp only [Option.some.injEq, Prod.mk.injEq] at H
    obtain ⟨rfl, rfl, rfl, rfl, rfl⟩ := H
    go_enter Try.func11, Try.ntmps11
    go_wp2_with (first | ((with_reducible refine gate_dst (N := 2) rfl ?_); refine bxe (N := 2) (cs := #[.int .i64 a0_0, .int .i64 a0_1, .int .i64 a0_2, .int .i64 a0_3]) (t := 25) ?_; intro gb280 hg w38 hbox hb; have BK280 := Aside0.mk (hbox); have GW280 := lsz hg HB; have GE280 := lsz hg HB; replace HB := bst HB hb; clear hb hbox hg) | ((with_reducible refine gate_dst (N := 3) rfl ?_); refine bxe (N := 3) (cs := #[.int .i64 a1_0, .int .i64 a1_1, .int .i64 a1_2, .int .i64 a1_3]) (t := 25) ?_; intro gb281 hg w39 hbox hb; have BK281 := Aside0.mk (hbox); have GW281 := lsz hg HB; have GE281 := lsz hg HB; replace HB := bst HB hb; have NB280_281 := nlt hg BK280; have NB281_280 := ngt hg BK280; replace BK280 := bkb BK280 hb; clear hb hbox hg) | ((with_reducible refine gate_dst (N := 4) rfl ?_); refine bxe (N := 4) (cs := #[.int .i64 0, .int .i64 0, .int .i64 0, .int .i64 0]) (t := 25) ?_; intro gb282 hg w40 hbox hb; have BK282 := Aside0.mk (hbox); have GW282 := lsz hg HB; have GE282 := lsz hg HB; replace HB := bst HB hb; have NB280_282 := nlt hg BK280; have NB282_280 := ngt hg BK280; replace BK280 := bkb BK280 hb; have NB281_282 := nlt hg BK281; have NB282_281 := ngt hg BK281; replace BK281 := bkb BK281 hb; clear hb hbox hg; have hnb41 := NB280_281.out; have hnc41 := NB281_280.out; have hnb42 := NB280_282.out; have hnc42 := NB282_280.out; obtain ⟨hcz43_0, hcz43_1, hcz43_2, hcz43_3⟩ := e4 BK280; obtain ⟨hfz43_0, hfz43_1, hfz43_2, hfz43_3⟩ := f4 BK280; have hnb44 := NB281_282.out; have hnc44 := NB282_281.out; obtain ⟨hcz45_0, hcz45_1, hcz45_2, hcz45_3⟩ := e4 BK281; obtain ⟨hfz45_0, hfz45_1, hfz45_2, hfz45_3⟩ := f4 BK281) | ((with_reducible refine gate_callee (f := 45) rfl ?_); refine gol (some 10) Try.func45 #[.agg #[.int .i64 a0_0, .int .i64 a0_1, .int .i64 a0_2, .int .i64 a0_3], .agg #[.int .i64 a1_0, .int .i64 a1_1, .int .i64 a1_2, .int .i64 a1_3]] ?_; (with_reducible refine (span_both.calls k a0_0 a0_1 a0_2 a0_3 a1_0 a1_1 a1_2 a1_3 false _ A3.out).mono ?_); rintro e w46 ⟨rfl, hb⟩; refine ⟨_, rfl, ?_⟩; replace BK280 := bkb BK280 hb; replace BK281 := bkb BK281 hb; replace BK282 := bkb BK282 hb; replace HB := bst HB hb; (try clear hb); (try clear hb2); (try clear hk); (try clear hi); obtain ⟨hcz47_0, hcz47_1, hcz47_2, hcz47_3⟩ := e4 BK282; obtain ⟨hfz47_0, hfz47_1, hfz47_2, hfz47_3⟩ := f4 BK282))
    refine bodyPost_ret (results_ct rfl _ _ gb282 25 #[.int .i64 0, .int .i64 0, .int .i64 0, .int .i64 0] (0, 0) _ rfl (bkp BK282) Try.underlying25 rfl (by kernel_rfl)) rfl ?_
    exact endB HB
end Go.Proofs.Ytkkbmjfhpngalaa.Print
