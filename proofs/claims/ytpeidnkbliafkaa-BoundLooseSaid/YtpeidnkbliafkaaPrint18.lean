-- Laid by wip/print/bprint.py of this repo, over the kit's printer, with functions given by hand; not trusted: Lean checks it.
import Derived.Test.YtpeidnkbliafkaaHBnd4
import Derived.Test.YtpeidnkbliafkaaPrint0
import Derived.Test.YtpeidnkbliafkaaPrint17
import Derived.Test.YtpeidnkbliafkaaPrint4
import Derived.Test.YtpeidnkbliafkaaPrint6
import Derived.Test.YtpeidnkbliafkaaSh
namespace Go.Proofs.Ytpeidnkbliafkaa.Print
open Go.RowKit Go.Proofs.YtpeidnkbliafkaaW.PrintWords Go.Proofs.YtpeidnkbliafkaaW.PrintLast Go.Proofs.YtpeidnkbliafkaaW.PrintMore
attribute [local go_sem] max2_int min2_int max_two min_two max_three min_three max_four min_four   -- for this text's walks alone
set_option linter.unusedVariables false
set_option linter.unusedSimpArgs false
section
attribute [local go_sem high] eqA27
/-! ### bocagelaw04_BoundLoose: function 6 -/
mutual
def bocagelaw04_BoundLoose.j0 : Nat → Int → Bool → Int → Int → Int → Int → Option (Bool)
  | 0, _, _, _, _, _, _ => none
  | k + 1, x2, x42, x622000, x622001, x623000, x623001 => if x42 = true then ((bocagelaw04_alive.f k).bind fun t623 => (some t623)) else (bocagelaw04_BoundLoose.l0 k x2 (⟨#[]⟩ : ByteArray) x2 0 x622000 x622001 x623000 x623001)
def bocagelaw04_BoundLoose.l0 : Nat → Int → ByteArray → Int → Int → Int → Int → Int → Int → Option (Bool)
  | 0, _, _, _, _, _, _, _, _ => none
  | k + 1, x2, x7, x44, x45, x622000, x622001, x623000, x623001 => if x45 < x44 then (if x7.size + 1 ≤ 9223372036854775807 then (bocagelaw04_BoundLoose.l0 k x2 (x7 ++ (⟨#[32]⟩ : ByteArray)) x44 (wrap64 (x45 + 1)) x622000 x622001 x623000 x623001) else (none)) else (if x622000 = 2 then (bocagelaw04_BoundLoose.j2 k x2 x7 (⟨#[91]⟩ : ByteArray) (⟨#[41]⟩ : ByteArray) x622000 x622001 x623000 x623001) else (bocagelaw04_BoundLoose.j2 k x2 x7 (⟨#[40]⟩ : ByteArray) (⟨#[41]⟩ : ByteArray) x622000 x622001 x623000 x623001))
def bocagelaw04_BoundLoose.j2 : Nat → Int → ByteArray → ByteArray → ByteArray → Int → Int → Int → Int → Option (Bool)
  | 0, _, _, _, _, _, _, _, _ => none
  | k + 1, x2, x7, x8, x9, x622000, x622001, x623000, x623001 => if x623000 = 2 then (bocagelaw04_BoundLoose.j3 k x2 x7 x8 (⟨#[93]⟩ : ByteArray) x622000 x622001 x623000 x623001) else (bocagelaw04_BoundLoose.j3 k x2 x7 x8 x9 x622000 x622001 x623000 x623001)
def bocagelaw04_BoundLoose.j3 : Nat → Int → ByteArray → ByteArray → ByteArray → Int → Int → Int → Int → Option (Bool)
  | 0, _, _, _, _, _, _, _, _ => none
  | k + 1, x2, x7, x8, x9, x622000, x622001, x623000, x623001 => if x8.size + x7.size ≤ 9223372036854775807 then ((bocagelaw04_number.f k x622001).bind fun t624 => (if (x8 ++ x7).size + t624.size ≤ 9223372036854775807 then (if ((x8 ++ x7) ++ t624).size + x7.size ≤ 9223372036854775807 then (if (((x8 ++ x7) ++ t624) ++ x7).size + 1 ≤ 9223372036854775807 then (if ((((x8 ++ x7) ++ t624) ++ x7) ++ (⟨#[44]⟩ : ByteArray)).size + x7.size ≤ 9223372036854775807 then ((bocagelaw04_number.f k x623001).bind fun t625 => (if (((((x8 ++ x7) ++ t624) ++ x7) ++ (⟨#[44]⟩ : ByteArray)) ++ x7).size + t625.size ≤ 9223372036854775807 then (if ((((((x8 ++ x7) ++ t624) ++ x7) ++ (⟨#[44]⟩ : ByteArray)) ++ x7) ++ t625).size + x7.size ≤ 9223372036854775807 then (if (((((((x8 ++ x7) ++ t624) ++ x7) ++ (⟨#[44]⟩ : ByteArray)) ++ x7) ++ t625) ++ x7).size + x9.size ≤ 9223372036854775807 then (if ((((((((x8 ++ x7) ++ t624) ++ x7) ++ (⟨#[44]⟩ : ByteArray)) ++ x7) ++ t625) ++ x7) ++ x9).size + 1 ≤ 9223372036854775807 then ((bound_Loose.f k (((((((((x8 ++ x7) ++ t624) ++ x7) ++ (⟨#[44]⟩ : ByteArray)) ++ x7) ++ t625) ++ x7) ++ x9) ++ (⟨#[120]⟩ : ByteArray))).bind fun bt626 => ((bocageref04_Span.f k x622000 x622001 x623000 x623001).bind fun bt633 => ((bocagelaw04_number.f k x622001).bind fun t639 => (if (x8 ++ x7).size + t639.size ≤ 9223372036854775807 then (if ((x8 ++ x7) ++ t639).size + x7.size ≤ 9223372036854775807 then (if (((x8 ++ x7) ++ t639) ++ x7).size + 1 ≤ 9223372036854775807 then ((bocagelaw04_alive.f k).bind fun t640 => (if t640 = true then (if ((bt626.1 == bt633.1 && (bt626.2.1 == bt633.2.1)) && ((bt626.2.2.1 == bt633.2.2.1 && (bt626.2.2.2.1 == bt633.2.2.2.1)))) = true then (if bt626.2.2.2.2.2 = bt633.2.2.2.2 then (if bt626.2.2.2.2.2 = 0 then (if bt626.2.2.2.2.1 = (((((((((x8 ++ x7) ++ t624) ++ x7) ++ (⟨#[44]⟩ : ByteArray)) ++ x7) ++ t625) ++ x7) ++ x9).size : Int) then (some true) else (some false)) else (some (bt626.2.2.2.2.1 == (wrap64 ((((((x8 ++ x7) ++ t639) ++ x7) ++ (⟨#[44]⟩ : ByteArray)).size : Int) + x2))))) else (some false)) else (some false)) else (some false))) else (none)) else (none)) else (none))))) else (none)) else (none)) else (none)) else (none))) else (none)) else (none)) else (none)) else (none))) else (none)
end
def bocagelaw04_BoundLoose.f (k : Nat) (a0_0 : Int) (a0_1 : Int) (a1_0 : Int) (a1_1 : Int) (a2 : Int) : Option (Bool) := if a2 < 0 then (bocagelaw04_BoundLoose.j0 k a2 true a0_0 a0_1 a1_0 a1_1) else (if a2 > 20 then (bocagelaw04_BoundLoose.j0 k a2 true a0_0 a0_1 a1_0 a1_1) else (if a0_0 < 1 then (bocagelaw04_BoundLoose.j0 k a2 true a0_0 a0_1 a1_0 a1_1) else (if a0_0 > 2 then (bocagelaw04_BoundLoose.j0 k a2 true a0_0 a0_1 a1_0 a1_1) else (if a1_0 < 1 then (bocagelaw04_BoundLoose.j0 k a2 true a0_0 a0_1 a1_0 a1_1) else (bocagelaw04_BoundLoose.j0 k a2 (decide (a1_0 > 2)) a0_0 a0_1 a1_0 a1_1)))))
theorem bocagelaw04_BoundLoose.mono_l : ∀ k, (∀ y0 y1 y2 y3 y4 y5, LeO (bocagelaw04_BoundLoose.j0 k y0 y1 y2 y3 y4 y5) (bocagelaw04_BoundLoose.j0 (k + 1) y0 y1 y2 y3 y4 y5)) ∧ (∀ y0 y1 y2 y3 y4 y5 y6 y7, LeO (bocagelaw04_BoundLoose.l0 k y0 y1 y2 y3 y4 y5 y6 y7) (bocagelaw04_BoundLoose.l0 (k + 1) y0 y1 y2 y3 y4 y5 y6 y7)) ∧ (∀ y0 y1 y2 y3 y4 y5 y6 y7, LeO (bocagelaw04_BoundLoose.j2 k y0 y1 y2 y3 y4 y5 y6 y7) (bocagelaw04_BoundLoose.j2 (k + 1) y0 y1 y2 y3 y4 y5 y6 y7)) ∧ (∀ y0 y1 y2 y3 y4 y5 y6 y7, LeO (bocagelaw04_BoundLoose.j3 k y0 y1 y2 y3 y4 y5 y6 y7) (bocagelaw04_BoundLoose.j3 (k + 1) y0 y1 y2 y3 y4 y5 y6 y7))
  | 0 => ⟨fun _ _ _ _ _ _ r h => by simp [bocagelaw04_BoundLoose.j0] at h, fun _ _ _ _ _ _ _ _ r h => by simp [bocagelaw04_BoundLoose.l0] at h, fun _ _ _ _ _ _ _ _ r h => by simp [bocagelaw04_BoundLoose.j2] at h, fun _ _ _ _ _ _ _ _ r h => by simp [bocagelaw04_BoundLoose.j3] at h⟩
  | k + 1 => by
    obtain ⟨ih0, ih1, ih2, ih3⟩ := bocagelaw04_BoundLoose.mono_l k
    refine ⟨?_, ?_, ?_, ?_⟩
    · intro y0 y1 y2 y3 y4 y5
      unfold bocagelaw04_BoundLoose.j0
      repeat' first
      | (with_reducible exact ih0 _ _ _ _ _ _)
      | (with_reducible exact ih1 _ _ _ _ _ _ _ _)
      | (with_reducible exact ih2 _ _ _ _ _ _ _ _)
      | (with_reducible exact ih3 _ _ _ _ _ _ _ _)
      | (with_reducible exact bocagelaw04_alive.mono _)
      | (with_reducible exact bocagelaw04_number.mono _ _)
      | (with_reducible exact bocageref04_Span.mono _ _ _ _ _)
      | (with_reducible exact bound_Loose.mono _ _)
      | (with_reducible exact LeO.refl _)
      | (with_reducible exact LeO.none _)
      | (with_reducible refine LeO.ite ?_ ?_)
      | (with_reducible refine LeO.bind ?_ (fun _ => ?_))
      | exact ih0 _ _ _ _ _ _
      | exact ih1 _ _ _ _ _ _ _ _
      | exact ih2 _ _ _ _ _ _ _ _
      | exact ih3 _ _ _ _ _ _ _ _
      | exact bocagelaw04_alive.mono _
      | exact bocagelaw04_number.mono _ _
      | exact bocageref04_Span.mono _ _ _ _ _
      | exact bound_Loose.mono _ _
      | exact LeO.none _
      | refine LeO.ite ?_ ?_
      | refine LeO.bind ?_ (fun _ => ?_)
    · intro y0 y1 y2 y3 y4 y5 y6 y7
      unfold bocagelaw04_BoundLoose.l0
      repeat' first
      | (with_reducible exact ih0 _ _ _ _ _ _)
      | (with_reducible exact ih1 _ _ _ _ _ _ _ _)
      | (with_reducible exact ih2 _ _ _ _ _ _ _ _)
      | (with_reducible exact ih3 _ _ _ _ _ _ _ _)
      | (with_reducible exact bocagelaw04_alive.mono _)
      | (with_reducible exact bocagelaw04_number.mono _ _)
      | (with_reducible exact bocageref04_Span.mono _ _ _ _ _)
      | (with_reducible exact bound_Loose.mono _ _)
      | (with_reducible exact LeO.refl _)
      | (with_reducible exact LeO.none _)
      | (with_reducible refine LeO.ite ?_ ?_)
      | (with_reducible refine LeO.bind ?_ (fun _ => ?_))
      | exact ih0 _ _ _ _ _ _
      | exact ih1 _ _ _ _ _ _ _ _
      | exact ih2 _ _ _ _ _ _ _ _
      | exact ih3 _ _ _ _ _ _ _ _
      | exact bocagelaw04_alive.mono _
      | exact bocagelaw04_number.mono _ _
      | exact bocageref04_Span.mono _ _ _ _ _
      | exact bound_Loose.mono _ _
      | exact LeO.none _
      | refine LeO.ite ?_ ?_
      | refine LeO.bind ?_ (fun _ => ?_)
    · intro y0 y1 y2 y3 y4 y5 y6 y7
      unfold bocagelaw04_BoundLoose.j2
      repeat' first
      | (with_reducible exact ih0 _ _ _ _ _ _)
      | (with_reducible exact ih1 _ _ _ _ _ _ _ _)
      | (with_reducible exact ih2 _ _ _ _ _ _ _ _)
      | (with_reducible exact ih3 _ _ _ _ _ _ _ _)
      | (with_reducible exact bocagelaw04_alive.mono _)
      | (with_reducible exact bocagelaw04_number.mono _ _)
      | (with_reducible exact bocageref04_Span.mono _ _ _ _ _)
      | (with_reducible exact bound_Loose.mono _ _)
      | (with_reducible exact LeO.refl _)
      | (with_reducible exact LeO.none _)
      | (with_reducible refine LeO.ite ?_ ?_)
      | (with_reducible refine LeO.bind ?_ (fun _ => ?_))
      | exact ih0 _ _ _ _ _ _
      | exact ih1 _ _ _ _ _ _ _ _
      | exact ih2 _ _ _ _ _ _ _ _
      | exact ih3 _ _ _ _ _ _ _ _
      | exact bocagelaw04_alive.mono _
      | exact bocagelaw04_number.mono _ _
      | exact bocageref04_Span.mono _ _ _ _ _
      | exact bound_Loose.mono _ _
      | exact LeO.none _
      | refine LeO.ite ?_ ?_
      | refine LeO.bind ?_ (fun _ => ?_)
    · intro y0 y1 y2 y3 y4 y5 y6 y7
      unfold bocagelaw04_BoundLoose.j3
      repeat' first
      | (with_reducible exact ih0 _ _ _ _ _ _)
      | (with_reducible exact ih1 _ _ _ _ _ _ _ _)
      | (with_reducible exact ih2 _ _ _ _ _ _ _ _)
      | (with_reducible exact ih3 _ _ _ _ _ _ _ _)
      | (with_reducible exact bocagelaw04_alive.mono _)
      | (with_reducible exact bocagelaw04_number.mono _ _)
      | (with_reducible exact bocageref04_Span.mono _ _ _ _ _)
      | (with_reducible exact bound_Loose.mono _ _)
      | (with_reducible exact LeO.refl _)
      | (with_reducible exact LeO.none _)
      | (with_reducible refine LeO.ite ?_ ?_)
      | (with_reducible refine LeO.bind ?_ (fun _ => ?_))
      | exact ih0 _ _ _ _ _ _
      | exact ih1 _ _ _ _ _ _ _ _
      | exact ih2 _ _ _ _ _ _ _ _
      | exact ih3 _ _ _ _ _ _ _ _
      | exact bocagelaw04_alive.mono _
      | exact bocagelaw04_number.mono _ _
      | exact bocageref04_Span.mono _ _ _ _ _
      | exact bound_Loose.mono _ _
      | exact LeO.none _
      | refine LeO.ite ?_ ?_
      | refine LeO.bind ?_ (fun _ => ?_)
theorem bocagelaw04_BoundLoose.mono : ∀ a0 a1 a2 a3 a4 k, LeO (bocagelaw04_BoundLoose.f k a0 a1 a2 a3 a4) (bocagelaw04_BoundLoose.f (k + 1) a0 a1 a2 a3 a4) := by
  intro a0 a1 a2 a3 a4 k
  obtain ⟨ih0, ih1, ih2, ih3⟩ := bocagelaw04_BoundLoose.mono_l k
  unfold bocagelaw04_BoundLoose.f
  repeat' first
      | (with_reducible exact ih0 _ _ _ _ _ _)
      | (with_reducible exact ih1 _ _ _ _ _ _ _ _)
      | (with_reducible exact ih2 _ _ _ _ _ _ _ _)
      | (with_reducible exact ih3 _ _ _ _ _ _ _ _)
      | (with_reducible exact bocagelaw04_alive.mono _)
      | (with_reducible exact bocagelaw04_number.mono _ _)
      | (with_reducible exact bocageref04_Span.mono _ _ _ _ _)
      | (with_reducible exact bound_Loose.mono _ _)
      | (with_reducible exact LeO.refl _)
      | (with_reducible exact LeO.none _)
      | (with_reducible refine LeO.ite ?_ ?_)
      | (with_reducible refine LeO.bind ?_ (fun _ => ?_))
      | exact ih0 _ _ _ _ _ _
      | exact ih1 _ _ _ _ _ _ _ _
      | exact ih2 _ _ _ _ _ _ _ _
      | exact ih3 _ _ _ _ _ _ _ _
      | exact bocagelaw04_alive.mono _
      | exact bocagelaw04_number.mono _ _
      | exact bocageref04_Span.mono _ _ _ _ _
      | exact bound_Loose.mono _ _
      | exact LeO.none _
      | refine LeO.ite ?_ ?_
      | refine LeO.bind ?_ (fun _ => ?_)
def bocagelaw04_BoundLoose.T13 : Bool × List (List Nat × List Nat) := (true, [([], []), ([], []), ([0, 1], [0, 1]), ([], []), ([3], [3]), ([4], [4]), ([2, 5], [2, 5]), ([], []), ([6, 7], [6, 7]), ([8], [8]), ([], []), ([9, 10], [9, 10]), ([], []), ([12], [12]), ([13, 5], [13]), ([11, 14], [11, 14]), ([], []), ([15, 16], [15, 16]), ([], []), ([17, 18], [17, 18]), ([19, 14, 0, 1, 2, 3, 4, 5, 6, 7, 8, 9, 10, 11, 12, 13, 14, 15, 16, 17, 18, 19], [19])])
def bocagelaw04_BoundLoose.B13 : List Nat := [0, 0, 3, 0, 8, 24, 63, 0, 255, 511, 0, 2047, 0, 4096, 12344, 32767, 0, 131071, 0, 524287, 1048575]
theorem bocagelaw04_BoundLoose.tab13 : rtab .any (opsOf Try.f6 13) = bocagelaw04_BoundLoose.T13 := by kernel_rfl
theorem bocagelaw04_BoundLoose.bits13 : waitsOk bocagelaw04_BoundLoose.T13.2 bocagelaw04_BoundLoose.B13 = true := by kernel_rfl
set_option maxHeartbeats 8000000 in
set_option maxRecDepth 100000 in
theorem bocagelaw04_BoundLoose.calls (k : Nat) (a0_0 : Int) (a0_1 : Int) (a1_0 : Int) (a1_1 : Int) (a2 : Int) (r : Bool) (w : World) (h : bocagelaw04_BoundLoose.f k a0_0 a0_1 a1_0 a1_1 a2 = some r) (hr : r = true) :
    Calls Try.prog 6 #[.agg #[.int .i64 a0_0, .int .i64 a0_1], .agg #[.int .i64 a1_0, .int .i64 a1_1], .int .i64 a2] w fun e w' => e = .returned (.bool r) ∧ Below w.heap.size w w' := by
  have HRT := Aside0.mk hr
  clear hr
  have hu23 := Try.underlying23
  have hu27 := Try.underlying27
  have HB := Aside0.mk (Below.refl w.heap.size w)
  have H : (if a2 < 0 then (bocagelaw04_BoundLoose.j0 k a2 true a0_0 a0_1 a1_0 a1_1) else (if a2 > 20 then (bocagelaw04_BoundLoose.j0 k a2 true a0_0 a0_1 a1_0 a1_1) else (if a0_0 < 1 then (bocagelaw04_BoundLoose.j0 k a2 true a0_0 a0_1 a1_0 a1_1) else (if a0_0 > 2 then (bocagelaw04_BoundLoose.j0 k a2 true a0_0 a0_1 a1_0 a1_1) else (if a1_0 < 1 then (bocagelaw04_BoundLoose.j0 k a2 true a0_0 a0_1 a1_0 a1_1) else (bocagelaw04_BoundLoose.j0 k a2 (decide (a1_0 > 2)) a0_0 a0_1 a1_0 a1_1)))))) = some r := h
  clear h
  have HC4 := Aside0.mk H
  clear H
  go_enter Try.func6, Try.ntmps6
  go_upto_region 1 with (first | ((with_reducible refine gate_dst (N := 3) rfl ?_); (try (refine gate_guard (by rfl) ?_; dsimp only)); refine bxe (N := 3) (cs := #[.int .i64 a0_0, .int .i64 a0_1]) (t := 23) ?_; intro gb621 hg w5 hbox hb; have BK621 := Aside0.mk (hbox); have GW621 := lsz hg HB; have GE621 := lsz hg HB; replace HB := bst HB hb; clear hb hbox hg) | ((with_reducible refine gate_dst (N := 4) rfl ?_); (try (refine gate_guard (by rfl) ?_; dsimp only)); refine bxe (N := 4) (cs := #[.int .i64 a1_0, .int .i64 a1_1]) (t := 23) ?_; intro gb622 hg w6 hbox hb; have BK622 := Aside0.mk (hbox); have GW622 := lsz hg HB; have GE622 := lsz hg HB; replace HB := bst HB hb; have NB621_622 := nlt hg BK621; have NB622_621 := ngt hg BK621; replace BK621 := bkb BK621 hb; clear hb hbox hg))
  (try simp only [Act.put, List.setIfInBounds_toArray, List.set_cons_zero, List.set_cons_succ])
  go_cut [42] (fun v42 wc => ∃ (kq : Nat) (x42_3 : Bool), v42 = .bool x42_3 ∧ Aside0 (bocagelaw04_BoundLoose.j0 kq a2 x42_3 a0_0 a0_1 a1_0 a1_1 = some r) ∧ Aside0 (kq ≤ k) ∧ Aside0 (wc.heap[gb621]? = some (.cells #[.int .i64 a0_0, .int .i64 a0_1] 23 (0, 0))) ∧ Aside0 (wc.heap[gb622]? = some (.cells #[.int .i64 a1_0, .int .i64 a1_1] 23 (0, 0))) ∧ Aside0 (Below w.heap.size w wc))
  case first =>
    have H := HC4.out
    clear HC4
    by_cases c7 : a2 < 0
    · rw [if_pos c7] at H
      have c7b0 : decide (a2 < 0) = true := decide_eq_true c7
      clear c7
      (first | rw [c7b0] | (simp only [i64_w, i32_w]; rw [c7b0]) | skip)
      have H' := Aside0.mk H
      clear H
      go_wp2
      go_meet
      case rel => exact ⟨_, (true), (by first | rfl | (simp; done) | (simp [*]; done)), H', ⟨by first | omega | exact Nat.le_refl _⟩, ⟨bk BK621⟩, ⟨bk BK622⟩, ⟨bl HB⟩⟩
    · rw [if_neg c7] at H
      have c7b0 : decide (a2 < 0) = false := decide_eq_false c7
      clear c7
      (first | rw [c7b0] | (simp only [i64_w, i32_w]; rw [c7b0]) | skip)
      by_cases c8 : a2 > 20
      · rw [if_pos c8] at H
        have c8b0 : decide (20 < a2) = true := decide_eq_true c8
        clear c8
        have H' := Aside0.mk H
        clear H
        go_wp2
        go_meet
        case rel => exact ⟨_, (true), (by first | rfl | (simp; done) | (simp [*]; done)), H', ⟨by first | omega | exact Nat.le_refl _⟩, ⟨bk BK621⟩, ⟨bk BK622⟩, ⟨bl HB⟩⟩
      · rw [if_neg c8] at H
        have c8b0 : decide (20 < a2) = false := decide_eq_false c8
        clear c8
        by_cases c9 : a0_0 < 1
        · rw [if_pos c9] at H
          have c9b0 : decide (a0_0 < 1) = true := decide_eq_true c9
          clear c9
          have H' := Aside0.mk H
          clear H
          have hnb10 := NB621_622.out
          have hnc10 := NB622_621.out
          have hcz11_0 : w6.cell? ⟨gb621, 0, none⟩ = some (.int .i64 a0_0) := (blk_cell BK621.out 0).trans rfl
          have hcz11_1 : w6.cell? ⟨gb621, 1, none⟩ = some (.int .i64 a0_1) := (blk_cell BK621.out 1).trans rfl
          have hfz11_0 := blk_frozen BK621.out 0
          have hfz11_1 := blk_frozen BK621.out 1
          go_wp2
          go_meet
          case rel => exact ⟨_, (true), (by first | rfl | (simp; done) | (simp [*]; done)), H', ⟨by first | omega | exact Nat.le_refl _⟩, ⟨bk BK621⟩, ⟨bk BK622⟩, ⟨bl HB⟩⟩
        · rw [if_neg c9] at H
          have c9b0 : decide (a0_0 < 1) = false := decide_eq_false c9
          clear c9
          by_cases c12 : a0_0 > 2
          · rw [if_pos c12] at H
            have c12b0 : decide (2 < a0_0) = true := decide_eq_true c12
            clear c12
            have H' := Aside0.mk H
            clear H
            have hnb13 := NB621_622.out
            have hnc13 := NB622_621.out
            have hcz14_0 : w6.cell? ⟨gb621, 0, none⟩ = some (.int .i64 a0_0) := (blk_cell BK621.out 0).trans rfl
            have hcz14_1 : w6.cell? ⟨gb621, 1, none⟩ = some (.int .i64 a0_1) := (blk_cell BK621.out 1).trans rfl
            have hfz14_0 := blk_frozen BK621.out 0
            have hfz14_1 := blk_frozen BK621.out 1
            go_wp2
            go_meet
            case rel => exact ⟨_, (true), (by first | rfl | (simp; done) | (simp [*]; done)), H', ⟨by first | omega | exact Nat.le_refl _⟩, ⟨bk BK621⟩, ⟨bk BK622⟩, ⟨bl HB⟩⟩
          · rw [if_neg c12] at H
            have c12b0 : decide (2 < a0_0) = false := decide_eq_false c12
            clear c12
            by_cases c15 : a1_0 < 1
            · rw [if_pos c15] at H
              have c15b0 : decide (a1_0 < 1) = true := decide_eq_true c15
              clear c15
              have H' := Aside0.mk H
              clear H
              have hnb16 := NB621_622.out
              have hnc16 := NB622_621.out
              have hcz17_0 : w6.cell? ⟨gb621, 0, none⟩ = some (.int .i64 a0_0) := (blk_cell BK621.out 0).trans rfl
              have hcz17_1 : w6.cell? ⟨gb621, 1, none⟩ = some (.int .i64 a0_1) := (blk_cell BK621.out 1).trans rfl
              have hfz17_0 := blk_frozen BK621.out 0
              have hfz17_1 := blk_frozen BK621.out 1
              have hcz18_0 : w6.cell? ⟨gb622, 0, none⟩ = some (.int .i64 a1_0) := (blk_cell BK622.out 0).trans rfl
              have hcz18_1 : w6.cell? ⟨gb622, 1, none⟩ = some (.int .i64 a1_1) := (blk_cell BK622.out 1).trans rfl
              have hfz18_0 := blk_frozen BK622.out 0
              have hfz18_1 := blk_frozen BK622.out 1
              go_wp2
              go_meet
              case rel => exact ⟨_, (true), (by first | rfl | (simp; done) | (simp [*]; done)), H', ⟨by first | omega | exact Nat.le_refl _⟩, ⟨bk BK621⟩, ⟨bk BK622⟩, ⟨bl HB⟩⟩
            · rw [if_neg c15] at H
              have c15b0 : decide (a1_0 < 1) = false := decide_eq_false c15
              clear c15
              have H' := Aside0.mk H
              clear H
              have hnb19 := NB621_622.out
              have hnc19 := NB622_621.out
              have hcz20_0 : w6.cell? ⟨gb621, 0, none⟩ = some (.int .i64 a0_0) := (blk_cell BK621.out 0).trans rfl
              have hcz20_1 : w6.cell? ⟨gb621, 1, none⟩ = some (.int .i64 a0_1) := (blk_cell BK621.out 1).trans rfl
              have hfz20_0 := blk_frozen BK621.out 0
              have hfz20_1 := blk_frozen BK621.out 1
              have hcz21_0 : w6.cell? ⟨gb622, 0, none⟩ = some (.int .i64 a1_0) := (blk_cell BK622.out 0).trans rfl
              have hcz21_1 : w6.cell? ⟨gb622, 1, none⟩ = some (.int .i64 a1_1) := (blk_cell BK622.out 1).trans rfl
              have hfz21_0 := blk_frozen BK622.out 0
              have hfz21_1 := blk_frozen BK622.out 1
              go_wp2
              go_meet
              case rel => exact ⟨_, (decide (a1_0 > 2)), (by first | rfl | (simp; done) | (simp [*]; done)), H', ⟨by first | omega | exact Nat.le_refl _⟩, ⟨bk BK621⟩, ⟨bk BK622⟩, ⟨bl HB⟩⟩
  case rest =>
    clear HC4
    try clear c1
    try clear p2
    try clear c6
    try clear c7
    try clear c7b0
    try clear c8
    try clear c8b0
    try clear c9
    try clear c9b0
    try clear c10
    try clear c12
    try clear c12b0
    try clear c13
    try clear c15
    try clear c15b0
    try clear c16
    try clear c19
    try clear hcz11_0
    try clear hcz11_1
    try clear hcz14_0
    try clear hcz14_1
    try clear hcz17_0
    try clear hcz17_1
    try clear hcz18_0
    try clear hcz18_1
    try clear hcz20_0
    try clear hcz20_1
    try clear hcz21_0
    try clear hcz21_1
    try clear hfz11_0
    try clear hfz11_1
    try clear hfz14_0
    try clear hfz14_1
    try clear hfz17_0
    try clear hfz17_1
    try clear hfz18_0
    try clear hfz18_1
    try clear hfz20_0
    try clear hfz20_1
    try clear hfz21_0
    try clear hfz21_1
    obtain ⟨kq, x42_3, rfl, HA, HJ3, BK621, BK622, HB⟩ := hcut
    cases kq with
    | zero => exact absurd HA.out (by simp [bocagelaw04_BoundLoose.j0])
    | succ kj3 =>
      have H := HA.out
      clear HA
      simp only [bocagelaw04_BoundLoose.j0] at H
      by_cases c22 : x42_3 = true
      · subst c22
        have H1 : ((bocagelaw04_alive.f kj3).bind fun t623 => (some t623)) = some r := by rw [if_pos rfl] at H; exact H
        clear H
        have H := H1
        clear H1
        replace H := Option.bind_eq_some_iff.mp H
        obtain ⟨t623, A230, H⟩ := H
        (try (set_option simprocs false in dsimp only at H))
        have A23 := Aside0.mk A230
        clear A230
        obtain rfl := Option.some.inj H
        go_wp2_with (first | ((with_reducible refine gate_callee (f := 10) rfl ?_); refine gol (some 43) Try.func10 #[] ?_; (with_reducible refine (bocagelaw04_alive.calls kj3  t623 _ A23.out HRT.out).mono ?_); rintro e w24 ⟨rfl, hb⟩; refine ⟨_, rfl, ?_⟩; replace BK621 := bkb BK621 hb; replace BK622 := bkb BK622 hb; replace HB := bst HB hb; (try clear hb); (try clear hb2); (try clear hk); (try clear hi)))
        go_ret
        exact endB HB
      · replace c22 := Bool.eq_false_iff.mpr c22
        subst c22
        have H1 : (bocagelaw04_BoundLoose.l0 kj3 a2 (⟨#[]⟩ : ByteArray) a2 0 a0_0 a0_1 a1_0 a1_1) = some r := by rw [if_neg (show ¬ (false = true) by decide)] at H; exact H
        clear H
        have H := H1
        clear H1
        have H' := Aside0.mk H
        clear H
        go_wp2
        go_loopg [7, 45] kj3 (fun kq v7 v45 w' => ∃ (x7_2 : ByteArray) (x45_2 : Int), v7 = .string x7_2 ∧ v45 = .int .i64 x45_2 ∧ Aside0 (bocagelaw04_BoundLoose.l0 kq a2 x7_2 a2 x45_2 a0_0 a0_1 a1_0 a1_1 = some r) ∧ Aside0 (kq ≤ kj3) ∧ Aside0 (w'.heap[gb621]? = some (.cells #[.int .i64 a0_0, .int .i64 a0_1] 23 (0, 0))) ∧ Aside0 (w'.heap[gb622]? = some (.cells #[.int .i64 a1_0, .int .i64 a1_1] 23 (0, 0))) ∧ Aside0 (Below w.heap.size w w'))
        case atStart => exact ⟨((⟨#[]⟩ : ByteArray)), (0), (by first | rfl | (simp; done) | (simp [*]; done)), (by first | rfl | (simp; done) | (simp [*]; done)), H', ⟨Nat.le_refl _⟩, ⟨bk BK621⟩, ⟨bk BK622⟩, ⟨bl HB⟩⟩
        case round =>
          clear H'
          try clear c1
          try clear c2
          try clear p2
          try clear c6
          try clear c7
          try clear c7b0
          try clear c8
          try clear c8b0
          try clear c9
          try clear c9b0
          try clear c10
          try clear c12
          try clear c12b0
          try clear c13
          try clear c15
          try clear c15b0
          try clear c16
          try clear c19
          try clear c22
          try clear hcz11_0
          try clear hcz11_1
          try clear hcz14_0
          try clear hcz14_1
          try clear hcz17_0
          try clear hcz17_1
          try clear hcz18_0
          try clear hcz18_1
          try clear hcz20_0
          try clear hcz20_1
          try clear hcz21_0
          try clear hcz21_1
          try clear hfz11_0
          try clear hfz11_1
          try clear hfz14_0
          try clear hfz14_1
          try clear hfz17_0
          try clear hfz17_1
          try clear hfz18_0
          try clear hfz18_1
          try clear hfz20_0
          try clear hfz20_1
          try clear hfz21_0
          try clear hfz21_1
          try clear p2
          obtain ⟨x7_2, x45_2, rfl, rfl, HA, HK2, BK621, BK622, HB⟩ := hrel
          cases gk with
          | zero => exact absurd HA.out (by simp [bocagelaw04_BoundLoose.l0])
          | succ k2 =>
            have H := HA.out
            clear HA
            simp only [bocagelaw04_BoundLoose.l0] at H
            by_cases c25 : x45_2 < a2
            · rw [if_pos c25] at H
              have c25b0 : decide (x45_2 < a2) = true := decide_eq_true c25
              clear c25
              by_cases c26 : x7_2.size + 1 ≤ 9223372036854775807
              · rw [if_pos c26] at H
                have c26b0 := eq_true c26
                have c26b1 : decide (x7_2.size + 1 ≤ 9223372036854775807) = true := decide_eq_true c26
                try have c26b2 : (9223372036854775807 < x7_2.size + 1) = False := eq_false (Nat.not_lt.2 c26)
                have H' := Aside0.mk H
                clear H
                go_wp2
                go_roundg k2
                case measure => have := HJ3.out; have := HK2.out; omega
                case rel => exact ⟨(x7_2 ++ (⟨#[32]⟩ : ByteArray)), (wrap64 (x45_2 + 1)), (by first | rfl | (simp; done) | (simp [*]; done)), (by first | rfl | (simp; done) | (simp [*]; done)), H', ⟨by have := HJ3.out; have := HK2.out; omega⟩, ⟨bk BK621⟩, ⟨bk BK622⟩, ⟨bl HB⟩⟩
              · rw [if_neg c26] at H
                exact absurd H (by simp)
            · rw [if_neg c25] at H
              have c25b0 : decide (x45_2 < a2) = false := decide_eq_false c25
              clear c25
              have HC27 := Aside0.mk H
              clear H
              have hnb28 := NB621_622.out
              have hnc28 := NB622_621.out
              have hcz29_0 : wr.cell? ⟨gb621, 0, none⟩ = some (.int .i64 a0_0) := (blk_cell BK621.out 0).trans rfl
              have hcz29_1 : wr.cell? ⟨gb621, 1, none⟩ = some (.int .i64 a0_1) := (blk_cell BK621.out 1).trans rfl
              have hfz29_0 := blk_frozen BK621.out 0
              have hfz29_1 := blk_frozen BK621.out 1
              go_upto_if 52 with (fail)
              go_cut [8] (fun v8 wc => ∃ (kq : Nat) (x8_26 : ByteArray), v8 = .string x8_26 ∧ Aside0 (bocagelaw04_BoundLoose.j2 kq a2 x7_2 x8_26 (⟨#[41]⟩ : ByteArray) a0_0 a0_1 a1_0 a1_1 = some r) ∧ Aside0 (kq ≤ k2) ∧ Aside0 (wc.heap[gb621]? = some (.cells #[.int .i64 a0_0, .int .i64 a0_1] 23 (0, 0))) ∧ Aside0 (wc.heap[gb622]? = some (.cells #[.int .i64 a1_0, .int .i64 a1_1] 23 (0, 0))) ∧ Aside0 (Below w.heap.size w wc))
              case first =>
                have H := HC27.out
                clear HC27
                by_cases c30 : a0_0 = 2
                · rw [if_pos c30] at H
                  have c30b0 : (a0_0 == 2) = true := beq_iff_eq.mpr c30
                  have c30b1 : (a0_0 != 2) = false := bne_eq_false_iff_eq.mpr c30
                  clear c30
                  (first | rw [c30b0] | (simp only [i64_w, i32_w]; rw [c30b0]) | skip)
                  have H' := Aside0.mk H
                  clear H
                  go_wp2
                  go_meet
                  case rel => exact ⟨_, ((⟨#[91]⟩ : ByteArray)), (by first | rfl | (simp; done) | (simp [*]; done)), H', ⟨by have := HJ3.out; have := HK2.out; first | omega | exact Nat.le_refl _⟩, ⟨bk BK621⟩, ⟨bk BK622⟩, ⟨bl HB⟩⟩
                · rw [if_neg c30] at H
                  have c30b0 : (a0_0 == 2) = false := beq_eq_false_iff_ne.mpr c30
                  have c30b1 : (a0_0 != 2) = true := bne_iff_ne.mpr c30
                  (first | rw [c30b0] | (simp only [i64_w, i32_w]; rw [c30b0]) | skip)
                  have H' := Aside0.mk H
                  clear H
                  go_wp2
                  go_meet
                  case rel => exact ⟨_, ((⟨#[40]⟩ : ByteArray)), (by first | rfl | (simp; done) | (simp [*]; done)), H', ⟨by have := HJ3.out; have := HK2.out; first | omega | exact Nat.le_refl _⟩, ⟨bk BK621⟩, ⟨bk BK622⟩, ⟨bl HB⟩⟩
              case rest =>
                clear HC27
                try clear c1
                try clear c2
                try clear p2
                try clear c3
                try clear c6
                try clear p6
                try clear c7
                try clear c7b0
                try clear c8
                try clear c8b0
                try clear c9
                try clear c9b0
                try clear c10
                try clear c12
                try clear c12b0
                try clear c13
                try clear c15
                try clear c15b0
                try clear c16
                try clear c19
                try clear c22
                try clear c25
                try clear c25b0
                try clear c26
                try clear c26b0
                try clear c26b1
                try clear c26b2
                try clear c28
                try clear c30
                try clear c30b0
                try clear c30b1
                try clear hcz11_0
                try clear hcz11_1
                try clear hcz14_0
                try clear hcz14_1
                try clear hcz17_0
                try clear hcz17_1
                try clear hcz18_0
                try clear hcz18_1
                try clear hcz20_0
                try clear hcz20_1
                try clear hcz21_0
                try clear hcz21_1
                try clear hcz29_0
                try clear hcz29_1
                try clear hfz11_0
                try clear hfz11_1
                try clear hfz14_0
                try clear hfz14_1
                try clear hfz17_0
                try clear hfz17_1
                try clear hfz18_0
                try clear hfz18_1
                try clear hfz20_0
                try clear hfz20_1
                try clear hfz21_0
                try clear hfz21_1
                try clear hfz29_0
                try clear hfz29_1
                try clear p2
                obtain ⟨kq, x8_26, rfl, HA, HJ26, BK621, BK622, HB⟩ := hcut
                cases kq with
                | zero => exact absurd HA.out (by simp [bocagelaw04_BoundLoose.j2])
                | succ kj26 =>
                  have H := HA.out
                  clear HA
                  simp only [bocagelaw04_BoundLoose.j2] at H
                  have HC31 := Aside0.mk H
                  clear H
                  have hnb32 := NB622_621.out
                  have hnc32 := NB621_622.out
                  have hcz33_0 : wc.cell? ⟨gb622, 0, none⟩ = some (.int .i64 a1_0) := (blk_cell BK622.out 0).trans rfl
                  have hcz33_1 : wc.cell? ⟨gb622, 1, none⟩ = some (.int .i64 a1_1) := (blk_cell BK622.out 1).trans rfl
                  have hfz33_0 := blk_frozen BK622.out 0
                  have hfz33_1 := blk_frozen BK622.out 1
                  go_upto_if 55 with (fail)
                  go_cut [9] (fun v9 wc => ∃ (kq : Nat) (x9_30 : ByteArray), v9 = .string x9_30 ∧ Aside0 (bocagelaw04_BoundLoose.j3 kq a2 x7_2 x8_26 x9_30 a0_0 a0_1 a1_0 a1_1 = some r) ∧ Aside0 (kq ≤ kj26) ∧ Aside0 (wc.heap[gb621]? = some (.cells #[.int .i64 a0_0, .int .i64 a0_1] 23 (0, 0))) ∧ Aside0 (wc.heap[gb622]? = some (.cells #[.int .i64 a1_0, .int .i64 a1_1] 23 (0, 0))) ∧ Aside0 (Below w.heap.size w wc))
                  case first =>
                    have H := HC31.out
                    clear HC31
                    by_cases c34 : a1_0 = 2
                    · rw [if_pos c34] at H
                      have c34b0 : (a1_0 == 2) = true := beq_iff_eq.mpr c34
                      have c34b1 : (a1_0 != 2) = false := bne_eq_false_iff_eq.mpr c34
                      clear c34
                      (first | rw [c34b0] | (simp only [i64_w, i32_w]; rw [c34b0]) | skip)
                      have H' := Aside0.mk H
                      clear H
                      go_wp2
                      go_meet
                      case rel => exact ⟨_, ((⟨#[93]⟩ : ByteArray)), (by first | rfl | (simp; done) | (simp [*]; done)), H', ⟨by have := HJ3.out; have := HK2.out; have := HJ26.out; first | omega | exact Nat.le_refl _⟩, ⟨bk BK621⟩, ⟨bk BK622⟩, ⟨bl HB⟩⟩
                    · rw [if_neg c34] at H
                      have c34b0 : (a1_0 == 2) = false := beq_eq_false_iff_ne.mpr c34
                      have c34b1 : (a1_0 != 2) = true := bne_iff_ne.mpr c34
                      (first | rw [c34b0] | (simp only [i64_w, i32_w]; rw [c34b0]) | skip)
                      have H' := Aside0.mk H
                      clear H
                      go_wp2
                      go_meet
                      case rel => exact ⟨_, ((⟨#[41]⟩ : ByteArray)), (by first | rfl | (simp; done) | (simp [*]; done)), H', ⟨by have := HJ3.out; have := HK2.out; have := HJ26.out; first | omega | exact Nat.le_refl _⟩, ⟨bk BK621⟩, ⟨bk BK622⟩, ⟨bl HB⟩⟩
                  case rest =>
                    clear HC31
                    try clear c1
                    try clear c2
                    try clear p2
                    try clear c3
                    try clear c6
                    try clear p6
                    try clear c7
                    try clear c7b0
                    try clear c8
                    try clear c8b0
                    try clear c9
                    try clear c9b0
                    try clear c10
                    try clear c12
                    try clear c12b0
                    try clear c13
                    try clear c15
                    try clear c15b0
                    try clear c16
                    try clear c19
                    try clear c22
                    try clear c25
                    try clear c25b0
                    try clear c26
                    try clear c26b0
                    try clear c26b1
                    try clear c26b2
                    try clear c28
                    try clear c30
                    try clear c30b0
                    try clear c30b1
                    try clear c32
                    try clear c34
                    try clear c34b0
                    try clear c34b1
                    try clear hcz11_0
                    try clear hcz11_1
                    try clear hcz14_0
                    try clear hcz14_1
                    try clear hcz17_0
                    try clear hcz17_1
                    try clear hcz18_0
                    try clear hcz18_1
                    try clear hcz20_0
                    try clear hcz20_1
                    try clear hcz21_0
                    try clear hcz21_1
                    try clear hcz29_0
                    try clear hcz29_1
                    try clear hcz33_0
                    try clear hcz33_1
                    try clear hfz11_0
                    try clear hfz11_1
                    try clear hfz14_0
                    try clear hfz14_1
                    try clear hfz17_0
                    try clear hfz17_1
                    try clear hfz18_0
                    try clear hfz18_1
                    try clear hfz20_0
                    try clear hfz20_1
                    try clear hfz21_0
                    try clear hfz21_1
                    try clear hfz29_0
                    try clear hfz29_1
                    try clear hfz33_0
                    try clear hfz33_1
                    try clear p2
                    try clear p6
                    obtain ⟨kq, x9_30, rfl, HA, HJ30, BK621, BK622, HB⟩ := hcut
                    cases kq with
                    | zero => exact absurd HA.out (by simp [bocagelaw04_BoundLoose.j3])
                    | succ kj30 =>
                      have H := HA.out
                      clear HA
                      simp only [bocagelaw04_BoundLoose.j3] at H
                      by_cases c35 : x8_26.size + x7_2.size ≤ 9223372036854775807
                      · rw [if_pos c35] at H
                        have c35b0 := eq_true c35
                        have c35b1 : decide (x8_26.size + x7_2.size ≤ 9223372036854775807) = true := decide_eq_true c35
                        try have c35b2 : (9223372036854775807 < x8_26.size + x7_2.size) = False := eq_false (Nat.not_lt.2 c35)
                        replace H := Option.bind_eq_some_iff.mp H
                        obtain ⟨t624, A360, H⟩ := H
                        (try (set_option simprocs false in dsimp only at H))
                        have A36 := Aside0.mk A360
                        clear A360
                        by_cases c37 : (x8_26 ++ x7_2).size + t624.size ≤ 9223372036854775807
                        · rw [if_pos c37] at H
                          have c37b0 := eq_true c37
                          have c37b1 : decide ((x8_26 ++ x7_2).size + t624.size ≤ 9223372036854775807) = true := decide_eq_true c37
                          try have c37b2 : (9223372036854775807 < (x8_26 ++ x7_2).size + t624.size) = False := eq_false (Nat.not_lt.2 c37)
                          try have c37b3 : (9223372036854775807 < x8_26.size + x7_2.size + t624.size) = False := eq_false (Nat.not_lt.2 (by have h := c37; simp only [ByteArray.size_append] at h; exact h))
                          try have c37b3 : (9223372036854775807 < x8_26.size + x7_2.size + t624.size) = False := eq_false (Nat.not_lt.2 (by have h := c37; simp only [ByteArray.size_append] at h; exact h))
                          by_cases c38 : ((x8_26 ++ x7_2) ++ t624).size + x7_2.size ≤ 9223372036854775807
                          · rw [if_pos c38] at H
                            have c38b0 := eq_true c38
                            have c38b1 : decide (((x8_26 ++ x7_2) ++ t624).size + x7_2.size ≤ 9223372036854775807) = true := decide_eq_true c38
                            try have c38b2 : (9223372036854775807 < ((x8_26 ++ x7_2) ++ t624).size + x7_2.size) = False := eq_false (Nat.not_lt.2 c38)
                            try have c38b3 : (9223372036854775807 < x8_26.size + x7_2.size + t624.size + x7_2.size) = False := eq_false (Nat.not_lt.2 (by have h := c38; simp only [ByteArray.size_append] at h; exact h))
                            try have c38b3 : (9223372036854775807 < x8_26.size + x7_2.size + t624.size + x7_2.size) = False := eq_false (Nat.not_lt.2 (by have h := c38; simp only [ByteArray.size_append] at h; exact h))
                            by_cases c39 : (((x8_26 ++ x7_2) ++ t624) ++ x7_2).size + 1 ≤ 9223372036854775807
                            · rw [if_pos c39] at H
                              have c39b0 := eq_true c39
                              have c39b1 : decide ((((x8_26 ++ x7_2) ++ t624) ++ x7_2).size + 1 ≤ 9223372036854775807) = true := decide_eq_true c39
                              try have c39b2 : (9223372036854775807 < (((x8_26 ++ x7_2) ++ t624) ++ x7_2).size + 1) = False := eq_false (Nat.not_lt.2 c39)
                              try have c39b3 : (9223372036854775807 < x8_26.size + x7_2.size + t624.size + x7_2.size + 1) = False := eq_false (Nat.not_lt.2 (by have h := c39; simp only [ByteArray.size_append] at h; exact h))
                              try have c39b3 : (9223372036854775807 < x8_26.size + x7_2.size + t624.size + x7_2.size + 1) = False := eq_false (Nat.not_lt.2 (by have h := c39; simp only [ByteArray.size_append] at h; exact h))
                              by_cases c40 : ((((x8_26 ++ x7_2) ++ t624) ++ x7_2) ++ (⟨#[44]⟩ : ByteArray)).size + x7_2.size ≤ 9223372036854775807
                              · rw [if_pos c40] at H
                                have c40b0 := eq_true c40
                                have c40b1 : decide (((((x8_26 ++ x7_2) ++ t624) ++ x7_2) ++ (⟨#[44]⟩ : ByteArray)).size + x7_2.size ≤ 9223372036854775807) = true := decide_eq_true c40
                                try have c40b2 : (9223372036854775807 < ((((x8_26 ++ x7_2) ++ t624) ++ x7_2) ++ (⟨#[44]⟩ : ByteArray)).size + x7_2.size) = False := eq_false (Nat.not_lt.2 c40)
                                try have c40b3 : (9223372036854775807 < x8_26.size + x7_2.size + t624.size + x7_2.size + 1 + x7_2.size) = False := eq_false (Nat.not_lt.2 (by have h := c40; simp only [ByteArray.size_append] at h; exact h))
                                try have c40b3 : (9223372036854775807 < x8_26.size + x7_2.size + t624.size + x7_2.size + 1 + x7_2.size) = False := eq_false (Nat.not_lt.2 (by have h := c40; simp only [ByteArray.size_append] at h; exact h))
                                replace H := Option.bind_eq_some_iff.mp H
                                obtain ⟨t625, A410, H⟩ := H
                                (try (set_option simprocs false in dsimp only at H))
                                have A41 := Aside0.mk A410
                                clear A410
                                by_cases c42 : (((((x8_26 ++ x7_2) ++ t624) ++ x7_2) ++ (⟨#[44]⟩ : ByteArray)) ++ x7_2).size + t625.size ≤ 9223372036854775807
                                · rw [if_pos c42] at H
                                  have c42b0 := eq_true c42
                                  have c42b1 : decide ((((((x8_26 ++ x7_2) ++ t624) ++ x7_2) ++ (⟨#[44]⟩ : ByteArray)) ++ x7_2).size + t625.size ≤ 9223372036854775807) = true := decide_eq_true c42
                                  try have c42b2 : (9223372036854775807 < (((((x8_26 ++ x7_2) ++ t624) ++ x7_2) ++ (⟨#[44]⟩ : ByteArray)) ++ x7_2).size + t625.size) = False := eq_false (Nat.not_lt.2 c42)
                                  try have c42b3 : (9223372036854775807 < x8_26.size + x7_2.size + t624.size + x7_2.size + 1 + x7_2.size + t625.size) = False := eq_false (Nat.not_lt.2 (by have h := c42; simp only [ByteArray.size_append] at h; exact h))
                                  try have c42b3 : (9223372036854775807 < x8_26.size + x7_2.size + t624.size + x7_2.size + 1 + x7_2.size + t625.size) = False := eq_false (Nat.not_lt.2 (by have h := c42; simp only [ByteArray.size_append] at h; exact h))
                                  by_cases c43 : ((((((x8_26 ++ x7_2) ++ t624) ++ x7_2) ++ (⟨#[44]⟩ : ByteArray)) ++ x7_2) ++ t625).size + x7_2.size ≤ 9223372036854775807
                                  · rw [if_pos c43] at H
                                    have c43b0 := eq_true c43
                                    have c43b1 : decide (((((((x8_26 ++ x7_2) ++ t624) ++ x7_2) ++ (⟨#[44]⟩ : ByteArray)) ++ x7_2) ++ t625).size + x7_2.size ≤ 9223372036854775807) = true := decide_eq_true c43
                                    try have c43b2 : (9223372036854775807 < ((((((x8_26 ++ x7_2) ++ t624) ++ x7_2) ++ (⟨#[44]⟩ : ByteArray)) ++ x7_2) ++ t625).size + x7_2.size) = False := eq_false (Nat.not_lt.2 c43)
                                    try have c43b3 : (9223372036854775807 < x8_26.size + x7_2.size + t624.size + x7_2.size + 1 + x7_2.size + t625.size + x7_2.size) = False := eq_false (Nat.not_lt.2 (by have h := c43; simp only [ByteArray.size_append] at h; exact h))
                                    try have c43b3 : (9223372036854775807 < x8_26.size + x7_2.size + t624.size + x7_2.size + 1 + x7_2.size + t625.size + x7_2.size) = False := eq_false (Nat.not_lt.2 (by have h := c43; simp only [ByteArray.size_append] at h; exact h))
                                    by_cases c44 : (((((((x8_26 ++ x7_2) ++ t624) ++ x7_2) ++ (⟨#[44]⟩ : ByteArray)) ++ x7_2) ++ t625) ++ x7_2).size + x9_30.size ≤ 9223372036854775807
                                    · rw [if_pos c44] at H
                                      have c44b0 := eq_true c44
                                      have c44b1 : decide ((((((((x8_26 ++ x7_2) ++ t624) ++ x7_2) ++ (⟨#[44]⟩ : ByteArray)) ++ x7_2) ++ t625) ++ x7_2).size + x9_30.size ≤ 9223372036854775807) = true := decide_eq_true c44
                                      try have c44b2 : (9223372036854775807 < (((((((x8_26 ++ x7_2) ++ t624) ++ x7_2) ++ (⟨#[44]⟩ : ByteArray)) ++ x7_2) ++ t625) ++ x7_2).size + x9_30.size) = False := eq_false (Nat.not_lt.2 c44)
                                      try have c44b3 : (9223372036854775807 < x8_26.size + x7_2.size + t624.size + x7_2.size + 1 + x7_2.size + t625.size + x7_2.size + x9_30.size) = False := eq_false (Nat.not_lt.2 (by have h := c44; simp only [ByteArray.size_append] at h; exact h))
                                      try have c44b3 : (9223372036854775807 < x8_26.size + x7_2.size + t624.size + x7_2.size + 1 + x7_2.size + t625.size + x7_2.size + x9_30.size) = False := eq_false (Nat.not_lt.2 (by have h := c44; simp only [ByteArray.size_append] at h; exact h))
                                      by_cases c45 : ((((((((x8_26 ++ x7_2) ++ t624) ++ x7_2) ++ (⟨#[44]⟩ : ByteArray)) ++ x7_2) ++ t625) ++ x7_2) ++ x9_30).size + 1 ≤ 9223372036854775807
                                      · rw [if_pos c45] at H
                                        have c45b0 := eq_true c45
                                        have c45b1 : decide (((((((((x8_26 ++ x7_2) ++ t624) ++ x7_2) ++ (⟨#[44]⟩ : ByteArray)) ++ x7_2) ++ t625) ++ x7_2) ++ x9_30).size + 1 ≤ 9223372036854775807) = true := decide_eq_true c45
                                        try have c45b2 : (9223372036854775807 < ((((((((x8_26 ++ x7_2) ++ t624) ++ x7_2) ++ (⟨#[44]⟩ : ByteArray)) ++ x7_2) ++ t625) ++ x7_2) ++ x9_30).size + 1) = False := eq_false (Nat.not_lt.2 c45)
                                        try have c45b3 : (9223372036854775807 < x8_26.size + x7_2.size + t624.size + x7_2.size + 1 + x7_2.size + t625.size + x7_2.size + x9_30.size + 1) = False := eq_false (Nat.not_lt.2 (by have h := c45; simp only [ByteArray.size_append] at h; exact h))
                                        try have c45b3 : (9223372036854775807 < x8_26.size + x7_2.size + t624.size + x7_2.size + 1 + x7_2.size + t625.size + x7_2.size + x9_30.size + 1) = False := eq_false (Nat.not_lt.2 (by have h := c45; simp only [ByteArray.size_append] at h; exact h))
                                        replace H := Option.bind_eq_some_iff.mp H
                                        obtain ⟨⟨t626, t627, t628, t629, t630, t631⟩, A460, H⟩ := H
                                        (try (set_option simprocs false in dsimp only at H))
                                        have A46 := Aside0.mk A460
                                        clear A460
                                        replace H := Option.bind_eq_some_iff.mp H
                                        obtain ⟨⟨t633, t634, t635, t636, t637⟩, A470, H⟩ := H
                                        (try (set_option simprocs false in dsimp only at H))
                                        have A47 := Aside0.mk A470
                                        clear A470
                                        replace H := Option.bind_eq_some_iff.mp H
                                        obtain ⟨t639, A480, H⟩ := H
                                        (try (set_option simprocs false in dsimp only at H))
                                        have A48 := Aside0.mk A480
                                        clear A480
                                        obtain rfl : t624 = t639 := Option.some.inj (A36.out.symm.trans A48.out)
                                        by_cases c49 : (x8_26 ++ x7_2).size + t624.size ≤ 9223372036854775807
                                        · rw [if_pos c49] at H
                                          have c49b0 := eq_true c49
                                          have c49b1 : decide ((x8_26 ++ x7_2).size + t624.size ≤ 9223372036854775807) = true := decide_eq_true c49
                                          try have c49b2 : (9223372036854775807 < (x8_26 ++ x7_2).size + t624.size) = False := eq_false (Nat.not_lt.2 c49)
                                          try have c49b3 : (9223372036854775807 < x8_26.size + x7_2.size + t624.size) = False := eq_false (Nat.not_lt.2 (by have h := c49; simp only [ByteArray.size_append] at h; exact h))
                                          try have c49b3 : (9223372036854775807 < x8_26.size + x7_2.size + t624.size) = False := eq_false (Nat.not_lt.2 (by have h := c49; simp only [ByteArray.size_append] at h; exact h))
                                          by_cases c50 : ((x8_26 ++ x7_2) ++ t624).size + x7_2.size ≤ 9223372036854775807
                                          · rw [if_pos c50] at H
                                            have c50b0 := eq_true c50
                                            have c50b1 : decide (((x8_26 ++ x7_2) ++ t624).size + x7_2.size ≤ 9223372036854775807) = true := decide_eq_true c50
                                            try have c50b2 : (9223372036854775807 < ((x8_26 ++ x7_2) ++ t624).size + x7_2.size) = False := eq_false (Nat.not_lt.2 c50)
                                            try have c50b3 : (9223372036854775807 < x8_26.size + x7_2.size + t624.size + x7_2.size) = False := eq_false (Nat.not_lt.2 (by have h := c50; simp only [ByteArray.size_append] at h; exact h))
                                            try have c50b3 : (9223372036854775807 < x8_26.size + x7_2.size + t624.size + x7_2.size) = False := eq_false (Nat.not_lt.2 (by have h := c50; simp only [ByteArray.size_append] at h; exact h))
                                            by_cases c51 : (((x8_26 ++ x7_2) ++ t624) ++ x7_2).size + 1 ≤ 9223372036854775807
                                            · rw [if_pos c51] at H
                                              have c51b0 := eq_true c51
                                              have c51b1 : decide ((((x8_26 ++ x7_2) ++ t624) ++ x7_2).size + 1 ≤ 9223372036854775807) = true := decide_eq_true c51
                                              try have c51b2 : (9223372036854775807 < (((x8_26 ++ x7_2) ++ t624) ++ x7_2).size + 1) = False := eq_false (Nat.not_lt.2 c51)
                                              try have c51b3 : (9223372036854775807 < x8_26.size + x7_2.size + t624.size + x7_2.size + 1) = False := eq_false (Nat.not_lt.2 (by have h := c51; simp only [ByteArray.size_append] at h; exact h))
                                              try have c51b3 : (9223372036854775807 < x8_26.size + x7_2.size + t624.size + x7_2.size + 1) = False := eq_false (Nat.not_lt.2 (by have h := c51; simp only [ByteArray.size_append] at h; exact h))
                                              replace H := Option.bind_eq_some_iff.mp H
                                              obtain ⟨t640, A520, H⟩ := H
                                              (try (set_option simprocs false in dsimp only at H))
                                              have A52 := Aside0.mk A520
                                              clear A520
                                              by_cases c53 : t640 = true
                                              · subst c53
                                                have H1 : (if ((t626 == t633 && (t627 == t634)) && ((t628 == t635 && (t629 == t636)))) = true then (if t631 = t637 then (if t631 = 0 then (if t630 = (((((((((x8_26 ++ x7_2) ++ t624) ++ x7_2) ++ (⟨#[44]⟩ : ByteArray)) ++ x7_2) ++ t625) ++ x7_2) ++ x9_30).size : Int) then (some true) else (some false)) else (some (t630 == (wrap64 ((((((x8_26 ++ x7_2) ++ t624) ++ x7_2) ++ (⟨#[44]⟩ : ByteArray)).size : Int) + a2))))) else (some false)) else (some false)) = some r := by rw [if_pos rfl] at H; exact H
                                                clear H
                                                have H := H1
                                                clear H1
                                                by_cases c54 : ((t626 == t633 && (t627 == t634)) && ((t628 == t635 && (t629 == t636)))) = true
                                                · rw [if_pos c54] at H
                                                  have c54b0 : ((t626 == t633 && (t627 == t634)) && ((t628 == t635 && (t629 == t636)))) = true := c54
                                                  clear c54
                                                  by_cases c55 : t631 = t637
                                                  · rw [if_pos c55] at H
                                                    have c55b0 : (t631 == t637) = true := beq_iff_eq.mpr c55
                                                    have c55b1 : (t631 != t637) = false := bne_eq_false_iff_eq.mpr c55
                                                    clear c55
                                                    by_cases c56 : t631 = 0
                                                    · rw [if_pos c56] at H
                                                      have c56b0 : (t631 == 0) = true := beq_iff_eq.mpr c56
                                                      have c56b1 : (t631 != 0) = false := bne_eq_false_iff_eq.mpr c56
                                                      clear c56
                                                      by_cases c57 : t630 = (((((((((x8_26 ++ x7_2) ++ t624) ++ x7_2) ++ (⟨#[44]⟩ : ByteArray)) ++ x7_2) ++ t625) ++ x7_2) ++ x9_30).size : Int)
                                                      · rw [if_pos c57] at H
                                                        have c57b0 : (t630 == (((((((((x8_26 ++ x7_2) ++ t624) ++ x7_2) ++ (⟨#[44]⟩ : ByteArray)) ++ x7_2) ++ t625) ++ x7_2) ++ x9_30).size : Int)) = true := beq_iff_eq.mpr c57
                                                        have c57b5 : (t630 == (x8_26.size : Int) + (x7_2.size : Int) + (t624.size : Int) + (x7_2.size : Int) + 1 + (x7_2.size : Int) + (t625.size : Int) + (x7_2.size : Int) + (x9_30.size : Int)) = true := by have h := c57b0; simp only [ByteArray.size_append, Int.natCast_add] at h; exact h
                                                        have c57b1 : (t630 != (((((((((x8_26 ++ x7_2) ++ t624) ++ x7_2) ++ (⟨#[44]⟩ : ByteArray)) ++ x7_2) ++ t625) ++ x7_2) ++ x9_30).size : Int)) = false := bne_eq_false_iff_eq.mpr c57
                                                        have c57b6 : (t630 != (x8_26.size : Int) + (x7_2.size : Int) + (t624.size : Int) + (x7_2.size : Int) + 1 + (x7_2.size : Int) + (t625.size : Int) + (x7_2.size : Int) + (x9_30.size : Int)) = false := by have h := c57b1; simp only [ByteArray.size_append, Int.natCast_add] at h; exact h
                                                        clear c57
                                                        obtain rfl := Option.some.inj H
                                                        try go_wp2
                                                        replace BK621 := Aside0.mk (blk_drew BK621.out)
                                                        replace BK622 := Aside0.mk (blk_drew BK622.out)
                                                        replace HB := Aside0.mk (below_drew1 HB.out)
                                                        refine start_ (n := 21) (S := fun w' => w'.cell? ⟨gb621, 0, none⟩ = some (.int .i64 a0_0) ∧ w'.cell? ⟨gb621, 1, none⟩ = some (.int .i64 a0_1) ∧ w'.cell? ⟨gb622, 0, none⟩ = some (.int .i64 a1_0) ∧ w'.cell? ⟨gb622, 1, none⟩ = some (.int .i64 a1_1)) (ds := []) #[false, false, false, false, false, false, false, false, false, false, false, false, false, false, false, false, false, false, false, false, false] (by kernel_rfl) rfl rfl (c2 BK621 (e2 BK622)) (fun hHeld => ?_); refine with_tabW bocagelaw04_BoundLoose.tab13 bocagelaw04_BoundLoose.bits13 (fun HT_ HW_ => ?_)
                                                        generalize wc.drew = w58 at BK621 BK622 HB hHeld ⊢
                                                        refine pu 0 (some 56) #[true, false, false, false, false, false, false, false, false, false, false, false, false, false, false, false, false, false, false, false, false] (any_of HT_.out (by kernel_rfl)) ?_
                                                        refine pu 1 (some 57) #[true, true, false, false, false, false, false, false, false, false, false, false, false, false, false, false, false, false, false, false, false] (any_of HT_.out (by kernel_rfl)) ?_
                                                        refine pu 2 (some 58) #[true, true, true, false, false, false, false, false, false, false, false, false, false, false, false, false, false, false, false, false, false] (any_of HT_.out (by kernel_rfl)) ?_
                                                        refine pu 3 (some 59) #[true, true, true, true, false, false, false, false, false, false, false, false, false, false, false, false, false, false, false, false, false] (any_of HT_.out (by kernel_rfl)) ?_
                                                        refine pu 7 (some 63) #[true, true, true, true, false, false, false, true, false, false, false, false, false, false, false, false, false, false, false, false, false] (any_of HT_.out (by kernel_rfl)) ?_
                                                        refine pu 10 (some 66) #[true, true, true, true, false, false, false, true, false, false, true, false, false, false, false, false, false, false, false, false, false] (any_of HT_.out (by kernel_rfl)) ?_
                                                        refine pu 12 (some 68) #[true, true, true, true, false, false, false, true, false, false, true, false, true, false, false, false, false, false, false, false, false] (any_of HT_.out (by kernel_rfl)) ?_
                                                        refine pu 16 (some 72) #[true, true, true, true, false, false, false, true, false, false, true, false, true, false, false, false, true, false, false, false, false] (any_of HT_.out (by kernel_rfl)) ?_
                                                        refine pu 18 (some 74) #[true, true, true, true, false, false, false, true, false, false, true, false, true, false, false, false, true, false, true, false, false] (any_of HT_.out (by kernel_rfl)) ?_
                                                        refine tk4 4 (some 60) #[true, true, true, true, true, false, false, true, false, false, true, false, true, false, false, false, true, false, true, false, false] (take_ofW HT_.out HW_.out (by kernel_rfl)) hHeld ?_
                                                        refine tk4 13 (some 69) #[true, true, true, true, true, false, false, true, false, false, true, false, true, true, false, false, true, false, true, false, false] (take_ofW HT_.out HW_.out (by kernel_rfl)) hHeld ?_
                                                        refine one_ (i := 5) (N := some 61) #[true, true, true, true, true, true, false, true, false, false, true, false, true, true, false, false, true, false, true, false, false] rfl rfl (one_of HT_.out (by kernel_rfl)) (by decide) (fun K hK => ?_)
                                                        refine goes_ Try.func21 (by kernel_rfl) rfl #[.int .i64 a0_1] (by rfl) rfl rfl (by (try simp only [List.map_toArray, List.map_cons, List.map_nil]); first | done | rfl | (simp only [List.length_drop, List.length_take]; rfl)) ?_
                                                        with_reducible refine (bocagelaw04_number.calls kj30 a0_1 t624 _ A36.out).mono ?_
                                                        rintro e w59 ⟨rfl, hb⟩
                                                        refine ⟨_, rfl, ?_⟩
                                                        replace BK621 := bkb BK621 hb
                                                        replace BK622 := bkb BK622 hb
                                                        replace HB := bst HB hb
                                                        (try clear hb)
                                                        (try clear hb2)
                                                        (try clear hk)
                                                        (try clear hi)
                                                        refine hK.out _ _ (c2 BK621 (e2 BK622)) (fun hHeld => ?_)
                                                        clear hK K
                                                        refine nrp 61 ?_
                                                        refine pu 6 (some 62) #[true, true, true, true, true, true, true, true, false, false, true, false, true, true, false, false, true, false, true, false, false] (any_of HT_.out (by kernel_rfl)) ?_
                                                        refine pu 8 (some 64) #[true, true, true, true, true, true, true, true, true, false, true, false, true, true, false, false, true, false, true, false, false] (any_of HT_.out (by kernel_rfl)) ?_
                                                        refine pu 9 (some 65) #[true, true, true, true, true, true, true, true, true, true, true, false, true, true, false, false, true, false, true, false, false] (any_of HT_.out (by kernel_rfl)) ?_
                                                        refine pu 11 (some 67) #[true, true, true, true, true, true, true, true, true, true, true, true, true, true, false, false, true, false, true, false, false] (any_of HT_.out (by kernel_rfl)) ?_
                                                        refine one_ (i := 14) (N := some 70) #[true, true, true, true, true, true, true, true, true, true, true, true, true, true, true, false, true, false, true, false, false] rfl rfl (one_of HT_.out (by kernel_rfl)) (by decide) (fun K hK => ?_)
                                                        refine goes_ Try.func21 (by kernel_rfl) rfl #[.int .i64 a1_1] (by rfl) rfl rfl (by (try simp only [List.map_toArray, List.map_cons, List.map_nil]); first | done | rfl | (simp only [List.length_drop, List.length_take]; rfl)) ?_
                                                        with_reducible refine (bocagelaw04_number.calls kj30 a1_1 t625 _ A41.out).mono ?_
                                                        rintro e w60 ⟨rfl, hb⟩
                                                        refine ⟨_, rfl, ?_⟩
                                                        replace BK621 := bkb BK621 hb
                                                        replace BK622 := bkb BK622 hb
                                                        replace HB := bst HB hb
                                                        (try clear hb)
                                                        (try clear hb2)
                                                        (try clear hk)
                                                        (try clear hi)
                                                        refine hK.out _ _ (c2 BK621 (e2 BK622)) (fun hHeld => ?_)
                                                        clear hK K
                                                        refine nrp 70 ?_
                                                        refine pu 15 (some 71) #[true, true, true, true, true, true, true, true, true, true, true, true, true, true, true, true, true, false, true, false, false] (any_of HT_.out (by kernel_rfl)) ?_
                                                        refine pu 17 (some 73) #[true, true, true, true, true, true, true, true, true, true, true, true, true, true, true, true, true, true, true, false, false] (any_of HT_.out (by kernel_rfl)) ?_
                                                        refine pu 19 (some 75) #[true, true, true, true, true, true, true, true, true, true, true, true, true, true, true, true, true, true, true, true, false] (any_of HT_.out (by kernel_rfl)) ?_
                                                        refine pu 20 (some 10) #[true, true, true, true, true, true, true, true, true, true, true, true, true, true, true, true, true, true, true, true, true] (any_of HT_.out (by kernel_rfl)) ?_
                                                        refine done_ (done_of HT_.out (by kernel_rfl)) ?_
                                                        try go_wp2_with (first | ((with_reducible refine gate_callee (f := 14) rfl ?_); refine gol (some 79) Try.func14 #[.string (((((((((x8_26 ++ x7_2) ++ t624) ++ x7_2) ++ (⟨#[44]⟩ : ByteArray)) ++ x7_2) ++ t625) ++ x7_2) ++ x9_30) ++ (⟨#[120]⟩ : ByteArray))] ?_; (with_reducible refine (bound_Loose.calls kj30 (((((((((x8_26 ++ x7_2) ++ t624) ++ x7_2) ++ (⟨#[44]⟩ : ByteArray)) ++ x7_2) ++ t625) ++ x7_2) ++ x9_30) ++ (⟨#[120]⟩ : ByteArray)) t626 t627 t628 t629 t630 t631 _ A46.out).mono ?_); rintro e w61 ⟨rfl, hb⟩; refine ⟨_, rfl, ?_⟩; replace BK621 := bkb BK621 hb; replace BK622 := bkb BK622 hb; replace HB := bst HB hb; (try clear hb); (try clear hb2); (try clear hk); (try clear hi)) | ((with_reducible refine gate_dst (N := 11) rfl ?_); (try (refine gate_guard (by rfl) ?_; dsimp only)); refine bxe (N := 11) (cs := #[.int .i64 0, .int .i64 0, .int .i64 0, .int .i64 0]) (t := 27) ?_; intro gb632 hg w62 hbox hb; have BK632 := Aside0.mk (hbox); have GW632 := lsz hg HB; have GE632 := lsz hg HB; replace HB := bst HB hb; have NB621_632 := nlt hg BK621; have NB632_621 := ngt hg BK621; replace BK621 := bkb BK621 hb; have NB622_632 := nlt hg BK622; have NB632_622 := ngt hg BK622; replace BK622 := bkb BK622 hb; clear hb hbox hg; have hnb63 := NB632_621.out; have hnc63 := NB621_632.out; have hnb64 := NB632_622.out; have hnc64 := NB622_632.out; obtain ⟨hcz65_0, hcz65_1, hcz65_2, hcz65_3⟩ := e4 BK632; obtain ⟨hfz65_0, hfz65_1, hfz65_2, hfz65_3⟩ := f4 BK632; have hnb66 := NB621_622.out; have hnc66 := NB622_621.out; obtain ⟨hcz67_0, hcz67_1⟩ := e2 BK621; obtain ⟨hfz67_0, hfz67_1⟩ := f2 BK621; obtain ⟨hcz68_0, hcz68_1⟩ := e2 BK622; obtain ⟨hfz68_0, hfz68_1⟩ := f2 BK622) | ((with_reducible refine gate_callee (f := 22) rfl ?_); refine gol (some 86) Try.func22 #[.agg #[.int .i64 a0_0, .int .i64 a0_1], .agg #[.int .i64 a1_0, .int .i64 a1_1]] ?_; (with_reducible refine (bocageref04_Span.calls kj30 a0_0 a0_1 a1_0 a1_1 t633 t634 t635 t636 t637 _ A47.out).mono ?_); rintro e w69 ⟨rfl, hb⟩; refine ⟨_, rfl, ?_⟩; replace BK621 := Aside0.mk (blk_below (bkf BK621 NB621_632) hb); replace BK622 := Aside0.mk (blk_below (bkf BK622 NB622_632) hb); replace BK632 := Aside0.mk (blk_below (g := gb632) (o := .cells #[.int .i64 t626, .int .i64 t627, .int .i64 t628, .int .i64 t629] 27 (0, 0)) (bkp BK632) hb); replace HB := bst HB hb; (try clear hb); (try clear hb2); (try clear hk); (try clear hi)) | ((with_reducible refine gate_dst (N := 14) rfl ?_); (try (refine gate_guard (by rfl) ?_; dsimp only)); refine bxe (N := 14) (cs := #[.int .i64 0, .int .i64 0, .int .i64 0, .int .i64 0]) (t := 27) ?_; intro gb638 hg w70 hbox hb; have BK638 := Aside0.mk (hbox); have GW638 := lsz hg HB; have GE638 := lsz hg HB; replace HB := bst HB hb; have NB621_638 := nlt hg BK621; have NB638_621 := ngt hg BK621; replace BK621 := bkb BK621 hb; have NB622_638 := nlt hg BK622; have NB638_622 := ngt hg BK622; replace BK622 := bkb BK622 hb; have NB632_638 := nlt hg BK632; have NB638_632 := ngt hg BK632; replace BK632 := bkb BK632 hb; clear hb hbox hg; have hnb71 := NB638_621.out; have hnc71 := NB621_638.out; have hnb72 := NB638_622.out; have hnc72 := NB622_638.out; have hnb73 := NB638_632.out; have hnc73 := NB632_638.out; obtain ⟨hcz74_0, hcz74_1, hcz74_2, hcz74_3⟩ := e4 BK638; obtain ⟨hfz74_0, hfz74_1, hfz74_2, hfz74_3⟩ := f4 BK638; obtain ⟨hcz75_0, hcz75_1⟩ := e2 BK621; obtain ⟨hfz75_0, hfz75_1⟩ := f2 BK621) | ((with_reducible refine gate_callee (f := 21) rfl ?_); refine gol (some 94) Try.func21 #[.int .i64 a0_1] ?_; (with_reducible refine (bocagelaw04_number.calls kj30 a0_1 t624 _ A48.out).mono ?_); rintro e w76 ⟨rfl, hb⟩; refine ⟨_, rfl, ?_⟩; replace BK621 := Aside0.mk (blk_below (bkf BK621 NB621_638) hb); replace BK622 := Aside0.mk (blk_below (bkf BK622 NB622_638) hb); replace BK632 := Aside0.mk (blk_below (bkf BK632 NB632_638) hb); replace BK638 := Aside0.mk (blk_below (g := gb638) (o := .cells #[.int .i64 t633, .int .i64 t634, .int .i64 t635, .int .i64 t636] 27 (0, 0)) (bkp BK638) hb); replace HB := bst HB hb; (try clear hb); (try clear hb2); (try clear hk); (try clear hi)) | ((with_reducible refine gate_callee (f := 10) rfl ?_); refine gol (some 102) Try.func10 #[] ?_; (with_reducible refine (bocagelaw04_alive.calls kj30  true _ A52.out rfl).mono ?_); rintro e w77 ⟨rfl, hb⟩; refine ⟨_, rfl, ?_⟩; replace BK621 := bkb BK621 hb; replace BK622 := bkb BK622 hb; replace BK632 := bkb BK632 hb; replace BK638 := bkb BK638 hb; replace HB := bst HB hb; (try clear hb); (try clear hb2); (try clear hk); (try clear hi); obtain ⟨hcz78_0, hcz78_1, hcz78_2, hcz78_3⟩ := e4 BK632; obtain ⟨hfz78_0, hfz78_1, hfz78_2, hfz78_3⟩ := f4 BK632; obtain ⟨hcz79_0, hcz79_1, hcz79_2, hcz79_3⟩ := e4 BK638; obtain ⟨hfz79_0, hfz79_1, hfz79_2, hfz79_3⟩ := f4 BK638))
                                                        go_ret
                                                        exact endB HB
                                                      · rw [if_neg c57] at H
                                                        exact absurd ((Option.some.inj H).trans HRT.out) Bool.false_ne_true
                                                    · rw [if_neg c56] at H
                                                      have c56b0 : (t631 == 0) = false := beq_eq_false_iff_ne.mpr c56
                                                      have c56b1 : (t631 != 0) = true := bne_iff_ne.mpr c56
                                                      obtain rfl := Option.some.inj H
                                                      try go_wp2
                                                      replace BK621 := Aside0.mk (blk_drew BK621.out)
                                                      replace BK622 := Aside0.mk (blk_drew BK622.out)
                                                      replace HB := Aside0.mk (below_drew1 HB.out)
                                                      refine start_ (n := 21) (S := fun w' => w'.cell? ⟨gb621, 0, none⟩ = some (.int .i64 a0_0) ∧ w'.cell? ⟨gb621, 1, none⟩ = some (.int .i64 a0_1) ∧ w'.cell? ⟨gb622, 0, none⟩ = some (.int .i64 a1_0) ∧ w'.cell? ⟨gb622, 1, none⟩ = some (.int .i64 a1_1)) (ds := []) #[false, false, false, false, false, false, false, false, false, false, false, false, false, false, false, false, false, false, false, false, false] (by kernel_rfl) rfl rfl (c2 BK621 (e2 BK622)) (fun hHeld => ?_); refine with_tabW bocagelaw04_BoundLoose.tab13 bocagelaw04_BoundLoose.bits13 (fun HT_ HW_ => ?_)
                                                      generalize wc.drew = w102 at BK621 BK622 HB hHeld ⊢
                                                      refine pu 0 (some 56) #[true, false, false, false, false, false, false, false, false, false, false, false, false, false, false, false, false, false, false, false, false] (any_of HT_.out (by kernel_rfl)) ?_
                                                      refine pu 1 (some 57) #[true, true, false, false, false, false, false, false, false, false, false, false, false, false, false, false, false, false, false, false, false] (any_of HT_.out (by kernel_rfl)) ?_
                                                      refine pu 2 (some 58) #[true, true, true, false, false, false, false, false, false, false, false, false, false, false, false, false, false, false, false, false, false] (any_of HT_.out (by kernel_rfl)) ?_
                                                      refine pu 3 (some 59) #[true, true, true, true, false, false, false, false, false, false, false, false, false, false, false, false, false, false, false, false, false] (any_of HT_.out (by kernel_rfl)) ?_
                                                      refine pu 7 (some 63) #[true, true, true, true, false, false, false, true, false, false, false, false, false, false, false, false, false, false, false, false, false] (any_of HT_.out (by kernel_rfl)) ?_
                                                      refine pu 10 (some 66) #[true, true, true, true, false, false, false, true, false, false, true, false, false, false, false, false, false, false, false, false, false] (any_of HT_.out (by kernel_rfl)) ?_
                                                      refine pu 12 (some 68) #[true, true, true, true, false, false, false, true, false, false, true, false, true, false, false, false, false, false, false, false, false] (any_of HT_.out (by kernel_rfl)) ?_
                                                      refine pu 16 (some 72) #[true, true, true, true, false, false, false, true, false, false, true, false, true, false, false, false, true, false, false, false, false] (any_of HT_.out (by kernel_rfl)) ?_
                                                      refine pu 18 (some 74) #[true, true, true, true, false, false, false, true, false, false, true, false, true, false, false, false, true, false, true, false, false] (any_of HT_.out (by kernel_rfl)) ?_
                                                      refine tk4 4 (some 60) #[true, true, true, true, true, false, false, true, false, false, true, false, true, false, false, false, true, false, true, false, false] (take_ofW HT_.out HW_.out (by kernel_rfl)) hHeld ?_
                                                      refine tk4 13 (some 69) #[true, true, true, true, true, false, false, true, false, false, true, false, true, true, false, false, true, false, true, false, false] (take_ofW HT_.out HW_.out (by kernel_rfl)) hHeld ?_
                                                      refine one_ (i := 5) (N := some 61) #[true, true, true, true, true, true, false, true, false, false, true, false, true, true, false, false, true, false, true, false, false] rfl rfl (one_of HT_.out (by kernel_rfl)) (by decide) (fun K hK => ?_)
                                                      refine goes_ Try.func21 (by kernel_rfl) rfl #[.int .i64 a0_1] (by rfl) rfl rfl (by (try simp only [List.map_toArray, List.map_cons, List.map_nil]); first | done | rfl | (simp only [List.length_drop, List.length_take]; rfl)) ?_
                                                      with_reducible refine (bocagelaw04_number.calls kj30 a0_1 t624 _ A36.out).mono ?_
                                                      rintro e w103 ⟨rfl, hb⟩
                                                      refine ⟨_, rfl, ?_⟩
                                                      replace BK621 := bkb BK621 hb
                                                      replace BK622 := bkb BK622 hb
                                                      replace HB := bst HB hb
                                                      (try clear hb)
                                                      (try clear hb2)
                                                      (try clear hk)
                                                      (try clear hi)
                                                      refine hK.out _ _ (c2 BK621 (e2 BK622)) (fun hHeld => ?_)
                                                      clear hK K
                                                      refine nrp 61 ?_
                                                      refine pu 6 (some 62) #[true, true, true, true, true, true, true, true, false, false, true, false, true, true, false, false, true, false, true, false, false] (any_of HT_.out (by kernel_rfl)) ?_
                                                      refine pu 8 (some 64) #[true, true, true, true, true, true, true, true, true, false, true, false, true, true, false, false, true, false, true, false, false] (any_of HT_.out (by kernel_rfl)) ?_
                                                      refine pu 9 (some 65) #[true, true, true, true, true, true, true, true, true, true, true, false, true, true, false, false, true, false, true, false, false] (any_of HT_.out (by kernel_rfl)) ?_
                                                      refine pu 11 (some 67) #[true, true, true, true, true, true, true, true, true, true, true, true, true, true, false, false, true, false, true, false, false] (any_of HT_.out (by kernel_rfl)) ?_
                                                      refine one_ (i := 14) (N := some 70) #[true, true, true, true, true, true, true, true, true, true, true, true, true, true, true, false, true, false, true, false, false] rfl rfl (one_of HT_.out (by kernel_rfl)) (by decide) (fun K hK => ?_)
                                                      refine goes_ Try.func21 (by kernel_rfl) rfl #[.int .i64 a1_1] (by rfl) rfl rfl (by (try simp only [List.map_toArray, List.map_cons, List.map_nil]); first | done | rfl | (simp only [List.length_drop, List.length_take]; rfl)) ?_
                                                      with_reducible refine (bocagelaw04_number.calls kj30 a1_1 t625 _ A41.out).mono ?_
                                                      rintro e w104 ⟨rfl, hb⟩
                                                      refine ⟨_, rfl, ?_⟩
                                                      replace BK621 := bkb BK621 hb
                                                      replace BK622 := bkb BK622 hb
                                                      replace HB := bst HB hb
                                                      (try clear hb)
                                                      (try clear hb2)
                                                      (try clear hk)
                                                      (try clear hi)
                                                      refine hK.out _ _ (c2 BK621 (e2 BK622)) (fun hHeld => ?_)
                                                      clear hK K
                                                      refine nrp 70 ?_
                                                      refine pu 15 (some 71) #[true, true, true, true, true, true, true, true, true, true, true, true, true, true, true, true, true, false, true, false, false] (any_of HT_.out (by kernel_rfl)) ?_
                                                      refine pu 17 (some 73) #[true, true, true, true, true, true, true, true, true, true, true, true, true, true, true, true, true, true, true, false, false] (any_of HT_.out (by kernel_rfl)) ?_
                                                      refine pu 19 (some 75) #[true, true, true, true, true, true, true, true, true, true, true, true, true, true, true, true, true, true, true, true, false] (any_of HT_.out (by kernel_rfl)) ?_
                                                      refine pu 20 (some 10) #[true, true, true, true, true, true, true, true, true, true, true, true, true, true, true, true, true, true, true, true, true] (any_of HT_.out (by kernel_rfl)) ?_
                                                      refine done_ (done_of HT_.out (by kernel_rfl)) ?_
                                                      try go_wp2_with (first | ((with_reducible refine gate_callee (f := 14) rfl ?_); refine gol (some 79) Try.func14 #[.string (((((((((x8_26 ++ x7_2) ++ t624) ++ x7_2) ++ (⟨#[44]⟩ : ByteArray)) ++ x7_2) ++ t625) ++ x7_2) ++ x9_30) ++ (⟨#[120]⟩ : ByteArray))] ?_; (with_reducible refine (bound_Loose.calls kj30 (((((((((x8_26 ++ x7_2) ++ t624) ++ x7_2) ++ (⟨#[44]⟩ : ByteArray)) ++ x7_2) ++ t625) ++ x7_2) ++ x9_30) ++ (⟨#[120]⟩ : ByteArray)) t626 t627 t628 t629 t630 t631 _ A46.out).mono ?_); rintro e w105 ⟨rfl, hb⟩; refine ⟨_, rfl, ?_⟩; replace BK621 := bkb BK621 hb; replace BK622 := bkb BK622 hb; replace HB := bst HB hb; (try clear hb); (try clear hb2); (try clear hk); (try clear hi)) | ((with_reducible refine gate_dst (N := 11) rfl ?_); (try (refine gate_guard (by rfl) ?_; dsimp only)); refine bxe (N := 11) (cs := #[.int .i64 0, .int .i64 0, .int .i64 0, .int .i64 0]) (t := 27) ?_; intro gb632 hg w106 hbox hb; have BK632 := Aside0.mk (hbox); have GW632 := lsz hg HB; have GE632 := lsz hg HB; replace HB := bst HB hb; have NB621_632 := nlt hg BK621; have NB632_621 := ngt hg BK621; replace BK621 := bkb BK621 hb; have NB622_632 := nlt hg BK622; have NB632_622 := ngt hg BK622; replace BK622 := bkb BK622 hb; clear hb hbox hg; have hnb107 := NB632_621.out; have hnc107 := NB621_632.out; have hnb108 := NB632_622.out; have hnc108 := NB622_632.out; obtain ⟨hcz109_0, hcz109_1, hcz109_2, hcz109_3⟩ := e4 BK632; obtain ⟨hfz109_0, hfz109_1, hfz109_2, hfz109_3⟩ := f4 BK632; have hnb110 := NB621_622.out; have hnc110 := NB622_621.out; obtain ⟨hcz111_0, hcz111_1⟩ := e2 BK621; obtain ⟨hfz111_0, hfz111_1⟩ := f2 BK621; obtain ⟨hcz112_0, hcz112_1⟩ := e2 BK622; obtain ⟨hfz112_0, hfz112_1⟩ := f2 BK622) | ((with_reducible refine gate_callee (f := 22) rfl ?_); refine gol (some 86) Try.func22 #[.agg #[.int .i64 a0_0, .int .i64 a0_1], .agg #[.int .i64 a1_0, .int .i64 a1_1]] ?_; (with_reducible refine (bocageref04_Span.calls kj30 a0_0 a0_1 a1_0 a1_1 t633 t634 t635 t636 t637 _ A47.out).mono ?_); rintro e w113 ⟨rfl, hb⟩; refine ⟨_, rfl, ?_⟩; replace BK621 := Aside0.mk (blk_below (bkf BK621 NB621_632) hb); replace BK622 := Aside0.mk (blk_below (bkf BK622 NB622_632) hb); replace BK632 := Aside0.mk (blk_below (g := gb632) (o := .cells #[.int .i64 t626, .int .i64 t627, .int .i64 t628, .int .i64 t629] 27 (0, 0)) (bkp BK632) hb); replace HB := bst HB hb; (try clear hb); (try clear hb2); (try clear hk); (try clear hi)) | ((with_reducible refine gate_dst (N := 14) rfl ?_); (try (refine gate_guard (by rfl) ?_; dsimp only)); refine bxe (N := 14) (cs := #[.int .i64 0, .int .i64 0, .int .i64 0, .int .i64 0]) (t := 27) ?_; intro gb638 hg w114 hbox hb; have BK638 := Aside0.mk (hbox); have GW638 := lsz hg HB; have GE638 := lsz hg HB; replace HB := bst HB hb; have NB621_638 := nlt hg BK621; have NB638_621 := ngt hg BK621; replace BK621 := bkb BK621 hb; have NB622_638 := nlt hg BK622; have NB638_622 := ngt hg BK622; replace BK622 := bkb BK622 hb; have NB632_638 := nlt hg BK632; have NB638_632 := ngt hg BK632; replace BK632 := bkb BK632 hb; clear hb hbox hg; have hnb115 := NB638_621.out; have hnc115 := NB621_638.out; have hnb116 := NB638_622.out; have hnc116 := NB622_638.out; have hnb117 := NB638_632.out; have hnc117 := NB632_638.out; obtain ⟨hcz118_0, hcz118_1, hcz118_2, hcz118_3⟩ := e4 BK638; obtain ⟨hfz118_0, hfz118_1, hfz118_2, hfz118_3⟩ := f4 BK638; obtain ⟨hcz119_0, hcz119_1⟩ := e2 BK621; obtain ⟨hfz119_0, hfz119_1⟩ := f2 BK621) | ((with_reducible refine gate_callee (f := 21) rfl ?_); refine gol (some 94) Try.func21 #[.int .i64 a0_1] ?_; (with_reducible refine (bocagelaw04_number.calls kj30 a0_1 t624 _ A48.out).mono ?_); rintro e w120 ⟨rfl, hb⟩; refine ⟨_, rfl, ?_⟩; replace BK621 := Aside0.mk (blk_below (bkf BK621 NB621_638) hb); replace BK622 := Aside0.mk (blk_below (bkf BK622 NB622_638) hb); replace BK632 := Aside0.mk (blk_below (bkf BK632 NB632_638) hb); replace BK638 := Aside0.mk (blk_below (g := gb638) (o := .cells #[.int .i64 t633, .int .i64 t634, .int .i64 t635, .int .i64 t636] 27 (0, 0)) (bkp BK638) hb); replace HB := bst HB hb; (try clear hb); (try clear hb2); (try clear hk); (try clear hi)) | ((with_reducible refine gate_callee (f := 10) rfl ?_); refine gol (some 102) Try.func10 #[] ?_; (with_reducible refine (bocagelaw04_alive.calls kj30  true _ A52.out rfl).mono ?_); rintro e w121 ⟨rfl, hb⟩; refine ⟨_, rfl, ?_⟩; replace BK621 := bkb BK621 hb; replace BK622 := bkb BK622 hb; replace BK632 := bkb BK632 hb; replace BK638 := bkb BK638 hb; replace HB := bst HB hb; (try clear hb); (try clear hb2); (try clear hk); (try clear hi); obtain ⟨hcz122_0, hcz122_1, hcz122_2, hcz122_3⟩ := e4 BK632; obtain ⟨hfz122_0, hfz122_1, hfz122_2, hfz122_3⟩ := f4 BK632; obtain ⟨hcz123_0, hcz123_1, hcz123_2, hcz123_3⟩ := e4 BK638; obtain ⟨hfz123_0, hfz123_1, hfz123_2, hfz123_3⟩ := f4 BK638))
                                                      go_ret
                                                      exact endB HB
                                                  · rw [if_neg c55] at H
                                                    exact absurd ((Option.some.inj H).trans HRT.out) Bool.false_ne_true
                                                · rw [if_neg c54] at H
                                                  exact absurd ((Option.some.inj H).trans HRT.out) Bool.false_ne_true
                                              · replace c53 := Bool.eq_false_iff.mpr c53
                                                subst c53
                                                have H1 : (some false) = some r := by rw [if_neg (show ¬ (false = true) by decide)] at H; exact H
                                                exact absurd ((Option.some.inj H1).trans HRT.out) Bool.false_ne_true
                                            · rw [if_neg c51] at H
                                              exact absurd H (by simp)
                                          · rw [if_neg c50] at H
                                            exact absurd H (by simp)
                                        · rw [if_neg c49] at H
                                          exact absurd H (by simp)
                                      · rw [if_neg c45] at H
                                        exact absurd H (by simp)
                                    · rw [if_neg c44] at H
                                      exact absurd H (by simp)
                                  · rw [if_neg c43] at H
                                    exact absurd H (by simp)
                                · rw [if_neg c42] at H
                                  exact absurd H (by simp)
                              · rw [if_neg c40] at H
                                exact absurd H (by simp)
                            · rw [if_neg c39] at H
                              exact absurd H (by simp)
                          · rw [if_neg c38] at H
                            exact absurd H (by simp)
                        · rw [if_neg c37] at H
                          exact absurd H (by simp)
                      · rw [if_neg c35] at H
                        exact absurd H (by simp)
end
end Go.Proofs.Ytpeidnkbliafkaa.Print
