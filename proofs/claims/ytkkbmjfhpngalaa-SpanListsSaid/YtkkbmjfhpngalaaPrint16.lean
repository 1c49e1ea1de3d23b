-- Laid by wip/print/bprint.py of this repo, over the kit's printer, with functions given by hand; not trusted: Lean checks it.
import Derived.Test.YtkkbmjfhpngalaaHList
import Derived.Test.YtkkbmjfhpngalaaPrint0
import Derived.Test.YtkkbmjfhpngalaaPrint15
import Derived.Test.YtkkbmjfhpngalaaPrint2
import Derived.Test.YtkkbmjfhpngalaaPrint3
import Derived.Test.YtkkbmjfhpngalaaPrint7
import Derived.Test.YtkkbmjfhpngalaaSh
namespace Go.Proofs.Ytkkbmjfhpngalaa.Print
open Go.RowKit Go.Proofs.YtkkbmjfhpngalaaW.PrintWords Go.Proofs.YtkkbmjfhpngalaaW.PrintLast Go.Proofs.YtkkbmjfhpngalaaW.PrintMore
attribute [local go_sem] max2_int min2_int max_two min_two max_three min_three max_four min_four   -- for this text's walks alone
set_option linter.unusedVariables false
set_option linter.unusedSimpArgs false
/-! ### bocagelaw03_SpanLists: function 7 -/
def bocagelaw03_SpanLists.l0 : Nat → List (S25) → Int → List (S25) → Bool → List (S25) → Int → Int → Option (Bool)
  | 0, _, _, _, _, _, _, _ => none
  | k + 1, x0, x1, x5, x6, x15, x16, x17 => if x17 < x16 then (if 0 ≤ x17 then (if x17 < (x15.length : Int) then (if x6 = true then (bocagelaw03_SpanLists.l0 k x0 x1 x5 true x15 x16 (wrap64 (x17 + 1))) else ((span_Has.f k ((rd_T25 x15 x17).f0.f0) ((rd_T25 x15 x17).f0.f1) ((rd_T25 x15 x17).f1.f0) ((rd_T25 x15 x17).f1.f1) x1).bind fun t718 => (bocagelaw03_SpanLists.l0 k x0 x1 x5 t718 x15 x16 (wrap64 (x17 + 1))))) else (none)) else (none)) else ((bocagelaw03_alive.f k).bind fun t719 => (if t719 = true then ((bocageref03_List.f k x0).bind fun t720 => ((bocageref03_Same.f k x5 t720).bind fun t723 => (if t723 = true then ((span_Sorted.f k x0).bind fun t724 => ((bocageref03_Sorted.f k x0).bind fun t725 => (if (t724 == t725) = true then ((span_Sorted.f k x5).bind fun t726 => (if t726 = true then ((span_List.f k x5).bind fun t727 => ((bocageref03_Same.f k t727 x5).bind fun t730 => (if t730 = true then ((bocageref03_Any.f k x0 x1).bind fun t731 => (some (x6 == t731))) else (some false)))) else (some false))) else (some false)))) else (some false)))) else (some false)))
def bocagelaw03_SpanLists.f (k : Nat) (l0 : List (S25)) (a1 : Int) : Option (Bool) := if (l0.length : Int) > 40 then ((bocagelaw03_alive.f k).bind fun t712 => (some t712)) else ((span_List.f k l0).bind fun t713 => (bocagelaw03_SpanLists.l0 k l0 a1 t713 false t713 (t713.length : Int) 0))
theorem bocagelaw03_SpanLists.mono_l : ∀ k, (∀ y0 y1 y2 y3 y4 y5 y6, LeO (bocagelaw03_SpanLists.l0 k y0 y1 y2 y3 y4 y5 y6) (bocagelaw03_SpanLists.l0 (k + 1) y0 y1 y2 y3 y4 y5 y6))
  | 0 => fun _ _ _ _ _ _ _ r h => by simp [bocagelaw03_SpanLists.l0] at h
  | k + 1 => by
    have ih0 := bocagelaw03_SpanLists.mono_l k
    · intro y0 y1 y2 y3 y4 y5 y6
      unfold bocagelaw03_SpanLists.l0
      repeat' first
      | (with_reducible exact ih0 _ _ _ _ _ _ _)
      | (with_reducible exact bocagelaw03_alive.mono _)
      | (with_reducible exact bocageref03_Any.mono _ _ _)
      | (with_reducible exact bocageref03_List.mono _ _)
      | (with_reducible exact bocageref03_Same.mono _ _ _)
      | (with_reducible exact bocageref03_Sorted.mono _ _)
      | (with_reducible exact span_Has.mono _ _ _ _ _ _)
      | (with_reducible exact span_List.mono _ _)
      | (with_reducible exact span_Sorted.mono _ _)
      | (with_reducible exact LeO.refl _)
      | (with_reducible exact LeO.none _)
      | (with_reducible refine LeO.ite ?_ ?_)
      | (with_reducible refine LeO.bind ?_ (fun _ => ?_))
      | exact ih0 _ _ _ _ _ _ _
      | exact bocagelaw03_alive.mono _
      | exact bocageref03_Any.mono _ _ _
      | exact bocageref03_List.mono _ _
      | exact bocageref03_Same.mono _ _ _
      | exact bocageref03_Sorted.mono _ _
      | exact span_Has.mono _ _ _ _ _ _
      | exact span_List.mono _ _
      | exact span_Sorted.mono _ _
      | exact LeO.none _
      | refine LeO.ite ?_ ?_
      | refine LeO.bind ?_ (fun _ => ?_)
theorem bocagelaw03_SpanLists.mono : ∀ a0 a1 k, LeO (bocagelaw03_SpanLists.f k a0 a1) (bocagelaw03_SpanLists.f (k + 1) a0 a1) := by
  intro a0 a1 k
  have ih0 := bocagelaw03_SpanLists.mono_l k
  unfold bocagelaw03_SpanLists.f
  repeat' first
      | (with_reducible exact ih0 _ _ _ _ _ _ _)
      | (with_reducible exact bocagelaw03_alive.mono _)
      | (with_reducible exact bocageref03_Any.mono _ _ _)
      | (with_reducible exact bocageref03_List.mono _ _)
      | (with_reducible exact bocageref03_Same.mono _ _ _)
      | (with_reducible exact bocageref03_Sorted.mono _ _)
      | (with_reducible exact span_Has.mono _ _ _ _ _ _)
      | (with_reducible exact span_List.mono _ _)
      | (with_reducible exact span_Sorted.mono _ _)
      | (with_reducible exact LeO.refl _)
      | (with_reducible exact LeO.none _)
      | (with_reducible refine LeO.ite ?_ ?_)
      | (with_reducible refine LeO.bind ?_ (fun _ => ?_))
      | exact ih0 _ _ _ _ _ _ _
      | exact bocagelaw03_alive.mono _
      | exact bocageref03_Any.mono _ _ _
      | exact bocageref03_List.mono _ _
      | exact bocageref03_Same.mono _ _ _
      | exact bocageref03_Sorted.mono _ _
      | exact span_Has.mono _ _ _ _ _ _
      | exact span_List.mono _ _
      | exact span_Sorted.mono _ _
      | exact LeO.none _
      | refine LeO.ite ?_ ?_
      | refine LeO.bind ?_ (fun _ => ?_)
set_option maxHeartbeats 8000000 in
set_option maxRecDepth 100000 in
theorem bocagelaw03_SpanLists.calls (k : Nat) (A0 : Option Addr) (c0 : Nat) (l0 : List (S25)) (a1 : Int) (r : Bool) (w : World) (hr0 : Kd.C k25 w A0 l0.length l0) (hc0 : l0.length ≤ c0) (h : bocagelaw03_SpanLists.f k l0 a1 = some r) (hr : r = true) :
    Calls Try.prog 7 #[.slice A0 l0.length c0, .int .i64 a1] w fun e w' => e = .returned (.bool r) ∧ Below w.heap.size w w' := by
  have HRT := Aside0.mk hr
  clear hr
  have hu25 := Try.underlying25
  have HR0 := Aside0.mk hr0
  have HC0 := Aside0.mk hc0
  clear hr0 hc0
  have HB := Aside0.mk (Below.refl w.heap.size w)
  have H : (if (l0.length : Int) > 40 then ((bocagelaw03_alive.f k).bind fun t712 => (some t712)) else ((span_List.f k l0).bind fun t713 => (bocagelaw03_SpanLists.l0 k l0 a1 t713 false t713 (t713.length : Int) 0))) = some r := h
  clear h
  by_cases c3 : (l0.length : Int) > 40
  · rw [if_pos c3] at H
    have c3b0 : decide (40 < (l0.length : Int)) = true := decide_eq_true c3
    have c3b1 : decide (40 < l0.length) = true := decide_eq_true (by omega)
    clear c3
    replace H := Option.bind_eq_some_iff.mp H
    obtain ⟨t712, A40, H⟩ := H
    (try (set_option simprocs false in dsimp only at H))
    have A4 := Aside0.mk A40
    clear A40
    obtain rfl := Option.some.inj H
    go_enter Try.func7, Try.ntmps7
    go_wp2_with (first | ((with_reducible refine gate_callee (f := 18) rfl ?_); refine gol (some 12) Try.func18 #[] ?_; (with_reducible refine (bocagelaw03_alive.calls k  t712 _ A4.out HRT.out).mono ?_); rintro e w5 ⟨rfl, hb⟩; refine ⟨_, rfl, ?_⟩; replace HB := bst HB hb; (try clear hb); (try clear hb2); (try clear hk); (try clear hi)))
    go_ret
    exact endB HB
  · rw [if_neg c3] at H
    have c3b0 : decide (40 < (l0.length : Int)) = false := decide_eq_false c3
    have c3b1 : decide (40 < l0.length) = false := decide_eq_false (by omega)
    clear c3
    replace H := Option.bind_eq_some_iff.mp H
    obtain ⟨t713, A60, H⟩ := H
    (try (set_option simprocs false in dsimp only at H))
    have A6 := Aside0.mk A60
    clear A60
    have H' := Aside0.mk H
    clear H
    go_enter Try.func7, Try.ntmps7
    go_wp2_with (first | ((with_reducible refine gate_callee (f := 37) rfl ?_); refine gol (some 14) Try.func37 #[.slice A0 l0.length c0] ?_; (with_reducible refine (span_List.calls k _ _ l0 t713 _ ?side1 ?side2 A6.out).mono ?_); (case side1 => repeat (first | exact HR0.out | (with_reducible refine Kd.C_alloc ?_ _) | (with_reducible refine Kd.C_drewN ?_ _) | (with_reducible refine Kd.C_drew ?_))); (case side2 => exact HC0.out); rintro e w7 ⟨v714, rfl, ho0, hb⟩; refine ⟨_, rfl, ?_⟩; have HO715 := Aside0.mk (Kd.R_lower ho0 (below_size (bl HB))); replace HB := bst HB hb; (try clear hb); (try clear hb2); (try clear hk); (try clear hi); (try clear ho0); obtain ⟨Ao8, co8, eo8⟩ := Kd.R_slice HO715.out; subst eo8))
    go_loopg [6, 17] k (fun kq v6 v17 w' => ∃ (x6_1 : Bool) (x17_1 : Int), v6 = .bool x6_1 ∧ v17 = .int .i64 x17_1 ∧ Aside0 (bocagelaw03_SpanLists.l0 kq l0 a1 t713 x6_1 t713 (t713.length : Int) x17_1 = some r) ∧ Aside0 (kq ≤ k) ∧ Aside0 (Kd.R k25 25 w' w.heap.size (fun _ => True) (.slice Ao8 t713.length co8) t713) ∧ Aside0 (Kd.R k25 25 w' w.heap.size (fun _ => True) (.slice Ao8 t713.length co8) t713) ∧ Aside0 (Below w.heap.size w w'))
    case atStart => exact ⟨(false), (0), (by first | rfl | (simp; done) | (simp [*]; done)), (by first | rfl | (simp; done) | (simp [*]; done)), H', ⟨Nat.le_refl _⟩, ⟨kr HO715⟩, ⟨kr HO715⟩, ⟨bl HB⟩⟩
    case round =>
      clear H'
      try clear c1
      try clear p2
      try clear c3
      try clear c3b0
      try clear c3b1
      try clear c7
      obtain ⟨x6_1, x17_1, rfl, rfl, HA, HK1, HO_5, HO_15, HB⟩ := hrel
      cases gk with
      | zero => exact absurd HA.out (by simp [bocagelaw03_SpanLists.l0])
      | succ k1 =>
        have H := HA.out
        clear HA
        simp only [bocagelaw03_SpanLists.l0] at H
        by_cases c9 : x17_1 < (t713.length : Int)
        · rw [if_pos c9] at H
          have c9b0 : decide (x17_1 < (t713.length : Int)) = true := decide_eq_true c9
          clear c9
          by_cases c10 : 0 ≤ x17_1
          · rw [if_pos c10] at H
            have c10b0 : decide (0 ≤ x17_1) = true := decide_eq_true c10
            clear c10
            by_cases c11 : x17_1 < (t713.length : Int)
            · rw [if_pos c11] at H
              have c11b0 : decide (x17_1 < (t713.length : Int)) = true := decide_eq_true c11
              clear c11
              by_cases c12 : x6_1 = true
              · subst c12
                have H1 : (bocagelaw03_SpanLists.l0 k1 l0 a1 t713 true t713 (t713.length : Int) (wrap64 (x17_1 + 1))) = some r := by rw [if_pos rfl] at H; exact H
                clear H
                have H := H1
                clear H1
                have H' := Aside0.mk H
                clear H
                have p716 : 0 ≤ (x17_1 : Int) := of_decide_eq_true (by first | (with_reducible assumption) | assumption)
                have q716 : x17_1 < (t713.length : Int) := of_decide_eq_true (by first | (with_reducible assumption) | assumption)
                obtain ⟨ad716, e716, hx716_0, hx716_1, hx716_2, hx716_3⟩ := at_T25 (Kd.R_reads' HO_15.out).2.2 x17_1 p716 q716
                cases e716
                replace p716 := eq_true p716
                replace q716 := eq_true q716
                go_wp2_with (first | ((with_reducible refine gate_dst (N := 8) rfl ?_); refine bxe (N := 8) (cs := #[.int .i64 0, .int .i64 0, .int .i64 0, .int .i64 0]) (t := 25) ?_; intro gb717 hg w13 hbox hb; replace HO_5 := Aside0.mk (Kd.R_below (Kd.R_elderB (kr HO_5) gb717 (Nat.le_of_eq hg.symm)) hb); replace HO_15 := Aside0.mk (Kd.R_below (Kd.R_elderB (kr HO_15) gb717 (Nat.le_of_eq hg.symm)) hb); have BK717 := Aside0.mk (hbox); have GW717 := lsz hg HB; have GE717 := lsz hg HB; replace HB := bst HB hb; clear hb hbox hg; obtain ⟨hcz14_0, hcz14_1, hcz14_2, hcz14_3⟩ := e4 BK717; obtain ⟨hfz14_0, hfz14_1, hfz14_2, hfz14_3⟩ := f4 BK717))
                go_roundg k1
                case measure => have := HK1.out; omega
                case rel => exact ⟨(true), (wrap64 (x17_1 + 1)), (by first | rfl | (simp; done) | (simp [*]; done)), (by first | rfl | (simp; done) | (simp [*]; done)), H', ⟨by have := HK1.out; omega⟩, ⟨by (with_reducible repeat (first | apply Kd.R_alloc | apply Kd.R_drewN | apply Kd.R_drew)); exact Kd.R_mono (Kd.R_far (p := ⟨gb717, 3, none⟩) (Kd.R_far (p := ⟨gb717, 2, none⟩) (Kd.R_far (p := ⟨gb717, 1, none⟩) (Kd.R_far (p := ⟨gb717, 0, none⟩) (Kd.R_mono HO_5.out (fun k_ hk => (⟨hk, hk.2⟩ : _ ∧ k_ ≠ gb717))) (fun _ hk => hk.2) (.int .i64 ((rd_T25 t713 x17_1).f0.f0))) (fun _ hk => hk.2) (.int .i64 ((rd_T25 t713 x17_1).f0.f1))) (fun _ hk => hk.2) (.int .i64 ((rd_T25 t713 x17_1).f1.f0))) (fun _ hk => hk.2) (.int .i64 ((rd_T25 t713 x17_1).f1.f1))) (fun _ hk => trivial)⟩, ⟨by (with_reducible repeat (first | apply Kd.R_alloc | apply Kd.R_drewN | apply Kd.R_drew)); exact Kd.R_mono (Kd.R_far (p := ⟨gb717, 3, none⟩) (Kd.R_far (p := ⟨gb717, 2, none⟩) (Kd.R_far (p := ⟨gb717, 1, none⟩) (Kd.R_far (p := ⟨gb717, 0, none⟩) (Kd.R_mono HO_15.out (fun k_ hk => (⟨hk, hk.2⟩ : _ ∧ k_ ≠ gb717))) (fun _ hk => hk.2) (.int .i64 ((rd_T25 t713 x17_1).f0.f0))) (fun _ hk => hk.2) (.int .i64 ((rd_T25 t713 x17_1).f0.f1))) (fun _ hk => hk.2) (.int .i64 ((rd_T25 t713 x17_1).f1.f0))) (fun _ hk => hk.2) (.int .i64 ((rd_T25 t713 x17_1).f1.f1))) (fun _ hk => trivial)⟩, ⟨bl HB⟩⟩
              · replace c12 := Bool.eq_false_iff.mpr c12
                subst c12
                have H1 : ((span_Has.f k1 ((rd_T25 t713 x17_1).f0.f0) ((rd_T25 t713 x17_1).f0.f1) ((rd_T25 t713 x17_1).f1.f0) ((rd_T25 t713 x17_1).f1.f1) a1).bind fun t718 => (bocagelaw03_SpanLists.l0 k1 l0 a1 t713 t718 t713 (t713.length : Int) (wrap64 (x17_1 + 1)))) = some r := by rw [if_neg (show ¬ (false = true) by decide)] at H; exact H
                clear H
                have H := H1
                clear H1
                replace H := Option.bind_eq_some_iff.mp H
                obtain ⟨t718, A150, H⟩ := H
                (try (set_option simprocs false in dsimp only at H))
                have A15 := Aside0.mk A150
                clear A150
                have H' := Aside0.mk H
                clear H
                have p716 : 0 ≤ (x17_1 : Int) := of_decide_eq_true (by first | (with_reducible assumption) | assumption)
                have q716 : x17_1 < (t713.length : Int) := of_decide_eq_true (by first | (with_reducible assumption) | assumption)
                obtain ⟨ad716, e716, hx716_0, hx716_1, hx716_2, hx716_3⟩ := at_T25 (Kd.R_reads' HO_15.out).2.2 x17_1 p716 q716
                cases e716
                replace p716 := eq_true p716
                replace q716 := eq_true q716
                go_wp2_with (first | ((with_reducible refine gate_dst (N := 8) rfl ?_); refine bxe (N := 8) (cs := #[.int .i64 0, .int .i64 0, .int .i64 0, .int .i64 0]) (t := 25) ?_; intro gb717 hg w16 hbox hb; replace HO_5 := Aside0.mk (Kd.R_below (Kd.R_elderB (kr HO_5) gb717 (Nat.le_of_eq hg.symm)) hb); replace HO_15 := Aside0.mk (Kd.R_below (Kd.R_elderB (kr HO_15) gb717 (Nat.le_of_eq hg.symm)) hb); have BK717 := Aside0.mk (hbox); have GW717 := lsz hg HB; have GE717 := lsz hg HB; replace HB := bst HB hb; clear hb hbox hg; obtain ⟨hcz17_0, hcz17_1, hcz17_2, hcz17_3⟩ := e4 BK717; obtain ⟨hfz17_0, hfz17_1, hfz17_2, hfz17_3⟩ := f4 BK717) | (go_at_call 29; (with_reducible refine (span_Has.calls k1 ((rd_T25 t713 x17_1).f0.f0) ((rd_T25 t713 x17_1).f0.f1) ((rd_T25 t713 x17_1).f1.f0) ((rd_T25 t713 x17_1).f1.f1) a1 t718 _ A15.out).mono ?_); rintro e w18 ⟨rfl, hb⟩; replace HO_5 := Aside0.mk (Kd.R_below (by (with_reducible repeat (first | apply Kd.R_alloc | apply Kd.R_drewN | apply Kd.R_drew)); exact (Kd.R_mono (Kd.R_far (p := ⟨gb717, 3, none⟩) (Kd.R_far (p := ⟨gb717, 2, none⟩) (Kd.R_far (p := ⟨gb717, 1, none⟩) (Kd.R_far (p := ⟨gb717, 0, none⟩) (Kd.R_mono HO_5.out (fun k_ hk => (⟨hk, hk.2⟩ : _ ∧ k_ ≠ gb717))) (fun _ hk => hk.2) (.int .i64 ((rd_T25 t713 x17_1).f0.f0))) (fun _ hk => hk.2) (.int .i64 ((rd_T25 t713 x17_1).f0.f1))) (fun _ hk => hk.2) (.int .i64 ((rd_T25 t713 x17_1).f1.f0))) (fun _ hk => hk.2) (.int .i64 ((rd_T25 t713 x17_1).f1.f1))) (fun _ h_ => h_.1))) hb); replace HO_15 := Aside0.mk (Kd.R_below (by (with_reducible repeat (first | apply Kd.R_alloc | apply Kd.R_drewN | apply Kd.R_drew)); exact (Kd.R_mono (Kd.R_far (p := ⟨gb717, 3, none⟩) (Kd.R_far (p := ⟨gb717, 2, none⟩) (Kd.R_far (p := ⟨gb717, 1, none⟩) (Kd.R_far (p := ⟨gb717, 0, none⟩) (Kd.R_mono HO_15.out (fun k_ hk => (⟨hk, hk.2⟩ : _ ∧ k_ ≠ gb717))) (fun _ hk => hk.2) (.int .i64 ((rd_T25 t713 x17_1).f0.f0))) (fun _ hk => hk.2) (.int .i64 ((rd_T25 t713 x17_1).f0.f1))) (fun _ hk => hk.2) (.int .i64 ((rd_T25 t713 x17_1).f1.f0))) (fun _ hk => hk.2) (.int .i64 ((rd_T25 t713 x17_1).f1.f1))) (fun _ h_ => h_.1))) hb); replace BK717 := Aside0.mk (blk_below (g := gb717) (o := .cells #[.int .i64 ((rd_T25 t713 x17_1).f0.f0), .int .i64 ((rd_T25 t713 x17_1).f0.f1), .int .i64 ((rd_T25 t713 x17_1).f1.f0), .int .i64 ((rd_T25 t713 x17_1).f1.f1)] 25 (0, 0)) (bkp BK717) hb); replace HB := bst HB hb; (try clear hb); (try clear hb2); (try clear hk); (try clear hi)))
                go_roundg k1
                case measure => have := HK1.out; omega
                case rel => exact ⟨(t718), (wrap64 (x17_1 + 1)), (by first | rfl | (simp; done) | (simp [*]; done)), (by first | rfl | (simp; done) | (simp [*]; done)), H', ⟨by have := HK1.out; omega⟩, ⟨by (with_reducible repeat (first | apply Kd.R_alloc | apply Kd.R_drewN | apply Kd.R_drew)); exact Kd.R_mono HO_5.out (fun _ hk => trivial)⟩, ⟨by (with_reducible repeat (first | apply Kd.R_alloc | apply Kd.R_drewN | apply Kd.R_drew)); exact Kd.R_mono HO_15.out (fun _ hk => trivial)⟩, ⟨bl HB⟩⟩
            · rw [if_neg c11] at H
              exact absurd H (by simp)
          · rw [if_neg c10] at H
            exact absurd H (by simp)
        · rw [if_neg c9] at H
          have c9b0 : decide (x17_1 < (t713.length : Int)) = false := decide_eq_false c9
          clear c9
          replace H := Option.bind_eq_some_iff.mp H
          obtain ⟨t719, A190, H⟩ := H
          (try (set_option simprocs false in dsimp only at H))
          have A19 := Aside0.mk A190
          clear A190
          by_cases c20 : t719 = true
          · subst c20
            have H1 : ((bocageref03_List.f k1 l0).bind fun t720 => ((bocageref03_Same.f k1 t713 t720).bind fun t723 => (if t723 = true then ((span_Sorted.f k1 l0).bind fun t724 => ((bocageref03_Sorted.f k1 l0).bind fun t725 => (if (t724 == t725) = true then ((span_Sorted.f k1 t713).bind fun t726 => (if t726 = true then ((span_List.f k1 t713).bind fun t727 => ((bocageref03_Same.f k1 t727 t713).bind fun t730 => (if t730 = true then ((bocageref03_Any.f k1 l0 a1).bind fun t731 => (some (x6_1 == t731))) else (some false)))) else (some false))) else (some false)))) else (some false)))) = some r := by rw [if_pos rfl] at H; exact H
            clear H
            have H := H1
            clear H1
            replace H := Option.bind_eq_some_iff.mp H
            obtain ⟨t720, A210, H⟩ := H
            (try (set_option simprocs false in dsimp only at H))
            have A21 := Aside0.mk A210
            clear A210
            replace H := Option.bind_eq_some_iff.mp H
            obtain ⟨t723, A220, H⟩ := H
            (try (set_option simprocs false in dsimp only at H))
            have A22 := Aside0.mk A220
            clear A220
            by_cases c23 : t723 = true
            · subst c23
              have H1 : ((span_Sorted.f k1 l0).bind fun t724 => ((bocageref03_Sorted.f k1 l0).bind fun t725 => (if (t724 == t725) = true then ((span_Sorted.f k1 t713).bind fun t726 => (if t726 = true then ((span_List.f k1 t713).bind fun t727 => ((bocageref03_Same.f k1 t727 t713).bind fun t730 => (if t730 = true then ((bocageref03_Any.f k1 l0 a1).bind fun t731 => (some (x6_1 == t731))) else (some false)))) else (some false))) else (some false)))) = some r := by rw [if_pos rfl] at H; exact H
              clear H
              have H := H1
              clear H1
              replace H := Option.bind_eq_some_iff.mp H
              obtain ⟨t724, A240, H⟩ := H
              (try (set_option simprocs false in dsimp only at H))
              have A24 := Aside0.mk A240
              clear A240
              replace H := Option.bind_eq_some_iff.mp H
              obtain ⟨t725, A250, H⟩ := H
              (try (set_option simprocs false in dsimp only at H))
              have A25 := Aside0.mk A250
              clear A250
              by_cases c26 : (t724 == t725) = true
              · rw [if_pos c26] at H
                have c26b0 : (t724 == t725) = true := c26
                (try (have c26b1 : decide (t724 = t725) = true := by simpa using c26))
                (try (have c26b2 : (t724 == t725) = true := by simpa using c26))
                clear c26
                replace H := Option.bind_eq_some_iff.mp H
                obtain ⟨t726, A270, H⟩ := H
                (try (set_option simprocs false in dsimp only at H))
                have A27 := Aside0.mk A270
                clear A270
                by_cases c28 : t726 = true
                · subst c28
                  have H1 : ((span_List.f k1 t713).bind fun t727 => ((bocageref03_Same.f k1 t727 t713).bind fun t730 => (if t730 = true then ((bocageref03_Any.f k1 l0 a1).bind fun t731 => (some (x6_1 == t731))) else (some false)))) = some r := by rw [if_pos rfl] at H; exact H
                  clear H
                  have H := H1
                  clear H1
                  replace H := Option.bind_eq_some_iff.mp H
                  obtain ⟨t727, A290, H⟩ := H
                  (try (set_option simprocs false in dsimp only at H))
                  have A29 := Aside0.mk A290
                  clear A290
                  replace H := Option.bind_eq_some_iff.mp H
                  obtain ⟨t730, A300, H⟩ := H
                  (try (set_option simprocs false in dsimp only at H))
                  have A30 := Aside0.mk A300
                  clear A300
                  by_cases c31 : t730 = true
                  · subst c31
                    have H1 : ((bocageref03_Any.f k1 l0 a1).bind fun t731 => (some (x6_1 == t731))) = some r := by rw [if_pos rfl] at H; exact H
                    clear H
                    have H := H1
                    clear H1
                    replace H := Option.bind_eq_some_iff.mp H
                    obtain ⟨t731, A320, H⟩ := H
                    (try (set_option simprocs false in dsimp only at H))
                    have A32 := Aside0.mk A320
                    clear A320
                    obtain rfl := Option.some.inj H
                    go_wp2_with (first | ((with_reducible refine gate_callee (f := 18) rfl ?_); refine gol (some 28) Try.func18 #[] ?_; (with_reducible refine (bocagelaw03_alive.calls k1  true _ A19.out rfl).mono ?_); rintro e w33 ⟨rfl, hb⟩; refine ⟨_, rfl, ?_⟩; replace HO_5 := krb HO_5 hb; replace HO_15 := krb HO_15 hb; replace HB := bst HB hb; (try clear hb); (try clear hb2); (try clear hk); (try clear hi)) | (go_at_call 15; (with_reducible refine (bocageref03_List.calls k1 _ _ l0 t720 _ ?side1 ?side2 A21.out).mono ?_); (case side1 => repeat (first | exact (Kd.C_below HR0.out HB.out) | (with_reducible refine Kd.C_alloc ?_ _) | (with_reducible refine Kd.C_drewN ?_ _) | (with_reducible refine Kd.C_drew ?_))); (case side2 => exact HC0.out); rintro e w34 ⟨v721, rfl, ho0, hb⟩; have HO722 := Aside0.mk (Kd.R_lower (Kd.R_new' (Kd.R_new' ho0 (Kd.R_lt (kr HO_5))) (Kd.R_lt (kr HO_15))) (below_size (bl HB))); replace HO_5 := Aside0.mk (Kd.R_elder' (kr HO_5) (Kd.R_base ho0) hb); replace HO_15 := Aside0.mk (Kd.R_elder' (kr HO_15) (Kd.R_base ho0) hb); replace HB := bst HB hb; (try clear hb); (try clear hb2); (try clear hk); (try clear hi); (try clear ho0); obtain ⟨Ao35, co35, eo35⟩ := Kd.R_slice HO722.out; subst eo35) | (go_at_call 22; (with_reducible refine (bocageref03_Same.calls k1 _ _ t713 _ _ t720 true _ ?side1 ?side2 ?side3 ?side4 A22.out).mono ?_); (case side1 => repeat (first | exact (Kd.R_reads' HO_5.out).2.2 | (with_reducible refine Kd.C_alloc ?_ _) | (with_reducible refine Kd.C_drewN ?_ _) | (with_reducible refine Kd.C_drew ?_))); (case side2 => exact (Kd.R_reads' HO_5.out).2.1); (case side3 => repeat (first | exact (Kd.R_reads' HO722.out).2.2 | (with_reducible refine Kd.C_alloc ?_ _) | (with_reducible refine Kd.C_drewN ?_ _) | (with_reducible refine Kd.C_drew ?_))); (case side4 => exact (Kd.R_reads' HO722.out).2.1); rintro e w' ⟨rfl, ⟨nd, rfl⟩⟩) | (go_at_call 40; (with_reducible refine (span_Sorted.calls k1 _ _ l0 t724 _ ?side1 ?side2 A24.out).mono ?_); (case side1 => repeat (first | exact (Kd.C_below HR0.out (bl HB)) | (with_reducible refine Kd.C_alloc ?_ _) | (with_reducible refine Kd.C_drewN ?_ _) | (with_reducible refine Kd.C_drew ?_))); (case side2 => exact HC0.out); rintro e w36 ⟨rfl, hb⟩; replace HO_5 := krb HO_5 hb; replace HO_15 := krb HO_15 hb; replace HO722 := krb HO722 hb; replace HB := bst HB hb; (try clear hb); (try clear hb2); (try clear hk); (try clear hi)) | (go_at_call 41; (with_reducible refine (bocageref03_Sorted.calls k1 _ _ l0 t725 _ ?side1 ?side2 A25.out).mono ?_); (case side1 => repeat (first | exact (Kd.C_below HR0.out HB.out) | (with_reducible refine Kd.C_alloc ?_ _) | (with_reducible refine Kd.C_drewN ?_ _) | (with_reducible refine Kd.C_drew ?_))); (case side2 => exact HC0.out); rintro e w37 ⟨rfl, hb⟩; replace HO_5 := krb HO_5 hb; replace HO_15 := krb HO_15 hb; replace HO722 := krb HO722 hb; replace HB := bst HB hb; (try clear hb); (try clear hb2); (try clear hk); (try clear hi)) | (go_at_call 40; (with_reducible refine (span_Sorted.calls k1 _ _ t713 true _ ?side1 ?side2 A27.out).mono ?_); (case side1 => repeat (first | exact (Kd.R_reads' HO_5.out).2.2 | (with_reducible refine Kd.C_alloc ?_ _) | (with_reducible refine Kd.C_drewN ?_ _) | (with_reducible refine Kd.C_drew ?_))); (case side2 => exact (Kd.R_reads' HO_5.out).2.1); rintro e w38 ⟨rfl, hb⟩; replace HO_5 := krb HO_5 hb; replace HO_15 := krb HO_15 hb; replace HO722 := krb HO722 hb; replace HB := bst HB hb; (try clear hb); (try clear hb2); (try clear hk); (try clear hi)) | (go_at_call 37; (with_reducible refine (span_List.calls k1 _ _ t713 t727 _ ?side1 ?side2 A29.out).mono ?_); (case side1 => repeat (first | exact (Kd.R_reads' HO_5.out).2.2 | (with_reducible refine Kd.C_alloc ?_ _) | (with_reducible refine Kd.C_drewN ?_ _) | (with_reducible refine Kd.C_drew ?_))); (case side2 => exact (Kd.R_reads' HO_5.out).2.1); rintro e w39 ⟨v728, rfl, ho0, hb⟩; have HO729 := Aside0.mk (Kd.R_lower (Kd.R_new' (Kd.R_new' (Kd.R_new' ho0 (Kd.R_lt (kr HO_5))) (Kd.R_lt (kr HO_15))) (Kd.R_lt (kr HO722))) (below_size (bl HB))); replace HO_5 := Aside0.mk (Kd.R_elder' (kr HO_5) (Kd.R_base ho0) hb); replace HO_15 := Aside0.mk (Kd.R_elder' (kr HO_15) (Kd.R_base ho0) hb); replace HO722 := Aside0.mk (Kd.R_elder' (kr HO722) (Kd.R_base ho0) hb); replace HB := bst HB hb; (try clear hb); (try clear hb2); (try clear hk); (try clear hi); (try clear ho0); obtain ⟨Ao40, co40, eo40⟩ := Kd.R_slice HO729.out; subst eo40) | (go_at_call 22; (with_reducible refine (bocageref03_Same.calls k1 _ _ t727 _ _ t713 true _ ?side1 ?side2 ?side3 ?side4 A30.out).mono ?_); (case side1 => repeat (first | exact (Kd.R_reads' HO729.out).2.2 | (with_reducible refine Kd.C_alloc ?_ _) | (with_reducible refine Kd.C_drewN ?_ _) | (with_reducible refine Kd.C_drew ?_))); (case side2 => exact (Kd.R_reads' HO729.out).2.1); (case side3 => repeat (first | exact (Kd.R_reads' HO_5.out).2.2 | (with_reducible refine Kd.C_alloc ?_ _) | (with_reducible refine Kd.C_drewN ?_ _) | (with_reducible refine Kd.C_drew ?_))); (case side4 => exact (Kd.R_reads' HO_5.out).2.1); rintro e w' ⟨rfl, ⟨nd, rfl⟩⟩) | (go_at_call 42; (with_reducible refine (bocageref03_Any.calls k1 _ _ l0 a1 t731 _ ?side1 ?side2 A32.out).mono ?_); (case side1 => repeat (first | exact (Kd.C_below HR0.out (bl HB)) | (with_reducible refine Kd.C_alloc ?_ _) | (with_reducible refine Kd.C_drewN ?_ _) | (with_reducible refine Kd.C_drew ?_))); (case side2 => exact HC0.out); rintro e w41 ⟨rfl, hb⟩; replace HO_5 := krb HO_5 hb; replace HO_15 := krb HO_15 hb; replace HO722 := krb HO722 hb; replace HO729 := krb HO729 hb; replace HB := bst HB hb; (try clear hb); (try clear hb2); (try clear hk); (try clear hi)))
                    go_ret
                    exact endB HB
                  · replace c31 := Bool.eq_false_iff.mpr c31
                    subst c31
                    have H1 : (some false) = some r := by rw [if_neg (show ¬ (false = true) by decide)] at H; exact H
                    exact absurd ((Option.some.inj H1).trans HRT.out) Bool.false_ne_true
                · replace c28 := Bool.eq_false_iff.mpr c28
                  subst c28
                  have H1 : (some false) = some r := by rw [if_neg (show ¬ (false = true) by decide)] at H; exact H
                  exact absurd ((Option.some.inj H1).trans HRT.out) Bool.false_ne_true
              · rw [if_neg c26] at H
                exact absurd ((Option.some.inj H).trans HRT.out) Bool.false_ne_true
            · replace c23 := Bool.eq_false_iff.mpr c23
              subst c23
              have H1 : (some false) = some r := by rw [if_neg (show ¬ (false = true) by decide)] at H; exact H
              exact absurd ((Option.some.inj H1).trans HRT.out) Bool.false_ne_true
          · replace c20 := Bool.eq_false_iff.mpr c20
            subst c20
            have H1 : (some false) = some r := by rw [if_neg (show ¬ (false = true) by decide)] at H; exact H
            exact absurd ((Option.some.inj H1).trans HRT.out) Bool.false_ne_true
end Go.Proofs.Ytkkbmjfhpngalaa.Print
