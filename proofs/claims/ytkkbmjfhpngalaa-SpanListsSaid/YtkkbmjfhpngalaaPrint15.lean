-- Laid by wip/print/bprint.py of this repo, over the kit's printer, with functions given by hand; not trusted: Lean checks it.
import Derived.Test.YtkkbmjfhpngalaaPrint0
import Derived.Test.YtkkbmjfhpngalaaPrint1
import Derived.Test.YtkkbmjfhpngalaaPrint4
import Derived.Test.YtkkbmjfhpngalaaPrint5
import Derived.Test.YtkkbmjfhpngalaaSh
namespace Go.Proofs.Ytkkbmjfhpngalaa.Print
open Go.RowKit Go.Proofs.YtkkbmjfhpngalaaW.PrintWords Go.Proofs.YtkkbmjfhpngalaaW.PrintLast Go.Proofs.YtkkbmjfhpngalaaW.PrintMore
attribute [local go_sem] max2_int min2_int max_two min_two max_three min_three max_four min_four   -- for this text's walks alone
set_option linter.unusedVariables false
set_option linter.unusedSimpArgs false
/-! ### span_Sorted: function 40 -/
def span_Sorted.l0 : Nat → List (S25) → List (S25) → Int → Int → Option (Bool)
  | 0, _, _, _, _ => none
  | k + 1, x0, x5, x6, x7 => if x7 < x6 then (if 0 ≤ x7 then (if x7 < (x5.length : Int) then ((span_Right.f k ((rd_T25 x5 x7).f0.f0) ((rd_T25 x5 x7).f0.f1) ((rd_T25 x5 x7).f1.f0) ((rd_T25 x5 x7).f1.f1)).bind fun t704 => (if t704 = true then (if x7 > 0 then (if 0 ≤ (wrap64 (x7 - 1)) then (if (wrap64 (x7 - 1)) < (x0.length : Int) then ((cut_Compare.f k ((rd_T25 x0 (wrap64 (x7 - 1))).f1.f0) ((rd_T25 x0 (wrap64 (x7 - 1))).f1.f1) ((rd_T25 x5 x7).f0.f0) ((rd_T25 x5 x7).f0.f1)).bind fun t706 => (if t706 > 0 then (some false) else (span_Sorted.l0 k x0 x5 x6 (wrap64 (x7 + 1))))) else (none)) else (none)) else (span_Sorted.l0 k x0 x5 x6 (wrap64 (x7 + 1)))) else (some false))) else (none)) else (none)) else (some true)
def span_Sorted.f (k : Nat) (l0 : List (S25)) : Option (Bool) := span_Sorted.l0 k l0 l0 (l0.length : Int) 0
theorem span_Sorted.mono_l : ∀ k, (∀ y0 y1 y2 y3, LeO (span_Sorted.l0 k y0 y1 y2 y3) (span_Sorted.l0 (k + 1) y0 y1 y2 y3))
  | 0 => fun _ _ _ _ r h => by simp [span_Sorted.l0] at h
  | k + 1 => by
    have ih0 := span_Sorted.mono_l k
    · intro y0 y1 y2 y3
      unfold span_Sorted.l0
      repeat' first
      | (with_reducible exact ih0 _ _ _ _)
      | (with_reducible exact cut_Compare.mono _ _ _ _ _)
      | (with_reducible exact span_Right.mono _ _ _ _ _)
      | (with_reducible exact LeO.refl _)
      | (with_reducible exact LeO.none _)
      | (with_reducible refine LeO.ite ?_ ?_)
      | (with_reducible refine LeO.bind ?_ (fun _ => ?_))
      | exact ih0 _ _ _ _
      | exact cut_Compare.mono _ _ _ _ _
      | exact span_Right.mono _ _ _ _ _
      | exact LeO.none _
      | refine LeO.ite ?_ ?_
      | refine LeO.bind ?_ (fun _ => ?_)
theorem span_Sorted.mono : ∀ a0 k, LeO (span_Sorted.f k a0) (span_Sorted.f (k + 1) a0) := by
  intro a0 k
  have ih0 := span_Sorted.mono_l k
  unfold span_Sorted.f
  repeat' first
      | (with_reducible exact ih0 _ _ _ _)
      | (with_reducible exact cut_Compare.mono _ _ _ _ _)
      | (with_reducible exact span_Right.mono _ _ _ _ _)
      | (with_reducible exact LeO.refl _)
      | (with_reducible exact LeO.none _)
      | (with_reducible refine LeO.ite ?_ ?_)
      | (with_reducible refine LeO.bind ?_ (fun _ => ?_))
      | exact ih0 _ _ _ _
      | exact cut_Compare.mono _ _ _ _ _
      | exact span_Right.mono _ _ _ _ _
      | exact LeO.none _
      | refine LeO.ite ?_ ?_
      | refine LeO.bind ?_ (fun _ => ?_)
def span_Sorted.T4 : Bool × List (List Nat × List Nat) := (true, [([], []), ([0], [0]), ([1], [1]), ([2, 1], [2]), ([3], [3]), ([4, 3], [3, 4]), ([5, 3, 3], [3, 5]), ([6], [6]), ([6], [6]), ([8, 6], [6, 8]), ([7, 9, 6], [6, 7, 9]), ([10, 6], [6, 10]), ([11, 6], [6, 11]), ([6], [6]), ([13, 6], [6, 13]), ([12, 14, 6, 6], [6, 12, 14]), ([15, 6], [6, 15]), ([6, 16, 3], [3, 6, 16]), ([3, 17], [3, 17])])
def span_Sorted.B4 : List Nat := [0, 1, 3, 7, 15, 31, 63, 127, 127, 383, 1023, 2047, 4095, 127, 8319, 32767, 65535, 131071, 262143]
theorem span_Sorted.tab4 : rtab .any (opsOf Try.f40 4) = span_Sorted.T4 := by kernel_rfl
theorem span_Sorted.bits4 : waitsOk span_Sorted.T4.2 span_Sorted.B4 = true := by kernel_rfl
set_option maxHeartbeats 8000000 in
set_option maxRecDepth 100000 in
theorem span_Sorted.calls (k : Nat) (A0 : Option Addr) (c0 : Nat) (l0 : List (S25)) (r : Bool) (w : World) (hr0 : Kd.C k25 w A0 l0.length l0) (hc0 : l0.length ≤ c0) (h : span_Sorted.f k l0 = some r) :
    Calls Try.prog 40 #[.slice A0 l0.length c0] w fun e w' => e = .returned (.bool r) ∧ Below w.heap.size w w' := by
  have hu25 := Try.underlying25
  have hu23 := Try.underlying23
  have HR0 := Aside0.mk hr0
  have HC0 := Aside0.mk hc0
  clear hr0 hc0
  have HB := Aside0.mk (Below.refl w.heap.size w)
  have H : (span_Sorted.l0 k l0 l0 (l0.length : Int) 0) = some r := h
  clear h
  have H' := Aside0.mk H
  clear H
  go_enter Try.func40, Try.ntmps40
  go_wp2
  go_loopg [7] k (fun kq v7 w' => ∃ (x7_1 : Int), v7 = .int .i64 x7_1 ∧ Aside0 (span_Sorted.l0 kq l0 l0 (l0.length : Int) x7_1 = some r) ∧ Aside0 (kq ≤ k) ∧ Aside0 (Below w.heap.size w w'))
  case atStart => exact ⟨(0), (by first | rfl | (simp; done) | (simp [*]; done)), H', ⟨Nat.le_refl _⟩, ⟨bl HB⟩⟩
  case round =>
    clear H'
    obtain ⟨x7_1, rfl, HA, HK1, HB⟩ := hrel
    cases gk with
    | zero => exact absurd HA.out (by simp [span_Sorted.l0])
    | succ k1 =>
      have H := HA.out
      clear HA
      simp only [span_Sorted.l0] at H
      by_cases c2 : x7_1 < (l0.length : Int)
      · rw [if_pos c2] at H
        have c2b0 : decide (x7_1 < (l0.length : Int)) = true := decide_eq_true c2
        clear c2
        by_cases c3 : 0 ≤ x7_1
        · rw [if_pos c3] at H
          have c3b0 : decide (0 ≤ x7_1) = true := decide_eq_true c3
          clear c3
          by_cases c4 : x7_1 < (l0.length : Int)
          · rw [if_pos c4] at H
            have c4b0 : decide (x7_1 < (l0.length : Int)) = true := decide_eq_true c4
            clear c4
            replace H := Option.bind_eq_some_iff.mp H
            obtain ⟨t704, A50, H⟩ := H
            (try (set_option simprocs false in dsimp only at H))
            have A5 := Aside0.mk A50
            clear A50
            by_cases c6 : t704 = true
            · subst c6
              have H1 : (if x7_1 > 0 then (if 0 ≤ (wrap64 (x7_1 - 1)) then (if (wrap64 (x7_1 - 1)) < (l0.length : Int) then ((cut_Compare.f k1 ((rd_T25 l0 (wrap64 (x7_1 - 1))).f1.f0) ((rd_T25 l0 (wrap64 (x7_1 - 1))).f1.f1) ((rd_T25 l0 x7_1).f0.f0) ((rd_T25 l0 x7_1).f0.f1)).bind fun t706 => (if t706 > 0 then (some false) else (span_Sorted.l0 k1 l0 l0 (l0.length : Int) (wrap64 (x7_1 + 1))))) else (none)) else (none)) else (span_Sorted.l0 k1 l0 l0 (l0.length : Int) (wrap64 (x7_1 + 1)))) = some r := by rw [if_pos rfl] at H; exact H
              clear H
              have H := H1
              clear H1
              by_cases c7 : x7_1 > 0
              · rw [if_pos c7] at H
                have c7b0 : decide (0 < x7_1) = true := decide_eq_true c7
                clear c7
                obtain ⟨ji8, hji8⟩ : ∃ j_ : Int, (wrap64 (x7_1 - 1)) = j_ := ⟨_, rfl⟩
                replace H : (if 0 ≤ (ji8) then (if (ji8) < (l0.length : Int) then ((cut_Compare.f k1 ((rd_T25 l0 (ji8)).f1.f0) ((rd_T25 l0 (ji8)).f1.f1) ((rd_T25 l0 x7_1).f0.f0) ((rd_T25 l0 x7_1).f0.f1)).bind fun t706 => (if t706 > 0 then (some false) else (span_Sorted.l0 k1 l0 l0 (l0.length : Int) (wrap64 (x7_1 + 1))))) else (none)) else (none)) = some r := by first | (rw [hji8] at H; exact H) | (simp only [hji8] at H ⊢; exact H)
                (try rw [hji8] at A5)
                have hji8w : (IntKind.i64.wrap (x7_1 - 1)) = ji8 := (i64_w _).trans hji8
                by_cases c9 : 0 ≤ (ji8)
                · rw [if_pos c9] at H
                  have c9b0 : decide (0 ≤ (ji8)) = true := decide_eq_true c9
                  clear c9
                  by_cases c10 : (ji8) < (l0.length : Int)
                  · rw [if_pos c10] at H
                    have c10b0 : decide ((ji8) < (l0.length : Int)) = true := decide_eq_true c10
                    clear c10
                    replace H := Option.bind_eq_some_iff.mp H
                    obtain ⟨t706, A110, H⟩ := H
                    (try (set_option simprocs false in dsimp only at H))
                    have A11 := Aside0.mk A110
                    clear A110
                    by_cases c12 : t706 > 0
                    · rw [if_pos c12] at H
                      have c12b0 : decide (0 < t706) = true := decide_eq_true c12
                      clear c12
                      obtain rfl := Option.some.inj H
                      have p702 : 0 ≤ (x7_1 : Int) := of_decide_eq_true (by first | (with_reducible assumption) | assumption)
                      have q702 : x7_1 < (l0.length : Int) := of_decide_eq_true (by first | (with_reducible assumption) | assumption)
                      obtain ⟨ad702, e702, hx702_0, hx702_1, hx702_2, hx702_3⟩ := at_T25 HR0.out x7_1 p702 q702
                      cases e702
                      replace hx702_0 := (HB.out.cell (World.block_lt_of_cell? w _ hx702_0)).trans hx702_0
                      replace hx702_1 := (HB.out.cell (World.block_lt_of_cell? w _ hx702_1)).trans hx702_1
                      replace hx702_2 := (HB.out.cell (World.block_lt_of_cell? w _ hx702_2)).trans hx702_2
                      replace hx702_3 := (HB.out.cell (World.block_lt_of_cell? w _ hx702_3)).trans hx702_3
                      replace p702 := eq_true p702
                      replace q702 := eq_true q702
                      try go_wp2_with (first | ((with_reducible refine gate_dst (N := 4) rfl ?_); refine bxe (N := 4) (cs := #[.int .i64 0, .int .i64 0, .int .i64 0, .int .i64 0]) (t := 25) ?_; intro gb703 hg w13 hbox hb; have BK703 := Aside0.mk (hbox); have GW703 := lsz hg HB; have GE703 := lsz hg HB; replace HB := bst HB hb; clear hb hbox hg; obtain ⟨hcz14_0, hcz14_1, hcz14_2, hcz14_3⟩ := e4 BK703; obtain ⟨hfz14_0, hfz14_1, hfz14_2, hfz14_3⟩ := f4 BK703))
                      have n0_ : Aside0 (((((w13.setCell ⟨gb703, 0, none⟩ (.int .i64 ((rd_T25 l0 x7_1).f0.f0))).setCell ⟨gb703, 1, none⟩ (.int .i64 ((rd_T25 l0 x7_1).f0.f1))).setCell ⟨gb703, 2, none⟩ (.int .i64 ((rd_T25 l0 x7_1).f1.f0))).setCell ⟨gb703, 3, none⟩ (.int .i64 ((rd_T25 l0 x7_1).f1.f1))).heap[gb703]? = some (.cells #[.int .i64 ((rd_T25 l0 x7_1).f0.f0), .int .i64 ((rd_T25 l0 x7_1).f0.f1), .int .i64 ((rd_T25 l0 x7_1).f1.f0), .int .i64 ((rd_T25 l0 x7_1).f1.f1)] 25 (0, 0))) := ⟨by (with_reducible repeat (first | refine blk_drewN ?_ _ | refine blk_drew ?_ | refine blk_alloc ?_ _)); refine blk_put (cs := #[.int .i64 ((rd_T25 l0 x7_1).f0.f0), .int .i64 ((rd_T25 l0 x7_1).f0.f1), .int .i64 ((rd_T25 l0 x7_1).f1.f0), .int .i64 0]) ?_ 3 _ rfl; (with_reducible repeat (first | refine blk_drewN ?_ _ | refine blk_drew ?_ | refine blk_alloc ?_ _)); refine blk_put (cs := #[.int .i64 ((rd_T25 l0 x7_1).f0.f0), .int .i64 ((rd_T25 l0 x7_1).f0.f1), .int .i64 0, .int .i64 0]) ?_ 2 _ rfl; (with_reducible repeat (first | refine blk_drewN ?_ _ | refine blk_drew ?_ | refine blk_alloc ?_ _)); refine blk_put (cs := #[.int .i64 ((rd_T25 l0 x7_1).f0.f0), .int .i64 0, .int .i64 0, .int .i64 0]) ?_ 1 _ rfl; (with_reducible repeat (first | refine blk_drewN ?_ _ | refine blk_drew ?_ | refine blk_alloc ?_ _)); refine blk_put (cs := #[.int .i64 0, .int .i64 0, .int .i64 0, .int .i64 0]) ?_ 0 _ rfl; (with_reducible repeat (first | refine blk_drewN ?_ _ | refine blk_drew ?_ | refine blk_alloc ?_ _)); exact BK703.out⟩
                      have n1_ : Aside0 (Below w.heap.size w ((((w13.setCell ⟨gb703, 0, none⟩ (.int .i64 ((rd_T25 l0 x7_1).f0.f0))).setCell ⟨gb703, 1, none⟩ (.int .i64 ((rd_T25 l0 x7_1).f0.f1))).setCell ⟨gb703, 2, none⟩ (.int .i64 ((rd_T25 l0 x7_1).f1.f0))).setCell ⟨gb703, 3, none⟩ (.int .i64 ((rd_T25 l0 x7_1).f1.f1)))) := ⟨bl HB⟩
                      (try clear BK703)
                      (try clear HB)
                      generalize ((((w13.setCell ⟨gb703, 0, none⟩ (.int .i64 ((rd_T25 l0 x7_1).f0.f0))).setCell ⟨gb703, 1, none⟩ (.int .i64 ((rd_T25 l0 x7_1).f0.f1))).setCell ⟨gb703, 2, none⟩ (.int .i64 ((rd_T25 l0 x7_1).f1.f0))).setCell ⟨gb703, 3, none⟩ (.int .i64 ((rd_T25 l0 x7_1).f1.f1))) = w15 at n0_ n1_ ⊢
                      have BK703 := n0_
                      have HB := n1_
                      clear n0_ n1_
                      replace BK703 := Aside0.mk (blk_drew BK703.out)
                      replace HB := Aside0.mk (below_drew1 HB.out)
                      have p705 : 0 ≤ ((ji8) : Int) := of_decide_eq_true (by first | (with_reducible assumption) | assumption)
                      have q705 : (ji8) < (l0.length : Int) := of_decide_eq_true (by first | (with_reducible assumption) | assumption)
                      obtain ⟨ad705, e705, hx705_0, hx705_1, hx705_2, hx705_3⟩ := at_T25 HR0.out (ji8) p705 q705
                      have hw705_3 := hx705_3
                      have hw705_2 := hx705_2
                      have hw705_1 := hx705_1
                      have hw705_0 := hx705_0
                      obtain rfl : ad702 = ad705 := (by injection e705)
                      replace hx705_0 := (HB.out.cell (World.block_lt_of_cell? w _ hx705_0)).trans hx705_0
                      replace hx705_1 := (HB.out.cell (World.block_lt_of_cell? w _ hx705_1)).trans hx705_1
                      replace hx705_2 := (HB.out.cell (World.block_lt_of_cell? w _ hx705_2)).trans hx705_2
                      replace hx705_3 := (HB.out.cell (World.block_lt_of_cell? w _ hx705_3)).trans hx705_3
                      replace p705 := eq_true p705
                      replace q705 := eq_true q705
                      refine start_ (n := 19) (S := fun w' => w'.cell? ⟨gb703, 0, none⟩ = some (.int .i64 ((rd_T25 l0 x7_1).f0.f0)) ∧ w'.cell? ⟨gb703, 1, none⟩ = some (.int .i64 ((rd_T25 l0 x7_1).f0.f1)) ∧ w'.cell? ⟨gb703, 2, none⟩ = some (.int .i64 ((rd_T25 l0 x7_1).f1.f0)) ∧ w'.cell? ⟨gb703, 3, none⟩ = some (.int .i64 ((rd_T25 l0 x7_1).f1.f1)) ∧ w'.cell? (ad702.add (((ji8)).toNat * 4)) = some (.int .i64 ((rd_T25 l0 (ji8)).f0.f0)) ∧ w'.cell? ⟨(ad702.add (((ji8)).toNat * 4)).block, (ad702.add (((ji8)).toNat * 4)).off + 1, none⟩ = some (.int .i64 ((rd_T25 l0 (ji8)).f0.f1)) ∧ w'.cell? ⟨(ad702.add (((ji8)).toNat * 4)).block, (ad702.add (((ji8)).toNat * 4)).off + 2, none⟩ = some (.int .i64 ((rd_T25 l0 (ji8)).f1.f0)) ∧ w'.cell? ⟨(ad702.add (((ji8)).toNat * 4)).block, (ad702.add (((ji8)).toNat * 4)).off + 3, none⟩ = some (.int .i64 ((rd_T25 l0 (ji8)).f1.f1))) (ds := []) #[false, false, false, false, false, false, false, false, false, false, false, false, false, false, false, false, false, false, false] (by kernel_rfl) rfl rfl ⟨(blk_cell BK703.out 0).trans rfl, (blk_cell BK703.out 1).trans rfl, (blk_cell BK703.out 2).trans rfl, (blk_cell BK703.out 3).trans rfl, ((HB.out.cell (World.block_lt_of_cell? w _ hw705_0)).trans hw705_0), ((HB.out.cell (World.block_lt_of_cell? w _ hw705_1)).trans hw705_1), ((HB.out.cell (World.block_lt_of_cell? w _ hw705_2)).trans hw705_2), ((HB.out.cell (World.block_lt_of_cell? w _ hw705_3)).trans hw705_3)⟩ (fun hHeld => ?_); refine with_tabW span_Sorted.tab4 span_Sorted.bits4 (fun HT_ HW_ => ?_)
                      generalize w15.drew = w16 at BK703 HB hx705_0 hx705_1 hx705_2 hx705_3 hHeld ⊢
                      refine tk8 0 (some 12) #[true, false, false, false, false, false, false, false, false, false, false, false, false, false, false, false, false, false, false] (take_ofW HT_.out HW_.out (by kernel_rfl)) hHeld ?_
                      refine one_ (i := 1) (N := some 13) #[true, true, false, false, false, false, false, false, false, false, false, false, false, false, false, false, false, false, false] rfl rfl (one_of HT_.out (by kernel_rfl)) (by decide) (fun K hK => ?_)
                      refine goes_ Try.func28 (by kernel_rfl) rfl #[.agg #[.int .i64 ((rd_T25 l0 x7_1).f0.f0), .int .i64 ((rd_T25 l0 x7_1).f0.f1), .int .i64 ((rd_T25 l0 x7_1).f1.f0), .int .i64 ((rd_T25 l0 x7_1).f1.f1)]] (by rfl) rfl rfl (by (try simp only [List.map_toArray, List.map_cons, List.map_nil]); first | done | rfl | (simp only [List.length_drop, List.length_take]; rfl)) ?_
                      with_reducible refine (span_Right.calls k1 ((rd_T25 l0 x7_1).f0.f0) ((rd_T25 l0 x7_1).f0.f1) ((rd_T25 l0 x7_1).f1.f0) ((rd_T25 l0 x7_1).f1.f1) true _ A5.out).mono ?_
                      rintro e w17 ⟨rfl, hb⟩
                      refine ⟨_, rfl, ?_⟩
                      replace BK703 := bkb BK703 hb
                      replace HB := bst HB hb
                      (try clear hb)
                      (try clear hb2)
                      (try clear hk)
                      (try clear hi)
                      refine hK.out _ _ ⟨(blk_cell BK703.out 0).trans rfl, (blk_cell BK703.out 1).trans rfl, (blk_cell BK703.out 2).trans rfl, (blk_cell BK703.out 3).trans rfl, ((HB.out.cell (World.block_lt_of_cell? w _ hw705_0)).trans hw705_0), ((HB.out.cell (World.block_lt_of_cell? w _ hw705_1)).trans hw705_1), ((HB.out.cell (World.block_lt_of_cell? w _ hw705_2)).trans hw705_2), ((HB.out.cell (World.block_lt_of_cell? w _ hw705_3)).trans hw705_3)⟩ (fun hHeld => ?_)
                      clear hK K
                      refine nrp 13 ?_
                      refine pu 2 (some 14) #[true, true, true, false, false, false, false, false, false, false, false, false, false, false, false, false, false, false, false] (any_of HT_.out (by kernel_rfl)) ?_
                      refine pu 3 (some 15) #[true, true, true, true, false, false, false, false, false, false, false, false, false, false, false, false, false, false, false] (any_of HT_.out (by kernel_rfl)) ?_
                      refine pu 4 (some 16) #[true, true, true, true, true, false, false, false, false, false, false, false, false, false, false, false, false, false, false] (any_of HT_.out (by kernel_rfl)) ?_
                      refine pu 5 (some 17) #[true, true, true, true, true, true, false, false, false, false, false, false, false, false, false, false, false, false, false] (any_of HT_.out (by kernel_rfl)) ?_
                      refine pu 6 (some 18) #[true, true, true, true, true, true, true, false, false, false, false, false, false, false, false, false, false, false, false] (any_of HT_.out (by kernel_rfl)) ?_
                      refine pu 7 (some 19) #[true, true, true, true, true, true, true, true, false, false, false, false, false, false, false, false, false, false, false] (any_of HT_.out (by kernel_rfl)) ?_
                      refine pu 8 (some 20) #[true, true, true, true, true, true, true, true, true, false, false, false, false, false, false, false, false, false, false] (any_of HT_.out (by kernel_rfl)) ?_
                      refine pu 9 (some 21) #[true, true, true, true, true, true, true, true, true, true, false, false, false, false, false, false, false, false, false] (any_of HT_.out (by kernel_rfl)) ?_
                      refine pu 10 (some 22) #[true, true, true, true, true, true, true, true, true, true, true, false, false, false, false, false, false, false, false] (any_of HT_.out (by kernel_rfl)) ?_
                      refine pu 11 (some 23) #[true, true, true, true, true, true, true, true, true, true, true, true, false, false, false, false, false, false, false] (any_of HT_.out (by kernel_rfl)) ?_
                      refine pu 13 (some 25) #[true, true, true, true, true, true, true, true, true, true, true, true, false, true, false, false, false, false, false] (any_of HT_.out (by kernel_rfl)) ?_
                      refine tk8 12 (some 24) #[true, true, true, true, true, true, true, true, true, true, true, true, true, true, false, false, false, false, false] (take_ofW HT_.out HW_.out (by kernel_rfl)) hHeld ?_
                      refine tk8 14 (some 26) #[true, true, true, true, true, true, true, true, true, true, true, true, true, true, true, false, false, false, false] (take_ofW HT_.out HW_.out (by kernel_rfl)) hHeld ?_
                      refine one_ (i := 15) (N := some 27) #[true, true, true, true, true, true, true, true, true, true, true, true, true, true, true, true, false, false, false] rfl rfl (one_of HT_.out (by kernel_rfl)) (by decide) (fun K hK => ?_)
                      refine goes_ Try.func53 (by kernel_rfl) rfl #[.agg #[.int .i64 ((rd_T25 l0 (ji8)).f1.f0), .int .i64 ((rd_T25 l0 (ji8)).f1.f1)], .agg #[.int .i64 ((rd_T25 l0 x7_1).f0.f0), .int .i64 ((rd_T25 l0 x7_1).f0.f1)]] (by rfl) rfl rfl (by (try simp only [List.map_toArray, List.map_cons, List.map_nil]); first | done | (simp only [hji8]; rfl) | rfl | (simp only [List.length_drop, List.length_take]; rfl)) ?_
                      with_reducible refine (cut_Compare.calls k1 ((rd_T25 l0 (ji8)).f1.f0) ((rd_T25 l0 (ji8)).f1.f1) ((rd_T25 l0 x7_1).f0.f0) ((rd_T25 l0 x7_1).f0.f1) t706 _ A11.out).mono ?_
                      rintro e w18 ⟨rfl, hb⟩
                      refine ⟨_, rfl, ?_⟩
                      replace BK703 := bkb BK703 hb
                      replace HB := bst HB hb
                      (try clear hb)
                      (try clear hb2)
                      (try clear hk)
                      (try clear hi)
                      refine hK.out _ _ ⟨(blk_cell BK703.out 0).trans rfl, (blk_cell BK703.out 1).trans rfl, (blk_cell BK703.out 2).trans rfl, (blk_cell BK703.out 3).trans rfl, ((HB.out.cell (World.block_lt_of_cell? w _ hw705_0)).trans hw705_0), ((HB.out.cell (World.block_lt_of_cell? w _ hw705_1)).trans hw705_1), ((HB.out.cell (World.block_lt_of_cell? w _ hw705_2)).trans hw705_2), ((HB.out.cell (World.block_lt_of_cell? w _ hw705_3)).trans hw705_3)⟩ (fun hHeld => ?_)
                      clear hK K
                      refine nrp 27 ?_
                      refine pu 16 (some 28) #[true, true, true, true, true, true, true, true, true, true, true, true, true, true, true, true, true, false, false] (any_of HT_.out (by kernel_rfl)) ?_
                      refine pu 17 (some 29) #[true, true, true, true, true, true, true, true, true, true, true, true, true, true, true, true, true, true, false] (any_of HT_.out (by kernel_rfl)) ?_
                      refine pu 18 (some 30) #[true, true, true, true, true, true, true, true, true, true, true, true, true, true, true, true, true, true, true] (any_of HT_.out (by kernel_rfl)) ?_
                      refine done_ (done_of HT_.out (by kernel_rfl)) ?_
                      try go_wp2
                      go_ret
                      exact ⟨by first | rfl | (simp [errW_none, errW_some] <;> rfl) | (simp only [← hji8]; first | rfl | (simp [errW_none, errW_some] <;> rfl)) | (simp [*, errW_none, errW_some] <;> rfl), by repeat (first | (with_reducible first | exact HB.out | apply below_alloc | apply pw_below_drewN | apply below_drew1 | refine below_set ?_ GE703.out) | exact HB.out)⟩
                    · rw [if_neg c12] at H
                      have c12b0 : decide (0 < t706) = false := decide_eq_false c12
                      clear c12
                      have H' := Aside0.mk H
                      clear H
                      have p702 : 0 ≤ (x7_1 : Int) := of_decide_eq_true (by first | (with_reducible assumption) | assumption)
                      have q702 : x7_1 < (l0.length : Int) := of_decide_eq_true (by first | (with_reducible assumption) | assumption)
                      obtain ⟨ad702, e702, hx702_0, hx702_1, hx702_2, hx702_3⟩ := at_T25 HR0.out x7_1 p702 q702
                      cases e702
                      replace hx702_0 := (HB.out.cell (World.block_lt_of_cell? w _ hx702_0)).trans hx702_0
                      replace hx702_1 := (HB.out.cell (World.block_lt_of_cell? w _ hx702_1)).trans hx702_1
                      replace hx702_2 := (HB.out.cell (World.block_lt_of_cell? w _ hx702_2)).trans hx702_2
                      replace hx702_3 := (HB.out.cell (World.block_lt_of_cell? w _ hx702_3)).trans hx702_3
                      replace p702 := eq_true p702
                      replace q702 := eq_true q702
                      try go_wp2_with (first | ((with_reducible refine gate_dst (N := 4) rfl ?_); refine bxe (N := 4) (cs := #[.int .i64 0, .int .i64 0, .int .i64 0, .int .i64 0]) (t := 25) ?_; intro gb703 hg w19 hbox hb; have BK703 := Aside0.mk (hbox); have GW703 := lsz hg HB; have GE703 := lsz hg HB; replace HB := bst HB hb; clear hb hbox hg; obtain ⟨hcz20_0, hcz20_1, hcz20_2, hcz20_3⟩ := e4 BK703; obtain ⟨hfz20_0, hfz20_1, hfz20_2, hfz20_3⟩ := f4 BK703))
                      have n0_ : Aside0 (((((w19.setCell ⟨gb703, 0, none⟩ (.int .i64 ((rd_T25 l0 x7_1).f0.f0))).setCell ⟨gb703, 1, none⟩ (.int .i64 ((rd_T25 l0 x7_1).f0.f1))).setCell ⟨gb703, 2, none⟩ (.int .i64 ((rd_T25 l0 x7_1).f1.f0))).setCell ⟨gb703, 3, none⟩ (.int .i64 ((rd_T25 l0 x7_1).f1.f1))).heap[gb703]? = some (.cells #[.int .i64 ((rd_T25 l0 x7_1).f0.f0), .int .i64 ((rd_T25 l0 x7_1).f0.f1), .int .i64 ((rd_T25 l0 x7_1).f1.f0), .int .i64 ((rd_T25 l0 x7_1).f1.f1)] 25 (0, 0))) := ⟨by (with_reducible repeat (first | refine blk_drewN ?_ _ | refine blk_drew ?_ | refine blk_alloc ?_ _)); refine blk_put (cs := #[.int .i64 ((rd_T25 l0 x7_1).f0.f0), .int .i64 ((rd_T25 l0 x7_1).f0.f1), .int .i64 ((rd_T25 l0 x7_1).f1.f0), .int .i64 0]) ?_ 3 _ rfl; (with_reducible repeat (first | refine blk_drewN ?_ _ | refine blk_drew ?_ | refine blk_alloc ?_ _)); refine blk_put (cs := #[.int .i64 ((rd_T25 l0 x7_1).f0.f0), .int .i64 ((rd_T25 l0 x7_1).f0.f1), .int .i64 0, .int .i64 0]) ?_ 2 _ rfl; (with_reducible repeat (first | refine blk_drewN ?_ _ | refine blk_drew ?_ | refine blk_alloc ?_ _)); refine blk_put (cs := #[.int .i64 ((rd_T25 l0 x7_1).f0.f0), .int .i64 0, .int .i64 0, .int .i64 0]) ?_ 1 _ rfl; (with_reducible repeat (first | refine blk_drewN ?_ _ | refine blk_drew ?_ | refine blk_alloc ?_ _)); refine blk_put (cs := #[.int .i64 0, .int .i64 0, .int .i64 0, .int .i64 0]) ?_ 0 _ rfl; (with_reducible repeat (first | refine blk_drewN ?_ _ | refine blk_drew ?_ | refine blk_alloc ?_ _)); exact BK703.out⟩
                      have n1_ : Aside0 (Below w.heap.size w ((((w19.setCell ⟨gb703, 0, none⟩ (.int .i64 ((rd_T25 l0 x7_1).f0.f0))).setCell ⟨gb703, 1, none⟩ (.int .i64 ((rd_T25 l0 x7_1).f0.f1))).setCell ⟨gb703, 2, none⟩ (.int .i64 ((rd_T25 l0 x7_1).f1.f0))).setCell ⟨gb703, 3, none⟩ (.int .i64 ((rd_T25 l0 x7_1).f1.f1)))) := ⟨bl HB⟩
                      (try clear BK703)
                      (try clear HB)
                      generalize ((((w19.setCell ⟨gb703, 0, none⟩ (.int .i64 ((rd_T25 l0 x7_1).f0.f0))).setCell ⟨gb703, 1, none⟩ (.int .i64 ((rd_T25 l0 x7_1).f0.f1))).setCell ⟨gb703, 2, none⟩ (.int .i64 ((rd_T25 l0 x7_1).f1.f0))).setCell ⟨gb703, 3, none⟩ (.int .i64 ((rd_T25 l0 x7_1).f1.f1))) = w21 at n0_ n1_ ⊢
                      have BK703 := n0_
                      have HB := n1_
                      clear n0_ n1_
                      replace BK703 := Aside0.mk (blk_drew BK703.out)
                      replace HB := Aside0.mk (below_drew1 HB.out)
                      have p705 : 0 ≤ ((ji8) : Int) := of_decide_eq_true (by first | (with_reducible assumption) | assumption)
                      have q705 : (ji8) < (l0.length : Int) := of_decide_eq_true (by first | (with_reducible assumption) | assumption)
                      obtain ⟨ad705, e705, hx705_0, hx705_1, hx705_2, hx705_3⟩ := at_T25 HR0.out (ji8) p705 q705
                      have hw705_3 := hx705_3
                      have hw705_2 := hx705_2
                      have hw705_1 := hx705_1
                      have hw705_0 := hx705_0
                      obtain rfl : ad702 = ad705 := (by injection e705)
                      replace hx705_0 := (HB.out.cell (World.block_lt_of_cell? w _ hx705_0)).trans hx705_0
                      replace hx705_1 := (HB.out.cell (World.block_lt_of_cell? w _ hx705_1)).trans hx705_1
                      replace hx705_2 := (HB.out.cell (World.block_lt_of_cell? w _ hx705_2)).trans hx705_2
                      replace hx705_3 := (HB.out.cell (World.block_lt_of_cell? w _ hx705_3)).trans hx705_3
                      replace p705 := eq_true p705
                      replace q705 := eq_true q705
                      refine start_ (n := 19) (S := fun w' => w'.cell? ⟨gb703, 0, none⟩ = some (.int .i64 ((rd_T25 l0 x7_1).f0.f0)) ∧ w'.cell? ⟨gb703, 1, none⟩ = some (.int .i64 ((rd_T25 l0 x7_1).f0.f1)) ∧ w'.cell? ⟨gb703, 2, none⟩ = some (.int .i64 ((rd_T25 l0 x7_1).f1.f0)) ∧ w'.cell? ⟨gb703, 3, none⟩ = some (.int .i64 ((rd_T25 l0 x7_1).f1.f1)) ∧ w'.cell? (ad702.add (((ji8)).toNat * 4)) = some (.int .i64 ((rd_T25 l0 (ji8)).f0.f0)) ∧ w'.cell? ⟨(ad702.add (((ji8)).toNat * 4)).block, (ad702.add (((ji8)).toNat * 4)).off + 1, none⟩ = some (.int .i64 ((rd_T25 l0 (ji8)).f0.f1)) ∧ w'.cell? ⟨(ad702.add (((ji8)).toNat * 4)).block, (ad702.add (((ji8)).toNat * 4)).off + 2, none⟩ = some (.int .i64 ((rd_T25 l0 (ji8)).f1.f0)) ∧ w'.cell? ⟨(ad702.add (((ji8)).toNat * 4)).block, (ad702.add (((ji8)).toNat * 4)).off + 3, none⟩ = some (.int .i64 ((rd_T25 l0 (ji8)).f1.f1))) (ds := []) #[false, false, false, false, false, false, false, false, false, false, false, false, false, false, false, false, false, false, false] (by kernel_rfl) rfl rfl ⟨(blk_cell BK703.out 0).trans rfl, (blk_cell BK703.out 1).trans rfl, (blk_cell BK703.out 2).trans rfl, (blk_cell BK703.out 3).trans rfl, ((HB.out.cell (World.block_lt_of_cell? w _ hw705_0)).trans hw705_0), ((HB.out.cell (World.block_lt_of_cell? w _ hw705_1)).trans hw705_1), ((HB.out.cell (World.block_lt_of_cell? w _ hw705_2)).trans hw705_2), ((HB.out.cell (World.block_lt_of_cell? w _ hw705_3)).trans hw705_3)⟩ (fun hHeld => ?_); refine with_tabW span_Sorted.tab4 span_Sorted.bits4 (fun HT_ HW_ => ?_)
                      generalize w21.drew = w22 at BK703 HB hx705_0 hx705_1 hx705_2 hx705_3 hHeld ⊢
                      refine tk8 0 (some 12) #[true, false, false, false, false, false, false, false, false, false, false, false, false, false, false, false, false, false, false] (take_ofW HT_.out HW_.out (by kernel_rfl)) hHeld ?_
                      refine one_ (i := 1) (N := some 13) #[true, true, false, false, false, false, false, false, false, false, false, false, false, false, false, false, false, false, false] rfl rfl (one_of HT_.out (by kernel_rfl)) (by decide) (fun K hK => ?_)
                      refine goes_ Try.func28 (by kernel_rfl) rfl #[.agg #[.int .i64 ((rd_T25 l0 x7_1).f0.f0), .int .i64 ((rd_T25 l0 x7_1).f0.f1), .int .i64 ((rd_T25 l0 x7_1).f1.f0), .int .i64 ((rd_T25 l0 x7_1).f1.f1)]] (by rfl) rfl rfl (by (try simp only [List.map_toArray, List.map_cons, List.map_nil]); first | done | rfl | (simp only [List.length_drop, List.length_take]; rfl)) ?_
                      with_reducible refine (span_Right.calls k1 ((rd_T25 l0 x7_1).f0.f0) ((rd_T25 l0 x7_1).f0.f1) ((rd_T25 l0 x7_1).f1.f0) ((rd_T25 l0 x7_1).f1.f1) true _ A5.out).mono ?_
                      rintro e w23 ⟨rfl, hb⟩
                      refine ⟨_, rfl, ?_⟩
                      replace BK703 := bkb BK703 hb
                      replace HB := bst HB hb
                      (try clear hb)
                      (try clear hb2)
                      (try clear hk)
                      (try clear hi)
                      refine hK.out _ _ ⟨(blk_cell BK703.out 0).trans rfl, (blk_cell BK703.out 1).trans rfl, (blk_cell BK703.out 2).trans rfl, (blk_cell BK703.out 3).trans rfl, ((HB.out.cell (World.block_lt_of_cell? w _ hw705_0)).trans hw705_0), ((HB.out.cell (World.block_lt_of_cell? w _ hw705_1)).trans hw705_1), ((HB.out.cell (World.block_lt_of_cell? w _ hw705_2)).trans hw705_2), ((HB.out.cell (World.block_lt_of_cell? w _ hw705_3)).trans hw705_3)⟩ (fun hHeld => ?_)
                      clear hK K
                      refine nrp 13 ?_
                      refine pu 2 (some 14) #[true, true, true, false, false, false, false, false, false, false, false, false, false, false, false, false, false, false, false] (any_of HT_.out (by kernel_rfl)) ?_
                      refine pu 3 (some 15) #[true, true, true, true, false, false, false, false, false, false, false, false, false, false, false, false, false, false, false] (any_of HT_.out (by kernel_rfl)) ?_
                      refine pu 4 (some 16) #[true, true, true, true, true, false, false, false, false, false, false, false, false, false, false, false, false, false, false] (any_of HT_.out (by kernel_rfl)) ?_
                      refine pu 5 (some 17) #[true, true, true, true, true, true, false, false, false, false, false, false, false, false, false, false, false, false, false] (any_of HT_.out (by kernel_rfl)) ?_
                      refine pu 6 (some 18) #[true, true, true, true, true, true, true, false, false, false, false, false, false, false, false, false, false, false, false] (any_of HT_.out (by kernel_rfl)) ?_
                      refine pu 7 (some 19) #[true, true, true, true, true, true, true, true, false, false, false, false, false, false, false, false, false, false, false] (any_of HT_.out (by kernel_rfl)) ?_
                      refine pu 8 (some 20) #[true, true, true, true, true, true, true, true, true, false, false, false, false, false, false, false, false, false, false] (any_of HT_.out (by kernel_rfl)) ?_
                      refine pu 9 (some 21) #[true, true, true, true, true, true, true, true, true, true, false, false, false, false, false, false, false, false, false] (any_of HT_.out (by kernel_rfl)) ?_
                      refine pu 10 (some 22) #[true, true, true, true, true, true, true, true, true, true, true, false, false, false, false, false, false, false, false] (any_of HT_.out (by kernel_rfl)) ?_
                      refine pu 11 (some 23) #[true, true, true, true, true, true, true, true, true, true, true, true, false, false, false, false, false, false, false] (any_of HT_.out (by kernel_rfl)) ?_
                      refine pu 13 (some 25) #[true, true, true, true, true, true, true, true, true, true, true, true, false, true, false, false, false, false, false] (any_of HT_.out (by kernel_rfl)) ?_
                      refine tk8 12 (some 24) #[true, true, true, true, true, true, true, true, true, true, true, true, true, true, false, false, false, false, false] (take_ofW HT_.out HW_.out (by kernel_rfl)) hHeld ?_
                      refine tk8 14 (some 26) #[true, true, true, true, true, true, true, true, true, true, true, true, true, true, true, false, false, false, false] (take_ofW HT_.out HW_.out (by kernel_rfl)) hHeld ?_
                      refine one_ (i := 15) (N := some 27) #[true, true, true, true, true, true, true, true, true, true, true, true, true, true, true, true, false, false, false] rfl rfl (one_of HT_.out (by kernel_rfl)) (by decide) (fun K hK => ?_)
                      refine goes_ Try.func53 (by kernel_rfl) rfl #[.agg #[.int .i64 ((rd_T25 l0 (ji8)).f1.f0), .int .i64 ((rd_T25 l0 (ji8)).f1.f1)], .agg #[.int .i64 ((rd_T25 l0 x7_1).f0.f0), .int .i64 ((rd_T25 l0 x7_1).f0.f1)]] (by rfl) rfl rfl (by (try simp only [List.map_toArray, List.map_cons, List.map_nil]); first | done | (simp only [hji8]; rfl) | rfl | (simp only [List.length_drop, List.length_take]; rfl)) ?_
                      with_reducible refine (cut_Compare.calls k1 ((rd_T25 l0 (ji8)).f1.f0) ((rd_T25 l0 (ji8)).f1.f1) ((rd_T25 l0 x7_1).f0.f0) ((rd_T25 l0 x7_1).f0.f1) t706 _ A11.out).mono ?_
                      rintro e w24 ⟨rfl, hb⟩
                      refine ⟨_, rfl, ?_⟩
                      replace BK703 := bkb BK703 hb
                      replace HB := bst HB hb
                      (try clear hb)
                      (try clear hb2)
                      (try clear hk)
                      (try clear hi)
                      refine hK.out _ _ ⟨(blk_cell BK703.out 0).trans rfl, (blk_cell BK703.out 1).trans rfl, (blk_cell BK703.out 2).trans rfl, (blk_cell BK703.out 3).trans rfl, ((HB.out.cell (World.block_lt_of_cell? w _ hw705_0)).trans hw705_0), ((HB.out.cell (World.block_lt_of_cell? w _ hw705_1)).trans hw705_1), ((HB.out.cell (World.block_lt_of_cell? w _ hw705_2)).trans hw705_2), ((HB.out.cell (World.block_lt_of_cell? w _ hw705_3)).trans hw705_3)⟩ (fun hHeld => ?_)
                      clear hK K
                      refine nrp 27 ?_
                      refine pu 16 (some 28) #[true, true, true, true, true, true, true, true, true, true, true, true, true, true, true, true, true, false, false] (any_of HT_.out (by kernel_rfl)) ?_
                      refine pu 17 (some 29) #[true, true, true, true, true, true, true, true, true, true, true, true, true, true, true, true, true, true, false] (any_of HT_.out (by kernel_rfl)) ?_
                      refine pu 18 (some 30) #[true, true, true, true, true, true, true, true, true, true, true, true, true, true, true, true, true, true, true] (any_of HT_.out (by kernel_rfl)) ?_
                      refine done_ (done_of HT_.out (by kernel_rfl)) ?_
                      try go_wp2
                      go_roundg k1
                      case measure => have := HK1.out; omega
                      case rel => exact ⟨(wrap64 (x7_1 + 1)), (by first | rfl | (simp; done) | (simp [*]; done)), H', ⟨by have := HK1.out; omega⟩, ⟨bl HB⟩⟩
                  · rw [if_neg c10] at H
                    exact absurd H (by simp)
                · rw [if_neg c9] at H
                  exact absurd H (by simp)
              · rw [if_neg c7] at H
                have c7b0 : decide (0 < x7_1) = false := decide_eq_false c7
                clear c7
                have H' := Aside0.mk H
                clear H
                have p702 : 0 ≤ (x7_1 : Int) := of_decide_eq_true (by first | (with_reducible assumption) | assumption)
                have q702 : x7_1 < (l0.length : Int) := of_decide_eq_true (by first | (with_reducible assumption) | assumption)
                obtain ⟨ad702, e702, hx702_0, hx702_1, hx702_2, hx702_3⟩ := at_T25 HR0.out x7_1 p702 q702
                cases e702
                replace hx702_0 := (HB.out.cell (World.block_lt_of_cell? w _ hx702_0)).trans hx702_0
                replace hx702_1 := (HB.out.cell (World.block_lt_of_cell? w _ hx702_1)).trans hx702_1
                replace hx702_2 := (HB.out.cell (World.block_lt_of_cell? w _ hx702_2)).trans hx702_2
                replace hx702_3 := (HB.out.cell (World.block_lt_of_cell? w _ hx702_3)).trans hx702_3
                replace p702 := eq_true p702
                replace q702 := eq_true q702
                try go_wp2_with (first | ((with_reducible refine gate_dst (N := 4) rfl ?_); refine bxe (N := 4) (cs := #[.int .i64 0, .int .i64 0, .int .i64 0, .int .i64 0]) (t := 25) ?_; intro gb703 hg w25 hbox hb; have BK703 := Aside0.mk (hbox); have GW703 := lsz hg HB; have GE703 := lsz hg HB; replace HB := bst HB hb; clear hb hbox hg; obtain ⟨hcz26_0, hcz26_1, hcz26_2, hcz26_3⟩ := e4 BK703; obtain ⟨hfz26_0, hfz26_1, hfz26_2, hfz26_3⟩ := f4 BK703))
                have n0_ : Aside0 (((((w25.setCell ⟨gb703, 0, none⟩ (.int .i64 ((rd_T25 l0 x7_1).f0.f0))).setCell ⟨gb703, 1, none⟩ (.int .i64 ((rd_T25 l0 x7_1).f0.f1))).setCell ⟨gb703, 2, none⟩ (.int .i64 ((rd_T25 l0 x7_1).f1.f0))).setCell ⟨gb703, 3, none⟩ (.int .i64 ((rd_T25 l0 x7_1).f1.f1))).heap[gb703]? = some (.cells #[.int .i64 ((rd_T25 l0 x7_1).f0.f0), .int .i64 ((rd_T25 l0 x7_1).f0.f1), .int .i64 ((rd_T25 l0 x7_1).f1.f0), .int .i64 ((rd_T25 l0 x7_1).f1.f1)] 25 (0, 0))) := ⟨by (with_reducible repeat (first | refine blk_drewN ?_ _ | refine blk_drew ?_ | refine blk_alloc ?_ _)); refine blk_put (cs := #[.int .i64 ((rd_T25 l0 x7_1).f0.f0), .int .i64 ((rd_T25 l0 x7_1).f0.f1), .int .i64 ((rd_T25 l0 x7_1).f1.f0), .int .i64 0]) ?_ 3 _ rfl; (with_reducible repeat (first | refine blk_drewN ?_ _ | refine blk_drew ?_ | refine blk_alloc ?_ _)); refine blk_put (cs := #[.int .i64 ((rd_T25 l0 x7_1).f0.f0), .int .i64 ((rd_T25 l0 x7_1).f0.f1), .int .i64 0, .int .i64 0]) ?_ 2 _ rfl; (with_reducible repeat (first | refine blk_drewN ?_ _ | refine blk_drew ?_ | refine blk_alloc ?_ _)); refine blk_put (cs := #[.int .i64 ((rd_T25 l0 x7_1).f0.f0), .int .i64 0, .int .i64 0, .int .i64 0]) ?_ 1 _ rfl; (with_reducible repeat (first | refine blk_drewN ?_ _ | refine blk_drew ?_ | refine blk_alloc ?_ _)); refine blk_put (cs := #[.int .i64 0, .int .i64 0, .int .i64 0, .int .i64 0]) ?_ 0 _ rfl; (with_reducible repeat (first | refine blk_drewN ?_ _ | refine blk_drew ?_ | refine blk_alloc ?_ _)); exact BK703.out⟩
                have n1_ : Aside0 (Below w.heap.size w ((((w25.setCell ⟨gb703, 0, none⟩ (.int .i64 ((rd_T25 l0 x7_1).f0.f0))).setCell ⟨gb703, 1, none⟩ (.int .i64 ((rd_T25 l0 x7_1).f0.f1))).setCell ⟨gb703, 2, none⟩ (.int .i64 ((rd_T25 l0 x7_1).f1.f0))).setCell ⟨gb703, 3, none⟩ (.int .i64 ((rd_T25 l0 x7_1).f1.f1)))) := ⟨bl HB⟩
                (try clear BK703)
                (try clear HB)
                generalize ((((w25.setCell ⟨gb703, 0, none⟩ (.int .i64 ((rd_T25 l0 x7_1).f0.f0))).setCell ⟨gb703, 1, none⟩ (.int .i64 ((rd_T25 l0 x7_1).f0.f1))).setCell ⟨gb703, 2, none⟩ (.int .i64 ((rd_T25 l0 x7_1).f1.f0))).setCell ⟨gb703, 3, none⟩ (.int .i64 ((rd_T25 l0 x7_1).f1.f1))) = w27 at n0_ n1_ ⊢
                have BK703 := n0_
                have HB := n1_
                clear n0_ n1_
                replace BK703 := Aside0.mk (blk_drew BK703.out)
                replace HB := Aside0.mk (below_drew1 HB.out)
                refine start_ (n := 19) (S := fun w' => w'.cell? ⟨gb703, 0, none⟩ = some (.int .i64 ((rd_T25 l0 x7_1).f0.f0)) ∧ w'.cell? ⟨gb703, 1, none⟩ = some (.int .i64 ((rd_T25 l0 x7_1).f0.f1)) ∧ w'.cell? ⟨gb703, 2, none⟩ = some (.int .i64 ((rd_T25 l0 x7_1).f1.f0)) ∧ w'.cell? ⟨gb703, 3, none⟩ = some (.int .i64 ((rd_T25 l0 x7_1).f1.f1))) (ds := []) #[false, false, false, false, false, false, false, false, false, false, false, false, false, false, false, false, false, false, false] (by kernel_rfl) rfl rfl (e4 BK703) (fun hHeld => ?_); refine with_tabW span_Sorted.tab4 span_Sorted.bits4 (fun HT_ HW_ => ?_)
                generalize w27.drew = w28 at BK703 HB hHeld ⊢
                refine tk4 0 (some 12) #[true, false, false, false, false, false, false, false, false, false, false, false, false, false, false, false, false, false, false] (take_ofW HT_.out HW_.out (by kernel_rfl)) hHeld ?_
                refine one_ (i := 1) (N := some 13) #[true, true, false, false, false, false, false, false, false, false, false, false, false, false, false, false, false, false, false] rfl rfl (one_of HT_.out (by kernel_rfl)) (by decide) (fun K hK => ?_)
                refine goes_ Try.func28 (by kernel_rfl) rfl #[.agg #[.int .i64 ((rd_T25 l0 x7_1).f0.f0), .int .i64 ((rd_T25 l0 x7_1).f0.f1), .int .i64 ((rd_T25 l0 x7_1).f1.f0), .int .i64 ((rd_T25 l0 x7_1).f1.f1)]] (by rfl) rfl rfl (by (try simp only [List.map_toArray, List.map_cons, List.map_nil]); first | done | rfl | (simp only [List.length_drop, List.length_take]; rfl)) ?_
                with_reducible refine (span_Right.calls k1 ((rd_T25 l0 x7_1).f0.f0) ((rd_T25 l0 x7_1).f0.f1) ((rd_T25 l0 x7_1).f1.f0) ((rd_T25 l0 x7_1).f1.f1) true _ A5.out).mono ?_
                rintro e w29 ⟨rfl, hb⟩
                refine ⟨_, rfl, ?_⟩
                replace BK703 := bkb BK703 hb
                replace HB := bst HB hb
                (try clear hb)
                (try clear hb2)
                (try clear hk)
                (try clear hi)
                refine hK.out _ _ (e4 BK703) (fun hHeld => ?_)
                clear hK K
                refine nrp 13 ?_
                refine pu 2 (some 14) #[true, true, true, false, false, false, false, false, false, false, false, false, false, false, false, false, false, false, false] (any_of HT_.out (by kernel_rfl)) ?_
                refine pu 3 (some 15) #[true, true, true, true, false, false, false, false, false, false, false, false, false, false, false, false, false, false, false] (any_of HT_.out (by kernel_rfl)) ?_
                refine pu 4 (some 16) #[true, true, true, true, true, false, false, false, false, false, false, false, false, false, false, false, false, false, false] (any_of HT_.out (by kernel_rfl)) ?_
                refine pu 5 (some 17) #[true, true, true, true, true, true, false, false, false, false, false, false, false, false, false, false, false, false, false] (any_of HT_.out (by kernel_rfl)) ?_
                refine pu 6 (some 18) #[true, true, true, true, true, true, true, false, false, false, false, false, false, false, false, false, false, false, false] (any_of HT_.out (by kernel_rfl)) ?_
                refine pv 7 (some 19) #[true, true, true, true, true, true, true, true, false, false, false, false, false, false, false, false, false, false, false] (any_of HT_.out (by kernel_rfl)) ?_
                refine pv 8 (some 20) #[true, true, true, true, true, true, true, true, true, false, false, false, false, false, false, false, false, false, false] (any_of HT_.out (by kernel_rfl)) ?_
                refine pv 9 (some 21) #[true, true, true, true, true, true, true, true, true, true, false, false, false, false, false, false, false, false, false] (any_of HT_.out (by kernel_rfl)) ?_
                refine pv 10 (some 22) #[true, true, true, true, true, true, true, true, true, true, true, false, false, false, false, false, false, false, false] (any_of HT_.out (by kernel_rfl)) ?_
                refine pv 11 (some 23) #[true, true, true, true, true, true, true, true, true, true, true, true, false, false, false, false, false, false, false] (any_of HT_.out (by kernel_rfl)) ?_
                refine pv 12 (some 24) #[true, true, true, true, true, true, true, true, true, true, true, true, true, false, false, false, false, false, false] (any_of HT_.out (by kernel_rfl)) ?_
                refine pv 13 (some 25) #[true, true, true, true, true, true, true, true, true, true, true, true, true, true, false, false, false, false, false] (any_of HT_.out (by kernel_rfl)) ?_
                refine pv 14 (some 26) #[true, true, true, true, true, true, true, true, true, true, true, true, true, true, true, false, false, false, false] (any_of HT_.out (by kernel_rfl)) ?_
                refine pv 15 (some 27) #[true, true, true, true, true, true, true, true, true, true, true, true, true, true, true, true, false, false, false] (any_of HT_.out (by kernel_rfl)) ?_
                refine pv 16 (some 28) #[true, true, true, true, true, true, true, true, true, true, true, true, true, true, true, true, true, false, false] (any_of HT_.out (by kernel_rfl)) ?_
                refine pu 17 (some 29) #[true, true, true, true, true, true, true, true, true, true, true, true, true, true, true, true, true, true, false] (any_of HT_.out (by kernel_rfl)) ?_
                refine pu 18 (some 30) #[true, true, true, true, true, true, true, true, true, true, true, true, true, true, true, true, true, true, true] (any_of HT_.out (by kernel_rfl)) ?_
                refine done_ (done_of HT_.out (by kernel_rfl)) ?_
                try go_wp2
                go_roundg k1
                case measure => have := HK1.out; omega
                case rel => exact ⟨(wrap64 (x7_1 + 1)), (by first | rfl | (simp; done) | (simp [*]; done)), H', ⟨by have := HK1.out; omega⟩, ⟨bl HB⟩⟩
            · replace c6 := Bool.eq_false_iff.mpr c6
              subst c6
              have H1 : (some false) = some r := by rw [if_neg (show ¬ (false = true) by decide)] at H; exact H
              clear H
              have H := H1
              clear H1
              obtain rfl := Option.some.inj H
              have p702 : 0 ≤ (x7_1 : Int) := of_decide_eq_true (by first | (with_reducible assumption) | assumption)
              have q702 : x7_1 < (l0.length : Int) := of_decide_eq_true (by first | (with_reducible assumption) | assumption)
              obtain ⟨ad702, e702, hx702_0, hx702_1, hx702_2, hx702_3⟩ := at_T25 HR0.out x7_1 p702 q702
              cases e702
              replace hx702_0 := (HB.out.cell (World.block_lt_of_cell? w _ hx702_0)).trans hx702_0
              replace hx702_1 := (HB.out.cell (World.block_lt_of_cell? w _ hx702_1)).trans hx702_1
              replace hx702_2 := (HB.out.cell (World.block_lt_of_cell? w _ hx702_2)).trans hx702_2
              replace hx702_3 := (HB.out.cell (World.block_lt_of_cell? w _ hx702_3)).trans hx702_3
              replace p702 := eq_true p702
              replace q702 := eq_true q702
              try go_wp2_with (first | ((with_reducible refine gate_dst (N := 4) rfl ?_); refine bxe (N := 4) (cs := #[.int .i64 0, .int .i64 0, .int .i64 0, .int .i64 0]) (t := 25) ?_; intro gb703 hg w30 hbox hb; have BK703 := Aside0.mk (hbox); have GW703 := lsz hg HB; have GE703 := lsz hg HB; replace HB := bst HB hb; clear hb hbox hg; obtain ⟨hcz31_0, hcz31_1, hcz31_2, hcz31_3⟩ := e4 BK703; obtain ⟨hfz31_0, hfz31_1, hfz31_2, hfz31_3⟩ := f4 BK703))
              have n0_ : Aside0 (((((w30.setCell ⟨gb703, 0, none⟩ (.int .i64 ((rd_T25 l0 x7_1).f0.f0))).setCell ⟨gb703, 1, none⟩ (.int .i64 ((rd_T25 l0 x7_1).f0.f1))).setCell ⟨gb703, 2, none⟩ (.int .i64 ((rd_T25 l0 x7_1).f1.f0))).setCell ⟨gb703, 3, none⟩ (.int .i64 ((rd_T25 l0 x7_1).f1.f1))).heap[gb703]? = some (.cells #[.int .i64 ((rd_T25 l0 x7_1).f0.f0), .int .i64 ((rd_T25 l0 x7_1).f0.f1), .int .i64 ((rd_T25 l0 x7_1).f1.f0), .int .i64 ((rd_T25 l0 x7_1).f1.f1)] 25 (0, 0))) := ⟨by (with_reducible repeat (first | refine blk_drewN ?_ _ | refine blk_drew ?_ | refine blk_alloc ?_ _)); refine blk_put (cs := #[.int .i64 ((rd_T25 l0 x7_1).f0.f0), .int .i64 ((rd_T25 l0 x7_1).f0.f1), .int .i64 ((rd_T25 l0 x7_1).f1.f0), .int .i64 0]) ?_ 3 _ rfl; (with_reducible repeat (first | refine blk_drewN ?_ _ | refine blk_drew ?_ | refine blk_alloc ?_ _)); refine blk_put (cs := #[.int .i64 ((rd_T25 l0 x7_1).f0.f0), .int .i64 ((rd_T25 l0 x7_1).f0.f1), .int .i64 0, .int .i64 0]) ?_ 2 _ rfl; (with_reducible repeat (first | refine blk_drewN ?_ _ | refine blk_drew ?_ | refine blk_alloc ?_ _)); refine blk_put (cs := #[.int .i64 ((rd_T25 l0 x7_1).f0.f0), .int .i64 0, .int .i64 0, .int .i64 0]) ?_ 1 _ rfl; (with_reducible repeat (first | refine blk_drewN ?_ _ | refine blk_drew ?_ | refine blk_alloc ?_ _)); refine blk_put (cs := #[.int .i64 0, .int .i64 0, .int .i64 0, .int .i64 0]) ?_ 0 _ rfl; (with_reducible repeat (first | refine blk_drewN ?_ _ | refine blk_drew ?_ | refine blk_alloc ?_ _)); exact BK703.out⟩
              have n1_ : Aside0 (Below w.heap.size w ((((w30.setCell ⟨gb703, 0, none⟩ (.int .i64 ((rd_T25 l0 x7_1).f0.f0))).setCell ⟨gb703, 1, none⟩ (.int .i64 ((rd_T25 l0 x7_1).f0.f1))).setCell ⟨gb703, 2, none⟩ (.int .i64 ((rd_T25 l0 x7_1).f1.f0))).setCell ⟨gb703, 3, none⟩ (.int .i64 ((rd_T25 l0 x7_1).f1.f1)))) := ⟨bl HB⟩
              (try clear BK703)
              (try clear HB)
              generalize ((((w30.setCell ⟨gb703, 0, none⟩ (.int .i64 ((rd_T25 l0 x7_1).f0.f0))).setCell ⟨gb703, 1, none⟩ (.int .i64 ((rd_T25 l0 x7_1).f0.f1))).setCell ⟨gb703, 2, none⟩ (.int .i64 ((rd_T25 l0 x7_1).f1.f0))).setCell ⟨gb703, 3, none⟩ (.int .i64 ((rd_T25 l0 x7_1).f1.f1))) = w32 at n0_ n1_ ⊢
              have BK703 := n0_
              have HB := n1_
              clear n0_ n1_
              replace BK703 := Aside0.mk (blk_drew BK703.out)
              replace HB := Aside0.mk (below_drew1 HB.out)
              refine start_ (n := 19) (S := fun w' => w'.cell? ⟨gb703, 0, none⟩ = some (.int .i64 ((rd_T25 l0 x7_1).f0.f0)) ∧ w'.cell? ⟨gb703, 1, none⟩ = some (.int .i64 ((rd_T25 l0 x7_1).f0.f1)) ∧ w'.cell? ⟨gb703, 2, none⟩ = some (.int .i64 ((rd_T25 l0 x7_1).f1.f0)) ∧ w'.cell? ⟨gb703, 3, none⟩ = some (.int .i64 ((rd_T25 l0 x7_1).f1.f1))) (ds := []) #[false, false, false, false, false, false, false, false, false, false, false, false, false, false, false, false, false, false, false] (by kernel_rfl) rfl rfl (e4 BK703) (fun hHeld => ?_); refine with_tabW span_Sorted.tab4 span_Sorted.bits4 (fun HT_ HW_ => ?_)
              generalize w32.drew = w33 at BK703 HB hHeld ⊢
              refine tk4 0 (some 12) #[true, false, false, false, false, false, false, false, false, false, false, false, false, false, false, false, false, false, false] (take_ofW HT_.out HW_.out (by kernel_rfl)) hHeld ?_
              refine one_ (i := 1) (N := some 13) #[true, true, false, false, false, false, false, false, false, false, false, false, false, false, false, false, false, false, false] rfl rfl (one_of HT_.out (by kernel_rfl)) (by decide) (fun K hK => ?_)
              refine goes_ Try.func28 (by kernel_rfl) rfl #[.agg #[.int .i64 ((rd_T25 l0 x7_1).f0.f0), .int .i64 ((rd_T25 l0 x7_1).f0.f1), .int .i64 ((rd_T25 l0 x7_1).f1.f0), .int .i64 ((rd_T25 l0 x7_1).f1.f1)]] (by rfl) rfl rfl (by (try simp only [List.map_toArray, List.map_cons, List.map_nil]); first | done | rfl | (simp only [List.length_drop, List.length_take]; rfl)) ?_
              with_reducible refine (span_Right.calls k1 ((rd_T25 l0 x7_1).f0.f0) ((rd_T25 l0 x7_1).f0.f1) ((rd_T25 l0 x7_1).f1.f0) ((rd_T25 l0 x7_1).f1.f1) false _ A5.out).mono ?_
              rintro e w34 ⟨rfl, hb⟩
              refine ⟨_, rfl, ?_⟩
              replace BK703 := bkb BK703 hb
              replace HB := bst HB hb
              (try clear hb)
              (try clear hb2)
              (try clear hk)
              (try clear hi)
              refine hK.out _ _ (e4 BK703) (fun hHeld => ?_)
              clear hK K
              refine nrp 13 ?_
              refine pu 2 (some 14) #[true, true, true, false, false, false, false, false, false, false, false, false, false, false, false, false, false, false, false] (any_of HT_.out (by kernel_rfl)) ?_
              refine pu 3 (some 15) #[true, true, true, true, false, false, false, false, false, false, false, false, false, false, false, false, false, false, false] (any_of HT_.out (by kernel_rfl)) ?_
              refine pv 4 (some 16) #[true, true, true, true, true, false, false, false, false, false, false, false, false, false, false, false, false, false, false] (any_of HT_.out (by kernel_rfl)) ?_
              refine pv 5 (some 17) #[true, true, true, true, true, true, false, false, false, false, false, false, false, false, false, false, false, false, false] (any_of HT_.out (by kernel_rfl)) ?_
              refine pv 6 (some 18) #[true, true, true, true, true, true, true, false, false, false, false, false, false, false, false, false, false, false, false] (any_of HT_.out (by kernel_rfl)) ?_
              refine pv 7 (some 19) #[true, true, true, true, true, true, true, true, false, false, false, false, false, false, false, false, false, false, false] (any_of HT_.out (by kernel_rfl)) ?_
              refine pv 8 (some 20) #[true, true, true, true, true, true, true, true, true, false, false, false, false, false, false, false, false, false, false] (any_of HT_.out (by kernel_rfl)) ?_
              refine pv 9 (some 21) #[true, true, true, true, true, true, true, true, true, true, false, false, false, false, false, false, false, false, false] (any_of HT_.out (by kernel_rfl)) ?_
              refine pv 10 (some 22) #[true, true, true, true, true, true, true, true, true, true, true, false, false, false, false, false, false, false, false] (any_of HT_.out (by kernel_rfl)) ?_
              refine pv 11 (some 23) #[true, true, true, true, true, true, true, true, true, true, true, true, false, false, false, false, false, false, false] (any_of HT_.out (by kernel_rfl)) ?_
              refine pv 12 (some 24) #[true, true, true, true, true, true, true, true, true, true, true, true, true, false, false, false, false, false, false] (any_of HT_.out (by kernel_rfl)) ?_
              refine pv 13 (some 25) #[true, true, true, true, true, true, true, true, true, true, true, true, true, true, false, false, false, false, false] (any_of HT_.out (by kernel_rfl)) ?_
              refine pv 14 (some 26) #[true, true, true, true, true, true, true, true, true, true, true, true, true, true, true, false, false, false, false] (any_of HT_.out (by kernel_rfl)) ?_
              refine pv 15 (some 27) #[true, true, true, true, true, true, true, true, true, true, true, true, true, true, true, true, false, false, false] (any_of HT_.out (by kernel_rfl)) ?_
              refine pv 16 (some 28) #[true, true, true, true, true, true, true, true, true, true, true, true, true, true, true, true, true, false, false] (any_of HT_.out (by kernel_rfl)) ?_
              refine pv 17 (some 29) #[true, true, true, true, true, true, true, true, true, true, true, true, true, true, true, true, true, true, false] (any_of HT_.out (by kernel_rfl)) ?_
              refine pu 18 (some 30) #[true, true, true, true, true, true, true, true, true, true, true, true, true, true, true, true, true, true, true] (any_of HT_.out (by kernel_rfl)) ?_
              refine done_ (done_of HT_.out (by kernel_rfl)) ?_
              try go_wp2
              go_ret
              exact endB HB
          · rw [if_neg c4] at H
            exact absurd H (by simp)
        · rw [if_neg c3] at H
          exact absurd H (by simp)
      · rw [if_neg c2] at H
        have c2b0 : decide (x7_1 < (l0.length : Int)) = false := decide_eq_false c2
        clear c2
        obtain rfl := Option.some.inj H
        go_wp2
        go_ret
        exact endB HB
/-! ### bocageref03_Sorted: function 41 -/
def bocageref03_Sorted.l0 : Nat → List (S25) → Int → Option (Bool)
  | 0, _, _ => none
  | k + 1, x0, x3 => if x3 < (x0.length : Int) then (if 0 ≤ x3 then ((bocageref03_Right.f k ((rd_T25 x0 x3).f0.f0) ((rd_T25 x0 x3).f0.f1) ((rd_T25 x0 x3).f1.f0) ((rd_T25 x0 x3).f1.f1)).bind fun t708 => (if t708 = true then (if x3 > 0 then (if 0 ≤ (wrap64 (x3 - 1)) then (if (wrap64 (x3 - 1)) < (x0.length : Int) then ((bocageref02_Less.f k ((rd_T25 x0 x3).f0.f0) ((rd_T25 x0 x3).f0.f1) ((rd_T25 x0 (wrap64 (x3 - 1))).f1.f0) ((rd_T25 x0 (wrap64 (x3 - 1))).f1.f1)).bind fun t711 => (if t711 = true then (some false) else (bocageref03_Sorted.l0 k x0 (wrap64 (x3 + 1))))) else (none)) else (none)) else (bocageref03_Sorted.l0 k x0 (wrap64 (x3 + 1)))) else (some false))) else (none)) else (some true)
def bocageref03_Sorted.f (k : Nat) (l0 : List (S25)) : Option (Bool) := bocageref03_Sorted.l0 k l0 0
theorem bocageref03_Sorted.mono_l : ∀ k, (∀ y0 y1, LeO (bocageref03_Sorted.l0 k y0 y1) (bocageref03_Sorted.l0 (k + 1) y0 y1))
  | 0 => fun _ _ r h => by simp [bocageref03_Sorted.l0] at h
  | k + 1 => by
    have ih0 := bocageref03_Sorted.mono_l k
    · intro y0 y1
      unfold bocageref03_Sorted.l0
      repeat' first
      | (with_reducible exact ih0 _ _)
      | (with_reducible exact bocageref02_Less.mono _ _ _ _ _)
      | (with_reducible exact bocageref03_Right.mono _ _ _ _ _)
      | (with_reducible exact LeO.refl _)
      | (with_reducible exact LeO.none _)
      | (with_reducible refine LeO.ite ?_ ?_)
      | (with_reducible refine LeO.bind ?_ (fun _ => ?_))
      | exact ih0 _ _
      | exact bocageref02_Less.mono _ _ _ _ _
      | exact bocageref03_Right.mono _ _ _ _ _
      | exact LeO.none _
      | refine LeO.ite ?_ ?_
      | refine LeO.bind ?_ (fun _ => ?_)
theorem bocageref03_Sorted.mono : ∀ a0 k, LeO (bocageref03_Sorted.f k a0) (bocageref03_Sorted.f (k + 1) a0) := by
  intro a0 k
  have ih0 := bocageref03_Sorted.mono_l k
  unfold bocageref03_Sorted.f
  repeat' first
      | (with_reducible exact ih0 _ _)
      | (with_reducible exact bocageref02_Less.mono _ _ _ _ _)
      | (with_reducible exact bocageref03_Right.mono _ _ _ _ _)
      | (with_reducible exact LeO.refl _)
      | (with_reducible exact LeO.none _)
      | (with_reducible refine LeO.ite ?_ ?_)
      | (with_reducible refine LeO.bind ?_ (fun _ => ?_))
      | exact ih0 _ _
      | exact bocageref02_Less.mono _ _ _ _ _
      | exact bocageref03_Right.mono _ _ _ _ _
      | exact LeO.none _
      | refine LeO.ite ?_ ?_
      | refine LeO.bind ?_ (fun _ => ?_)
def bocageref03_Sorted.T4 : Bool × List (List Nat × List Nat) := (true, [([], []), ([], []), ([0, 1], [0, 1]), ([2], [2]), ([3], [3]), ([4], [4]), ([5, 4], [5]), ([6], [6]), ([7, 6], [6, 7]), ([8, 6, 6], [6, 8]), ([9], [9]), ([9], [9]), ([10, 11, 9], [9, 10, 11]), ([12, 9], [9, 12]), ([13, 9], [9, 13]), ([9], [9]), ([9], [9]), ([16, 9], [9, 16]), ([15, 17, 9], [9, 15, 17]), ([18, 9], [9, 18]), ([19, 9], [9, 19]), ([14, 20, 9, 9], [9, 14, 20]), ([9, 21, 6], [6, 9, 21]), ([6, 22], [6, 22])])
def bocageref03_Sorted.B4 : List Nat := [0, 0, 3, 7, 15, 31, 63, 127, 255, 511, 1023, 1023, 4095, 8191, 16383, 1023, 1023, 66559, 230399, 492543, 1016831, 2097151, 4194303, 8388607]
theorem bocageref03_Sorted.tab4 : rtab .any (opsOf Try.f41 4) = bocageref03_Sorted.T4 := by kernel_rfl
theorem bocageref03_Sorted.bits4 : waitsOk bocageref03_Sorted.T4.2 bocageref03_Sorted.B4 = true := by kernel_rfl
set_option maxHeartbeats 8000000 in
set_option maxRecDepth 100000 in
theorem bocageref03_Sorted.calls (k : Nat) (A0 : Option Addr) (c0 : Nat) (l0 : List (S25)) (r : Bool) (w : World) (hr0 : Kd.C k25 w A0 l0.length l0) (hc0 : l0.length ≤ c0) (h : bocageref03_Sorted.f k l0 = some r) :
    Calls Try.prog 41 #[.slice A0 l0.length c0] w fun e w' => e = .returned (.bool r) ∧ Below w.heap.size w w' := by
  have hu25 := Try.underlying25
  have hu23 := Try.underlying23
  have HR0 := Aside0.mk hr0
  have HC0 := Aside0.mk hc0
  clear hr0 hc0
  have HB := Aside0.mk (Below.refl w.heap.size w)
  have H : (bocageref03_Sorted.l0 k l0 0) = some r := h
  clear h
  have H' := Aside0.mk H
  clear H
  go_enter Try.func41, Try.ntmps41
  go_wp2
  go_loopg [3] k (fun kq v3 w' => ∃ (x3_1 : Int), v3 = .int .i64 x3_1 ∧ Aside0 (bocageref03_Sorted.l0 kq l0 x3_1 = some r) ∧ Aside0 (kq ≤ k) ∧ Aside0 (Below w.heap.size w w'))
  case atStart => exact ⟨(0), (by first | rfl | (simp; done) | (simp [*]; done)), H', ⟨Nat.le_refl _⟩, ⟨bl HB⟩⟩
  case round =>
    clear H'
    obtain ⟨x3_1, rfl, HA, HK1, HB⟩ := hrel
    cases gk with
    | zero => exact absurd HA.out (by simp [bocageref03_Sorted.l0])
    | succ k1 =>
      have H := HA.out
      clear HA
      simp only [bocageref03_Sorted.l0] at H
      by_cases c2 : x3_1 < (l0.length : Int)
      · rw [if_pos c2] at H
        have c2b0 : decide (x3_1 < (l0.length : Int)) = true := decide_eq_true c2
        clear c2
        by_cases c3 : 0 ≤ x3_1
        · rw [if_pos c3] at H
          have c3b0 : decide (0 ≤ x3_1) = true := decide_eq_true c3
          clear c3
          replace H := Option.bind_eq_some_iff.mp H
          obtain ⟨t708, A40, H⟩ := H
          (try (set_option simprocs false in dsimp only at H))
          have A4 := Aside0.mk A40
          clear A40
          by_cases c5 : t708 = true
          · subst c5
            have H1 : (if x3_1 > 0 then (if 0 ≤ (wrap64 (x3_1 - 1)) then (if (wrap64 (x3_1 - 1)) < (l0.length : Int) then ((bocageref02_Less.f k1 ((rd_T25 l0 x3_1).f0.f0) ((rd_T25 l0 x3_1).f0.f1) ((rd_T25 l0 (wrap64 (x3_1 - 1))).f1.f0) ((rd_T25 l0 (wrap64 (x3_1 - 1))).f1.f1)).bind fun t711 => (if t711 = true then (some false) else (bocageref03_Sorted.l0 k1 l0 (wrap64 (x3_1 + 1))))) else (none)) else (none)) else (bocageref03_Sorted.l0 k1 l0 (wrap64 (x3_1 + 1)))) = some r := by rw [if_pos rfl] at H; exact H
            clear H
            have H := H1
            clear H1
            by_cases c6 : x3_1 > 0
            · rw [if_pos c6] at H
              have c6b0 : decide (0 < x3_1) = true := decide_eq_true c6
              clear c6
              obtain ⟨ji7, hji7⟩ : ∃ j_ : Int, (wrap64 (x3_1 - 1)) = j_ := ⟨_, rfl⟩
              replace H : (if 0 ≤ (ji7) then (if (ji7) < (l0.length : Int) then ((bocageref02_Less.f k1 ((rd_T25 l0 x3_1).f0.f0) ((rd_T25 l0 x3_1).f0.f1) ((rd_T25 l0 (ji7)).f1.f0) ((rd_T25 l0 (ji7)).f1.f1)).bind fun t711 => (if t711 = true then (some false) else (bocageref03_Sorted.l0 k1 l0 (wrap64 (x3_1 + 1))))) else (none)) else (none)) = some r := by first | (rw [hji7] at H; exact H) | (simp only [hji7] at H ⊢; exact H)
              (try rw [hji7] at A4)
              have hji7w : (IntKind.i64.wrap (x3_1 - 1)) = ji7 := (i64_w _).trans hji7
              by_cases c8 : 0 ≤ (ji7)
              · rw [if_pos c8] at H
                have c8b0 : decide (0 ≤ (ji7)) = true := decide_eq_true c8
                clear c8
                by_cases c9 : (ji7) < (l0.length : Int)
                · rw [if_pos c9] at H
                  have c9b0 : decide ((ji7) < (l0.length : Int)) = true := decide_eq_true c9
                  clear c9
                  replace H := Option.bind_eq_some_iff.mp H
                  obtain ⟨t711, A100, H⟩ := H
                  (try (set_option simprocs false in dsimp only at H))
                  have A10 := Aside0.mk A100
                  clear A100
                  by_cases c11 : t711 = true
                  · subst c11
                    have H1 : (some false) = some r := by rw [if_pos rfl] at H; exact H
                    clear H
                    have H := H1
                    clear H1
                    obtain rfl := Option.some.inj H
                    try go_wp2
                    replace HB := Aside0.mk (below_drew1 HB.out)
                    have p707 : 0 ≤ (x3_1 : Int) := of_decide_eq_true (by first | (with_reducible assumption) | assumption)
                    have q707 : x3_1 < (l0.length : Int) := of_decide_eq_true (by first | (with_reducible assumption) | assumption)
                    obtain ⟨ad707, e707, hx707_0, hx707_1, hx707_2, hx707_3⟩ := at_T25 HR0.out x3_1 p707 q707
                    have hw707_3 := hx707_3
                    have hw707_2 := hx707_2
                    have hw707_1 := hx707_1
                    have hw707_0 := hx707_0
                    cases e707
                    replace hx707_0 := (HB.out.cell (World.block_lt_of_cell? w _ hx707_0)).trans hx707_0
                    replace hx707_1 := (HB.out.cell (World.block_lt_of_cell? w _ hx707_1)).trans hx707_1
                    replace hx707_2 := (HB.out.cell (World.block_lt_of_cell? w _ hx707_2)).trans hx707_2
                    replace hx707_3 := (HB.out.cell (World.block_lt_of_cell? w _ hx707_3)).trans hx707_3
                    replace p707 := eq_true p707
                    replace q707 := eq_true q707
                    have p709 : 0 ≤ (x3_1 : Int) := of_decide_eq_true (by first | (with_reducible assumption) | assumption)
                    have q709 : x3_1 < (l0.length : Int) := of_decide_eq_true (by first | (with_reducible assumption) | assumption)
                    obtain ⟨ad709, e709, hx709_0, hx709_1, hx709_2, hx709_3⟩ := at_T25 HR0.out x3_1 p709 q709
                    have hw709_3 := hx709_3
                    have hw709_2 := hx709_2
                    have hw709_1 := hx709_1
                    have hw709_0 := hx709_0
                    obtain rfl : ad707 = ad709 := (by injection e709)
                    replace hx709_0 := (HB.out.cell (World.block_lt_of_cell? w _ hx709_0)).trans hx709_0
                    replace hx709_1 := (HB.out.cell (World.block_lt_of_cell? w _ hx709_1)).trans hx709_1
                    replace hx709_2 := (HB.out.cell (World.block_lt_of_cell? w _ hx709_2)).trans hx709_2
                    replace hx709_3 := (HB.out.cell (World.block_lt_of_cell? w _ hx709_3)).trans hx709_3
                    replace p709 := eq_true p709
                    replace q709 := eq_true q709
                    have p710 : 0 ≤ ((ji7) : Int) := of_decide_eq_true (by first | (with_reducible assumption) | assumption)
                    have q710 : (ji7) < (l0.length : Int) := of_decide_eq_true (by first | (with_reducible assumption) | assumption)
                    obtain ⟨ad710, e710, hx710_0, hx710_1, hx710_2, hx710_3⟩ := at_T25 HR0.out (ji7) p710 q710
                    have hw710_3 := hx710_3
                    have hw710_2 := hx710_2
                    have hw710_1 := hx710_1
                    have hw710_0 := hx710_0
                    obtain rfl : ad707 = ad710 := (by injection e710)
                    replace hx710_0 := (HB.out.cell (World.block_lt_of_cell? w _ hx710_0)).trans hx710_0
                    replace hx710_1 := (HB.out.cell (World.block_lt_of_cell? w _ hx710_1)).trans hx710_1
                    replace hx710_2 := (HB.out.cell (World.block_lt_of_cell? w _ hx710_2)).trans hx710_2
                    replace hx710_3 := (HB.out.cell (World.block_lt_of_cell? w _ hx710_3)).trans hx710_3
                    replace p710 := eq_true p710
                    replace q710 := eq_true q710
                    refine start_ (n := 24) (S := fun w' => w'.cell? (ad707.add ((x3_1).toNat * 4)) = some (.int .i64 ((rd_T25 l0 x3_1).f0.f0)) ∧ w'.cell? ⟨(ad707.add ((x3_1).toNat * 4)).block, (ad707.add ((x3_1).toNat * 4)).off + 1, none⟩ = some (.int .i64 ((rd_T25 l0 x3_1).f0.f1)) ∧ w'.cell? ⟨(ad707.add ((x3_1).toNat * 4)).block, (ad707.add ((x3_1).toNat * 4)).off + 2, none⟩ = some (.int .i64 ((rd_T25 l0 x3_1).f1.f0)) ∧ w'.cell? ⟨(ad707.add ((x3_1).toNat * 4)).block, (ad707.add ((x3_1).toNat * 4)).off + 3, none⟩ = some (.int .i64 ((rd_T25 l0 x3_1).f1.f1)) ∧ w'.cell? (ad707.add ((x3_1).toNat * 4)) = some (.int .i64 ((rd_T25 l0 x3_1).f0.f0)) ∧ w'.cell? ⟨(ad707.add ((x3_1).toNat * 4)).block, (ad707.add ((x3_1).toNat * 4)).off + 1, none⟩ = some (.int .i64 ((rd_T25 l0 x3_1).f0.f1)) ∧ w'.cell? ⟨(ad707.add ((x3_1).toNat * 4)).block, (ad707.add ((x3_1).toNat * 4)).off + 2, none⟩ = some (.int .i64 ((rd_T25 l0 x3_1).f1.f0)) ∧ w'.cell? ⟨(ad707.add ((x3_1).toNat * 4)).block, (ad707.add ((x3_1).toNat * 4)).off + 3, none⟩ = some (.int .i64 ((rd_T25 l0 x3_1).f1.f1)) ∧ w'.cell? (ad707.add (((ji7)).toNat * 4)) = some (.int .i64 ((rd_T25 l0 (ji7)).f0.f0)) ∧ w'.cell? ⟨(ad707.add (((ji7)).toNat * 4)).block, (ad707.add (((ji7)).toNat * 4)).off + 1, none⟩ = some (.int .i64 ((rd_T25 l0 (ji7)).f0.f1)) ∧ w'.cell? ⟨(ad707.add (((ji7)).toNat * 4)).block, (ad707.add (((ji7)).toNat * 4)).off + 2, none⟩ = some (.int .i64 ((rd_T25 l0 (ji7)).f1.f0)) ∧ w'.cell? ⟨(ad707.add (((ji7)).toNat * 4)).block, (ad707.add (((ji7)).toNat * 4)).off + 3, none⟩ = some (.int .i64 ((rd_T25 l0 (ji7)).f1.f1))) (ds := []) #[false, false, false, false, false, false, false, false, false, false, false, false, false, false, false, false, false, false, false, false, false, false, false, false] (by kernel_rfl) rfl rfl ⟨((HB.out.cell (World.block_lt_of_cell? w _ hw707_0)).trans hw707_0), ((HB.out.cell (World.block_lt_of_cell? w _ hw707_1)).trans hw707_1), ((HB.out.cell (World.block_lt_of_cell? w _ hw707_2)).trans hw707_2), ((HB.out.cell (World.block_lt_of_cell? w _ hw707_3)).trans hw707_3), ((HB.out.cell (World.block_lt_of_cell? w _ hw709_0)).trans hw709_0), ((HB.out.cell (World.block_lt_of_cell? w _ hw709_1)).trans hw709_1), ((HB.out.cell (World.block_lt_of_cell? w _ hw709_2)).trans hw709_2), ((HB.out.cell (World.block_lt_of_cell? w _ hw709_3)).trans hw709_3), ((HB.out.cell (World.block_lt_of_cell? w _ hw710_0)).trans hw710_0), ((HB.out.cell (World.block_lt_of_cell? w _ hw710_1)).trans hw710_1), ((HB.out.cell (World.block_lt_of_cell? w _ hw710_2)).trans hw710_2), ((HB.out.cell (World.block_lt_of_cell? w _ hw710_3)).trans hw710_3)⟩ (fun hHeld => ?_); refine with_tabW bocageref03_Sorted.tab4 bocageref03_Sorted.bits4 (fun HT_ HW_ => ?_)
                    generalize wr.drew = w12 at HB hx707_0 hx707_1 hx707_2 hx707_3 hx709_0 hx709_1 hx709_2 hx709_3 hx710_0 hx710_1 hx710_2 hx710_3 hHeld ⊢
                    refine pu 0 (some 10) #[true, false, false, false, false, false, false, false, false, false, false, false, false, false, false, false, false, false, false, false, false, false, false, false] (any_of HT_.out (by kernel_rfl)) ?_
                    refine pu 1 (some 11) #[true, true, false, false, false, false, false, false, false, false, false, false, false, false, false, false, false, false, false, false, false, false, false, false] (any_of HT_.out (by kernel_rfl)) ?_
                    refine pu 2 (some 12) #[true, true, true, false, false, false, false, false, false, false, false, false, false, false, false, false, false, false, false, false, false, false, false, false] (any_of HT_.out (by kernel_rfl)) ?_
                    refine tk12 3 (some 13) #[true, true, true, true, false, false, false, false, false, false, false, false, false, false, false, false, false, false, false, false, false, false, false, false] (take_ofW HT_.out HW_.out (by kernel_rfl)) hHeld ?_
                    refine one_ (i := 4) (N := some 14) #[true, true, true, true, true, false, false, false, false, false, false, false, false, false, false, false, false, false, false, false, false, false, false, false] rfl rfl (one_of HT_.out (by kernel_rfl)) (by decide) (fun K hK => ?_)
                    refine goes_ Try.func12 (by kernel_rfl) rfl #[.agg #[.int .i64 ((rd_T25 l0 x3_1).f0.f0), .int .i64 ((rd_T25 l0 x3_1).f0.f1), .int .i64 ((rd_T25 l0 x3_1).f1.f0), .int .i64 ((rd_T25 l0 x3_1).f1.f1)]] (by rfl) rfl rfl (by (try simp only [List.map_toArray, List.map_cons, List.map_nil]); first | done | rfl | (simp only [List.length_drop, List.length_take]; rfl)) ?_
                    with_reducible refine (bocageref03_Right.calls k1 ((rd_T25 l0 x3_1).f0.f0) ((rd_T25 l0 x3_1).f0.f1) ((rd_T25 l0 x3_1).f1.f0) ((rd_T25 l0 x3_1).f1.f1) true _ A4.out).mono ?_
                    rintro e w13 ⟨rfl, hb⟩
                    refine ⟨_, rfl, ?_⟩
                    replace HB := bst HB hb
                    (try clear hb)
                    (try clear hb2)
                    (try clear hk)
                    (try clear hi)
                    refine hK.out _ _ ⟨((HB.out.cell (World.block_lt_of_cell? w _ hw707_0)).trans hw707_0), ((HB.out.cell (World.block_lt_of_cell? w _ hw707_1)).trans hw707_1), ((HB.out.cell (World.block_lt_of_cell? w _ hw707_2)).trans hw707_2), ((HB.out.cell (World.block_lt_of_cell? w _ hw707_3)).trans hw707_3), ((HB.out.cell (World.block_lt_of_cell? w _ hw709_0)).trans hw709_0), ((HB.out.cell (World.block_lt_of_cell? w _ hw709_1)).trans hw709_1), ((HB.out.cell (World.block_lt_of_cell? w _ hw709_2)).trans hw709_2), ((HB.out.cell (World.block_lt_of_cell? w _ hw709_3)).trans hw709_3), ((HB.out.cell (World.block_lt_of_cell? w _ hw710_0)).trans hw710_0), ((HB.out.cell (World.block_lt_of_cell? w _ hw710_1)).trans hw710_1), ((HB.out.cell (World.block_lt_of_cell? w _ hw710_2)).trans hw710_2), ((HB.out.cell (World.block_lt_of_cell? w _ hw710_3)).trans hw710_3)⟩ (fun hHeld => ?_)
                    clear hK K
                    refine nrp 14 ?_
                    refine pu 5 (some 15) #[true, true, true, true, true, true, false, false, false, false, false, false, false, false, false, false, false, false, false, false, false, false, false, false] (any_of HT_.out (by kernel_rfl)) ?_
                    refine pu 6 (some 16) #[true, true, true, true, true, true, true, false, false, false, false, false, false, false, false, false, false, false, false, false, false, false, false, false] (any_of HT_.out (by kernel_rfl)) ?_
                    refine pu 7 (some 17) #[true, true, true, true, true, true, true, true, false, false, false, false, false, false, false, false, false, false, false, false, false, false, false, false] (any_of HT_.out (by kernel_rfl)) ?_
                    refine pu 8 (some 18) #[true, true, true, true, true, true, true, true, true, false, false, false, false, false, false, false, false, false, false, false, false, false, false, false] (any_of HT_.out (by kernel_rfl)) ?_
                    refine pu 9 (some 19) #[true, true, true, true, true, true, true, true, true, true, false, false, false, false, false, false, false, false, false, false, false, false, false, false] (any_of HT_.out (by kernel_rfl)) ?_
                    refine pu 10 (some 20) #[true, true, true, true, true, true, true, true, true, true, true, false, false, false, false, false, false, false, false, false, false, false, false, false] (any_of HT_.out (by kernel_rfl)) ?_
                    refine pu 11 (some 21) #[true, true, true, true, true, true, true, true, true, true, true, true, false, false, false, false, false, false, false, false, false, false, false, false] (any_of HT_.out (by kernel_rfl)) ?_
                    refine pu 12 (some 22) #[true, true, true, true, true, true, true, true, true, true, true, true, true, false, false, false, false, false, false, false, false, false, false, false] (any_of HT_.out (by kernel_rfl)) ?_
                    refine pu 13 (some 23) #[true, true, true, true, true, true, true, true, true, true, true, true, true, true, false, false, false, false, false, false, false, false, false, false] (any_of HT_.out (by kernel_rfl)) ?_
                    refine pu 15 (some 25) #[true, true, true, true, true, true, true, true, true, true, true, true, true, true, false, true, false, false, false, false, false, false, false, false] (any_of HT_.out (by kernel_rfl)) ?_
                    refine pu 16 (some 26) #[true, true, true, true, true, true, true, true, true, true, true, true, true, true, false, true, true, false, false, false, false, false, false, false] (any_of HT_.out (by kernel_rfl)) ?_
                    refine pu 17 (some 27) #[true, true, true, true, true, true, true, true, true, true, true, true, true, true, false, true, true, true, false, false, false, false, false, false] (any_of HT_.out (by kernel_rfl)) ?_
                    refine pu 18 (some 28) #[true, true, true, true, true, true, true, true, true, true, true, true, true, true, false, true, true, true, true, false, false, false, false, false] (any_of HT_.out (by kernel_rfl)) ?_
                    refine pu 19 (some 29) #[true, true, true, true, true, true, true, true, true, true, true, true, true, true, false, true, true, true, true, true, false, false, false, false] (any_of HT_.out (by kernel_rfl)) ?_
                    refine tk12 14 (some 24) #[true, true, true, true, true, true, true, true, true, true, true, true, true, true, true, true, true, true, true, true, false, false, false, false] (take_ofW HT_.out HW_.out (by kernel_rfl)) hHeld ?_
                    refine tk12 20 (some 30) #[true, true, true, true, true, true, true, true, true, true, true, true, true, true, true, true, true, true, true, true, true, false, false, false] (take_ofW HT_.out HW_.out (by kernel_rfl)) hHeld ?_
                    refine one_ (i := 21) (N := some 31) #[true, true, true, true, true, true, true, true, true, true, true, true, true, true, true, true, true, true, true, true, true, true, false, false] rfl rfl (one_of HT_.out (by kernel_rfl)) (by decide) (fun K hK => ?_)
                    refine goes_ Try.func49 (by kernel_rfl) rfl #[.agg #[.int .i64 ((rd_T25 l0 x3_1).f0.f0), .int .i64 ((rd_T25 l0 x3_1).f0.f1)], .agg #[.int .i64 ((rd_T25 l0 (ji7)).f1.f0), .int .i64 ((rd_T25 l0 (ji7)).f1.f1)]] (by rfl) rfl rfl (by (try simp only [List.map_toArray, List.map_cons, List.map_nil]); first | done | (simp only [hji7]; rfl) | rfl | (simp only [List.length_drop, List.length_take]; rfl)) ?_
                    with_reducible refine (bocageref02_Less.calls k1 ((rd_T25 l0 x3_1).f0.f0) ((rd_T25 l0 x3_1).f0.f1) ((rd_T25 l0 (ji7)).f1.f0) ((rd_T25 l0 (ji7)).f1.f1) true _ A10.out).mono ?_
                    rintro e w14 ⟨rfl, hb⟩
                    refine ⟨_, rfl, ?_⟩
                    replace HB := bst HB hb
                    (try clear hb)
                    (try clear hb2)
                    (try clear hk)
                    (try clear hi)
                    refine hK.out _ _ ⟨((HB.out.cell (World.block_lt_of_cell? w _ hw707_0)).trans hw707_0), ((HB.out.cell (World.block_lt_of_cell? w _ hw707_1)).trans hw707_1), ((HB.out.cell (World.block_lt_of_cell? w _ hw707_2)).trans hw707_2), ((HB.out.cell (World.block_lt_of_cell? w _ hw707_3)).trans hw707_3), ((HB.out.cell (World.block_lt_of_cell? w _ hw709_0)).trans hw709_0), ((HB.out.cell (World.block_lt_of_cell? w _ hw709_1)).trans hw709_1), ((HB.out.cell (World.block_lt_of_cell? w _ hw709_2)).trans hw709_2), ((HB.out.cell (World.block_lt_of_cell? w _ hw709_3)).trans hw709_3), ((HB.out.cell (World.block_lt_of_cell? w _ hw710_0)).trans hw710_0), ((HB.out.cell (World.block_lt_of_cell? w _ hw710_1)).trans hw710_1), ((HB.out.cell (World.block_lt_of_cell? w _ hw710_2)).trans hw710_2), ((HB.out.cell (World.block_lt_of_cell? w _ hw710_3)).trans hw710_3)⟩ (fun hHeld => ?_)
                    clear hK K
                    refine nrp 31 ?_
                    refine pu 22 (some 32) #[true, true, true, true, true, true, true, true, true, true, true, true, true, true, true, true, true, true, true, true, true, true, true, false] (any_of HT_.out (by kernel_rfl)) ?_
                    refine pu 23 (some 33) #[true, true, true, true, true, true, true, true, true, true, true, true, true, true, true, true, true, true, true, true, true, true, true, true] (any_of HT_.out (by kernel_rfl)) ?_
                    refine done_ (done_of HT_.out (by kernel_rfl)) ?_
                    try go_wp2
                    go_ret
                    exact ⟨by first | rfl | (simp [errW_none, errW_some] <;> rfl) | (simp only [← hji7]; first | rfl | (simp [errW_none, errW_some] <;> rfl)) | (simp [*, errW_none, errW_some] <;> rfl), by repeat (first | (with_reducible first | exact HB.out | apply below_alloc | apply pw_below_drewN | apply below_drew1) | exact HB.out)⟩
                  · replace c11 := Bool.eq_false_iff.mpr c11
                    subst c11
                    have H1 : (bocageref03_Sorted.l0 k1 l0 (wrap64 (x3_1 + 1))) = some r := by rw [if_neg (show ¬ (false = true) by decide)] at H; exact H
                    clear H
                    have H := H1
                    clear H1
                    have H' := Aside0.mk H
                    clear H
                    try go_wp2
                    replace HB := Aside0.mk (below_drew1 HB.out)
                    have p707 : 0 ≤ (x3_1 : Int) := of_decide_eq_true (by first | (with_reducible assumption) | assumption)
                    have q707 : x3_1 < (l0.length : Int) := of_decide_eq_true (by first | (with_reducible assumption) | assumption)
                    obtain ⟨ad707, e707, hx707_0, hx707_1, hx707_2, hx707_3⟩ := at_T25 HR0.out x3_1 p707 q707
                    have hw707_3 := hx707_3
                    have hw707_2 := hx707_2
                    have hw707_1 := hx707_1
                    have hw707_0 := hx707_0
                    cases e707
                    replace hx707_0 := (HB.out.cell (World.block_lt_of_cell? w _ hx707_0)).trans hx707_0
                    replace hx707_1 := (HB.out.cell (World.block_lt_of_cell? w _ hx707_1)).trans hx707_1
                    replace hx707_2 := (HB.out.cell (World.block_lt_of_cell? w _ hx707_2)).trans hx707_2
                    replace hx707_3 := (HB.out.cell (World.block_lt_of_cell? w _ hx707_3)).trans hx707_3
                    replace p707 := eq_true p707
                    replace q707 := eq_true q707
                    have p709 : 0 ≤ (x3_1 : Int) := of_decide_eq_true (by first | (with_reducible assumption) | assumption)
                    have q709 : x3_1 < (l0.length : Int) := of_decide_eq_true (by first | (with_reducible assumption) | assumption)
                    obtain ⟨ad709, e709, hx709_0, hx709_1, hx709_2, hx709_3⟩ := at_T25 HR0.out x3_1 p709 q709
                    have hw709_3 := hx709_3
                    have hw709_2 := hx709_2
                    have hw709_1 := hx709_1
                    have hw709_0 := hx709_0
                    obtain rfl : ad707 = ad709 := (by injection e709)
                    replace hx709_0 := (HB.out.cell (World.block_lt_of_cell? w _ hx709_0)).trans hx709_0
                    replace hx709_1 := (HB.out.cell (World.block_lt_of_cell? w _ hx709_1)).trans hx709_1
                    replace hx709_2 := (HB.out.cell (World.block_lt_of_cell? w _ hx709_2)).trans hx709_2
                    replace hx709_3 := (HB.out.cell (World.block_lt_of_cell? w _ hx709_3)).trans hx709_3
                    replace p709 := eq_true p709
                    replace q709 := eq_true q709
                    have p710 : 0 ≤ ((ji7) : Int) := of_decide_eq_true (by first | (with_reducible assumption) | assumption)
                    have q710 : (ji7) < (l0.length : Int) := of_decide_eq_true (by first | (with_reducible assumption) | assumption)
                    obtain ⟨ad710, e710, hx710_0, hx710_1, hx710_2, hx710_3⟩ := at_T25 HR0.out (ji7) p710 q710
                    have hw710_3 := hx710_3
                    have hw710_2 := hx710_2
                    have hw710_1 := hx710_1
                    have hw710_0 := hx710_0
                    obtain rfl : ad707 = ad710 := (by injection e710)
                    replace hx710_0 := (HB.out.cell (World.block_lt_of_cell? w _ hx710_0)).trans hx710_0
                    replace hx710_1 := (HB.out.cell (World.block_lt_of_cell? w _ hx710_1)).trans hx710_1
                    replace hx710_2 := (HB.out.cell (World.block_lt_of_cell? w _ hx710_2)).trans hx710_2
                    replace hx710_3 := (HB.out.cell (World.block_lt_of_cell? w _ hx710_3)).trans hx710_3
                    replace p710 := eq_true p710
                    replace q710 := eq_true q710
                    refine start_ (n := 24) (S := fun w' => w'.cell? (ad707.add ((x3_1).toNat * 4)) = some (.int .i64 ((rd_T25 l0 x3_1).f0.f0)) ∧ w'.cell? ⟨(ad707.add ((x3_1).toNat * 4)).block, (ad707.add ((x3_1).toNat * 4)).off + 1, none⟩ = some (.int .i64 ((rd_T25 l0 x3_1).f0.f1)) ∧ w'.cell? ⟨(ad707.add ((x3_1).toNat * 4)).block, (ad707.add ((x3_1).toNat * 4)).off + 2, none⟩ = some (.int .i64 ((rd_T25 l0 x3_1).f1.f0)) ∧ w'.cell? ⟨(ad707.add ((x3_1).toNat * 4)).block, (ad707.add ((x3_1).toNat * 4)).off + 3, none⟩ = some (.int .i64 ((rd_T25 l0 x3_1).f1.f1)) ∧ w'.cell? (ad707.add ((x3_1).toNat * 4)) = some (.int .i64 ((rd_T25 l0 x3_1).f0.f0)) ∧ w'.cell? ⟨(ad707.add ((x3_1).toNat * 4)).block, (ad707.add ((x3_1).toNat * 4)).off + 1, none⟩ = some (.int .i64 ((rd_T25 l0 x3_1).f0.f1)) ∧ w'.cell? ⟨(ad707.add ((x3_1).toNat * 4)).block, (ad707.add ((x3_1).toNat * 4)).off + 2, none⟩ = some (.int .i64 ((rd_T25 l0 x3_1).f1.f0)) ∧ w'.cell? ⟨(ad707.add ((x3_1).toNat * 4)).block, (ad707.add ((x3_1).toNat * 4)).off + 3, none⟩ = some (.int .i64 ((rd_T25 l0 x3_1).f1.f1)) ∧ w'.cell? (ad707.add (((ji7)).toNat * 4)) = some (.int .i64 ((rd_T25 l0 (ji7)).f0.f0)) ∧ w'.cell? ⟨(ad707.add (((ji7)).toNat * 4)).block, (ad707.add (((ji7)).toNat * 4)).off + 1, none⟩ = some (.int .i64 ((rd_T25 l0 (ji7)).f0.f1)) ∧ w'.cell? ⟨(ad707.add (((ji7)).toNat * 4)).block, (ad707.add (((ji7)).toNat * 4)).off + 2, none⟩ = some (.int .i64 ((rd_T25 l0 (ji7)).f1.f0)) ∧ w'.cell? ⟨(ad707.add (((ji7)).toNat * 4)).block, (ad707.add (((ji7)).toNat * 4)).off + 3, none⟩ = some (.int .i64 ((rd_T25 l0 (ji7)).f1.f1))) (ds := []) #[false, false, false, false, false, false, false, false, false, false, false, false, false, false, false, false, false, false, false, false, false, false, false, false] (by kernel_rfl) rfl rfl ⟨((HB.out.cell (World.block_lt_of_cell? w _ hw707_0)).trans hw707_0), ((HB.out.cell (World.block_lt_of_cell? w _ hw707_1)).trans hw707_1), ((HB.out.cell (World.block_lt_of_cell? w _ hw707_2)).trans hw707_2), ((HB.out.cell (World.block_lt_of_cell? w _ hw707_3)).trans hw707_3), ((HB.out.cell (World.block_lt_of_cell? w _ hw709_0)).trans hw709_0), ((HB.out.cell (World.block_lt_of_cell? w _ hw709_1)).trans hw709_1), ((HB.out.cell (World.block_lt_of_cell? w _ hw709_2)).trans hw709_2), ((HB.out.cell (World.block_lt_of_cell? w _ hw709_3)).trans hw709_3), ((HB.out.cell (World.block_lt_of_cell? w _ hw710_0)).trans hw710_0), ((HB.out.cell (World.block_lt_of_cell? w _ hw710_1)).trans hw710_1), ((HB.out.cell (World.block_lt_of_cell? w _ hw710_2)).trans hw710_2), ((HB.out.cell (World.block_lt_of_cell? w _ hw710_3)).trans hw710_3)⟩ (fun hHeld => ?_); refine with_tabW bocageref03_Sorted.tab4 bocageref03_Sorted.bits4 (fun HT_ HW_ => ?_)
                    generalize wr.drew = w15 at HB hx707_0 hx707_1 hx707_2 hx707_3 hx709_0 hx709_1 hx709_2 hx709_3 hx710_0 hx710_1 hx710_2 hx710_3 hHeld ⊢
                    refine pu 0 (some 10) #[true, false, false, false, false, false, false, false, false, false, false, false, false, false, false, false, false, false, false, false, false, false, false, false] (any_of HT_.out (by kernel_rfl)) ?_
                    refine pu 1 (some 11) #[true, true, false, false, false, false, false, false, false, false, false, false, false, false, false, false, false, false, false, false, false, false, false, false] (any_of HT_.out (by kernel_rfl)) ?_
                    refine pu 2 (some 12) #[true, true, true, false, false, false, false, false, false, false, false, false, false, false, false, false, false, false, false, false, false, false, false, false] (any_of HT_.out (by kernel_rfl)) ?_
                    refine tk12 3 (some 13) #[true, true, true, true, false, false, false, false, false, false, false, false, false, false, false, false, false, false, false, false, false, false, false, false] (take_ofW HT_.out HW_.out (by kernel_rfl)) hHeld ?_
                    refine one_ (i := 4) (N := some 14) #[true, true, true, true, true, false, false, false, false, false, false, false, false, false, false, false, false, false, false, false, false, false, false, false] rfl rfl (one_of HT_.out (by kernel_rfl)) (by decide) (fun K hK => ?_)
                    refine goes_ Try.func12 (by kernel_rfl) rfl #[.agg #[.int .i64 ((rd_T25 l0 x3_1).f0.f0), .int .i64 ((rd_T25 l0 x3_1).f0.f1), .int .i64 ((rd_T25 l0 x3_1).f1.f0), .int .i64 ((rd_T25 l0 x3_1).f1.f1)]] (by rfl) rfl rfl (by (try simp only [List.map_toArray, List.map_cons, List.map_nil]); first | done | rfl | (simp only [List.length_drop, List.length_take]; rfl)) ?_
                    with_reducible refine (bocageref03_Right.calls k1 ((rd_T25 l0 x3_1).f0.f0) ((rd_T25 l0 x3_1).f0.f1) ((rd_T25 l0 x3_1).f1.f0) ((rd_T25 l0 x3_1).f1.f1) true _ A4.out).mono ?_
                    rintro e w16 ⟨rfl, hb⟩
                    refine ⟨_, rfl, ?_⟩
                    replace HB := bst HB hb
                    (try clear hb)
                    (try clear hb2)
                    (try clear hk)
                    (try clear hi)
                    refine hK.out _ _ ⟨((HB.out.cell (World.block_lt_of_cell? w _ hw707_0)).trans hw707_0), ((HB.out.cell (World.block_lt_of_cell? w _ hw707_1)).trans hw707_1), ((HB.out.cell (World.block_lt_of_cell? w _ hw707_2)).trans hw707_2), ((HB.out.cell (World.block_lt_of_cell? w _ hw707_3)).trans hw707_3), ((HB.out.cell (World.block_lt_of_cell? w _ hw709_0)).trans hw709_0), ((HB.out.cell (World.block_lt_of_cell? w _ hw709_1)).trans hw709_1), ((HB.out.cell (World.block_lt_of_cell? w _ hw709_2)).trans hw709_2), ((HB.out.cell (World.block_lt_of_cell? w _ hw709_3)).trans hw709_3), ((HB.out.cell (World.block_lt_of_cell? w _ hw710_0)).trans hw710_0), ((HB.out.cell (World.block_lt_of_cell? w _ hw710_1)).trans hw710_1), ((HB.out.cell (World.block_lt_of_cell? w _ hw710_2)).trans hw710_2), ((HB.out.cell (World.block_lt_of_cell? w _ hw710_3)).trans hw710_3)⟩ (fun hHeld => ?_)
                    clear hK K
                    refine nrp 14 ?_
                    refine pu 5 (some 15) #[true, true, true, true, true, true, false, false, false, false, false, false, false, false, false, false, false, false, false, false, false, false, false, false] (any_of HT_.out (by kernel_rfl)) ?_
                    refine pu 6 (some 16) #[true, true, true, true, true, true, true, false, false, false, false, false, false, false, false, false, false, false, false, false, false, false, false, false] (any_of HT_.out (by kernel_rfl)) ?_
                    refine pu 7 (some 17) #[true, true, true, true, true, true, true, true, false, false, false, false, false, false, false, false, false, false, false, false, false, false, false, false] (any_of HT_.out (by kernel_rfl)) ?_
                    refine pu 8 (some 18) #[true, true, true, true, true, true, true, true, true, false, false, false, false, false, false, false, false, false, false, false, false, false, false, false] (any_of HT_.out (by kernel_rfl)) ?_
                    refine pu 9 (some 19) #[true, true, true, true, true, true, true, true, true, true, false, false, false, false, false, false, false, false, false, false, false, false, false, false] (any_of HT_.out (by kernel_rfl)) ?_
                    refine pu 10 (some 20) #[true, true, true, true, true, true, true, true, true, true, true, false, false, false, false, false, false, false, false, false, false, false, false, false] (any_of HT_.out (by kernel_rfl)) ?_
                    refine pu 11 (some 21) #[true, true, true, true, true, true, true, true, true, true, true, true, false, false, false, false, false, false, false, false, false, false, false, false] (any_of HT_.out (by kernel_rfl)) ?_
                    refine pu 12 (some 22) #[true, true, true, true, true, true, true, true, true, true, true, true, true, false, false, false, false, false, false, false, false, false, false, false] (any_of HT_.out (by kernel_rfl)) ?_
                    refine pu 13 (some 23) #[true, true, true, true, true, true, true, true, true, true, true, true, true, true, false, false, false, false, false, false, false, false, false, false] (any_of HT_.out (by kernel_rfl)) ?_
                    refine pu 15 (some 25) #[true, true, true, true, true, true, true, true, true, true, true, true, true, true, false, true, false, false, false, false, false, false, false, false] (any_of HT_.out (by kernel_rfl)) ?_
                    refine pu 16 (some 26) #[true, true, true, true, true, true, true, true, true, true, true, true, true, true, false, true, true, false, false, false, false, false, false, false] (any_of HT_.out (by kernel_rfl)) ?_
                    refine pu 17 (some 27) #[true, true, true, true, true, true, true, true, true, true, true, true, true, true, false, true, true, true, false, false, false, false, false, false] (any_of HT_.out (by kernel_rfl)) ?_
                    refine pu 18 (some 28) #[true, true, true, true, true, true, true, true, true, true, true, true, true, true, false, true, true, true, true, false, false, false, false, false] (any_of HT_.out (by kernel_rfl)) ?_
                    refine pu 19 (some 29) #[true, true, true, true, true, true, true, true, true, true, true, true, true, true, false, true, true, true, true, true, false, false, false, false] (any_of HT_.out (by kernel_rfl)) ?_
                    refine tk12 14 (some 24) #[true, true, true, true, true, true, true, true, true, true, true, true, true, true, true, true, true, true, true, true, false, false, false, false] (take_ofW HT_.out HW_.out (by kernel_rfl)) hHeld ?_
                    refine tk12 20 (some 30) #[true, true, true, true, true, true, true, true, true, true, true, true, true, true, true, true, true, true, true, true, true, false, false, false] (take_ofW HT_.out HW_.out (by kernel_rfl)) hHeld ?_
                    refine one_ (i := 21) (N := some 31) #[true, true, true, true, true, true, true, true, true, true, true, true, true, true, true, true, true, true, true, true, true, true, false, false] rfl rfl (one_of HT_.out (by kernel_rfl)) (by decide) (fun K hK => ?_)
                    refine goes_ Try.func49 (by kernel_rfl) rfl #[.agg #[.int .i64 ((rd_T25 l0 x3_1).f0.f0), .int .i64 ((rd_T25 l0 x3_1).f0.f1)], .agg #[.int .i64 ((rd_T25 l0 (ji7)).f1.f0), .int .i64 ((rd_T25 l0 (ji7)).f1.f1)]] (by rfl) rfl rfl (by (try simp only [List.map_toArray, List.map_cons, List.map_nil]); first | done | (simp only [hji7]; rfl) | rfl | (simp only [List.length_drop, List.length_take]; rfl)) ?_
                    with_reducible refine (bocageref02_Less.calls k1 ((rd_T25 l0 x3_1).f0.f0) ((rd_T25 l0 x3_1).f0.f1) ((rd_T25 l0 (ji7)).f1.f0) ((rd_T25 l0 (ji7)).f1.f1) false _ A10.out).mono ?_
                    rintro e w17 ⟨rfl, hb⟩
                    refine ⟨_, rfl, ?_⟩
                    replace HB := bst HB hb
                    (try clear hb)
                    (try clear hb2)
                    (try clear hk)
                    (try clear hi)
                    refine hK.out _ _ ⟨((HB.out.cell (World.block_lt_of_cell? w _ hw707_0)).trans hw707_0), ((HB.out.cell (World.block_lt_of_cell? w _ hw707_1)).trans hw707_1), ((HB.out.cell (World.block_lt_of_cell? w _ hw707_2)).trans hw707_2), ((HB.out.cell (World.block_lt_of_cell? w _ hw707_3)).trans hw707_3), ((HB.out.cell (World.block_lt_of_cell? w _ hw709_0)).trans hw709_0), ((HB.out.cell (World.block_lt_of_cell? w _ hw709_1)).trans hw709_1), ((HB.out.cell (World.block_lt_of_cell? w _ hw709_2)).trans hw709_2), ((HB.out.cell (World.block_lt_of_cell? w _ hw709_3)).trans hw709_3), ((HB.out.cell (World.block_lt_of_cell? w _ hw710_0)).trans hw710_0), ((HB.out.cell (World.block_lt_of_cell? w _ hw710_1)).trans hw710_1), ((HB.out.cell (World.block_lt_of_cell? w _ hw710_2)).trans hw710_2), ((HB.out.cell (World.block_lt_of_cell? w _ hw710_3)).trans hw710_3)⟩ (fun hHeld => ?_)
                    clear hK K
                    refine nrp 31 ?_
                    refine pu 22 (some 32) #[true, true, true, true, true, true, true, true, true, true, true, true, true, true, true, true, true, true, true, true, true, true, true, false] (any_of HT_.out (by kernel_rfl)) ?_
                    refine pu 23 (some 33) #[true, true, true, true, true, true, true, true, true, true, true, true, true, true, true, true, true, true, true, true, true, true, true, true] (any_of HT_.out (by kernel_rfl)) ?_
                    refine done_ (done_of HT_.out (by kernel_rfl)) ?_
                    try go_wp2
                    go_roundg k1
                    case measure => have := HK1.out; omega
                    case rel => exact ⟨(wrap64 (x3_1 + 1)), (by first | rfl | (simp; done) | (simp [*]; done)), H', ⟨by have := HK1.out; omega⟩, ⟨bl HB⟩⟩
                · rw [if_neg c9] at H
                  exact absurd H (by simp)
              · rw [if_neg c8] at H
                exact absurd H (by simp)
            · rw [if_neg c6] at H
              have c6b0 : decide (0 < x3_1) = false := decide_eq_false c6
              clear c6
              have H' := Aside0.mk H
              clear H
              try go_wp2
              replace HB := Aside0.mk (below_drew1 HB.out)
              have p707 : 0 ≤ (x3_1 : Int) := of_decide_eq_true (by first | (with_reducible assumption) | assumption)
              have q707 : x3_1 < (l0.length : Int) := of_decide_eq_true (by first | (with_reducible assumption) | assumption)
              obtain ⟨ad707, e707, hx707_0, hx707_1, hx707_2, hx707_3⟩ := at_T25 HR0.out x3_1 p707 q707
              have hw707_3 := hx707_3
              have hw707_2 := hx707_2
              have hw707_1 := hx707_1
              have hw707_0 := hx707_0
              cases e707
              replace hx707_0 := (HB.out.cell (World.block_lt_of_cell? w _ hx707_0)).trans hx707_0
              replace hx707_1 := (HB.out.cell (World.block_lt_of_cell? w _ hx707_1)).trans hx707_1
              replace hx707_2 := (HB.out.cell (World.block_lt_of_cell? w _ hx707_2)).trans hx707_2
              replace hx707_3 := (HB.out.cell (World.block_lt_of_cell? w _ hx707_3)).trans hx707_3
              replace p707 := eq_true p707
              replace q707 := eq_true q707
              refine start_ (n := 24) (S := fun w' => w'.cell? (ad707.add ((x3_1).toNat * 4)) = some (.int .i64 ((rd_T25 l0 x3_1).f0.f0)) ∧ w'.cell? ⟨(ad707.add ((x3_1).toNat * 4)).block, (ad707.add ((x3_1).toNat * 4)).off + 1, none⟩ = some (.int .i64 ((rd_T25 l0 x3_1).f0.f1)) ∧ w'.cell? ⟨(ad707.add ((x3_1).toNat * 4)).block, (ad707.add ((x3_1).toNat * 4)).off + 2, none⟩ = some (.int .i64 ((rd_T25 l0 x3_1).f1.f0)) ∧ w'.cell? ⟨(ad707.add ((x3_1).toNat * 4)).block, (ad707.add ((x3_1).toNat * 4)).off + 3, none⟩ = some (.int .i64 ((rd_T25 l0 x3_1).f1.f1))) (ds := []) #[false, false, false, false, false, false, false, false, false, false, false, false, false, false, false, false, false, false, false, false, false, false, false, false] (by kernel_rfl) rfl rfl ⟨((HB.out.cell (World.block_lt_of_cell? w _ hw707_0)).trans hw707_0), ((HB.out.cell (World.block_lt_of_cell? w _ hw707_1)).trans hw707_1), ((HB.out.cell (World.block_lt_of_cell? w _ hw707_2)).trans hw707_2), ((HB.out.cell (World.block_lt_of_cell? w _ hw707_3)).trans hw707_3)⟩ (fun hHeld => ?_); refine with_tabW bocageref03_Sorted.tab4 bocageref03_Sorted.bits4 (fun HT_ HW_ => ?_)
              generalize wr.drew = w18 at HB hx707_0 hx707_1 hx707_2 hx707_3 hHeld ⊢
              refine pu 0 (some 10) #[true, false, false, false, false, false, false, false, false, false, false, false, false, false, false, false, false, false, false, false, false, false, false, false] (any_of HT_.out (by kernel_rfl)) ?_
              refine pu 1 (some 11) #[true, true, false, false, false, false, false, false, false, false, false, false, false, false, false, false, false, false, false, false, false, false, false, false] (any_of HT_.out (by kernel_rfl)) ?_
              refine pu 2 (some 12) #[true, true, true, false, false, false, false, false, false, false, false, false, false, false, false, false, false, false, false, false, false, false, false, false] (any_of HT_.out (by kernel_rfl)) ?_
              refine tk4 3 (some 13) #[true, true, true, true, false, false, false, false, false, false, false, false, false, false, false, false, false, false, false, false, false, false, false, false] (take_ofW HT_.out HW_.out (by kernel_rfl)) hHeld ?_
              refine one_ (i := 4) (N := some 14) #[true, true, true, true, true, false, false, false, false, false, false, false, false, false, false, false, false, false, false, false, false, false, false, false] rfl rfl (one_of HT_.out (by kernel_rfl)) (by decide) (fun K hK => ?_)
              refine goes_ Try.func12 (by kernel_rfl) rfl #[.agg #[.int .i64 ((rd_T25 l0 x3_1).f0.f0), .int .i64 ((rd_T25 l0 x3_1).f0.f1), .int .i64 ((rd_T25 l0 x3_1).f1.f0), .int .i64 ((rd_T25 l0 x3_1).f1.f1)]] (by rfl) rfl rfl (by (try simp only [List.map_toArray, List.map_cons, List.map_nil]); first | done | rfl | (simp only [List.length_drop, List.length_take]; rfl)) ?_
              with_reducible refine (bocageref03_Right.calls k1 ((rd_T25 l0 x3_1).f0.f0) ((rd_T25 l0 x3_1).f0.f1) ((rd_T25 l0 x3_1).f1.f0) ((rd_T25 l0 x3_1).f1.f1) true _ A4.out).mono ?_
              rintro e w19 ⟨rfl, hb⟩
              refine ⟨_, rfl, ?_⟩
              replace HB := bst HB hb
              (try clear hb)
              (try clear hb2)
              (try clear hk)
              (try clear hi)
              refine hK.out _ _ ⟨((HB.out.cell (World.block_lt_of_cell? w _ hw707_0)).trans hw707_0), ((HB.out.cell (World.block_lt_of_cell? w _ hw707_1)).trans hw707_1), ((HB.out.cell (World.block_lt_of_cell? w _ hw707_2)).trans hw707_2), ((HB.out.cell (World.block_lt_of_cell? w _ hw707_3)).trans hw707_3)⟩ (fun hHeld => ?_)
              clear hK K
              refine nrp 14 ?_
              refine pu 5 (some 15) #[true, true, true, true, true, true, false, false, false, false, false, false, false, false, false, false, false, false, false, false, false, false, false, false] (any_of HT_.out (by kernel_rfl)) ?_
              refine pu 6 (some 16) #[true, true, true, true, true, true, true, false, false, false, false, false, false, false, false, false, false, false, false, false, false, false, false, false] (any_of HT_.out (by kernel_rfl)) ?_
              refine pu 7 (some 17) #[true, true, true, true, true, true, true, true, false, false, false, false, false, false, false, false, false, false, false, false, false, false, false, false] (any_of HT_.out (by kernel_rfl)) ?_
              refine pu 8 (some 18) #[true, true, true, true, true, true, true, true, true, false, false, false, false, false, false, false, false, false, false, false, false, false, false, false] (any_of HT_.out (by kernel_rfl)) ?_
              refine pu 9 (some 19) #[true, true, true, true, true, true, true, true, true, true, false, false, false, false, false, false, false, false, false, false, false, false, false, false] (any_of HT_.out (by kernel_rfl)) ?_
              refine pv 10 (some 20) #[true, true, true, true, true, true, true, true, true, true, true, false, false, false, false, false, false, false, false, false, false, false, false, false] (any_of HT_.out (by kernel_rfl)) ?_
              refine pv 11 (some 21) #[true, true, true, true, true, true, true, true, true, true, true, true, false, false, false, false, false, false, false, false, false, false, false, false] (any_of HT_.out (by kernel_rfl)) ?_
              refine pv 12 (some 22) #[true, true, true, true, true, true, true, true, true, true, true, true, true, false, false, false, false, false, false, false, false, false, false, false] (any_of HT_.out (by kernel_rfl)) ?_
              refine pv 13 (some 23) #[true, true, true, true, true, true, true, true, true, true, true, true, true, true, false, false, false, false, false, false, false, false, false, false] (any_of HT_.out (by kernel_rfl)) ?_
              refine pv 14 (some 24) #[true, true, true, true, true, true, true, true, true, true, true, true, true, true, true, false, false, false, false, false, false, false, false, false] (any_of HT_.out (by kernel_rfl)) ?_
              refine pv 15 (some 25) #[true, true, true, true, true, true, true, true, true, true, true, true, true, true, true, true, false, false, false, false, false, false, false, false] (any_of HT_.out (by kernel_rfl)) ?_
              refine pv 16 (some 26) #[true, true, true, true, true, true, true, true, true, true, true, true, true, true, true, true, true, false, false, false, false, false, false, false] (any_of HT_.out (by kernel_rfl)) ?_
              refine pv 17 (some 27) #[true, true, true, true, true, true, true, true, true, true, true, true, true, true, true, true, true, true, false, false, false, false, false, false] (any_of HT_.out (by kernel_rfl)) ?_
              refine pv 18 (some 28) #[true, true, true, true, true, true, true, true, true, true, true, true, true, true, true, true, true, true, true, false, false, false, false, false] (any_of HT_.out (by kernel_rfl)) ?_
              refine pv 19 (some 29) #[true, true, true, true, true, true, true, true, true, true, true, true, true, true, true, true, true, true, true, true, false, false, false, false] (any_of HT_.out (by kernel_rfl)) ?_
              refine pv 20 (some 30) #[true, true, true, true, true, true, true, true, true, true, true, true, true, true, true, true, true, true, true, true, true, false, false, false] (any_of HT_.out (by kernel_rfl)) ?_
              refine pv 21 (some 31) #[true, true, true, true, true, true, true, true, true, true, true, true, true, true, true, true, true, true, true, true, true, true, false, false] (any_of HT_.out (by kernel_rfl)) ?_
              refine pu 22 (some 32) #[true, true, true, true, true, true, true, true, true, true, true, true, true, true, true, true, true, true, true, true, true, true, true, false] (any_of HT_.out (by kernel_rfl)) ?_
              refine pu 23 (some 33) #[true, true, true, true, true, true, true, true, true, true, true, true, true, true, true, true, true, true, true, true, true, true, true, true] (any_of HT_.out (by kernel_rfl)) ?_
              refine done_ (done_of HT_.out (by kernel_rfl)) ?_
              try go_wp2
              go_roundg k1
              case measure => have := HK1.out; omega
              case rel => exact ⟨(wrap64 (x3_1 + 1)), (by first | rfl | (simp; done) | (simp [*]; done)), H', ⟨by have := HK1.out; omega⟩, ⟨bl HB⟩⟩
          · replace c5 := Bool.eq_false_iff.mpr c5
            subst c5
            have H1 : (some false) = some r := by rw [if_neg (show ¬ (false = true) by decide)] at H; exact H
            clear H
            have H := H1
            clear H1
            obtain rfl := Option.some.inj H
            try go_wp2
            replace HB := Aside0.mk (below_drew1 HB.out)
            have p707 : 0 ≤ (x3_1 : Int) := of_decide_eq_true (by first | (with_reducible assumption) | assumption)
            have q707 : x3_1 < (l0.length : Int) := of_decide_eq_true (by first | (with_reducible assumption) | assumption)
            obtain ⟨ad707, e707, hx707_0, hx707_1, hx707_2, hx707_3⟩ := at_T25 HR0.out x3_1 p707 q707
            have hw707_3 := hx707_3
            have hw707_2 := hx707_2
            have hw707_1 := hx707_1
            have hw707_0 := hx707_0
            cases e707
            replace hx707_0 := (HB.out.cell (World.block_lt_of_cell? w _ hx707_0)).trans hx707_0
            replace hx707_1 := (HB.out.cell (World.block_lt_of_cell? w _ hx707_1)).trans hx707_1
            replace hx707_2 := (HB.out.cell (World.block_lt_of_cell? w _ hx707_2)).trans hx707_2
            replace hx707_3 := (HB.out.cell (World.block_lt_of_cell? w _ hx707_3)).trans hx707_3
            replace p707 := eq_true p707
            replace q707 := eq_true q707
            refine start_ (n := 24) (S := fun w' => w'.cell? (ad707.add ((x3_1).toNat * 4)) = some (.int .i64 ((rd_T25 l0 x3_1).f0.f0)) ∧ w'.cell? ⟨(ad707.add ((x3_1).toNat * 4)).block, (ad707.add ((x3_1).toNat * 4)).off + 1, none⟩ = some (.int .i64 ((rd_T25 l0 x3_1).f0.f1)) ∧ w'.cell? ⟨(ad707.add ((x3_1).toNat * 4)).block, (ad707.add ((x3_1).toNat * 4)).off + 2, none⟩ = some (.int .i64 ((rd_T25 l0 x3_1).f1.f0)) ∧ w'.cell? ⟨(ad707.add ((x3_1).toNat * 4)).block, (ad707.add ((x3_1).toNat * 4)).off + 3, none⟩ = some (.int .i64 ((rd_T25 l0 x3_1).f1.f1))) (ds := []) #[false, false, false, false, false, false, false, false, false, false, false, false, false, false, false, false, false, false, false, false, false, false, false, false] (by kernel_rfl) rfl rfl ⟨((HB.out.cell (World.block_lt_of_cell? w _ hw707_0)).trans hw707_0), ((HB.out.cell (World.block_lt_of_cell? w _ hw707_1)).trans hw707_1), ((HB.out.cell (World.block_lt_of_cell? w _ hw707_2)).trans hw707_2), ((HB.out.cell (World.block_lt_of_cell? w _ hw707_3)).trans hw707_3)⟩ (fun hHeld => ?_); refine with_tabW bocageref03_Sorted.tab4 bocageref03_Sorted.bits4 (fun HT_ HW_ => ?_)
            generalize wr.drew = w20 at HB hx707_0 hx707_1 hx707_2 hx707_3 hHeld ⊢
            refine pu 0 (some 10) #[true, false, false, false, false, false, false, false, false, false, false, false, false, false, false, false, false, false, false, false, false, false, false, false] (any_of HT_.out (by kernel_rfl)) ?_
            refine pu 1 (some 11) #[true, true, false, false, false, false, false, false, false, false, false, false, false, false, false, false, false, false, false, false, false, false, false, false] (any_of HT_.out (by kernel_rfl)) ?_
            refine pu 2 (some 12) #[true, true, true, false, false, false, false, false, false, false, false, false, false, false, false, false, false, false, false, false, false, false, false, false] (any_of HT_.out (by kernel_rfl)) ?_
            refine tk4 3 (some 13) #[true, true, true, true, false, false, false, false, false, false, false, false, false, false, false, false, false, false, false, false, false, false, false, false] (take_ofW HT_.out HW_.out (by kernel_rfl)) hHeld ?_
            refine one_ (i := 4) (N := some 14) #[true, true, true, true, true, false, false, false, false, false, false, false, false, false, false, false, false, false, false, false, false, false, false, false] rfl rfl (one_of HT_.out (by kernel_rfl)) (by decide) (fun K hK => ?_)
            refine goes_ Try.func12 (by kernel_rfl) rfl #[.agg #[.int .i64 ((rd_T25 l0 x3_1).f0.f0), .int .i64 ((rd_T25 l0 x3_1).f0.f1), .int .i64 ((rd_T25 l0 x3_1).f1.f0), .int .i64 ((rd_T25 l0 x3_1).f1.f1)]] (by rfl) rfl rfl (by (try simp only [List.map_toArray, List.map_cons, List.map_nil]); first | done | rfl | (simp only [List.length_drop, List.length_take]; rfl)) ?_
            with_reducible refine (bocageref03_Right.calls k1 ((rd_T25 l0 x3_1).f0.f0) ((rd_T25 l0 x3_1).f0.f1) ((rd_T25 l0 x3_1).f1.f0) ((rd_T25 l0 x3_1).f1.f1) false _ A4.out).mono ?_
            rintro e w21 ⟨rfl, hb⟩
            refine ⟨_, rfl, ?_⟩
            replace HB := bst HB hb
            (try clear hb)
            (try clear hb2)
            (try clear hk)
            (try clear hi)
            refine hK.out _ _ ⟨((HB.out.cell (World.block_lt_of_cell? w _ hw707_0)).trans hw707_0), ((HB.out.cell (World.block_lt_of_cell? w _ hw707_1)).trans hw707_1), ((HB.out.cell (World.block_lt_of_cell? w _ hw707_2)).trans hw707_2), ((HB.out.cell (World.block_lt_of_cell? w _ hw707_3)).trans hw707_3)⟩ (fun hHeld => ?_)
            clear hK K
            refine nrp 14 ?_
            refine pu 5 (some 15) #[true, true, true, true, true, true, false, false, false, false, false, false, false, false, false, false, false, false, false, false, false, false, false, false] (any_of HT_.out (by kernel_rfl)) ?_
            refine pu 6 (some 16) #[true, true, true, true, true, true, true, false, false, false, false, false, false, false, false, false, false, false, false, false, false, false, false, false] (any_of HT_.out (by kernel_rfl)) ?_
            refine pv 7 (some 17) #[true, true, true, true, true, true, true, true, false, false, false, false, false, false, false, false, false, false, false, false, false, false, false, false] (any_of HT_.out (by kernel_rfl)) ?_
            refine pv 8 (some 18) #[true, true, true, true, true, true, true, true, true, false, false, false, false, false, false, false, false, false, false, false, false, false, false, false] (any_of HT_.out (by kernel_rfl)) ?_
            refine pv 9 (some 19) #[true, true, true, true, true, true, true, true, true, true, false, false, false, false, false, false, false, false, false, false, false, false, false, false] (any_of HT_.out (by kernel_rfl)) ?_
            refine pv 10 (some 20) #[true, true, true, true, true, true, true, true, true, true, true, false, false, false, false, false, false, false, false, false, false, false, false, false] (any_of HT_.out (by kernel_rfl)) ?_
            refine pv 11 (some 21) #[true, true, true, true, true, true, true, true, true, true, true, true, false, false, false, false, false, false, false, false, false, false, false, false] (any_of HT_.out (by kernel_rfl)) ?_
            refine pv 12 (some 22) #[true, true, true, true, true, true, true, true, true, true, true, true, true, false, false, false, false, false, false, false, false, false, false, false] (any_of HT_.out (by kernel_rfl)) ?_
            refine pv 13 (some 23) #[true, true, true, true, true, true, true, true, true, true, true, true, true, true, false, false, false, false, false, false, false, false, false, false] (any_of HT_.out (by kernel_rfl)) ?_
            refine pv 14 (some 24) #[true, true, true, true, true, true, true, true, true, true, true, true, true, true, true, false, false, false, false, false, false, false, false, false] (any_of HT_.out (by kernel_rfl)) ?_
            refine pv 15 (some 25) #[true, true, true, true, true, true, true, true, true, true, true, true, true, true, true, true, false, false, false, false, false, false, false, false] (any_of HT_.out (by kernel_rfl)) ?_
            refine pv 16 (some 26) #[true, true, true, true, true, true, true, true, true, true, true, true, true, true, true, true, true, false, false, false, false, false, false, false] (any_of HT_.out (by kernel_rfl)) ?_
            refine pv 17 (some 27) #[true, true, true, true, true, true, true, true, true, true, true, true, true, true, true, true, true, true, false, false, false, false, false, false] (any_of HT_.out (by kernel_rfl)) ?_
            refine pv 18 (some 28) #[true, true, true, true, true, true, true, true, true, true, true, true, true, true, true, true, true, true, true, false, false, false, false, false] (any_of HT_.out (by kernel_rfl)) ?_
            refine pv 19 (some 29) #[true, true, true, true, true, true, true, true, true, true, true, true, true, true, true, true, true, true, true, true, false, false, false, false] (any_of HT_.out (by kernel_rfl)) ?_
            refine pv 20 (some 30) #[true, true, true, true, true, true, true, true, true, true, true, true, true, true, true, true, true, true, true, true, true, false, false, false] (any_of HT_.out (by kernel_rfl)) ?_
            refine pv 21 (some 31) #[true, true, true, true, true, true, true, true, true, true, true, true, true, true, true, true, true, true, true, true, true, true, false, false] (any_of HT_.out (by kernel_rfl)) ?_
            refine pv 22 (some 32) #[true, true, true, true, true, true, true, true, true, true, true, true, true, true, true, true, true, true, true, true, true, true, true, false] (any_of HT_.out (by kernel_rfl)) ?_
            refine pu 23 (some 33) #[true, true, true, true, true, true, true, true, true, true, true, true, true, true, true, true, true, true, true, true, true, true, true, true] (any_of HT_.out (by kernel_rfl)) ?_
            refine done_ (done_of HT_.out (by kernel_rfl)) ?_
            try go_wp2
            go_ret
            exact endB HB
        · rw [if_neg c3] at H
          exact absurd H (by simp)
      · rw [if_neg c2] at H
        have c2b0 : decide (x3_1 < (l0.length : Int)) = false := decide_eq_false c2
        clear c2
        obtain rfl := Option.some.inj H
        go_wp2
        go_ret
        exact endB HB
end Go.Proofs.Ytkkbmjfhpngalaa.Print
