-- Laid by wip/print/bprint.py of this repo, over the kit's printer, with functions given by hand; not trusted: Lean checks it.
import Derived.Test.YtkkbmjfhpngalaaPrint0
import Derived.Test.YtkkbmjfhpngalaaPrint1
import Derived.Test.YtkkbmjfhpngalaaSh
namespace Go.Proofs.Ytkkbmjfhpngalaa.Print
open Go.RowKit Go.Proofs.YtkkbmjfhpngalaaW.PrintWords Go.Proofs.YtkkbmjfhpngalaaW.PrintLast Go.Proofs.YtkkbmjfhpngalaaW.PrintMore
attribute [local go_sem] max2_int min2_int max_two min_two max_three min_three max_four min_four   -- for this text's walks alone
set_option linter.unusedVariables false
set_option linter.unusedSimpArgs false
/-! ### span_Meet: function 11 -/
def span_Meet.f (k : Nat) (a0_0 : Int) (a0_1 : Int) (a0_2 : Int) (a0_3 : Int) (a1_0 : Int) (a1_1 : Int) (a1_2 : Int) (a1_3 : Int) : Option (Int × Int × Int × Int × Bool) := (span_both.f k a0_0 a0_1 a0_2 a0_3 a1_0 a1_1 a1_2 a1_3).bind fun t283 => (if t283 = true then ((cut_Greatest.f k (([(⟨a0_0, a0_1⟩ : S23), (⟨a1_0, a1_1⟩ : S23)] : List (S23)))).bind fun bt287 => ((cut_Least.f k (([(⟨a0_2, a0_3⟩ : S23), (⟨a1_2, a1_3⟩ : S23)] : List (S23)))).bind fun bt292 => ((span_Of.f k bt287.1 bt287.2 bt292.1 bt292.2).bind fun bt294 => (some (bt294.1, bt294.2.1, bt294.2.2.1, bt294.2.2.2.1, (bt294.2.2.2.2 == 0)))))) else (some (0, 0, 0, 0, false)))
theorem span_Meet.mono : ∀ a0 a1 a2 a3 a4 a5 a6 a7 k, LeO (span_Meet.f k a0 a1 a2 a3 a4 a5 a6 a7) (span_Meet.f (k + 1) a0 a1 a2 a3 a4 a5 a6 a7) := by
  intro a0 a1 a2 a3 a4 a5 a6 a7 k
  unfold span_Meet.f
  repeat' first
      | (with_reducible exact cut_Greatest.mono _ _)
      | (with_reducible exact cut_Least.mono _ _)
      | (with_reducible exact span_Of.mono _ _ _ _ _)
      | (with_reducible exact span_both.mono _ _ _ _ _ _ _ _ _)
      | (with_reducible exact LeO.refl _)
      | (with_reducible exact LeO.none _)
      | (with_reducible refine LeO.ite ?_ ?_)
      | (with_reducible refine LeO.bind ?_ (fun _ => ?_))
      | exact cut_Greatest.mono _ _
      | exact cut_Least.mono _ _
      | exact span_Of.mono _ _ _ _ _
      | exact span_both.mono _ _ _ _ _ _ _ _ _
      | exact LeO.none _
      | refine LeO.ite ?_ ?_
      | refine LeO.bind ?_ (fun _ => ?_)
def span_Meet.T3 : Bool × List (List Nat × List Nat) := (true, [([], []), ([0], [0]), ([], []), ([2], [2]), ([1, 3], [1, 3]), ([4], [4]), ([], []), ([6], [6]), ([], []), ([8], [8]), ([7, 9], [7, 9]), ([10, 5], [10]), ([5, 11, 11], [5, 11]), ([12], [12]), ([13], [13]), ([13], [13]), ([], []), ([16, 14, 12, 0, 1, 2, 3, 4, 5, 6, 7, 8, 9, 10, 11, 12, 13, 14, 16], [14, 16]), ([15, 17, 0, 1, 2, 3, 4, 5, 6, 7, 8, 9, 10, 11, 12, 13, 14, 15, 16, 17], [15])])
def span_Meet.B3 : List Nat := [0, 1, 0, 4, 15, 31, 0, 64, 0, 256, 960, 2047, 4095, 8191, 16383, 16383, 0, 98303, 262143]
theorem span_Meet.tab3 : rtab .any (opsOf Try.f11 3) = span_Meet.T3 := by kernel_rfl
theorem span_Meet.bits3 : waitsOk span_Meet.T3.2 span_Meet.B3 = true := by kernel_rfl
set_option maxHeartbeats 8000000 in
set_option maxRecDepth 100000 in
theorem span_Meet.calls (k : Nat) (a0_0 : Int) (a0_1 : Int) (a0_2 : Int) (a0_3 : Int) (a1_0 : Int) (a1_1 : Int) (a1_2 : Int) (a1_3 : Int) (r1 : Int) (r2 : Int) (r3 : Int) (r4 : Int) (r5 : Bool) (w : World) (h : span_Meet.f k a0_0 a0_1 a0_2 a0_3 a1_0 a1_1 a1_2 a1_3 = some (r1, r2, r3, r4, r5)) :
    Calls Try.prog 11 #[.agg #[.int .i64 a0_0, .int .i64 a0_1, .int .i64 a0_2, .int .i64 a0_3], .agg #[.int .i64 a1_0, .int .i64 a1_1, .int .i64 a1_2, .int .i64 a1_3]] w fun e w' => e = .returned (.tuple #[.agg #[.int .i64 r1, .int .i64 r2, .int .i64 r3, .int .i64 r4], .bool r5]) ∧ Below w.heap.size w w' := by
  have hu25 := Try.underlying25
  have hu23 := Try.underlying23
  have HB := Aside0.mk (Below.refl w.heap.size w)
  have H : ((span_both.f k a0_0 a0_1 a0_2 a0_3 a1_0 a1_1 a1_2 a1_3).bind fun t283 => (if t283 = true then ((cut_Greatest.f k (([(⟨a0_0, a0_1⟩ : S23), (⟨a1_0, a1_1⟩ : S23)] : List (S23)))).bind fun bt287 => ((cut_Least.f k (([(⟨a0_2, a0_3⟩ : S23), (⟨a1_2, a1_3⟩ : S23)] : List (S23)))).bind fun bt292 => ((span_Of.f k bt287.1 bt287.2 bt292.1 bt292.2).bind fun bt294 => (some (bt294.1, bt294.2.1, bt294.2.2.1, bt294.2.2.2.1, (bt294.2.2.2.2 == 0)))))) else (some (0, 0, 0, 0, false)))) = some (r1, r2, r3, r4, r5) := h
  clear h
  replace H := Option.bind_eq_some_iff.mp H
  obtain ⟨t283, A30, H⟩ := H
  (try (set_option simprocs false in dsimp only at H))
  have A3 := Aside0.mk A30
  clear A30
  by_cases c4 : t283 = true
  · subst c4
    have H1 : ((cut_Greatest.f k (([(⟨a0_0, a0_1⟩ : S23), (⟨a1_0, a1_1⟩ : S23)] : List (S23)))).bind fun bt287 => ((cut_Least.f k (([(⟨a0_2, a0_3⟩ : S23), (⟨a1_2, a1_3⟩ : S23)] : List (S23)))).bind fun bt292 => ((span_Of.f k bt287.1 bt287.2 bt292.1 bt292.2).bind fun bt294 => (some (bt294.1, bt294.2.1, bt294.2.2.1, bt294.2.2.2.1, (bt294.2.2.2.2 == 0)))))) = some (r1, r2, r3, r4, r5) := by rw [if_pos rfl] at H; exact H
    clear H
    have H := H1
    clear H1
    obtain ⟨y284, hy284⟩ : ∃ y_ : List (S23), y_ = (([(⟨a0_0, a0_1⟩ : S23), (⟨a1_0, a1_1⟩ : S23)] : List (S23))) := ⟨_, rfl⟩
    replace H : ((cut_Greatest.f k y284).bind fun bt287 => ((cut_Least.f k (([(⟨a0_2, a0_3⟩ : S23), (⟨a1_2, a1_3⟩ : S23)] : List (S23)))).bind fun bt292 => ((span_Of.f k bt287.1 bt287.2 bt292.1 bt292.2).bind fun bt294 => (some (bt294.1, bt294.2.1, bt294.2.2.1, bt294.2.2.2.1, (bt294.2.2.2.2 == 0)))))) = some (r1, r2, r3, r4, r5) := by first | (rw [hy284]; with_reducible exact H) | (have H2_ := (Option.bind_some _ _).symm.trans H; rw [hy284]; with_reducible exact H2_) | (have H2_ := (Option.bind_some _ _).symm.trans H; with_reducible exact H2_) | with_reducible exact H | (rw [hy284]; exact H) | exact H
    have Ny284 := Aside0.mk hy284
    clear hy284
    replace H := Option.bind_eq_some_iff.mp H
    obtain ⟨⟨t287, t288⟩, A50, H⟩ := H
    (try (set_option simprocs false in dsimp only at H))
    have A5 := Aside0.mk A50
    clear A50
    obtain ⟨y289, hy289⟩ : ∃ y_ : List (S23), y_ = (([(⟨a0_2, a0_3⟩ : S23), (⟨a1_2, a1_3⟩ : S23)] : List (S23))) := ⟨_, rfl⟩
    replace H : ((cut_Least.f k y289).bind fun bt292 => ((span_Of.f k t287 t288 bt292.1 bt292.2).bind fun bt294 => (some (bt294.1, bt294.2.1, bt294.2.2.1, bt294.2.2.2.1, (bt294.2.2.2.2 == 0))))) = some (r1, r2, r3, r4, r5) := by first | (rw [hy289]; with_reducible exact H) | (have H2_ := (Option.bind_some _ _).symm.trans H; rw [hy289]; with_reducible exact H2_) | (have H2_ := (Option.bind_some _ _).symm.trans H; with_reducible exact H2_) | with_reducible exact H | (rw [hy289]; exact H) | exact H
    have Ny289 := Aside0.mk hy289
    clear hy289
    replace H := Option.bind_eq_some_iff.mp H
    obtain ⟨⟨t292, t293⟩, A60, H⟩ := H
    (try (set_option simprocs false in dsimp only at H))
    have A6 := Aside0.mk A60
    clear A60
    replace H := Option.bind_eq_some_iff.mp H
    obtain ⟨⟨t294, t295, t296, t297, t298⟩, A70, H⟩ := H
    (try (set_option simprocs false in dsimp only at H))
    have A7 := Aside0.mk A70
    clear A70
    simp only [Option.some.injEq, Prod.mk.injEq] at H
    obtain ⟨rfl, rfl, rfl, rfl, rfl⟩ := H
    go_enter Try.func11, Try.ntmps11
    try go_wp2_with (first | ((with_reducible refine gate_dst (N := 2) rfl ?_); refine bxe (N := 2) (cs := #[.int .i64 a0_0, .int .i64 a0_1, .int .i64 a0_2, .int .i64 a0_3]) (t := 25) ?_; intro gb280 hg w8 hbox hb; have BK280 := Aside0.mk (hbox); have GW280 := lsz hg HB; have GE280 := lsz hg HB; replace HB := bst HB hb; clear hb hbox hg) | ((with_reducible refine gate_dst (N := 3) rfl ?_); refine bxe (N := 3) (cs := #[.int .i64 a1_0, .int .i64 a1_1, .int .i64 a1_2, .int .i64 a1_3]) (t := 25) ?_; intro gb281 hg w9 hbox hb; have BK281 := Aside0.mk (hbox); have GW281 := lsz hg HB; have GE281 := lsz hg HB; replace HB := bst HB hb; have NB280_281 := nlt hg BK280; have NB281_280 := ngt hg BK280; replace BK280 := bkb BK280 hb; clear hb hbox hg) | ((with_reducible refine gate_dst (N := 4) rfl ?_); refine bxe (N := 4) (cs := #[.int .i64 0, .int .i64 0, .int .i64 0, .int .i64 0]) (t := 25) ?_; intro gb282 hg w10 hbox hb; have BK282 := Aside0.mk (hbox); have GW282 := lsz hg HB; have GE282 := lsz hg HB; replace HB := bst HB hb; have NB280_282 := nlt hg BK280; have NB282_280 := ngt hg BK280; replace BK280 := bkb BK280 hb; have NB281_282 := nlt hg BK281; have NB282_281 := ngt hg BK281; replace BK281 := bkb BK281 hb; clear hb hbox hg; have hnb11 := NB280_281.out; have hnc11 := NB281_280.out; have hnb12 := NB280_282.out; have hnc12 := NB282_280.out; have hcz13_0 : w10.cell? ⟨gb280, 0, none⟩ = some (.int .i64 a0_0) := (blk_cell BK280.out 0).trans rfl; have hcz13_1 : w10.cell? ⟨gb280, 1, none⟩ = some (.int .i64 a0_1) := (blk_cell BK280.out 1).trans rfl; have hcz13_2 : w10.cell? ⟨gb280, 2, none⟩ = some (.int .i64 a0_2) := (blk_cell BK280.out 2).trans rfl; have hcz13_3 : w10.cell? ⟨gb280, 3, none⟩ = some (.int .i64 a0_3) := (blk_cell BK280.out 3).trans rfl; have hfz13_0 := blk_frozen BK280.out 0; have hfz13_1 := blk_frozen BK280.out 1; have hfz13_2 := blk_frozen BK280.out 2; have hfz13_3 := blk_frozen BK280.out 3; have hnb14 := NB281_282.out; have hnc14 := NB282_281.out; have hcz15_0 : w10.cell? ⟨gb281, 0, none⟩ = some (.int .i64 a1_0) := (blk_cell BK281.out 0).trans rfl; have hcz15_1 : w10.cell? ⟨gb281, 1, none⟩ = some (.int .i64 a1_1) := (blk_cell BK281.out 1).trans rfl; have hcz15_2 : w10.cell? ⟨gb281, 2, none⟩ = some (.int .i64 a1_2) := (blk_cell BK281.out 2).trans rfl; have hcz15_3 : w10.cell? ⟨gb281, 3, none⟩ = some (.int .i64 a1_3) := (blk_cell BK281.out 3).trans rfl; have hfz15_0 := blk_frozen BK281.out 0; have hfz15_1 := blk_frozen BK281.out 1; have hfz15_2 := blk_frozen BK281.out 2; have hfz15_3 := blk_frozen BK281.out 3) | ((with_reducible refine gate_callee (f := 45) rfl ?_); refine gol (some 10) Try.func45 #[.agg #[.int .i64 a0_0, .int .i64 a0_1, .int .i64 a0_2, .int .i64 a0_3], .agg #[.int .i64 a1_0, .int .i64 a1_1, .int .i64 a1_2, .int .i64 a1_3]] ?_; (with_reducible refine (span_both.calls k a0_0 a0_1 a0_2 a0_3 a1_0 a1_1 a1_2 a1_3 true _ A3.out).mono ?_); rintro e w16 ⟨rfl, hb⟩; refine ⟨_, rfl, ?_⟩; replace BK280 := bkb BK280 hb; replace BK281 := bkb BK281 hb; replace BK282 := bkb BK282 hb; replace HB := bst HB hb; (try clear hb); (try clear hb2); (try clear hk); (try clear hi)))
    replace BK280 := Aside0.mk (blk_drew BK280.out)
    replace BK281 := Aside0.mk (blk_drew BK281.out)
    replace BK282 := Aside0.mk (blk_drew BK282.out)
    replace HB := Aside0.mk (below_drew1 HB.out)
    refine start_ (n := 19) (S := fun w' => w'.cell? ⟨gb280, 0, none⟩ = some (.int .i64 a0_0) ∧ w'.cell? ⟨gb280, 1, none⟩ = some (.int .i64 a0_1) ∧ w'.cell? ⟨gb280, 2, none⟩ = some (.int .i64 a0_2) ∧ w'.cell? ⟨gb280, 3, none⟩ = some (.int .i64 a0_3) ∧ w'.cell? ⟨gb281, 0, none⟩ = some (.int .i64 a1_0) ∧ w'.cell? ⟨gb281, 1, none⟩ = some (.int .i64 a1_1) ∧ w'.cell? ⟨gb281, 2, none⟩ = some (.int .i64 a1_2) ∧ w'.cell? ⟨gb281, 3, none⟩ = some (.int .i64 a1_3)) (ds := []) #[false, false, false, false, false, false, false, false, false, false, false, false, false, false, false, false, false, false, false] (by kernel_rfl) rfl rfl (c4 BK280 (e4 BK281)) (fun hHeld => ?_); refine with_tabW span_Meet.tab3 span_Meet.bits3 (fun HT_ HW_ => ?_)
    generalize w16.drew = w17 at BK280 BK281 BK282 HB hHeld ⊢
    refine pu 0 (some 14) #[true, false, false, false, false, false, false, false, false, false, false, false, false, false, false, false, false, false, false] (any_of HT_.out (by kernel_rfl)) ?_
    refine pu 2 (some 16) #[true, false, true, false, false, false, false, false, false, false, false, false, false, false, false, false, false, false, false] (any_of HT_.out (by kernel_rfl)) ?_
    refine pu 6 (some 20) #[true, false, true, false, false, false, true, false, false, false, false, false, false, false, false, false, false, false, false] (any_of HT_.out (by kernel_rfl)) ?_
    refine pu 8 (some 22) #[true, false, true, false, false, false, true, false, true, false, false, false, false, false, false, false, false, false, false] (any_of HT_.out (by kernel_rfl)) ?_
    refine tk8 1 (some 15) #[true, true, true, false, false, false, true, false, true, false, false, false, false, false, false, false, false, false, false] (take_ofW HT_.out HW_.out (by kernel_rfl)) hHeld ?_
    refine tk8 3 (some 17) #[true, true, true, true, false, false, true, false, true, false, false, false, false, false, false, false, false, false, false] (take_ofW HT_.out HW_.out (by kernel_rfl)) hHeld ?_
    refine tk8 7 (some 21) #[true, true, true, true, false, false, true, true, true, false, false, false, false, false, false, false, false, false, false] (take_ofW HT_.out HW_.out (by kernel_rfl)) hHeld ?_
    refine tk8 9 (some 23) #[true, true, true, true, false, false, true, true, true, true, false, false, false, false, false, false, false, false, false] (take_ofW HT_.out HW_.out (by kernel_rfl)) hHeld ?_
    refine join_ (σ := Value × Value × Nat) 2 #[true, true, true, true, true, true, true, true, true, true, true, true, true, true, true, true, true, false, false] (fun s_ => [(18, s_.1), (19, .agg #[.int .i64 t287, .int .i64 t288]), (24, s_.2.1), (25, .agg #[.int .i64 t292, .int .i64 t293]), (26, .tuple #[.agg #[.int .i64 t294, .int .i64 t295, .int .i64 t296, .int .i64 t297], .int .i64 t298]), (6, .pointer (some ⟨s_.2.2, 0, none⟩)), (13, .tuple #[.agg #[.int .i64 t294, .int .i64 t295, .int .i64 t296, .int .i64 t297], .int .i64 t298]), (27, .agg #[.int .i64 t294, .int .i64 t295, .int .i64 t296, .int .i64 t297]), (28, .int .i64 t298)]) (fun s_ w' => (w'.cell? ⟨gb280, 0, none⟩ = some (.int .i64 a0_0) ∧ w'.cell? ⟨gb280, 1, none⟩ = some (.int .i64 a0_1) ∧ w'.cell? ⟨gb280, 2, none⟩ = some (.int .i64 a0_2) ∧ w'.cell? ⟨gb280, 3, none⟩ = some (.int .i64 a0_3) ∧ w'.cell? ⟨gb281, 0, none⟩ = some (.int .i64 a1_0) ∧ w'.cell? ⟨gb281, 1, none⟩ = some (.int .i64 a1_1) ∧ w'.cell? ⟨gb281, 2, none⟩ = some (.int .i64 a1_2) ∧ w'.cell? ⟨gb281, 3, none⟩ = some (.int .i64 a1_3)) ∧ (Kd.R k23 23 w' w.heap.size (fun k_ => some k_ ≠ (s_.2.1 : Value).ownBlock) s_.1 y284) ∧ (Kd.R k23 23 w' w.heap.size (fun k_ => some k_ ≠ (s_.1 : Value).ownBlock) s_.2.1 y289) ∧ (w'.heap[gb280]? = some (.cells #[.int .i64 a0_0, .int .i64 a0_1, .int .i64 a0_2, .int .i64 a0_3] 25 (0, 0))) ∧ (w'.heap[gb281]? = some (.cells #[.int .i64 a1_0, .int .i64 a1_1, .int .i64 a1_2, .int .i64 a1_3] 25 (0, 0))) ∧ (w'.heap[gb282]? = some (.cells #[.int .i64 0, .int .i64 0, .int .i64 0, .int .i64 0] 25 (0, 0))) ∧ (w'.heap[s_.2.2]? = some (.cells #[.int .i64 0, .int .i64 0, .int .i64 0, .int .i64 0] 25 (0, 0))) ∧ (w.heap.size ≤ s_.2.2) ∧ (w.heap.size ≤ s_.2.2) ∧ (gb280 ≠ s_.2.2) ∧ (s_.2.2 ≠ gb280) ∧ (gb281 ≠ s_.2.2) ∧ (s_.2.2 ≠ gb281) ∧ (gb282 ≠ s_.2.2) ∧ (s_.2.2 ≠ gb282) ∧ (Below w.heap.size w w')) ?_ ?_
    rotate_left
    · intro hJ4_5_10_11_12_16
      refine join_ (σ := Value × Value) 3 #[true, true, true, true, true, true, true, true, true, true, true, true, true, true, true, true, false, false, false] (fun s_ => [(18, s_.1), (19, .agg #[.int .i64 t287, .int .i64 t288]), (24, s_.2), (25, .agg #[.int .i64 t292, .int .i64 t293]), (26, .tuple #[.agg #[.int .i64 t294, .int .i64 t295, .int .i64 t296, .int .i64 t297], .int .i64 t298]), (13, .tuple #[.agg #[.int .i64 t294, .int .i64 t295, .int .i64 t296, .int .i64 t297], .int .i64 t298]), (27, .agg #[.int .i64 t294, .int .i64 t295, .int .i64 t296, .int .i64 t297]), (28, .int .i64 t298)]) (fun s_ w' => (w'.cell? ⟨gb280, 0, none⟩ = some (.int .i64 a0_0) ∧ w'.cell? ⟨gb280, 1, none⟩ = some (.int .i64 a0_1) ∧ w'.cell? ⟨gb280, 2, none⟩ = some (.int .i64 a0_2) ∧ w'.cell? ⟨gb280, 3, none⟩ = some (.int .i64 a0_3) ∧ w'.cell? ⟨gb281, 0, none⟩ = some (.int .i64 a1_0) ∧ w'.cell? ⟨gb281, 1, none⟩ = some (.int .i64 a1_1) ∧ w'.cell? ⟨gb281, 2, none⟩ = some (.int .i64 a1_2) ∧ w'.cell? ⟨gb281, 3, none⟩ = some (.int .i64 a1_3)) ∧ (Kd.R k23 23 w' w.heap.size (fun k_ => some k_ ≠ (s_.2 : Value).ownBlock) s_.1 y284) ∧ (Kd.R k23 23 w' w.heap.size (fun k_ => some k_ ≠ (s_.1 : Value).ownBlock) s_.2 y289) ∧ (w'.heap[gb280]? = some (.cells #[.int .i64 a0_0, .int .i64 a0_1, .int .i64 a0_2, .int .i64 a0_3] 25 (0, 0))) ∧ (w'.heap[gb281]? = some (.cells #[.int .i64 a1_0, .int .i64 a1_1, .int .i64 a1_2, .int .i64 a1_3] 25 (0, 0))) ∧ (w'.heap[gb282]? = some (.cells #[.int .i64 0, .int .i64 0, .int .i64 0, .int .i64 0] 25 (0, 0))) ∧ (Below w.heap.size w w')) ?_ ?_
      rotate_left
      · intro hJ4_5_10_11_12
        refine join_ (σ := Value × Value × Nat) 6 #[true, true, true, true, true, true, true, true, true, true, true, true, false, false, false, false, true, false, false] (fun s_ => [(18, s_.1), (19, .agg #[.int .i64 t287, .int .i64 t288]), (24, s_.2.1), (25, .agg #[.int .i64 t292, .int .i64 t293]), (6, .pointer (some ⟨s_.2.2, 0, none⟩))]) (fun s_ w' => (w'.cell? ⟨gb280, 0, none⟩ = some (.int .i64 a0_0) ∧ w'.cell? ⟨gb280, 1, none⟩ = some (.int .i64 a0_1) ∧ w'.cell? ⟨gb280, 2, none⟩ = some (.int .i64 a0_2) ∧ w'.cell? ⟨gb280, 3, none⟩ = some (.int .i64 a0_3) ∧ w'.cell? ⟨gb281, 0, none⟩ = some (.int .i64 a1_0) ∧ w'.cell? ⟨gb281, 1, none⟩ = some (.int .i64 a1_1) ∧ w'.cell? ⟨gb281, 2, none⟩ = some (.int .i64 a1_2) ∧ w'.cell? ⟨gb281, 3, none⟩ = some (.int .i64 a1_3)) ∧ (Kd.R k23 23 w' w.heap.size (fun k_ => some k_ ≠ (s_.2.1 : Value).ownBlock) s_.1 y284) ∧ (Kd.R k23 23 w' w.heap.size (fun k_ => some k_ ≠ (s_.1 : Value).ownBlock) s_.2.1 y289) ∧ (w'.heap[gb280]? = some (.cells #[.int .i64 a0_0, .int .i64 a0_1, .int .i64 a0_2, .int .i64 a0_3] 25 (0, 0))) ∧ (w'.heap[gb281]? = some (.cells #[.int .i64 a1_0, .int .i64 a1_1, .int .i64 a1_2, .int .i64 a1_3] 25 (0, 0))) ∧ (w'.heap[gb282]? = some (.cells #[.int .i64 0, .int .i64 0, .int .i64 0, .int .i64 0] 25 (0, 0))) ∧ (w'.heap[s_.2.2]? = some (.cells #[.int .i64 0, .int .i64 0, .int .i64 0, .int .i64 0] 25 (0, 0))) ∧ (w.heap.size ≤ s_.2.2) ∧ (w.heap.size ≤ s_.2.2) ∧ (gb280 ≠ s_.2.2) ∧ (s_.2.2 ≠ gb280) ∧ (gb281 ≠ s_.2.2) ∧ (s_.2.2 ≠ gb281) ∧ (gb282 ≠ s_.2.2) ∧ (s_.2.2 ≠ gb282) ∧ (Below w.heap.size w w')) ?_ ?_
        rotate_left
        · intro hJ4_5_10_11_16
          refine join_ (σ := Value × Value) 7 #[true, true, true, true, true, true, true, true, true, true, true, true, false, false, false, false, false, false, false] (fun s_ => [(18, s_.1), (19, .agg #[.int .i64 t287, .int .i64 t288]), (24, s_.2), (25, .agg #[.int .i64 t292, .int .i64 t293])]) (fun s_ w' => (w'.cell? ⟨gb280, 0, none⟩ = some (.int .i64 a0_0) ∧ w'.cell? ⟨gb280, 1, none⟩ = some (.int .i64 a0_1) ∧ w'.cell? ⟨gb280, 2, none⟩ = some (.int .i64 a0_2) ∧ w'.cell? ⟨gb280, 3, none⟩ = some (.int .i64 a0_3) ∧ w'.cell? ⟨gb281, 0, none⟩ = some (.int .i64 a1_0) ∧ w'.cell? ⟨gb281, 1, none⟩ = some (.int .i64 a1_1) ∧ w'.cell? ⟨gb281, 2, none⟩ = some (.int .i64 a1_2) ∧ w'.cell? ⟨gb281, 3, none⟩ = some (.int .i64 a1_3)) ∧ (Kd.R k23 23 w' w.heap.size (fun k_ => some k_ ≠ (s_.2 : Value).ownBlock) s_.1 y284) ∧ (Kd.R k23 23 w' w.heap.size (fun k_ => some k_ ≠ (s_.1 : Value).ownBlock) s_.2 y289) ∧ (w'.heap[gb280]? = some (.cells #[.int .i64 a0_0, .int .i64 a0_1, .int .i64 a0_2, .int .i64 a0_3] 25 (0, 0))) ∧ (w'.heap[gb281]? = some (.cells #[.int .i64 a1_0, .int .i64 a1_1, .int .i64 a1_2, .int .i64 a1_3] 25 (0, 0))) ∧ (w'.heap[gb282]? = some (.cells #[.int .i64 0, .int .i64 0, .int .i64 0, .int .i64 0] 25 (0, 0))) ∧ (Below w.heap.size w w')) ?_ ?_
          rotate_left
          · intro hJ4_5_10_11
            refine join_ (σ := Value × Value × Nat) 7 #[true, true, true, true, true, true, true, true, true, true, true, false, false, false, false, false, true, false, false] (fun s_ => [(18, s_.1), (19, .agg #[.int .i64 t287, .int .i64 t288]), (24, s_.2.1), (6, .pointer (some ⟨s_.2.2, 0, none⟩))]) (fun s_ w' => (w'.cell? ⟨gb280, 0, none⟩ = some (.int .i64 a0_0) ∧ w'.cell? ⟨gb280, 1, none⟩ = some (.int .i64 a0_1) ∧ w'.cell? ⟨gb280, 2, none⟩ = some (.int .i64 a0_2) ∧ w'.cell? ⟨gb280, 3, none⟩ = some (.int .i64 a0_3) ∧ w'.cell? ⟨gb281, 0, none⟩ = some (.int .i64 a1_0) ∧ w'.cell? ⟨gb281, 1, none⟩ = some (.int .i64 a1_1) ∧ w'.cell? ⟨gb281, 2, none⟩ = some (.int .i64 a1_2) ∧ w'.cell? ⟨gb281, 3, none⟩ = some (.int .i64 a1_3)) ∧ (Kd.R k23 23 w' w.heap.size (fun k_ => some k_ ≠ (s_.2.1 : Value).ownBlock) s_.1 y284) ∧ (Kd.R k23 23 w' w.heap.size (fun k_ => some k_ ≠ (s_.1 : Value).ownBlock) s_.2.1 y289) ∧ (w'.heap[gb280]? = some (.cells #[.int .i64 a0_0, .int .i64 a0_1, .int .i64 a0_2, .int .i64 a0_3] 25 (0, 0))) ∧ (w'.heap[gb281]? = some (.cells #[.int .i64 a1_0, .int .i64 a1_1, .int .i64 a1_2, .int .i64 a1_3] 25 (0, 0))) ∧ (w'.heap[gb282]? = some (.cells #[.int .i64 0, .int .i64 0, .int .i64 0, .int .i64 0] 25 (0, 0))) ∧ (w'.heap[s_.2.2]? = some (.cells #[.int .i64 0, .int .i64 0, .int .i64 0, .int .i64 0] 25 (0, 0))) ∧ (w.heap.size ≤ s_.2.2) ∧ (w.heap.size ≤ s_.2.2) ∧ (gb280 ≠ s_.2.2) ∧ (s_.2.2 ≠ gb280) ∧ (gb281 ≠ s_.2.2) ∧ (s_.2.2 ≠ gb281) ∧ (gb282 ≠ s_.2.2) ∧ (s_.2.2 ≠ gb282) ∧ (Below w.heap.size w w')) ?_ ?_
            rotate_left
            · intro hJ4_5_10_16
              refine join_ (σ := Value × Value) 8 #[true, true, true, true, true, true, true, true, true, true, true, false, false, false, false, false, false, false, false] (fun s_ => [(18, s_.1), (19, .agg #[.int .i64 t287, .int .i64 t288]), (24, s_.2)]) (fun s_ w' => (w'.cell? ⟨gb280, 0, none⟩ = some (.int .i64 a0_0) ∧ w'.cell? ⟨gb280, 1, none⟩ = some (.int .i64 a0_1) ∧ w'.cell? ⟨gb280, 2, none⟩ = some (.int .i64 a0_2) ∧ w'.cell? ⟨gb280, 3, none⟩ = some (.int .i64 a0_3) ∧ w'.cell? ⟨gb281, 0, none⟩ = some (.int .i64 a1_0) ∧ w'.cell? ⟨gb281, 1, none⟩ = some (.int .i64 a1_1) ∧ w'.cell? ⟨gb281, 2, none⟩ = some (.int .i64 a1_2) ∧ w'.cell? ⟨gb281, 3, none⟩ = some (.int .i64 a1_3)) ∧ (Kd.R k23 23 w' w.heap.size (fun k_ => some k_ ≠ (s_.2 : Value).ownBlock) s_.1 y284) ∧ (Kd.R k23 23 w' w.heap.size (fun k_ => some k_ ≠ (s_.1 : Value).ownBlock) s_.2 y289) ∧ (w'.heap[gb280]? = some (.cells #[.int .i64 a0_0, .int .i64 a0_1, .int .i64 a0_2, .int .i64 a0_3] 25 (0, 0))) ∧ (w'.heap[gb281]? = some (.cells #[.int .i64 a1_0, .int .i64 a1_1, .int .i64 a1_2, .int .i64 a1_3] 25 (0, 0))) ∧ (w'.heap[gb282]? = some (.cells #[.int .i64 0, .int .i64 0, .int .i64 0, .int .i64 0] 25 (0, 0))) ∧ (Below w.heap.size w w')) ?_ ?_
              rotate_left
              · intro hJ4_5_10
                refine join_ (σ := Value × Nat) 8 #[true, true, true, true, true, true, true, true, true, true, false, false, false, false, false, false, true, false, false] (fun s_ => [(18, s_.1), (19, .agg #[.int .i64 t287, .int .i64 t288]), (6, .pointer (some ⟨s_.2, 0, none⟩))]) (fun s_ w' => (w'.cell? ⟨gb280, 0, none⟩ = some (.int .i64 a0_0) ∧ w'.cell? ⟨gb280, 1, none⟩ = some (.int .i64 a0_1) ∧ w'.cell? ⟨gb280, 2, none⟩ = some (.int .i64 a0_2) ∧ w'.cell? ⟨gb280, 3, none⟩ = some (.int .i64 a0_3) ∧ w'.cell? ⟨gb281, 0, none⟩ = some (.int .i64 a1_0) ∧ w'.cell? ⟨gb281, 1, none⟩ = some (.int .i64 a1_1) ∧ w'.cell? ⟨gb281, 2, none⟩ = some (.int .i64 a1_2) ∧ w'.cell? ⟨gb281, 3, none⟩ = some (.int .i64 a1_3)) ∧ (Kd.R k23 23 w' w.heap.size (fun _ => True) s_.1 y284) ∧ (w'.heap[gb280]? = some (.cells #[.int .i64 a0_0, .int .i64 a0_1, .int .i64 a0_2, .int .i64 a0_3] 25 (0, 0))) ∧ (w'.heap[gb281]? = some (.cells #[.int .i64 a1_0, .int .i64 a1_1, .int .i64 a1_2, .int .i64 a1_3] 25 (0, 0))) ∧ (w'.heap[gb282]? = some (.cells #[.int .i64 0, .int .i64 0, .int .i64 0, .int .i64 0] 25 (0, 0))) ∧ (w'.heap[s_.2]? = some (.cells #[.int .i64 0, .int .i64 0, .int .i64 0, .int .i64 0] 25 (0, 0))) ∧ (w.heap.size ≤ s_.2) ∧ (w.heap.size ≤ s_.2) ∧ (gb280 ≠ s_.2) ∧ (s_.2 ≠ gb280) ∧ (gb281 ≠ s_.2) ∧ (s_.2 ≠ gb281) ∧ (gb282 ≠ s_.2) ∧ (s_.2 ≠ gb282) ∧ (Below w.heap.size w w')) ?_ ?_
                rotate_left
                · intro hJ4_5_16
                  refine join_ (σ := Value × Value × Nat) 8 #[true, true, true, true, true, false, true, true, true, true, true, false, false, false, false, false, true, false, false] (fun s_ => [(18, s_.1), (24, s_.2.1), (6, .pointer (some ⟨s_.2.2, 0, none⟩))]) (fun s_ w' => (w'.cell? ⟨gb280, 0, none⟩ = some (.int .i64 a0_0) ∧ w'.cell? ⟨gb280, 1, none⟩ = some (.int .i64 a0_1) ∧ w'.cell? ⟨gb280, 2, none⟩ = some (.int .i64 a0_2) ∧ w'.cell? ⟨gb280, 3, none⟩ = some (.int .i64 a0_3) ∧ w'.cell? ⟨gb281, 0, none⟩ = some (.int .i64 a1_0) ∧ w'.cell? ⟨gb281, 1, none⟩ = some (.int .i64 a1_1) ∧ w'.cell? ⟨gb281, 2, none⟩ = some (.int .i64 a1_2) ∧ w'.cell? ⟨gb281, 3, none⟩ = some (.int .i64 a1_3)) ∧ (Kd.R k23 23 w' w.heap.size (fun k_ => some k_ ≠ (s_.2.1 : Value).ownBlock) s_.1 y284) ∧ (Kd.R k23 23 w' w.heap.size (fun k_ => some k_ ≠ (s_.1 : Value).ownBlock) s_.2.1 y289) ∧ (w'.heap[gb280]? = some (.cells #[.int .i64 a0_0, .int .i64 a0_1, .int .i64 a0_2, .int .i64 a0_3] 25 (0, 0))) ∧ (w'.heap[gb281]? = some (.cells #[.int .i64 a1_0, .int .i64 a1_1, .int .i64 a1_2, .int .i64 a1_3] 25 (0, 0))) ∧ (w'.heap[gb282]? = some (.cells #[.int .i64 0, .int .i64 0, .int .i64 0, .int .i64 0] 25 (0, 0))) ∧ (w'.heap[s_.2.2]? = some (.cells #[.int .i64 0, .int .i64 0, .int .i64 0, .int .i64 0] 25 (0, 0))) ∧ (w.heap.size ≤ s_.2.2) ∧ (w.heap.size ≤ s_.2.2) ∧ (gb280 ≠ s_.2.2) ∧ (s_.2.2 ≠ gb280) ∧ (gb281 ≠ s_.2.2) ∧ (s_.2.2 ≠ gb281) ∧ (gb282 ≠ s_.2.2) ∧ (s_.2.2 ≠ gb282) ∧ (Below w.heap.size w w')) ?_ ?_
                  rotate_left
                  · intro hJ4_10_16
                    refine join_ (σ := Value) 9 #[true, true, true, true, true, true, true, true, true, true, false, false, false, false, false, false, false, false, false] (fun s_ => [(18, s_), (19, .agg #[.int .i64 t287, .int .i64 t288])]) (fun s_ w' => (w'.cell? ⟨gb280, 0, none⟩ = some (.int .i64 a0_0) ∧ w'.cell? ⟨gb280, 1, none⟩ = some (.int .i64 a0_1) ∧ w'.cell? ⟨gb280, 2, none⟩ = some (.int .i64 a0_2) ∧ w'.cell? ⟨gb280, 3, none⟩ = some (.int .i64 a0_3) ∧ w'.cell? ⟨gb281, 0, none⟩ = some (.int .i64 a1_0) ∧ w'.cell? ⟨gb281, 1, none⟩ = some (.int .i64 a1_1) ∧ w'.cell? ⟨gb281, 2, none⟩ = some (.int .i64 a1_2) ∧ w'.cell? ⟨gb281, 3, none⟩ = some (.int .i64 a1_3)) ∧ (Kd.R k23 23 w' w.heap.size (fun _ => True) s_ y284) ∧ (w'.heap[gb280]? = some (.cells #[.int .i64 a0_0, .int .i64 a0_1, .int .i64 a0_2, .int .i64 a0_3] 25 (0, 0))) ∧ (w'.heap[gb281]? = some (.cells #[.int .i64 a1_0, .int .i64 a1_1, .int .i64 a1_2, .int .i64 a1_3] 25 (0, 0))) ∧ (w'.heap[gb282]? = some (.cells #[.int .i64 0, .int .i64 0, .int .i64 0, .int .i64 0] 25 (0, 0))) ∧ (Below w.heap.size w w')) ?_ ?_
                    rotate_left
                    · intro hJ4_5
                      refine join_ (σ := Value × Value) 9 #[true, true, true, true, true, false, true, true, true, true, true, false, false, false, false, false, false, false, false] (fun s_ => [(18, s_.1), (24, s_.2)]) (fun s_ w' => (w'.cell? ⟨gb280, 0, none⟩ = some (.int .i64 a0_0) ∧ w'.cell? ⟨gb280, 1, none⟩ = some (.int .i64 a0_1) ∧ w'.cell? ⟨gb280, 2, none⟩ = some (.int .i64 a0_2) ∧ w'.cell? ⟨gb280, 3, none⟩ = some (.int .i64 a0_3) ∧ w'.cell? ⟨gb281, 0, none⟩ = some (.int .i64 a1_0) ∧ w'.cell? ⟨gb281, 1, none⟩ = some (.int .i64 a1_1) ∧ w'.cell? ⟨gb281, 2, none⟩ = some (.int .i64 a1_2) ∧ w'.cell? ⟨gb281, 3, none⟩ = some (.int .i64 a1_3)) ∧ (Kd.R k23 23 w' w.heap.size (fun k_ => some k_ ≠ (s_.2 : Value).ownBlock) s_.1 y284) ∧ (Kd.R k23 23 w' w.heap.size (fun k_ => some k_ ≠ (s_.1 : Value).ownBlock) s_.2 y289) ∧ (w'.heap[gb280]? = some (.cells #[.int .i64 a0_0, .int .i64 a0_1, .int .i64 a0_2, .int .i64 a0_3] 25 (0, 0))) ∧ (w'.heap[gb281]? = some (.cells #[.int .i64 a1_0, .int .i64 a1_1, .int .i64 a1_2, .int .i64 a1_3] 25 (0, 0))) ∧ (w'.heap[gb282]? = some (.cells #[.int .i64 0, .int .i64 0, .int .i64 0, .int .i64 0] 25 (0, 0))) ∧ (Below w.heap.size w w')) ?_ ?_
                      rotate_left
                      · intro hJ4_10
                        refine join_ (σ := Value × Nat) 9 #[true, true, true, true, true, false, true, true, true, true, false, false, false, false, false, false, true, false, false] (fun s_ => [(18, s_.1), (6, .pointer (some ⟨s_.2, 0, none⟩))]) (fun s_ w' => (w'.cell? ⟨gb280, 0, none⟩ = some (.int .i64 a0_0) ∧ w'.cell? ⟨gb280, 1, none⟩ = some (.int .i64 a0_1) ∧ w'.cell? ⟨gb280, 2, none⟩ = some (.int .i64 a0_2) ∧ w'.cell? ⟨gb280, 3, none⟩ = some (.int .i64 a0_3) ∧ w'.cell? ⟨gb281, 0, none⟩ = some (.int .i64 a1_0) ∧ w'.cell? ⟨gb281, 1, none⟩ = some (.int .i64 a1_1) ∧ w'.cell? ⟨gb281, 2, none⟩ = some (.int .i64 a1_2) ∧ w'.cell? ⟨gb281, 3, none⟩ = some (.int .i64 a1_3)) ∧ (Kd.R k23 23 w' w.heap.size (fun _ => True) s_.1 y284) ∧ (w'.heap[gb280]? = some (.cells #[.int .i64 a0_0, .int .i64 a0_1, .int .i64 a0_2, .int .i64 a0_3] 25 (0, 0))) ∧ (w'.heap[gb281]? = some (.cells #[.int .i64 a1_0, .int .i64 a1_1, .int .i64 a1_2, .int .i64 a1_3] 25 (0, 0))) ∧ (w'.heap[gb282]? = some (.cells #[.int .i64 0, .int .i64 0, .int .i64 0, .int .i64 0] 25 (0, 0))) ∧ (w'.heap[s_.2]? = some (.cells #[.int .i64 0, .int .i64 0, .int .i64 0, .int .i64 0] 25 (0, 0))) ∧ (w.heap.size ≤ s_.2) ∧ (w.heap.size ≤ s_.2) ∧ (gb280 ≠ s_.2) ∧ (s_.2 ≠ gb280) ∧ (gb281 ≠ s_.2) ∧ (s_.2 ≠ gb281) ∧ (gb282 ≠ s_.2) ∧ (s_.2 ≠ gb282) ∧ (Below w.heap.size w w')) ?_ ?_
                        rotate_left
                        · intro hJ4_16
                          refine join_ (σ := Value × Nat) 9 #[true, true, true, true, false, false, true, true, true, true, true, false, false, false, false, false, true, false, false] (fun s_ => [(24, s_.1), (6, .pointer (some ⟨s_.2, 0, none⟩))]) (fun s_ w' => (w'.cell? ⟨gb280, 0, none⟩ = some (.int .i64 a0_0) ∧ w'.cell? ⟨gb280, 1, none⟩ = some (.int .i64 a0_1) ∧ w'.cell? ⟨gb280, 2, none⟩ = some (.int .i64 a0_2) ∧ w'.cell? ⟨gb280, 3, none⟩ = some (.int .i64 a0_3) ∧ w'.cell? ⟨gb281, 0, none⟩ = some (.int .i64 a1_0) ∧ w'.cell? ⟨gb281, 1, none⟩ = some (.int .i64 a1_1) ∧ w'.cell? ⟨gb281, 2, none⟩ = some (.int .i64 a1_2) ∧ w'.cell? ⟨gb281, 3, none⟩ = some (.int .i64 a1_3)) ∧ (Kd.R k23 23 w' w.heap.size (fun _ => True) s_.1 y289) ∧ (w'.heap[gb280]? = some (.cells #[.int .i64 a0_0, .int .i64 a0_1, .int .i64 a0_2, .int .i64 a0_3] 25 (0, 0))) ∧ (w'.heap[gb281]? = some (.cells #[.int .i64 a1_0, .int .i64 a1_1, .int .i64 a1_2, .int .i64 a1_3] 25 (0, 0))) ∧ (w'.heap[gb282]? = some (.cells #[.int .i64 0, .int .i64 0, .int .i64 0, .int .i64 0] 25 (0, 0))) ∧ (w'.heap[s_.2]? = some (.cells #[.int .i64 0, .int .i64 0, .int .i64 0, .int .i64 0] 25 (0, 0))) ∧ (w.heap.size ≤ s_.2) ∧ (w.heap.size ≤ s_.2) ∧ (gb280 ≠ s_.2) ∧ (s_.2 ≠ gb280) ∧ (gb281 ≠ s_.2) ∧ (s_.2 ≠ gb281) ∧ (gb282 ≠ s_.2) ∧ (s_.2 ≠ gb282) ∧ (Below w.heap.size w w')) ?_ ?_
                          rotate_left
                          · intro hJ10_16
                            refine join_ (σ := Value) 10 #[true, true, true, true, true, false, true, true, true, true, false, false, false, false, false, false, false, false, false] (fun s_ => [(18, s_)]) (fun s_ w' => (w'.cell? ⟨gb280, 0, none⟩ = some (.int .i64 a0_0) ∧ w'.cell? ⟨gb280, 1, none⟩ = some (.int .i64 a0_1) ∧ w'.cell? ⟨gb280, 2, none⟩ = some (.int .i64 a0_2) ∧ w'.cell? ⟨gb280, 3, none⟩ = some (.int .i64 a0_3) ∧ w'.cell? ⟨gb281, 0, none⟩ = some (.int .i64 a1_0) ∧ w'.cell? ⟨gb281, 1, none⟩ = some (.int .i64 a1_1) ∧ w'.cell? ⟨gb281, 2, none⟩ = some (.int .i64 a1_2) ∧ w'.cell? ⟨gb281, 3, none⟩ = some (.int .i64 a1_3)) ∧ (Kd.R k23 23 w' w.heap.size (fun _ => True) s_ y284) ∧ (w'.heap[gb280]? = some (.cells #[.int .i64 a0_0, .int .i64 a0_1, .int .i64 a0_2, .int .i64 a0_3] 25 (0, 0))) ∧ (w'.heap[gb281]? = some (.cells #[.int .i64 a1_0, .int .i64 a1_1, .int .i64 a1_2, .int .i64 a1_3] 25 (0, 0))) ∧ (w'.heap[gb282]? = some (.cells #[.int .i64 0, .int .i64 0, .int .i64 0, .int .i64 0] 25 (0, 0))) ∧ (Below w.heap.size w w')) ?_ ?_
                            rotate_left
                            · intro hJ4
                              refine join_ (σ := Value) 10 #[true, true, true, true, false, false, true, true, true, true, true, false, false, false, false, false, false, false, false] (fun s_ => [(24, s_)]) (fun s_ w' => (w'.cell? ⟨gb280, 0, none⟩ = some (.int .i64 a0_0) ∧ w'.cell? ⟨gb280, 1, none⟩ = some (.int .i64 a0_1) ∧ w'.cell? ⟨gb280, 2, none⟩ = some (.int .i64 a0_2) ∧ w'.cell? ⟨gb280, 3, none⟩ = some (.int .i64 a0_3) ∧ w'.cell? ⟨gb281, 0, none⟩ = some (.int .i64 a1_0) ∧ w'.cell? ⟨gb281, 1, none⟩ = some (.int .i64 a1_1) ∧ w'.cell? ⟨gb281, 2, none⟩ = some (.int .i64 a1_2) ∧ w'.cell? ⟨gb281, 3, none⟩ = some (.int .i64 a1_3)) ∧ (Kd.R k23 23 w' w.heap.size (fun _ => True) s_ y289) ∧ (w'.heap[gb280]? = some (.cells #[.int .i64 a0_0, .int .i64 a0_1, .int .i64 a0_2, .int .i64 a0_3] 25 (0, 0))) ∧ (w'.heap[gb281]? = some (.cells #[.int .i64 a1_0, .int .i64 a1_1, .int .i64 a1_2, .int .i64 a1_3] 25 (0, 0))) ∧ (w'.heap[gb282]? = some (.cells #[.int .i64 0, .int .i64 0, .int .i64 0, .int .i64 0] 25 (0, 0))) ∧ (Below w.heap.size w w')) ?_ ?_
                              rotate_left
                              · intro hJ10
                                refine join_ (σ := Nat) 10 #[true, true, true, true, false, false, true, true, true, true, false, false, false, false, false, false, true, false, false] (fun s_ => [(6, .pointer (some ⟨s_, 0, none⟩))]) (fun s_ w' => (w'.cell? ⟨gb280, 0, none⟩ = some (.int .i64 a0_0) ∧ w'.cell? ⟨gb280, 1, none⟩ = some (.int .i64 a0_1) ∧ w'.cell? ⟨gb280, 2, none⟩ = some (.int .i64 a0_2) ∧ w'.cell? ⟨gb280, 3, none⟩ = some (.int .i64 a0_3) ∧ w'.cell? ⟨gb281, 0, none⟩ = some (.int .i64 a1_0) ∧ w'.cell? ⟨gb281, 1, none⟩ = some (.int .i64 a1_1) ∧ w'.cell? ⟨gb281, 2, none⟩ = some (.int .i64 a1_2) ∧ w'.cell? ⟨gb281, 3, none⟩ = some (.int .i64 a1_3)) ∧ (w'.heap[gb280]? = some (.cells #[.int .i64 a0_0, .int .i64 a0_1, .int .i64 a0_2, .int .i64 a0_3] 25 (0, 0))) ∧ (w'.heap[gb281]? = some (.cells #[.int .i64 a1_0, .int .i64 a1_1, .int .i64 a1_2, .int .i64 a1_3] 25 (0, 0))) ∧ (w'.heap[gb282]? = some (.cells #[.int .i64 0, .int .i64 0, .int .i64 0, .int .i64 0] 25 (0, 0))) ∧ (w'.heap[s_]? = some (.cells #[.int .i64 0, .int .i64 0, .int .i64 0, .int .i64 0] 25 (0, 0))) ∧ (w.heap.size ≤ s_) ∧ (w.heap.size ≤ s_) ∧ (gb280 ≠ s_) ∧ (s_ ≠ gb280) ∧ (gb281 ≠ s_) ∧ (s_ ≠ gb281) ∧ (gb282 ≠ s_) ∧ (s_ ≠ gb282) ∧ (Below w.heap.size w w')) ?_ ?_
                                rotate_left
                                · intro hJ16
                                  refine three_ (i := 4) (j := 10) (k := 16) (Ni := some 18) (Nj := some 24) (Nk := some 6) #[true, true, true, true, true, false, true, true, true, true, false, false, false, false, false, false, false, false, false] #[true, true, true, true, false, false, true, true, true, true, true, false, false, false, false, false, false, false, false] #[true, true, true, true, false, false, true, true, true, true, false, false, false, false, false, false, true, false, false] rfl rfl rfl rfl rfl rfl (three_of HT_.out (by kernel_rfl)) (by decide) (by decide) (by decide) (fun K hK => ?_) (fun K hK => ?_) (fun K hK => ?_)
                                  · skip
                                    refine Kd.R_lit_step k23 _ 23 ?hg (N := 18) ?hd (xs := ([(⟨a0_0, a0_1⟩ : S23), (⟨a1_0, a1_1⟩ : S23)] : List (S23))) (inner := [.int .i64 a0_0, .int .i64 a0_1, .int .i64 a1_0, .int .i64 a1_1]) (ok := fun _ => True) (okp := fun _ => True) ?hr ?hp (fun _ hk => hk) trivial (Below.refl _ _) (Nat.le_refl _) (by simp) ?_; (case hd => rfl); (case hg => rfl); (case hr => first | (go_simp; done) | (go_simp; rfl)); (case hp => exact (Reps.c2 (show Kd.M k23 _ _ _ (⟨a0_0, a0_1⟩ : S23) [.int .i64 a0_0, .int .i64 a0_1] from (k23_mkM _ _ _ (⟨a0_0, a0_1⟩ : S23) )) (Reps.c2 (show Kd.M k23 _ _ _ (⟨a1_0, a1_1⟩ : S23) [.int .i64 a1_0, .int .i64 a1_1] from (k23_mkM _ _ _ (⟨a1_0, a1_1⟩ : S23) )) (Reps.none _ _))))
                                    intro v285 w18 ho19 hb hg_ hnew_
                                    clear hg_ hnew_
                                    (first | rw [← Ny284.out] at ho19 | (simp only [Int.reduceToNat] at ho19; rw [← Ny284.out] at ho19))
                                    have HO286 := Aside0.mk (Kd.R_lower ho19 (below_size (bl HB)))
                                    replace BK280 := bkb BK280 hb
                                    replace BK281 := bkb BK281 hb
                                    replace BK282 := bkb BK282 hb
                                    replace HB := bst HB hb
                                    clear hb ho19
                                    refine hK.out _ _ (c4 BK280 (e4 BK281)) (fun hHeld => ?_)
                                    clear hK K
                                    refine nrp 18 ?_
                                    exact nrm (hJ4 (v285) _ ⟨hHeld, (kr HO286), (bk BK280), (bk BK281), (bk BK282), (bl HB)⟩)
                                  · skip
                                    refine Kd.R_lit_step k23 _ 23 ?hg (N := 24) ?hd (xs := ([(⟨a0_2, a0_3⟩ : S23), (⟨a1_2, a1_3⟩ : S23)] : List (S23))) (inner := [.int .i64 a0_2, .int .i64 a0_3, .int .i64 a1_2, .int .i64 a1_3]) (ok := fun _ => True) (okp := fun _ => True) ?hr ?hp (fun _ hk => hk) trivial (Below.refl _ _) (Nat.le_refl _) (by simp) ?_; (case hd => rfl); (case hg => rfl); (case hr => first | (go_simp; done) | (go_simp; rfl)); (case hp => exact (Reps.c2 (show Kd.M k23 _ _ _ (⟨a0_2, a0_3⟩ : S23) [.int .i64 a0_2, .int .i64 a0_3] from (k23_mkM _ _ _ (⟨a0_2, a0_3⟩ : S23) )) (Reps.c2 (show Kd.M k23 _ _ _ (⟨a1_2, a1_3⟩ : S23) [.int .i64 a1_2, .int .i64 a1_3] from (k23_mkM _ _ _ (⟨a1_2, a1_3⟩ : S23) )) (Reps.none _ _))))
                                    intro v290 w18 ho19 hb hg_ hnew_
                                    clear hg_ hnew_
                                    (first | rw [← Ny289.out] at ho19 | (simp only [Int.reduceToNat] at ho19; rw [← Ny289.out] at ho19))
                                    have HO291 := Aside0.mk (Kd.R_lower ho19 (below_size (bl HB)))
                                    replace BK280 := bkb BK280 hb
                                    replace BK281 := bkb BK281 hb
                                    replace BK282 := bkb BK282 hb
                                    replace HB := bst HB hb
                                    clear hb ho19
                                    refine hK.out _ _ (c4 BK280 (e4 BK281)) (fun hHeld => ?_)
                                    clear hK K
                                    refine nrp 24 ?_
                                    exact nrm (hJ10 (v290) _ ⟨hHeld, (kr HO291), (bk BK280), (bk BK281), (bk BK282), (bl HB)⟩)
                                  · skip
                                    refine box_step ?hg (N := 6) ?hd (cs := #[.int .i64 0, .int .i64 0, .int .i64 0, .int .i64 0]) (t := 25) ?hr ?_; (case hd => rfl); (case hg => rfl); (case hr => first | (go_simp; done) | (go_simp; rfl))
                                    intro gb299 hg w18 hbox hb
                                    have BK299 := Aside0.mk (hbox)
                                    have GW299 := lsz hg HB
                                    have GE299 := lsz hg HB
                                    replace HB := bst HB hb
                                    have NB280_299 := nlt hg BK280
                                    have NB299_280 := ngt hg BK280
                                    replace BK280 := bkb BK280 hb
                                    have NB281_299 := nlt hg BK281
                                    have NB299_281 := ngt hg BK281
                                    replace BK281 := bkb BK281 hb
                                    have NB282_299 := nlt hg BK282
                                    have NB299_282 := ngt hg BK282
                                    replace BK282 := bkb BK282 hb
                                    clear hb hbox hg
                                    refine hK.out _ _ (c4 BK280 (e4 BK281)) (fun hHeld => ?_)
                                    clear hK K
                                    refine nrp 6 ?_
                                    exact nrm (hJ16 (gb299) _ ⟨hHeld, (bk BK280), (bk BK281), (bk BK282), (bk BK299), GW299.out, GE299.out, NB280_299.out, NB299_280.out, NB281_299.out, NB299_281.out, NB282_299.out, NB299_282.out, (bl HB)⟩)
                                · skip
                                  rintro gb299 w19 ⟨hS_, h0_, h1_, h2_, h3_, h4_, h5_, h6_, h7_, h8_, h9_, h10_, h11_, h12_⟩
                                  replace BK280 : Aside0 (w19.heap[gb280]? = some (.cells #[.int .i64 a0_0, .int .i64 a0_1, .int .i64 a0_2, .int .i64 a0_3] 25 (0, 0))) := ⟨h0_⟩
                                  replace BK281 : Aside0 (w19.heap[gb281]? = some (.cells #[.int .i64 a1_0, .int .i64 a1_1, .int .i64 a1_2, .int .i64 a1_3] 25 (0, 0))) := ⟨h1_⟩
                                  replace BK282 : Aside0 (w19.heap[gb282]? = some (.cells #[.int .i64 0, .int .i64 0, .int .i64 0, .int .i64 0] 25 (0, 0))) := ⟨h2_⟩
                                  have BK299 : Aside0 (w19.heap[gb299]? = some (.cells #[.int .i64 0, .int .i64 0, .int .i64 0, .int .i64 0] 25 (0, 0))) := ⟨h3_⟩
                                  have GW299 : Aside0 (w.heap.size ≤ gb299) := ⟨h4_⟩
                                  have GE299 : Aside0 (w.heap.size ≤ gb299) := ⟨h5_⟩
                                  have NB280_299 : Aside0 (gb280 ≠ gb299) := ⟨h6_⟩
                                  have NB299_280 : Aside0 (gb299 ≠ gb280) := ⟨h7_⟩
                                  have NB281_299 : Aside0 (gb281 ≠ gb299) := ⟨h8_⟩
                                  have NB299_281 : Aside0 (gb299 ≠ gb281) := ⟨h9_⟩
                                  have NB282_299 : Aside0 (gb282 ≠ gb299) := ⟨h10_⟩
                                  have NB299_282 : Aside0 (gb299 ≠ gb282) := ⟨h11_⟩
                                  replace HB : Aside0 (Below w.heap.size w w19) := ⟨h12_⟩
                                  clear h0_ h1_ h2_ h3_ h4_ h5_ h6_ h7_ h8_ h9_ h10_ h11_ h12_
                                  have hHeld : w19.cell? ⟨gb280, 0, none⟩ = some (.int .i64 a0_0) ∧ w19.cell? ⟨gb280, 1, none⟩ = some (.int .i64 a0_1) ∧ w19.cell? ⟨gb280, 2, none⟩ = some (.int .i64 a0_2) ∧ w19.cell? ⟨gb280, 3, none⟩ = some (.int .i64 a0_3) ∧ w19.cell? ⟨gb281, 0, none⟩ = some (.int .i64 a1_0) ∧ w19.cell? ⟨gb281, 1, none⟩ = some (.int .i64 a1_1) ∧ w19.cell? ⟨gb281, 2, none⟩ = some (.int .i64 a1_2) ∧ w19.cell? ⟨gb281, 3, none⟩ = some (.int .i64 a1_3) := hS_
                                  refine nra ?_
                                  refine two_ (i := 4) (j := 10) (Ni := some 18) (Nj := some 24) #[true, true, true, true, true, false, true, true, true, true, false, false, false, false, false, false, true, false, false] #[true, true, true, true, false, false, true, true, true, true, true, false, false, false, false, false, true, false, false] rfl rfl rfl rfl (two_of HT_.out (by kernel_rfl)) (by decide) (by decide) (fun K hK => ?_) (fun K hK => ?_)
                                  · skip
                                    refine Kd.R_lit_step k23 _ 23 ?hg (N := 18) ?hd (xs := ([(⟨a0_0, a0_1⟩ : S23), (⟨a1_0, a1_1⟩ : S23)] : List (S23))) (inner := [.int .i64 a0_0, .int .i64 a0_1, .int .i64 a1_0, .int .i64 a1_1]) (ok := fun _ => True) (okp := fun _ => True) ?hr ?hp (fun _ hk => hk) trivial (Below.refl _ _) (Nat.le_refl _) (by simp) ?_; (case hd => rfl); (case hg => rfl); (case hr => first | (go_simp; done) | (go_simp; rfl)); (case hp => exact (Reps.c2 (show Kd.M k23 _ _ _ (⟨a0_0, a0_1⟩ : S23) [.int .i64 a0_0, .int .i64 a0_1] from (k23_mkM _ _ _ (⟨a0_0, a0_1⟩ : S23) )) (Reps.c2 (show Kd.M k23 _ _ _ (⟨a1_0, a1_1⟩ : S23) [.int .i64 a1_0, .int .i64 a1_1] from (k23_mkM _ _ _ (⟨a1_0, a1_1⟩ : S23) )) (Reps.none _ _))))
                                    intro v285 w20 ho21 hb hg_ hnew_
                                    clear hg_ hnew_
                                    (first | rw [← Ny284.out] at ho21 | (simp only [Int.reduceToNat] at ho21; rw [← Ny284.out] at ho21))
                                    have HO286 := Aside0.mk (Kd.R_lower ho21 (below_size (bl HB)))
                                    replace BK280 := bkb BK280 hb
                                    replace BK281 := bkb BK281 hb
                                    replace BK282 := bkb BK282 hb
                                    replace BK299 := bkb BK299 hb
                                    replace HB := bst HB hb
                                    clear hb ho21
                                    refine hK.out _ _ (c4 BK280 (e4 BK281)) (fun hHeld => ?_)
                                    clear hK K
                                    refine nrp 18 ?_
                                    exact nrm (hJ4_16 (v285, gb299) _ ⟨hHeld, (kr HO286), (bk BK280), (bk BK281), (bk BK282), (bk BK299), GW299.out, GE299.out, NB280_299.out, NB299_280.out, NB281_299.out, NB299_281.out, NB282_299.out, NB299_282.out, (bl HB)⟩)
                                  · skip
                                    refine Kd.R_lit_step k23 _ 23 ?hg (N := 24) ?hd (xs := ([(⟨a0_2, a0_3⟩ : S23), (⟨a1_2, a1_3⟩ : S23)] : List (S23))) (inner := [.int .i64 a0_2, .int .i64 a0_3, .int .i64 a1_2, .int .i64 a1_3]) (ok := fun _ => True) (okp := fun _ => True) ?hr ?hp (fun _ hk => hk) trivial (Below.refl _ _) (Nat.le_refl _) (by simp) ?_; (case hd => rfl); (case hg => rfl); (case hr => first | (go_simp; done) | (go_simp; rfl)); (case hp => exact (Reps.c2 (show Kd.M k23 _ _ _ (⟨a0_2, a0_3⟩ : S23) [.int .i64 a0_2, .int .i64 a0_3] from (k23_mkM _ _ _ (⟨a0_2, a0_3⟩ : S23) )) (Reps.c2 (show Kd.M k23 _ _ _ (⟨a1_2, a1_3⟩ : S23) [.int .i64 a1_2, .int .i64 a1_3] from (k23_mkM _ _ _ (⟨a1_2, a1_3⟩ : S23) )) (Reps.none _ _))))
                                    intro v290 w20 ho21 hb hg_ hnew_
                                    clear hg_ hnew_
                                    (first | rw [← Ny289.out] at ho21 | (simp only [Int.reduceToNat] at ho21; rw [← Ny289.out] at ho21))
                                    have HO291 := Aside0.mk (Kd.R_lower ho21 (below_size (bl HB)))
                                    replace BK280 := bkb BK280 hb
                                    replace BK281 := bkb BK281 hb
                                    replace BK282 := bkb BK282 hb
                                    replace BK299 := bkb BK299 hb
                                    replace HB := bst HB hb
                                    clear hb ho21
                                    refine hK.out _ _ (c4 BK280 (e4 BK281)) (fun hHeld => ?_)
                                    clear hK K
                                    refine nrp 24 ?_
                                    exact nrm (hJ10_16 (v290, gb299) _ ⟨hHeld, (kr HO291), (bk BK280), (bk BK281), (bk BK282), (bk BK299), GW299.out, GE299.out, NB280_299.out, NB299_280.out, NB281_299.out, NB299_281.out, NB282_299.out, NB299_282.out, (bl HB)⟩)
                              · skip
                                rintro v290 w20 ⟨hS_, h0_, h1_, h2_, h3_, h4_⟩
                                have HO291 : Aside0 (Kd.R k23 23 w20 w.heap.size (fun _ => True) v290 y289) := ⟨h0_⟩
                                replace BK280 : Aside0 (w20.heap[gb280]? = some (.cells #[.int .i64 a0_0, .int .i64 a0_1, .int .i64 a0_2, .int .i64 a0_3] 25 (0, 0))) := ⟨h1_⟩
                                replace BK281 : Aside0 (w20.heap[gb281]? = some (.cells #[.int .i64 a1_0, .int .i64 a1_1, .int .i64 a1_2, .int .i64 a1_3] 25 (0, 0))) := ⟨h2_⟩
                                replace BK282 : Aside0 (w20.heap[gb282]? = some (.cells #[.int .i64 0, .int .i64 0, .int .i64 0, .int .i64 0] 25 (0, 0))) := ⟨h3_⟩
                                replace HB : Aside0 (Below w.heap.size w w20) := ⟨h4_⟩
                                clear h0_ h1_ h2_ h3_ h4_
                                have hHeld : w20.cell? ⟨gb280, 0, none⟩ = some (.int .i64 a0_0) ∧ w20.cell? ⟨gb280, 1, none⟩ = some (.int .i64 a0_1) ∧ w20.cell? ⟨gb280, 2, none⟩ = some (.int .i64 a0_2) ∧ w20.cell? ⟨gb280, 3, none⟩ = some (.int .i64 a0_3) ∧ w20.cell? ⟨gb281, 0, none⟩ = some (.int .i64 a1_0) ∧ w20.cell? ⟨gb281, 1, none⟩ = some (.int .i64 a1_1) ∧ w20.cell? ⟨gb281, 2, none⟩ = some (.int .i64 a1_2) ∧ w20.cell? ⟨gb281, 3, none⟩ = some (.int .i64 a1_3) := hS_
                                refine nra ?_
                                refine two_ (i := 4) (j := 16) (Ni := some 18) (Nj := some 6) #[true, true, true, true, true, false, true, true, true, true, true, false, false, false, false, false, false, false, false] #[true, true, true, true, false, false, true, true, true, true, true, false, false, false, false, false, true, false, false] rfl rfl rfl rfl (two_of HT_.out (by kernel_rfl)) (by decide) (by decide) (fun K hK => ?_) (fun K hK => ?_)
                                · skip
                                  refine Kd.R_lit_step k23 _ 23 ?hg (N := 18) ?hd (xs := ([(⟨a0_0, a0_1⟩ : S23), (⟨a1_0, a1_1⟩ : S23)] : List (S23))) (inner := [.int .i64 a0_0, .int .i64 a0_1, .int .i64 a1_0, .int .i64 a1_1]) (ok := fun _ => True) (okp := fun _ => True) ?hr ?hp (fun _ hk => hk) trivial (Below.refl _ _) (Nat.le_refl _) (by simp) ?_; (case hd => rfl); (case hg => rfl); (case hr => first | (go_simp; done) | (go_simp; rfl)); (case hp => exact (Reps.c2 (show Kd.M k23 _ _ _ (⟨a0_0, a0_1⟩ : S23) [.int .i64 a0_0, .int .i64 a0_1] from (k23_mkM _ _ _ (⟨a0_0, a0_1⟩ : S23) )) (Reps.c2 (show Kd.M k23 _ _ _ (⟨a1_0, a1_1⟩ : S23) [.int .i64 a1_0, .int .i64 a1_1] from (k23_mkM _ _ _ (⟨a1_0, a1_1⟩ : S23) )) (Reps.none _ _))))
                                  intro v285 w21 ho22 hb hg_ hnew_
                                  clear hg_ hnew_
                                  (first | rw [← Ny284.out] at ho22 | (simp only [Int.reduceToNat] at ho22; rw [← Ny284.out] at ho22))
                                  have HO286 := Aside0.mk (Kd.R_lower (Kd.R_new' ho22 (Kd.R_lt (kr HO291))) (below_size (bl HB)))
                                  replace HO291 := Aside0.mk (Kd.R_elder' (kr HO291) (Kd.R_base ho22) hb)
                                  replace BK280 := bkb BK280 hb
                                  replace BK281 := bkb BK281 hb
                                  replace BK282 := bkb BK282 hb
                                  replace HB := bst HB hb
                                  clear hb ho22
                                  refine hK.out _ _ (c4 BK280 (e4 BK281)) (fun hHeld => ?_)
                                  clear hK K
                                  refine nrp 18 ?_
                                  exact nrm (hJ4_10 (v285, v290) _ ⟨hHeld, (by (with_reducible repeat (first | apply Kd.R_alloc | apply Kd.R_drewN | apply Kd.R_drew)); exact Kd.R_mono HO286.out (fun _ hk => hk.2)), (by (with_reducible repeat (first | apply Kd.R_alloc | apply Kd.R_drewN | apply Kd.R_drew)); exact Kd.R_mono HO291.out (fun _ hk => hk.2)), (bk BK280), (bk BK281), (bk BK282), (bl HB)⟩)
                                · skip
                                  refine box_step ?hg (N := 6) ?hd (cs := #[.int .i64 0, .int .i64 0, .int .i64 0, .int .i64 0]) (t := 25) ?hr ?_; (case hd => rfl); (case hg => rfl); (case hr => first | (go_simp; done) | (go_simp; rfl))
                                  intro gb299 hg w21 hbox hb
                                  replace HO291 := krb HO291 hb
                                  have BK299 := Aside0.mk (hbox)
                                  have GW299 := lsz hg HB
                                  have GE299 := lsz hg HB
                                  replace HB := bst HB hb
                                  have NB280_299 := nlt hg BK280
                                  have NB299_280 := ngt hg BK280
                                  replace BK280 := bkb BK280 hb
                                  have NB281_299 := nlt hg BK281
                                  have NB299_281 := ngt hg BK281
                                  replace BK281 := bkb BK281 hb
                                  have NB282_299 := nlt hg BK282
                                  have NB299_282 := ngt hg BK282
                                  replace BK282 := bkb BK282 hb
                                  clear hb hbox hg
                                  refine hK.out _ _ (c4 BK280 (e4 BK281)) (fun hHeld => ?_)
                                  clear hK K
                                  refine nrp 6 ?_
                                  exact nrm (hJ10_16 (v290, gb299) _ ⟨hHeld, (kr HO291), (bk BK280), (bk BK281), (bk BK282), (bk BK299), GW299.out, GE299.out, NB280_299.out, NB299_280.out, NB281_299.out, NB299_281.out, NB282_299.out, NB299_282.out, (bl HB)⟩)
                            · skip
                              rintro v285 w20 ⟨hS_, h0_, h1_, h2_, h3_, h4_⟩
                              have HO286 : Aside0 (Kd.R k23 23 w20 w.heap.size (fun _ => True) v285 y284) := ⟨h0_⟩
                              replace BK280 : Aside0 (w20.heap[gb280]? = some (.cells #[.int .i64 a0_0, .int .i64 a0_1, .int .i64 a0_2, .int .i64 a0_3] 25 (0, 0))) := ⟨h1_⟩
                              replace BK281 : Aside0 (w20.heap[gb281]? = some (.cells #[.int .i64 a1_0, .int .i64 a1_1, .int .i64 a1_2, .int .i64 a1_3] 25 (0, 0))) := ⟨h2_⟩
                              replace BK282 : Aside0 (w20.heap[gb282]? = some (.cells #[.int .i64 0, .int .i64 0, .int .i64 0, .int .i64 0] 25 (0, 0))) := ⟨h3_⟩
                              replace HB : Aside0 (Below w.heap.size w w20) := ⟨h4_⟩
                              clear h0_ h1_ h2_ h3_ h4_
                              have hHeld : w20.cell? ⟨gb280, 0, none⟩ = some (.int .i64 a0_0) ∧ w20.cell? ⟨gb280, 1, none⟩ = some (.int .i64 a0_1) ∧ w20.cell? ⟨gb280, 2, none⟩ = some (.int .i64 a0_2) ∧ w20.cell? ⟨gb280, 3, none⟩ = some (.int .i64 a0_3) ∧ w20.cell? ⟨gb281, 0, none⟩ = some (.int .i64 a1_0) ∧ w20.cell? ⟨gb281, 1, none⟩ = some (.int .i64 a1_1) ∧ w20.cell? ⟨gb281, 2, none⟩ = some (.int .i64 a1_2) ∧ w20.cell? ⟨gb281, 3, none⟩ = some (.int .i64 a1_3) := hS_
                              obtain ⟨Ao21, co21, eo21⟩ := Kd.R_slice HO286.out
                              (first | subst eo21 | (injection eo21 with f1_ f2_ f3_; have f4_ := f1_.symm; have f5_ := f3_.symm; clear f1_ f2_ f3_; subst f4_; subst f5_))
                              refine nra ?_
                              refine three_ (i := 5) (j := 10) (k := 16) (Ni := some 19) (Nj := some 24) (Nk := some 6) #[true, true, true, true, true, true, true, true, true, true, false, false, false, false, false, false, false, false, false] #[true, true, true, true, true, false, true, true, true, true, true, false, false, false, false, false, false, false, false] #[true, true, true, true, true, false, true, true, true, true, false, false, false, false, false, false, true, false, false] rfl rfl rfl rfl rfl rfl (three_of HT_.out (by kernel_rfl)) (by decide) (by decide) (by decide) (fun K hK => ?_) (fun K hK => ?_) (fun K hK => ?_)
                              · skip
                                refine goes_ Try.func46 (by kernel_rfl) rfl #[.slice Ao21 y284.length co21] (by rfl) rfl rfl (by (try simp only [List.map_toArray, List.map_cons, List.map_nil]); first | done | rfl | (simp only [List.length_drop, List.length_take]; rfl)) ?_
                                with_reducible refine (cut_Greatest.calls k _ _ y284 t287 t288 _ ?side1 ?side2 A5.out).mono ?_
                                (case side1 => repeat (first | exact (Kd.R_reads' HO286.out).2.2 | (with_reducible refine Kd.C_alloc ?_ _) | (with_reducible refine Kd.C_drewN ?_ _) | (with_reducible refine Kd.C_drew ?_)))
                                (case side2 => exact (Kd.R_reads' HO286.out).2.1)
                                rintro e w22 ⟨rfl, hb⟩
                                refine ⟨_, rfl, ?_⟩
                                replace HO286 := krb HO286 hb
                                replace BK280 := bkb BK280 hb
                                replace BK281 := bkb BK281 hb
                                replace BK282 := bkb BK282 hb
                                replace HB := bst HB hb
                                (try clear hb)
                                (try clear hb2)
                                (try clear hk)
                                (try clear hi)
                                refine hK.out _ _ (c4 BK280 (e4 BK281)) (fun hHeld => ?_)
                                clear hK K
                                refine nrp 19 ?_
                                exact nrm (hJ4_5 (.slice Ao21 y284.length co21) _ ⟨hHeld, (kr HO286), (bk BK280), (bk BK281), (bk BK282), (bl HB)⟩)
                              · skip
                                refine Kd.R_lit_step k23 _ 23 ?hg (N := 24) ?hd (xs := ([(⟨a0_2, a0_3⟩ : S23), (⟨a1_2, a1_3⟩ : S23)] : List (S23))) (inner := [.int .i64 a0_2, .int .i64 a0_3, .int .i64 a1_2, .int .i64 a1_3]) (ok := fun _ => True) (okp := fun _ => True) ?hr ?hp (fun _ hk => hk) trivial (Below.refl _ _) (Nat.le_refl _) (by simp) ?_; (case hd => rfl); (case hg => rfl); (case hr => first | (go_simp; done) | (go_simp; rfl)); (case hp => exact (Reps.c2 (show Kd.M k23 _ _ _ (⟨a0_2, a0_3⟩ : S23) [.int .i64 a0_2, .int .i64 a0_3] from (k23_mkM _ _ _ (⟨a0_2, a0_3⟩ : S23) )) (Reps.c2 (show Kd.M k23 _ _ _ (⟨a1_2, a1_3⟩ : S23) [.int .i64 a1_2, .int .i64 a1_3] from (k23_mkM _ _ _ (⟨a1_2, a1_3⟩ : S23) )) (Reps.none _ _))))
                                intro v290 w21 ho22 hb hg_ hnew_
                                clear hg_ hnew_
                                (first | rw [← Ny289.out] at ho22 | (simp only [Int.reduceToNat] at ho22; rw [← Ny289.out] at ho22))
                                have HO291 := Aside0.mk (Kd.R_lower (Kd.R_new' ho22 (Kd.R_lt (kr HO286))) (below_size (bl HB)))
                                replace HO286 := Aside0.mk (Kd.R_elder' (kr HO286) (Kd.R_base ho22) hb)
                                replace BK280 := bkb BK280 hb
                                replace BK281 := bkb BK281 hb
                                replace BK282 := bkb BK282 hb
                                replace HB := bst HB hb
                                clear hb ho22
                                refine hK.out _ _ (c4 BK280 (e4 BK281)) (fun hHeld => ?_)
                                clear hK K
                                refine nrp 24 ?_
                                exact nrm (hJ4_10 ((Value.slice Ao21 y284.length co21), v290) _ ⟨hHeld, (by (with_reducible repeat (first | apply Kd.R_alloc | apply Kd.R_drewN | apply Kd.R_drew)); exact Kd.R_mono HO286.out (fun _ hk => hk.2)), (by (with_reducible repeat (first | apply Kd.R_alloc | apply Kd.R_drewN | apply Kd.R_drew)); exact Kd.R_mono HO291.out (fun _ hk => hk.2)), (bk BK280), (bk BK281), (bk BK282), (bl HB)⟩)
                              · skip
                                refine box_step ?hg (N := 6) ?hd (cs := #[.int .i64 0, .int .i64 0, .int .i64 0, .int .i64 0]) (t := 25) ?hr ?_; (case hd => rfl); (case hg => rfl); (case hr => first | (go_simp; done) | (go_simp; rfl))
                                intro gb299 hg w21 hbox hb
                                replace HO286 := krb HO286 hb
                                have BK299 := Aside0.mk (hbox)
                                have GW299 := lsz hg HB
                                have GE299 := lsz hg HB
                                replace HB := bst HB hb
                                have NB280_299 := nlt hg BK280
                                have NB299_280 := ngt hg BK280
                                replace BK280 := bkb BK280 hb
                                have NB281_299 := nlt hg BK281
                                have NB299_281 := ngt hg BK281
                                replace BK281 := bkb BK281 hb
                                have NB282_299 := nlt hg BK282
                                have NB299_282 := ngt hg BK282
                                replace BK282 := bkb BK282 hb
                                clear hb hbox hg
                                refine hK.out _ _ (c4 BK280 (e4 BK281)) (fun hHeld => ?_)
                                clear hK K
                                refine nrp 6 ?_
                                exact nrm (hJ4_16 ((Value.slice Ao21 y284.length co21), gb299) _ ⟨hHeld, (kr HO286), (bk BK280), (bk BK281), (bk BK282), (bk BK299), GW299.out, GE299.out, NB280_299.out, NB299_280.out, NB281_299.out, NB299_281.out, NB282_299.out, NB299_282.out, (bl HB)⟩)
                          · skip
                            rintro ⟨v290, gb299⟩ w21 ⟨hS_, h0_, h1_, h2_, h3_, h4_, h5_, h6_, h7_, h8_, h9_, h10_, h11_, h12_, h13_⟩
                            have HO291 : Aside0 (Kd.R k23 23 w21 w.heap.size (fun _ => True) v290 y289) := ⟨h0_⟩
                            replace BK280 : Aside0 (w21.heap[gb280]? = some (.cells #[.int .i64 a0_0, .int .i64 a0_1, .int .i64 a0_2, .int .i64 a0_3] 25 (0, 0))) := ⟨h1_⟩
                            replace BK281 : Aside0 (w21.heap[gb281]? = some (.cells #[.int .i64 a1_0, .int .i64 a1_1, .int .i64 a1_2, .int .i64 a1_3] 25 (0, 0))) := ⟨h2_⟩
                            replace BK282 : Aside0 (w21.heap[gb282]? = some (.cells #[.int .i64 0, .int .i64 0, .int .i64 0, .int .i64 0] 25 (0, 0))) := ⟨h3_⟩
                            have BK299 : Aside0 (w21.heap[gb299]? = some (.cells #[.int .i64 0, .int .i64 0, .int .i64 0, .int .i64 0] 25 (0, 0))) := ⟨h4_⟩
                            have GW299 : Aside0 (w.heap.size ≤ gb299) := ⟨h5_⟩
                            have GE299 : Aside0 (w.heap.size ≤ gb299) := ⟨h6_⟩
                            have NB280_299 : Aside0 (gb280 ≠ gb299) := ⟨h7_⟩
                            have NB299_280 : Aside0 (gb299 ≠ gb280) := ⟨h8_⟩
                            have NB281_299 : Aside0 (gb281 ≠ gb299) := ⟨h9_⟩
                            have NB299_281 : Aside0 (gb299 ≠ gb281) := ⟨h10_⟩
                            have NB282_299 : Aside0 (gb282 ≠ gb299) := ⟨h11_⟩
                            have NB299_282 : Aside0 (gb299 ≠ gb282) := ⟨h12_⟩
                            replace HB : Aside0 (Below w.heap.size w w21) := ⟨h13_⟩
                            clear h0_ h1_ h2_ h3_ h4_ h5_ h6_ h7_ h8_ h9_ h10_ h11_ h12_ h13_
                            have hHeld : w21.cell? ⟨gb280, 0, none⟩ = some (.int .i64 a0_0) ∧ w21.cell? ⟨gb280, 1, none⟩ = some (.int .i64 a0_1) ∧ w21.cell? ⟨gb280, 2, none⟩ = some (.int .i64 a0_2) ∧ w21.cell? ⟨gb280, 3, none⟩ = some (.int .i64 a0_3) ∧ w21.cell? ⟨gb281, 0, none⟩ = some (.int .i64 a1_0) ∧ w21.cell? ⟨gb281, 1, none⟩ = some (.int .i64 a1_1) ∧ w21.cell? ⟨gb281, 2, none⟩ = some (.int .i64 a1_2) ∧ w21.cell? ⟨gb281, 3, none⟩ = some (.int .i64 a1_3) := hS_
                            refine nra ?_
                            refine one_ (i := 4) (N := some 18) #[true, true, true, true, true, false, true, true, true, true, true, false, false, false, false, false, true, false, false] rfl rfl (one_of HT_.out (by kernel_rfl)) (by decide) (fun K hK => ?_)
                            refine Kd.R_lit_step k23 _ 23 ?hg (N := 18) ?hd (xs := ([(⟨a0_0, a0_1⟩ : S23), (⟨a1_0, a1_1⟩ : S23)] : List (S23))) (inner := [.int .i64 a0_0, .int .i64 a0_1, .int .i64 a1_0, .int .i64 a1_1]) (ok := fun _ => True) (okp := fun _ => True) ?hr ?hp (fun _ hk => hk) trivial (Below.refl _ _) (Nat.le_refl _) (by simp) ?_; (case hd => rfl); (case hg => rfl); (case hr => first | (go_simp; done) | (go_simp; rfl)); (case hp => exact (Reps.c2 (show Kd.M k23 _ _ _ (⟨a0_0, a0_1⟩ : S23) [.int .i64 a0_0, .int .i64 a0_1] from (k23_mkM _ _ _ (⟨a0_0, a0_1⟩ : S23) )) (Reps.c2 (show Kd.M k23 _ _ _ (⟨a1_0, a1_1⟩ : S23) [.int .i64 a1_0, .int .i64 a1_1] from (k23_mkM _ _ _ (⟨a1_0, a1_1⟩ : S23) )) (Reps.none _ _))))
                            intro v285 w22 ho23 hb hg_ hnew_
                            clear hg_ hnew_
                            (first | rw [← Ny284.out] at ho23 | (simp only [Int.reduceToNat] at ho23; rw [← Ny284.out] at ho23))
                            have HO286 := Aside0.mk (Kd.R_lower (Kd.R_new' ho23 (Kd.R_lt (kr HO291))) (below_size (bl HB)))
                            replace HO291 := Aside0.mk (Kd.R_elder' (kr HO291) (Kd.R_base ho23) hb)
                            replace BK280 := bkb BK280 hb
                            replace BK281 := bkb BK281 hb
                            replace BK282 := bkb BK282 hb
                            replace BK299 := bkb BK299 hb
                            replace HB := bst HB hb
                            clear hb ho23
                            refine hK.out _ _ (c4 BK280 (e4 BK281)) (fun hHeld => ?_)
                            clear hK K
                            refine nrp 18 ?_
                            exact nrm (hJ4_10_16 (v285, v290, gb299) _ ⟨hHeld, (by (with_reducible repeat (first | apply Kd.R_alloc | apply Kd.R_drewN | apply Kd.R_drew)); exact Kd.R_mono HO286.out (fun _ hk => hk.2)), (by (with_reducible repeat (first | apply Kd.R_alloc | apply Kd.R_drewN | apply Kd.R_drew)); exact Kd.R_mono HO291.out (fun _ hk => hk.2)), (bk BK280), (bk BK281), (bk BK282), (bk BK299), GW299.out, GE299.out, NB280_299.out, NB299_280.out, NB281_299.out, NB299_281.out, NB282_299.out, NB299_282.out, (bl HB)⟩)
                        · skip
                          rintro ⟨v285, gb299⟩ w21 ⟨hS_, h0_, h1_, h2_, h3_, h4_, h5_, h6_, h7_, h8_, h9_, h10_, h11_, h12_, h13_⟩
                          have HO286 : Aside0 (Kd.R k23 23 w21 w.heap.size (fun _ => True) v285 y284) := ⟨h0_⟩
                          replace BK280 : Aside0 (w21.heap[gb280]? = some (.cells #[.int .i64 a0_0, .int .i64 a0_1, .int .i64 a0_2, .int .i64 a0_3] 25 (0, 0))) := ⟨h1_⟩
                          replace BK281 : Aside0 (w21.heap[gb281]? = some (.cells #[.int .i64 a1_0, .int .i64 a1_1, .int .i64 a1_2, .int .i64 a1_3] 25 (0, 0))) := ⟨h2_⟩
                          replace BK282 : Aside0 (w21.heap[gb282]? = some (.cells #[.int .i64 0, .int .i64 0, .int .i64 0, .int .i64 0] 25 (0, 0))) := ⟨h3_⟩
                          have BK299 : Aside0 (w21.heap[gb299]? = some (.cells #[.int .i64 0, .int .i64 0, .int .i64 0, .int .i64 0] 25 (0, 0))) := ⟨h4_⟩
                          have GW299 : Aside0 (w.heap.size ≤ gb299) := ⟨h5_⟩
                          have GE299 : Aside0 (w.heap.size ≤ gb299) := ⟨h6_⟩
                          have NB280_299 : Aside0 (gb280 ≠ gb299) := ⟨h7_⟩
                          have NB299_280 : Aside0 (gb299 ≠ gb280) := ⟨h8_⟩
                          have NB281_299 : Aside0 (gb281 ≠ gb299) := ⟨h9_⟩
                          have NB299_281 : Aside0 (gb299 ≠ gb281) := ⟨h10_⟩
                          have NB282_299 : Aside0 (gb282 ≠ gb299) := ⟨h11_⟩
                          have NB299_282 : Aside0 (gb299 ≠ gb282) := ⟨h12_⟩
                          replace HB : Aside0 (Below w.heap.size w w21) := ⟨h13_⟩
                          clear h0_ h1_ h2_ h3_ h4_ h5_ h6_ h7_ h8_ h9_ h10_ h11_ h12_ h13_
                          have hHeld : w21.cell? ⟨gb280, 0, none⟩ = some (.int .i64 a0_0) ∧ w21.cell? ⟨gb280, 1, none⟩ = some (.int .i64 a0_1) ∧ w21.cell? ⟨gb280, 2, none⟩ = some (.int .i64 a0_2) ∧ w21.cell? ⟨gb280, 3, none⟩ = some (.int .i64 a0_3) ∧ w21.cell? ⟨gb281, 0, none⟩ = some (.int .i64 a1_0) ∧ w21.cell? ⟨gb281, 1, none⟩ = some (.int .i64 a1_1) ∧ w21.cell? ⟨gb281, 2, none⟩ = some (.int .i64 a1_2) ∧ w21.cell? ⟨gb281, 3, none⟩ = some (.int .i64 a1_3) := hS_
                          obtain ⟨Ao22, co22, eo22⟩ := Kd.R_slice HO286.out
                          (first | subst eo22 | (injection eo22 with f1_ f2_ f3_; have f4_ := f1_.symm; have f5_ := f3_.symm; clear f1_ f2_ f3_; subst f4_; subst f5_))
                          refine nra ?_
                          refine two_ (i := 5) (j := 10) (Ni := some 19) (Nj := some 24) #[true, true, true, true, true, true, true, true, true, true, false, false, false, false, false, false, true, false, false] #[true, true, true, true, true, false, true, true, true, true, true, false, false, false, false, false, true, false, false] rfl rfl rfl rfl (two_of HT_.out (by kernel_rfl)) (by decide) (by decide) (fun K hK => ?_) (fun K hK => ?_)
                          · skip
                            refine goes_ Try.func46 (by kernel_rfl) rfl #[.slice Ao22 y284.length co22] (by rfl) rfl rfl (by (try simp only [List.map_toArray, List.map_cons, List.map_nil]); first | done | rfl | (simp only [List.length_drop, List.length_take]; rfl)) ?_
                            with_reducible refine (cut_Greatest.calls k _ _ y284 t287 t288 _ ?side1 ?side2 A5.out).mono ?_
                            (case side1 => repeat (first | exact (Kd.R_reads' HO286.out).2.2 | (with_reducible refine Kd.C_alloc ?_ _) | (with_reducible refine Kd.C_drewN ?_ _) | (with_reducible refine Kd.C_drew ?_)))
                            (case side2 => exact (Kd.R_reads' HO286.out).2.1)
                            rintro e w23 ⟨rfl, hb⟩
                            refine ⟨_, rfl, ?_⟩
                            replace HO286 := krb HO286 hb
                            replace BK280 := bkb BK280 hb
                            replace BK281 := bkb BK281 hb
                            replace BK282 := bkb BK282 hb
                            replace BK299 := bkb BK299 hb
                            replace HB := bst HB hb
                            (try clear hb)
                            (try clear hb2)
                            (try clear hk)
                            (try clear hi)
                            refine hK.out _ _ (c4 BK280 (e4 BK281)) (fun hHeld => ?_)
                            clear hK K
                            refine nrp 19 ?_
                            exact nrm (hJ4_5_16 (.slice Ao22 y284.length co22, gb299) _ ⟨hHeld, (kr HO286), (bk BK280), (bk BK281), (bk BK282), (bk BK299), GW299.out, GE299.out, NB280_299.out, NB299_280.out, NB281_299.out, NB299_281.out, NB282_299.out, NB299_282.out, (bl HB)⟩)
                          · skip
                            refine Kd.R_lit_step k23 _ 23 ?hg (N := 24) ?hd (xs := ([(⟨a0_2, a0_3⟩ : S23), (⟨a1_2, a1_3⟩ : S23)] : List (S23))) (inner := [.int .i64 a0_2, .int .i64 a0_3, .int .i64 a1_2, .int .i64 a1_3]) (ok := fun _ => True) (okp := fun _ => True) ?hr ?hp (fun _ hk => hk) trivial (Below.refl _ _) (Nat.le_refl _) (by simp) ?_; (case hd => rfl); (case hg => rfl); (case hr => first | (go_simp; done) | (go_simp; rfl)); (case hp => exact (Reps.c2 (show Kd.M k23 _ _ _ (⟨a0_2, a0_3⟩ : S23) [.int .i64 a0_2, .int .i64 a0_3] from (k23_mkM _ _ _ (⟨a0_2, a0_3⟩ : S23) )) (Reps.c2 (show Kd.M k23 _ _ _ (⟨a1_2, a1_3⟩ : S23) [.int .i64 a1_2, .int .i64 a1_3] from (k23_mkM _ _ _ (⟨a1_2, a1_3⟩ : S23) )) (Reps.none _ _))))
                            intro v290 w22 ho23 hb hg_ hnew_
                            clear hg_ hnew_
                            (first | rw [← Ny289.out] at ho23 | (simp only [Int.reduceToNat] at ho23; rw [← Ny289.out] at ho23))
                            have HO291 := Aside0.mk (Kd.R_lower (Kd.R_new' ho23 (Kd.R_lt (kr HO286))) (below_size (bl HB)))
                            replace HO286 := Aside0.mk (Kd.R_elder' (kr HO286) (Kd.R_base ho23) hb)
                            replace BK280 := bkb BK280 hb
                            replace BK281 := bkb BK281 hb
                            replace BK282 := bkb BK282 hb
                            replace BK299 := bkb BK299 hb
                            replace HB := bst HB hb
                            clear hb ho23
                            refine hK.out _ _ (c4 BK280 (e4 BK281)) (fun hHeld => ?_)
                            clear hK K
                            refine nrp 24 ?_
                            exact nrm (hJ4_10_16 ((Value.slice Ao22 y284.length co22), v290, gb299) _ ⟨hHeld, (by (with_reducible repeat (first | apply Kd.R_alloc | apply Kd.R_drewN | apply Kd.R_drew)); exact Kd.R_mono HO286.out (fun _ hk => hk.2)), (by (with_reducible repeat (first | apply Kd.R_alloc | apply Kd.R_drewN | apply Kd.R_drew)); exact Kd.R_mono HO291.out (fun _ hk => hk.2)), (bk BK280), (bk BK281), (bk BK282), (bk BK299), GW299.out, GE299.out, NB280_299.out, NB299_280.out, NB281_299.out, NB299_281.out, NB282_299.out, NB299_282.out, (bl HB)⟩)
                      · skip
                        rintro ⟨v285, v290⟩ w22 ⟨hS_, h0_, h1_, h2_, h3_, h4_, h5_⟩
                        have HO286 : Aside0 (Kd.R k23 23 w22 w.heap.size (fun k_ => some k_ ≠ (v290 : Value).ownBlock) v285 y284) := ⟨h0_⟩
                        have HO291 : Aside0 (Kd.R k23 23 w22 w.heap.size (fun k_ => some k_ ≠ (v285 : Value).ownBlock) v290 y289) := ⟨h1_⟩
                        replace BK280 : Aside0 (w22.heap[gb280]? = some (.cells #[.int .i64 a0_0, .int .i64 a0_1, .int .i64 a0_2, .int .i64 a0_3] 25 (0, 0))) := ⟨h2_⟩
                        replace BK281 : Aside0 (w22.heap[gb281]? = some (.cells #[.int .i64 a1_0, .int .i64 a1_1, .int .i64 a1_2, .int .i64 a1_3] 25 (0, 0))) := ⟨h3_⟩
                        replace BK282 : Aside0 (w22.heap[gb282]? = some (.cells #[.int .i64 0, .int .i64 0, .int .i64 0, .int .i64 0] 25 (0, 0))) := ⟨h4_⟩
                        replace HB : Aside0 (Below w.heap.size w w22) := ⟨h5_⟩
                        clear h0_ h1_ h2_ h3_ h4_ h5_
                        have hHeld : w22.cell? ⟨gb280, 0, none⟩ = some (.int .i64 a0_0) ∧ w22.cell? ⟨gb280, 1, none⟩ = some (.int .i64 a0_1) ∧ w22.cell? ⟨gb280, 2, none⟩ = some (.int .i64 a0_2) ∧ w22.cell? ⟨gb280, 3, none⟩ = some (.int .i64 a0_3) ∧ w22.cell? ⟨gb281, 0, none⟩ = some (.int .i64 a1_0) ∧ w22.cell? ⟨gb281, 1, none⟩ = some (.int .i64 a1_1) ∧ w22.cell? ⟨gb281, 2, none⟩ = some (.int .i64 a1_2) ∧ w22.cell? ⟨gb281, 3, none⟩ = some (.int .i64 a1_3) := hS_
                        obtain ⟨Ao23, co23, eo23⟩ := Kd.R_slice HO286.out
                        (first | subst eo23 | (injection eo23 with f1_ f2_ f3_; have f4_ := f1_.symm; have f5_ := f3_.symm; clear f1_ f2_ f3_; subst f4_; subst f5_))
                        refine nra ?_
                        refine two_ (i := 5) (j := 16) (Ni := some 19) (Nj := some 6) #[true, true, true, true, true, true, true, true, true, true, true, false, false, false, false, false, false, false, false] #[true, true, true, true, true, false, true, true, true, true, true, false, false, false, false, false, true, false, false] rfl rfl rfl rfl (two_of HT_.out (by kernel_rfl)) (by decide) (by decide) (fun K hK => ?_) (fun K hK => ?_)
                        · skip
                          refine goes_ Try.func46 (by kernel_rfl) rfl #[.slice Ao23 y284.length co23] (by rfl) rfl rfl (by (try simp only [List.map_toArray, List.map_cons, List.map_nil]); first | done | rfl | (simp only [List.length_drop, List.length_take]; rfl)) ?_
                          with_reducible refine (cut_Greatest.calls k _ _ y284 t287 t288 _ ?side1 ?side2 A5.out).mono ?_
                          (case side1 => repeat (first | exact (Kd.R_reads' HO286.out).2.2 | (with_reducible refine Kd.C_alloc ?_ _) | (with_reducible refine Kd.C_drewN ?_ _) | (with_reducible refine Kd.C_drew ?_)))
                          (case side2 => exact (Kd.R_reads' HO286.out).2.1)
                          rintro e w24 ⟨rfl, hb⟩
                          refine ⟨_, rfl, ?_⟩
                          replace HO286 := krb HO286 hb
                          replace HO291 := krb HO291 hb
                          replace BK280 := bkb BK280 hb
                          replace BK281 := bkb BK281 hb
                          replace BK282 := bkb BK282 hb
                          replace HB := bst HB hb
                          (try clear hb)
                          (try clear hb2)
                          (try clear hk)
                          (try clear hi)
                          refine hK.out _ _ (c4 BK280 (e4 BK281)) (fun hHeld => ?_)
                          clear hK K
                          refine nrp 19 ?_
                          exact nrm (hJ4_5_10 (.slice Ao23 y284.length co23, v290) _ ⟨hHeld, (kr HO286), (kr HO291), (bk BK280), (bk BK281), (bk BK282), (bl HB)⟩)
                        · skip
                          refine box_step ?hg (N := 6) ?hd (cs := #[.int .i64 0, .int .i64 0, .int .i64 0, .int .i64 0]) (t := 25) ?hr ?_; (case hd => rfl); (case hg => rfl); (case hr => first | (go_simp; done) | (go_simp; rfl))
                          intro gb299 hg w23 hbox hb
                          replace HO286 := krb HO286 hb
                          replace HO291 := krb HO291 hb
                          have BK299 := Aside0.mk (hbox)
                          have GW299 := lsz hg HB
                          have GE299 := lsz hg HB
                          replace HB := bst HB hb
                          have NB280_299 := nlt hg BK280
                          have NB299_280 := ngt hg BK280
                          replace BK280 := bkb BK280 hb
                          have NB281_299 := nlt hg BK281
                          have NB299_281 := ngt hg BK281
                          replace BK281 := bkb BK281 hb
                          have NB282_299 := nlt hg BK282
                          have NB299_282 := ngt hg BK282
                          replace BK282 := bkb BK282 hb
                          clear hb hbox hg
                          refine hK.out _ _ (c4 BK280 (e4 BK281)) (fun hHeld => ?_)
                          clear hK K
                          refine nrp 6 ?_
                          exact nrm (hJ4_10_16 ((Value.slice Ao23 y284.length co23), v290, gb299) _ ⟨hHeld, (kr HO286), (kr HO291), (bk BK280), (bk BK281), (bk BK282), (bk BK299), GW299.out, GE299.out, NB280_299.out, NB299_280.out, NB281_299.out, NB299_281.out, NB282_299.out, NB299_282.out, (bl HB)⟩)
                    · skip
                      rintro v285 w22 ⟨hS_, h0_, h1_, h2_, h3_, h4_⟩
                      have HO286 : Aside0 (Kd.R k23 23 w22 w.heap.size (fun _ => True) v285 y284) := ⟨h0_⟩
                      replace BK280 : Aside0 (w22.heap[gb280]? = some (.cells #[.int .i64 a0_0, .int .i64 a0_1, .int .i64 a0_2, .int .i64 a0_3] 25 (0, 0))) := ⟨h1_⟩
                      replace BK281 : Aside0 (w22.heap[gb281]? = some (.cells #[.int .i64 a1_0, .int .i64 a1_1, .int .i64 a1_2, .int .i64 a1_3] 25 (0, 0))) := ⟨h2_⟩
                      replace BK282 : Aside0 (w22.heap[gb282]? = some (.cells #[.int .i64 0, .int .i64 0, .int .i64 0, .int .i64 0] 25 (0, 0))) := ⟨h3_⟩
                      replace HB : Aside0 (Below w.heap.size w w22) := ⟨h4_⟩
                      clear h0_ h1_ h2_ h3_ h4_
                      have hHeld : w22.cell? ⟨gb280, 0, none⟩ = some (.int .i64 a0_0) ∧ w22.cell? ⟨gb280, 1, none⟩ = some (.int .i64 a0_1) ∧ w22.cell? ⟨gb280, 2, none⟩ = some (.int .i64 a0_2) ∧ w22.cell? ⟨gb280, 3, none⟩ = some (.int .i64 a0_3) ∧ w22.cell? ⟨gb281, 0, none⟩ = some (.int .i64 a1_0) ∧ w22.cell? ⟨gb281, 1, none⟩ = some (.int .i64 a1_1) ∧ w22.cell? ⟨gb281, 2, none⟩ = some (.int .i64 a1_2) ∧ w22.cell? ⟨gb281, 3, none⟩ = some (.int .i64 a1_3) := hS_
                      refine nra ?_
                      refine two_ (i := 10) (j := 16) (Ni := some 24) (Nj := some 6) #[true, true, true, true, true, true, true, true, true, true, true, false, false, false, false, false, false, false, false] #[true, true, true, true, true, true, true, true, true, true, false, false, false, false, false, false, true, false, false] rfl rfl rfl rfl (two_of HT_.out (by kernel_rfl)) (by decide) (by decide) (fun K hK => ?_) (fun K hK => ?_)
                      · skip
                        refine Kd.R_lit_step k23 _ 23 ?hg (N := 24) ?hd (xs := ([(⟨a0_2, a0_3⟩ : S23), (⟨a1_2, a1_3⟩ : S23)] : List (S23))) (inner := [.int .i64 a0_2, .int .i64 a0_3, .int .i64 a1_2, .int .i64 a1_3]) (ok := fun _ => True) (okp := fun _ => True) ?hr ?hp (fun _ hk => hk) trivial (Below.refl _ _) (Nat.le_refl _) (by simp) ?_; (case hd => rfl); (case hg => rfl); (case hr => first | (go_simp; done) | (go_simp; rfl)); (case hp => exact (Reps.c2 (show Kd.M k23 _ _ _ (⟨a0_2, a0_3⟩ : S23) [.int .i64 a0_2, .int .i64 a0_3] from (k23_mkM _ _ _ (⟨a0_2, a0_3⟩ : S23) )) (Reps.c2 (show Kd.M k23 _ _ _ (⟨a1_2, a1_3⟩ : S23) [.int .i64 a1_2, .int .i64 a1_3] from (k23_mkM _ _ _ (⟨a1_2, a1_3⟩ : S23) )) (Reps.none _ _))))
                        intro v290 w23 ho24 hb hg_ hnew_
                        clear hg_ hnew_
                        (first | rw [← Ny289.out] at ho24 | (simp only [Int.reduceToNat] at ho24; rw [← Ny289.out] at ho24))
                        have HO291 := Aside0.mk (Kd.R_lower (Kd.R_new' ho24 (Kd.R_lt (kr HO286))) (below_size (bl HB)))
                        replace HO286 := Aside0.mk (Kd.R_elder' (kr HO286) (Kd.R_base ho24) hb)
                        replace BK280 := bkb BK280 hb
                        replace BK281 := bkb BK281 hb
                        replace BK282 := bkb BK282 hb
                        replace HB := bst HB hb
                        clear hb ho24
                        refine hK.out _ _ (c4 BK280 (e4 BK281)) (fun hHeld => ?_)
                        clear hK K
                        refine nrp 24 ?_
                        exact nrm (hJ4_5_10 (v285, v290) _ ⟨hHeld, (by (with_reducible repeat (first | apply Kd.R_alloc | apply Kd.R_drewN | apply Kd.R_drew)); exact Kd.R_mono HO286.out (fun _ hk => hk.2)), (by (with_reducible repeat (first | apply Kd.R_alloc | apply Kd.R_drewN | apply Kd.R_drew)); exact Kd.R_mono HO291.out (fun _ hk => hk.2)), (bk BK280), (bk BK281), (bk BK282), (bl HB)⟩)
                      · skip
                        refine box_step ?hg (N := 6) ?hd (cs := #[.int .i64 0, .int .i64 0, .int .i64 0, .int .i64 0]) (t := 25) ?hr ?_; (case hd => rfl); (case hg => rfl); (case hr => first | (go_simp; done) | (go_simp; rfl))
                        intro gb299 hg w23 hbox hb
                        replace HO286 := krb HO286 hb
                        have BK299 := Aside0.mk (hbox)
                        have GW299 := lsz hg HB
                        have GE299 := lsz hg HB
                        replace HB := bst HB hb
                        have NB280_299 := nlt hg BK280
                        have NB299_280 := ngt hg BK280
                        replace BK280 := bkb BK280 hb
                        have NB281_299 := nlt hg BK281
                        have NB299_281 := ngt hg BK281
                        replace BK281 := bkb BK281 hb
                        have NB282_299 := nlt hg BK282
                        have NB299_282 := ngt hg BK282
                        replace BK282 := bkb BK282 hb
                        clear hb hbox hg
                        refine hK.out _ _ (c4 BK280 (e4 BK281)) (fun hHeld => ?_)
                        clear hK K
                        refine nrp 6 ?_
                        exact nrm (hJ4_5_16 (v285, gb299) _ ⟨hHeld, (kr HO286), (bk BK280), (bk BK281), (bk BK282), (bk BK299), GW299.out, GE299.out, NB280_299.out, NB299_280.out, NB281_299.out, NB299_281.out, NB282_299.out, NB299_282.out, (bl HB)⟩)
                  · skip
                    rintro ⟨v285, v290, gb299⟩ w23 ⟨hS_, h0_, h1_, h2_, h3_, h4_, h5_, h6_, h7_, h8_, h9_, h10_, h11_, h12_, h13_, h14_⟩
                    have HO286 : Aside0 (Kd.R k23 23 w23 w.heap.size (fun k_ => some k_ ≠ (v290 : Value).ownBlock) v285 y284) := ⟨h0_⟩
                    have HO291 : Aside0 (Kd.R k23 23 w23 w.heap.size (fun k_ => some k_ ≠ (v285 : Value).ownBlock) v290 y289) := ⟨h1_⟩
                    replace BK280 : Aside0 (w23.heap[gb280]? = some (.cells #[.int .i64 a0_0, .int .i64 a0_1, .int .i64 a0_2, .int .i64 a0_3] 25 (0, 0))) := ⟨h2_⟩
                    replace BK281 : Aside0 (w23.heap[gb281]? = some (.cells #[.int .i64 a1_0, .int .i64 a1_1, .int .i64 a1_2, .int .i64 a1_3] 25 (0, 0))) := ⟨h3_⟩
                    replace BK282 : Aside0 (w23.heap[gb282]? = some (.cells #[.int .i64 0, .int .i64 0, .int .i64 0, .int .i64 0] 25 (0, 0))) := ⟨h4_⟩
                    have BK299 : Aside0 (w23.heap[gb299]? = some (.cells #[.int .i64 0, .int .i64 0, .int .i64 0, .int .i64 0] 25 (0, 0))) := ⟨h5_⟩
                    have GW299 : Aside0 (w.heap.size ≤ gb299) := ⟨h6_⟩
                    have GE299 : Aside0 (w.heap.size ≤ gb299) := ⟨h7_⟩
                    have NB280_299 : Aside0 (gb280 ≠ gb299) := ⟨h8_⟩
                    have NB299_280 : Aside0 (gb299 ≠ gb280) := ⟨h9_⟩
                    have NB281_299 : Aside0 (gb281 ≠ gb299) := ⟨h10_⟩
                    have NB299_281 : Aside0 (gb299 ≠ gb281) := ⟨h11_⟩
                    have NB282_299 : Aside0 (gb282 ≠ gb299) := ⟨h12_⟩
                    have NB299_282 : Aside0 (gb299 ≠ gb282) := ⟨h13_⟩
                    replace HB : Aside0 (Below w.heap.size w w23) := ⟨h14_⟩
                    clear h0_ h1_ h2_ h3_ h4_ h5_ h6_ h7_ h8_ h9_ h10_ h11_ h12_ h13_ h14_
                    have hHeld : w23.cell? ⟨gb280, 0, none⟩ = some (.int .i64 a0_0) ∧ w23.cell? ⟨gb280, 1, none⟩ = some (.int .i64 a0_1) ∧ w23.cell? ⟨gb280, 2, none⟩ = some (.int .i64 a0_2) ∧ w23.cell? ⟨gb280, 3, none⟩ = some (.int .i64 a0_3) ∧ w23.cell? ⟨gb281, 0, none⟩ = some (.int .i64 a1_0) ∧ w23.cell? ⟨gb281, 1, none⟩ = some (.int .i64 a1_1) ∧ w23.cell? ⟨gb281, 2, none⟩ = some (.int .i64 a1_2) ∧ w23.cell? ⟨gb281, 3, none⟩ = some (.int .i64 a1_3) := hS_
                    obtain ⟨Ao24, co24, eo24⟩ := Kd.R_slice HO286.out
                    (first | subst eo24 | (injection eo24 with f1_ f2_ f3_; have f4_ := f1_.symm; have f5_ := f3_.symm; clear f1_ f2_ f3_; subst f4_; subst f5_))
                    refine nra ?_
                    refine one_ (i := 5) (N := some 19) #[true, true, true, true, true, true, true, true, true, true, true, false, false, false, false, false, true, false, false] rfl rfl (one_of HT_.out (by kernel_rfl)) (by decide) (fun K hK => ?_)
                    refine goes_ Try.func46 (by kernel_rfl) rfl #[.slice Ao24 y284.length co24] (by rfl) rfl rfl (by (try simp only [List.map_toArray, List.map_cons, List.map_nil]); first | done | rfl | (simp only [List.length_drop, List.length_take]; rfl)) ?_
                    with_reducible refine (cut_Greatest.calls k _ _ y284 t287 t288 _ ?side1 ?side2 A5.out).mono ?_
                    (case side1 => repeat (first | exact (Kd.R_reads' HO286.out).2.2 | (with_reducible refine Kd.C_alloc ?_ _) | (with_reducible refine Kd.C_drewN ?_ _) | (with_reducible refine Kd.C_drew ?_)))
                    (case side2 => exact (Kd.R_reads' HO286.out).2.1)
                    rintro e w25 ⟨rfl, hb⟩
                    refine ⟨_, rfl, ?_⟩
                    replace HO286 := krb HO286 hb
                    replace HO291 := krb HO291 hb
                    replace BK280 := bkb BK280 hb
                    replace BK281 := bkb BK281 hb
                    replace BK282 := bkb BK282 hb
                    replace BK299 := bkb BK299 hb
                    replace HB := bst HB hb
                    (try clear hb)
                    (try clear hb2)
                    (try clear hk)
                    (try clear hi)
                    refine hK.out _ _ (c4 BK280 (e4 BK281)) (fun hHeld => ?_)
                    clear hK K
                    refine nrp 19 ?_
                    exact nrm (hJ4_5_10_16 (.slice Ao24 y284.length co24, v290, gb299) _ ⟨hHeld, (kr HO286), (kr HO291), (bk BK280), (bk BK281), (bk BK282), (bk BK299), GW299.out, GE299.out, NB280_299.out, NB299_280.out, NB281_299.out, NB299_281.out, NB282_299.out, NB299_282.out, (bl HB)⟩)
                · skip
                  rintro ⟨v285, gb299⟩ w23 ⟨hS_, h0_, h1_, h2_, h3_, h4_, h5_, h6_, h7_, h8_, h9_, h10_, h11_, h12_, h13_⟩
                  have HO286 : Aside0 (Kd.R k23 23 w23 w.heap.size (fun _ => True) v285 y284) := ⟨h0_⟩
                  replace BK280 : Aside0 (w23.heap[gb280]? = some (.cells #[.int .i64 a0_0, .int .i64 a0_1, .int .i64 a0_2, .int .i64 a0_3] 25 (0, 0))) := ⟨h1_⟩
                  replace BK281 : Aside0 (w23.heap[gb281]? = some (.cells #[.int .i64 a1_0, .int .i64 a1_1, .int .i64 a1_2, .int .i64 a1_3] 25 (0, 0))) := ⟨h2_⟩
                  replace BK282 : Aside0 (w23.heap[gb282]? = some (.cells #[.int .i64 0, .int .i64 0, .int .i64 0, .int .i64 0] 25 (0, 0))) := ⟨h3_⟩
                  have BK299 : Aside0 (w23.heap[gb299]? = some (.cells #[.int .i64 0, .int .i64 0, .int .i64 0, .int .i64 0] 25 (0, 0))) := ⟨h4_⟩
                  have GW299 : Aside0 (w.heap.size ≤ gb299) := ⟨h5_⟩
                  have GE299 : Aside0 (w.heap.size ≤ gb299) := ⟨h6_⟩
                  have NB280_299 : Aside0 (gb280 ≠ gb299) := ⟨h7_⟩
                  have NB299_280 : Aside0 (gb299 ≠ gb280) := ⟨h8_⟩
                  have NB281_299 : Aside0 (gb281 ≠ gb299) := ⟨h9_⟩
                  have NB299_281 : Aside0 (gb299 ≠ gb281) := ⟨h10_⟩
                  have NB282_299 : Aside0 (gb282 ≠ gb299) := ⟨h11_⟩
                  have NB299_282 : Aside0 (gb299 ≠ gb282) := ⟨h12_⟩
                  replace HB : Aside0 (Below w.heap.size w w23) := ⟨h13_⟩
                  clear h0_ h1_ h2_ h3_ h4_ h5_ h6_ h7_ h8_ h9_ h10_ h11_ h12_ h13_
                  have hHeld : w23.cell? ⟨gb280, 0, none⟩ = some (.int .i64 a0_0) ∧ w23.cell? ⟨gb280, 1, none⟩ = some (.int .i64 a0_1) ∧ w23.cell? ⟨gb280, 2, none⟩ = some (.int .i64 a0_2) ∧ w23.cell? ⟨gb280, 3, none⟩ = some (.int .i64 a0_3) ∧ w23.cell? ⟨gb281, 0, none⟩ = some (.int .i64 a1_0) ∧ w23.cell? ⟨gb281, 1, none⟩ = some (.int .i64 a1_1) ∧ w23.cell? ⟨gb281, 2, none⟩ = some (.int .i64 a1_2) ∧ w23.cell? ⟨gb281, 3, none⟩ = some (.int .i64 a1_3) := hS_
                  refine nra ?_
                  refine one_ (i := 10) (N := some 24) #[true, true, true, true, true, true, true, true, true, true, true, false, false, false, false, false, true, false, false] rfl rfl (one_of HT_.out (by kernel_rfl)) (by decide) (fun K hK => ?_)
                  refine Kd.R_lit_step k23 _ 23 ?hg (N := 24) ?hd (xs := ([(⟨a0_2, a0_3⟩ : S23), (⟨a1_2, a1_3⟩ : S23)] : List (S23))) (inner := [.int .i64 a0_2, .int .i64 a0_3, .int .i64 a1_2, .int .i64 a1_3]) (ok := fun _ => True) (okp := fun _ => True) ?hr ?hp (fun _ hk => hk) trivial (Below.refl _ _) (Nat.le_refl _) (by simp) ?_; (case hd => rfl); (case hg => rfl); (case hr => first | (go_simp; done) | (go_simp; rfl)); (case hp => exact (Reps.c2 (show Kd.M k23 _ _ _ (⟨a0_2, a0_3⟩ : S23) [.int .i64 a0_2, .int .i64 a0_3] from (k23_mkM _ _ _ (⟨a0_2, a0_3⟩ : S23) )) (Reps.c2 (show Kd.M k23 _ _ _ (⟨a1_2, a1_3⟩ : S23) [.int .i64 a1_2, .int .i64 a1_3] from (k23_mkM _ _ _ (⟨a1_2, a1_3⟩ : S23) )) (Reps.none _ _))))
                  intro v290 w24 ho25 hb hg_ hnew_
                  clear hg_ hnew_
                  (first | rw [← Ny289.out] at ho25 | (simp only [Int.reduceToNat] at ho25; rw [← Ny289.out] at ho25))
                  have HO291 := Aside0.mk (Kd.R_lower (Kd.R_new' ho25 (Kd.R_lt (kr HO286))) (below_size (bl HB)))
                  replace HO286 := Aside0.mk (Kd.R_elder' (kr HO286) (Kd.R_base ho25) hb)
                  replace BK280 := bkb BK280 hb
                  replace BK281 := bkb BK281 hb
                  replace BK282 := bkb BK282 hb
                  replace BK299 := bkb BK299 hb
                  replace HB := bst HB hb
                  clear hb ho25
                  refine hK.out _ _ (c4 BK280 (e4 BK281)) (fun hHeld => ?_)
                  clear hK K
                  refine nrp 24 ?_
                  exact nrm (hJ4_5_10_16 (v285, v290, gb299) _ ⟨hHeld, (by (with_reducible repeat (first | apply Kd.R_alloc | apply Kd.R_drewN | apply Kd.R_drew)); exact Kd.R_mono HO286.out (fun _ hk => hk.2)), (by (with_reducible repeat (first | apply Kd.R_alloc | apply Kd.R_drewN | apply Kd.R_drew)); exact Kd.R_mono HO291.out (fun _ hk => hk.2)), (bk BK280), (bk BK281), (bk BK282), (bk BK299), GW299.out, GE299.out, NB280_299.out, NB299_280.out, NB281_299.out, NB299_281.out, NB282_299.out, NB299_282.out, (bl HB)⟩)
              · skip
                rintro ⟨v285, v290⟩ w24 ⟨hS_, h0_, h1_, h2_, h3_, h4_, h5_⟩
                have HO286 : Aside0 (Kd.R k23 23 w24 w.heap.size (fun k_ => some k_ ≠ (v290 : Value).ownBlock) v285 y284) := ⟨h0_⟩
                have HO291 : Aside0 (Kd.R k23 23 w24 w.heap.size (fun k_ => some k_ ≠ (v285 : Value).ownBlock) v290 y289) := ⟨h1_⟩
                replace BK280 : Aside0 (w24.heap[gb280]? = some (.cells #[.int .i64 a0_0, .int .i64 a0_1, .int .i64 a0_2, .int .i64 a0_3] 25 (0, 0))) := ⟨h2_⟩
                replace BK281 : Aside0 (w24.heap[gb281]? = some (.cells #[.int .i64 a1_0, .int .i64 a1_1, .int .i64 a1_2, .int .i64 a1_3] 25 (0, 0))) := ⟨h3_⟩
                replace BK282 : Aside0 (w24.heap[gb282]? = some (.cells #[.int .i64 0, .int .i64 0, .int .i64 0, .int .i64 0] 25 (0, 0))) := ⟨h4_⟩
                replace HB : Aside0 (Below w.heap.size w w24) := ⟨h5_⟩
                clear h0_ h1_ h2_ h3_ h4_ h5_
                have hHeld : w24.cell? ⟨gb280, 0, none⟩ = some (.int .i64 a0_0) ∧ w24.cell? ⟨gb280, 1, none⟩ = some (.int .i64 a0_1) ∧ w24.cell? ⟨gb280, 2, none⟩ = some (.int .i64 a0_2) ∧ w24.cell? ⟨gb280, 3, none⟩ = some (.int .i64 a0_3) ∧ w24.cell? ⟨gb281, 0, none⟩ = some (.int .i64 a1_0) ∧ w24.cell? ⟨gb281, 1, none⟩ = some (.int .i64 a1_1) ∧ w24.cell? ⟨gb281, 2, none⟩ = some (.int .i64 a1_2) ∧ w24.cell? ⟨gb281, 3, none⟩ = some (.int .i64 a1_3) := hS_
                obtain ⟨Ao25, co25, eo25⟩ := Kd.R_slice HO291.out
                (first | subst eo25 | (injection eo25 with f1_ f2_ f3_; have f4_ := f1_.symm; have f5_ := f3_.symm; clear f1_ f2_ f3_; subst f4_; subst f5_))
                refine nra ?_
                refine two_ (i := 11) (j := 16) (Ni := some 25) (Nj := some 6) #[true, true, true, true, true, true, true, true, true, true, true, true, false, false, false, false, false, false, false] #[true, true, true, true, true, true, true, true, true, true, true, false, false, false, false, false, true, false, false] rfl rfl rfl rfl (two_of HT_.out (by kernel_rfl)) (by decide) (by decide) (fun K hK => ?_) (fun K hK => ?_)
                · skip
                  refine goes_ Try.func47 (by kernel_rfl) rfl #[.slice Ao25 y289.length co25] (by rfl) rfl rfl (by (try simp only [List.map_toArray, List.map_cons, List.map_nil]); first | done | rfl | (simp only [List.length_drop, List.length_take]; rfl)) ?_
                  with_reducible refine (cut_Least.calls k _ _ y289 t292 t293 _ ?side1 ?side2 A6.out).mono ?_
                  (case side1 => repeat (first | exact (Kd.R_reads' HO291.out).2.2 | (with_reducible refine Kd.C_alloc ?_ _) | (with_reducible refine Kd.C_drewN ?_ _) | (with_reducible refine Kd.C_drew ?_)))
                  (case side2 => exact (Kd.R_reads' HO291.out).2.1)
                  rintro e w26 ⟨rfl, hb⟩
                  refine ⟨_, rfl, ?_⟩
                  replace HO286 := krb HO286 hb
                  replace HO291 := krb HO291 hb
                  replace BK280 := bkb BK280 hb
                  replace BK281 := bkb BK281 hb
                  replace BK282 := bkb BK282 hb
                  replace HB := bst HB hb
                  (try clear hb)
                  (try clear hb2)
                  (try clear hk)
                  (try clear hi)
                  refine hK.out _ _ (c4 BK280 (e4 BK281)) (fun hHeld => ?_)
                  clear hK K
                  refine nrp 25 ?_
                  exact nrm (hJ4_5_10_11 (v285, .slice Ao25 y289.length co25) _ ⟨hHeld, (kr HO286), (kr HO291), (bk BK280), (bk BK281), (bk BK282), (bl HB)⟩)
                · skip
                  refine box_step ?hg (N := 6) ?hd (cs := #[.int .i64 0, .int .i64 0, .int .i64 0, .int .i64 0]) (t := 25) ?hr ?_; (case hd => rfl); (case hg => rfl); (case hr => first | (go_simp; done) | (go_simp; rfl))
                  intro gb299 hg w25 hbox hb
                  replace HO286 := krb HO286 hb
                  replace HO291 := krb HO291 hb
                  have BK299 := Aside0.mk (hbox)
                  have GW299 := lsz hg HB
                  have GE299 := lsz hg HB
                  replace HB := bst HB hb
                  have NB280_299 := nlt hg BK280
                  have NB299_280 := ngt hg BK280
                  replace BK280 := bkb BK280 hb
                  have NB281_299 := nlt hg BK281
                  have NB299_281 := ngt hg BK281
                  replace BK281 := bkb BK281 hb
                  have NB282_299 := nlt hg BK282
                  have NB299_282 := ngt hg BK282
                  replace BK282 := bkb BK282 hb
                  clear hb hbox hg
                  refine hK.out _ _ (c4 BK280 (e4 BK281)) (fun hHeld => ?_)
                  clear hK K
                  refine nrp 6 ?_
                  exact nrm (hJ4_5_10_16 (v285, (Value.slice Ao25 y289.length co25), gb299) _ ⟨hHeld, (kr HO286), (kr HO291), (bk BK280), (bk BK281), (bk BK282), (bk BK299), GW299.out, GE299.out, NB280_299.out, NB299_280.out, NB281_299.out, NB299_281.out, NB282_299.out, NB299_282.out, (bl HB)⟩)
            · skip
              rintro ⟨v285, v290, gb299⟩ w25 ⟨hS_, h0_, h1_, h2_, h3_, h4_, h5_, h6_, h7_, h8_, h9_, h10_, h11_, h12_, h13_, h14_⟩
              have HO286 : Aside0 (Kd.R k23 23 w25 w.heap.size (fun k_ => some k_ ≠ (v290 : Value).ownBlock) v285 y284) := ⟨h0_⟩
              have HO291 : Aside0 (Kd.R k23 23 w25 w.heap.size (fun k_ => some k_ ≠ (v285 : Value).ownBlock) v290 y289) := ⟨h1_⟩
              replace BK280 : Aside0 (w25.heap[gb280]? = some (.cells #[.int .i64 a0_0, .int .i64 a0_1, .int .i64 a0_2, .int .i64 a0_3] 25 (0, 0))) := ⟨h2_⟩
              replace BK281 : Aside0 (w25.heap[gb281]? = some (.cells #[.int .i64 a1_0, .int .i64 a1_1, .int .i64 a1_2, .int .i64 a1_3] 25 (0, 0))) := ⟨h3_⟩
              replace BK282 : Aside0 (w25.heap[gb282]? = some (.cells #[.int .i64 0, .int .i64 0, .int .i64 0, .int .i64 0] 25 (0, 0))) := ⟨h4_⟩
              have BK299 : Aside0 (w25.heap[gb299]? = some (.cells #[.int .i64 0, .int .i64 0, .int .i64 0, .int .i64 0] 25 (0, 0))) := ⟨h5_⟩
              have GW299 : Aside0 (w.heap.size ≤ gb299) := ⟨h6_⟩
              have GE299 : Aside0 (w.heap.size ≤ gb299) := ⟨h7_⟩
              have NB280_299 : Aside0 (gb280 ≠ gb299) := ⟨h8_⟩
              have NB299_280 : Aside0 (gb299 ≠ gb280) := ⟨h9_⟩
              have NB281_299 : Aside0 (gb281 ≠ gb299) := ⟨h10_⟩
              have NB299_281 : Aside0 (gb299 ≠ gb281) := ⟨h11_⟩
              have NB282_299 : Aside0 (gb282 ≠ gb299) := ⟨h12_⟩
              have NB299_282 : Aside0 (gb299 ≠ gb282) := ⟨h13_⟩
              replace HB : Aside0 (Below w.heap.size w w25) := ⟨h14_⟩
              clear h0_ h1_ h2_ h3_ h4_ h5_ h6_ h7_ h8_ h9_ h10_ h11_ h12_ h13_ h14_
              have hHeld : w25.cell? ⟨gb280, 0, none⟩ = some (.int .i64 a0_0) ∧ w25.cell? ⟨gb280, 1, none⟩ = some (.int .i64 a0_1) ∧ w25.cell? ⟨gb280, 2, none⟩ = some (.int .i64 a0_2) ∧ w25.cell? ⟨gb280, 3, none⟩ = some (.int .i64 a0_3) ∧ w25.cell? ⟨gb281, 0, none⟩ = some (.int .i64 a1_0) ∧ w25.cell? ⟨gb281, 1, none⟩ = some (.int .i64 a1_1) ∧ w25.cell? ⟨gb281, 2, none⟩ = some (.int .i64 a1_2) ∧ w25.cell? ⟨gb281, 3, none⟩ = some (.int .i64 a1_3) := hS_
              obtain ⟨Ao26, co26, eo26⟩ := Kd.R_slice HO291.out
              (first | subst eo26 | (injection eo26 with f1_ f2_ f3_; have f4_ := f1_.symm; have f5_ := f3_.symm; clear f1_ f2_ f3_; subst f4_; subst f5_))
              refine nra ?_
              refine one_ (i := 11) (N := some 25) #[true, true, true, true, true, true, true, true, true, true, true, true, false, false, false, false, true, false, false] rfl rfl (one_of HT_.out (by kernel_rfl)) (by decide) (fun K hK => ?_)
              refine goes_ Try.func47 (by kernel_rfl) rfl #[.slice Ao26 y289.length co26] (by rfl) rfl rfl (by (try simp only [List.map_toArray, List.map_cons, List.map_nil]); first | done | rfl | (simp only [List.length_drop, List.length_take]; rfl)) ?_
              with_reducible refine (cut_Least.calls k _ _ y289 t292 t293 _ ?side1 ?side2 A6.out).mono ?_
              (case side1 => repeat (first | exact (Kd.R_reads' HO291.out).2.2 | (with_reducible refine Kd.C_alloc ?_ _) | (with_reducible refine Kd.C_drewN ?_ _) | (with_reducible refine Kd.C_drew ?_)))
              (case side2 => exact (Kd.R_reads' HO291.out).2.1)
              rintro e w27 ⟨rfl, hb⟩
              refine ⟨_, rfl, ?_⟩
              replace HO286 := krb HO286 hb
              replace HO291 := krb HO291 hb
              replace BK280 := bkb BK280 hb
              replace BK281 := bkb BK281 hb
              replace BK282 := bkb BK282 hb
              replace BK299 := bkb BK299 hb
              replace HB := bst HB hb
              (try clear hb)
              (try clear hb2)
              (try clear hk)
              (try clear hi)
              refine hK.out _ _ (c4 BK280 (e4 BK281)) (fun hHeld => ?_)
              clear hK K
              refine nrp 25 ?_
              exact nrm (hJ4_5_10_11_16 (v285, .slice Ao26 y289.length co26, gb299) _ ⟨hHeld, (kr HO286), (kr HO291), (bk BK280), (bk BK281), (bk BK282), (bk BK299), GW299.out, GE299.out, NB280_299.out, NB299_280.out, NB281_299.out, NB299_281.out, NB282_299.out, NB299_282.out, (bl HB)⟩)
          · skip
            rintro ⟨v285, v290⟩ w26 ⟨hS_, h0_, h1_, h2_, h3_, h4_, h5_⟩
            have HO286 : Aside0 (Kd.R k23 23 w26 w.heap.size (fun k_ => some k_ ≠ (v290 : Value).ownBlock) v285 y284) := ⟨h0_⟩
            have HO291 : Aside0 (Kd.R k23 23 w26 w.heap.size (fun k_ => some k_ ≠ (v285 : Value).ownBlock) v290 y289) := ⟨h1_⟩
            replace BK280 : Aside0 (w26.heap[gb280]? = some (.cells #[.int .i64 a0_0, .int .i64 a0_1, .int .i64 a0_2, .int .i64 a0_3] 25 (0, 0))) := ⟨h2_⟩
            replace BK281 : Aside0 (w26.heap[gb281]? = some (.cells #[.int .i64 a1_0, .int .i64 a1_1, .int .i64 a1_2, .int .i64 a1_3] 25 (0, 0))) := ⟨h3_⟩
            replace BK282 : Aside0 (w26.heap[gb282]? = some (.cells #[.int .i64 0, .int .i64 0, .int .i64 0, .int .i64 0] 25 (0, 0))) := ⟨h4_⟩
            replace HB : Aside0 (Below w.heap.size w w26) := ⟨h5_⟩
            clear h0_ h1_ h2_ h3_ h4_ h5_
            have hHeld : w26.cell? ⟨gb280, 0, none⟩ = some (.int .i64 a0_0) ∧ w26.cell? ⟨gb280, 1, none⟩ = some (.int .i64 a0_1) ∧ w26.cell? ⟨gb280, 2, none⟩ = some (.int .i64 a0_2) ∧ w26.cell? ⟨gb280, 3, none⟩ = some (.int .i64 a0_3) ∧ w26.cell? ⟨gb281, 0, none⟩ = some (.int .i64 a1_0) ∧ w26.cell? ⟨gb281, 1, none⟩ = some (.int .i64 a1_1) ∧ w26.cell? ⟨gb281, 2, none⟩ = some (.int .i64 a1_2) ∧ w26.cell? ⟨gb281, 3, none⟩ = some (.int .i64 a1_3) := hS_
            refine nra ?_
            refine two_ (i := 12) (j := 16) (Ni := some 26) (Nj := some 6) #[true, true, true, true, true, true, true, true, true, true, true, true, true, false, false, false, false, false, false] #[true, true, true, true, true, true, true, true, true, true, true, true, false, false, false, false, true, false, false] rfl rfl rfl rfl (two_of HT_.out (by kernel_rfl)) (by decide) (by decide) (fun K hK => ?_) (fun K hK => ?_)
            · skip
              refine goes_ Try.func24 (by kernel_rfl) rfl #[.agg #[.int .i64 t287, .int .i64 t288], .agg #[.int .i64 t292, .int .i64 t293]] (by rfl) rfl rfl (by (try simp only [List.map_toArray, List.map_cons, List.map_nil]); first | done | rfl | (simp only [List.length_drop, List.length_take]; rfl)) ?_
              with_reducible refine (span_Of.calls k t287 t288 t292 t293 t294 t295 t296 t297 t298 _ A7.out).mono ?_
              rintro e w27 ⟨rfl, hb⟩
              refine ⟨_, rfl, ?_⟩
              replace HO286 := krb HO286 hb
              replace HO291 := krb HO291 hb
              replace BK280 := bkb BK280 hb
              replace BK281 := bkb BK281 hb
              replace BK282 := bkb BK282 hb
              replace HB := bst HB hb
              (try clear hb)
              (try clear hb2)
              (try clear hk)
              (try clear hi)
              refine hK.out _ _ (c4 BK280 (e4 BK281)) (fun hHeld => ?_)
              clear hK K
              refine nrp 26 ?_
              refine pu 13 (some 13) #[true, true, true, true, true, true, true, true, true, true, true, true, true, true, false, false, false, false, false] (any_of HT_.out (by kernel_rfl)) ?_
              refine pu 14 (some 27) #[true, true, true, true, true, true, true, true, true, true, true, true, true, true, true, false, false, false, false] (any_of HT_.out (by kernel_rfl)) ?_
              refine pu 15 (some 28) #[true, true, true, true, true, true, true, true, true, true, true, true, true, true, true, true, false, false, false] (any_of HT_.out (by kernel_rfl)) ?_
              exact nrm (hJ4_5_10_11_12 (v285, v290) _ ⟨hHeld, (kr HO286), (kr HO291), (bk BK280), (bk BK281), (bk BK282), (bl HB)⟩)
            · skip
              refine box_step ?hg (N := 6) ?hd (cs := #[.int .i64 0, .int .i64 0, .int .i64 0, .int .i64 0]) (t := 25) ?hr ?_; (case hd => rfl); (case hg => rfl); (case hr => first | (go_simp; done) | (go_simp; rfl))
              intro gb299 hg w27 hbox hb
              replace HO286 := krb HO286 hb
              replace HO291 := krb HO291 hb
              have BK299 := Aside0.mk (hbox)
              have GW299 := lsz hg HB
              have GE299 := lsz hg HB
              replace HB := bst HB hb
              have NB280_299 := nlt hg BK280
              have NB299_280 := ngt hg BK280
              replace BK280 := bkb BK280 hb
              have NB281_299 := nlt hg BK281
              have NB299_281 := ngt hg BK281
              replace BK281 := bkb BK281 hb
              have NB282_299 := nlt hg BK282
              have NB299_282 := ngt hg BK282
              replace BK282 := bkb BK282 hb
              clear hb hbox hg
              refine hK.out _ _ (c4 BK280 (e4 BK281)) (fun hHeld => ?_)
              clear hK K
              refine nrp 6 ?_
              exact nrm (hJ4_5_10_11_16 (v285, v290, gb299) _ ⟨hHeld, (kr HO286), (kr HO291), (bk BK280), (bk BK281), (bk BK282), (bk BK299), GW299.out, GE299.out, NB280_299.out, NB299_280.out, NB281_299.out, NB299_281.out, NB282_299.out, NB299_282.out, (bl HB)⟩)
        · skip
          rintro ⟨v285, v290, gb299⟩ w27 ⟨hS_, h0_, h1_, h2_, h3_, h4_, h5_, h6_, h7_, h8_, h9_, h10_, h11_, h12_, h13_, h14_⟩
          have HO286 : Aside0 (Kd.R k23 23 w27 w.heap.size (fun k_ => some k_ ≠ (v290 : Value).ownBlock) v285 y284) := ⟨h0_⟩
          have HO291 : Aside0 (Kd.R k23 23 w27 w.heap.size (fun k_ => some k_ ≠ (v285 : Value).ownBlock) v290 y289) := ⟨h1_⟩
          replace BK280 : Aside0 (w27.heap[gb280]? = some (.cells #[.int .i64 a0_0, .int .i64 a0_1, .int .i64 a0_2, .int .i64 a0_3] 25 (0, 0))) := ⟨h2_⟩
          replace BK281 : Aside0 (w27.heap[gb281]? = some (.cells #[.int .i64 a1_0, .int .i64 a1_1, .int .i64 a1_2, .int .i64 a1_3] 25 (0, 0))) := ⟨h3_⟩
          replace BK282 : Aside0 (w27.heap[gb282]? = some (.cells #[.int .i64 0, .int .i64 0, .int .i64 0, .int .i64 0] 25 (0, 0))) := ⟨h4_⟩
          have BK299 : Aside0 (w27.heap[gb299]? = some (.cells #[.int .i64 0, .int .i64 0, .int .i64 0, .int .i64 0] 25 (0, 0))) := ⟨h5_⟩
          have GW299 : Aside0 (w.heap.size ≤ gb299) := ⟨h6_⟩
          have GE299 : Aside0 (w.heap.size ≤ gb299) := ⟨h7_⟩
          have NB280_299 : Aside0 (gb280 ≠ gb299) := ⟨h8_⟩
          have NB299_280 : Aside0 (gb299 ≠ gb280) := ⟨h9_⟩
          have NB281_299 : Aside0 (gb281 ≠ gb299) := ⟨h10_⟩
          have NB299_281 : Aside0 (gb299 ≠ gb281) := ⟨h11_⟩
          have NB282_299 : Aside0 (gb282 ≠ gb299) := ⟨h12_⟩
          have NB299_282 : Aside0 (gb299 ≠ gb282) := ⟨h13_⟩
          replace HB : Aside0 (Below w.heap.size w w27) := ⟨h14_⟩
          clear h0_ h1_ h2_ h3_ h4_ h5_ h6_ h7_ h8_ h9_ h10_ h11_ h12_ h13_ h14_
          have hHeld : w27.cell? ⟨gb280, 0, none⟩ = some (.int .i64 a0_0) ∧ w27.cell? ⟨gb280, 1, none⟩ = some (.int .i64 a0_1) ∧ w27.cell? ⟨gb280, 2, none⟩ = some (.int .i64 a0_2) ∧ w27.cell? ⟨gb280, 3, none⟩ = some (.int .i64 a0_3) ∧ w27.cell? ⟨gb281, 0, none⟩ = some (.int .i64 a1_0) ∧ w27.cell? ⟨gb281, 1, none⟩ = some (.int .i64 a1_1) ∧ w27.cell? ⟨gb281, 2, none⟩ = some (.int .i64 a1_2) ∧ w27.cell? ⟨gb281, 3, none⟩ = some (.int .i64 a1_3) := hS_
          refine nra ?_
          refine one_ (i := 12) (N := some 26) #[true, true, true, true, true, true, true, true, true, true, true, true, true, false, false, false, true, false, false] rfl rfl (one_of HT_.out (by kernel_rfl)) (by decide) (fun K hK => ?_)
          refine goes_ Try.func24 (by kernel_rfl) rfl #[.agg #[.int .i64 t287, .int .i64 t288], .agg #[.int .i64 t292, .int .i64 t293]] (by rfl) rfl rfl (by (try simp only [List.map_toArray, List.map_cons, List.map_nil]); first | done | rfl | (simp only [List.length_drop, List.length_take]; rfl)) ?_
          with_reducible refine (span_Of.calls k t287 t288 t292 t293 t294 t295 t296 t297 t298 _ A7.out).mono ?_
          rintro e w28 ⟨rfl, hb⟩
          refine ⟨_, rfl, ?_⟩
          replace HO286 := krb HO286 hb
          replace HO291 := krb HO291 hb
          replace BK280 := bkb BK280 hb
          replace BK281 := bkb BK281 hb
          replace BK282 := bkb BK282 hb
          replace BK299 := bkb BK299 hb
          replace HB := bst HB hb
          (try clear hb)
          (try clear hb2)
          (try clear hk)
          (try clear hi)
          refine hK.out _ _ (c4 BK280 (e4 BK281)) (fun hHeld => ?_)
          clear hK K
          refine nrp 26 ?_
          refine pu 13 (some 13) #[true, true, true, true, true, true, true, true, true, true, true, true, true, true, false, false, true, false, false] (any_of HT_.out (by kernel_rfl)) ?_
          refine pu 14 (some 27) #[true, true, true, true, true, true, true, true, true, true, true, true, true, true, true, false, true, false, false] (any_of HT_.out (by kernel_rfl)) ?_
          refine pu 15 (some 28) #[true, true, true, true, true, true, true, true, true, true, true, true, true, true, true, true, true, false, false] (any_of HT_.out (by kernel_rfl)) ?_
          exact nrm (hJ4_5_10_11_12_16 (v285, v290, gb299) _ ⟨hHeld, (kr HO286), (kr HO291), (bk BK280), (bk BK281), (bk BK282), (bk BK299), GW299.out, GE299.out, NB280_299.out, NB299_280.out, NB281_299.out, NB299_281.out, NB282_299.out, NB299_282.out, (bl HB)⟩)
      · skip
        rintro ⟨v285, v290⟩ w27 ⟨hS_, h0_, h1_, h2_, h3_, h4_, h5_⟩
        have HO286 : Aside0 (Kd.R k23 23 w27 w.heap.size (fun k_ => some k_ ≠ (v290 : Value).ownBlock) v285 y284) := ⟨h0_⟩
        have HO291 : Aside0 (Kd.R k23 23 w27 w.heap.size (fun k_ => some k_ ≠ (v285 : Value).ownBlock) v290 y289) := ⟨h1_⟩
        replace BK280 : Aside0 (w27.heap[gb280]? = some (.cells #[.int .i64 a0_0, .int .i64 a0_1, .int .i64 a0_2, .int .i64 a0_3] 25 (0, 0))) := ⟨h2_⟩
        replace BK281 : Aside0 (w27.heap[gb281]? = some (.cells #[.int .i64 a1_0, .int .i64 a1_1, .int .i64 a1_2, .int .i64 a1_3] 25 (0, 0))) := ⟨h3_⟩
        replace BK282 : Aside0 (w27.heap[gb282]? = some (.cells #[.int .i64 0, .int .i64 0, .int .i64 0, .int .i64 0] 25 (0, 0))) := ⟨h4_⟩
        replace HB : Aside0 (Below w.heap.size w w27) := ⟨h5_⟩
        clear h0_ h1_ h2_ h3_ h4_ h5_
        have hHeld : w27.cell? ⟨gb280, 0, none⟩ = some (.int .i64 a0_0) ∧ w27.cell? ⟨gb280, 1, none⟩ = some (.int .i64 a0_1) ∧ w27.cell? ⟨gb280, 2, none⟩ = some (.int .i64 a0_2) ∧ w27.cell? ⟨gb280, 3, none⟩ = some (.int .i64 a0_3) ∧ w27.cell? ⟨gb281, 0, none⟩ = some (.int .i64 a1_0) ∧ w27.cell? ⟨gb281, 1, none⟩ = some (.int .i64 a1_1) ∧ w27.cell? ⟨gb281, 2, none⟩ = some (.int .i64 a1_2) ∧ w27.cell? ⟨gb281, 3, none⟩ = some (.int .i64 a1_3) := hS_
        refine nra ?_
        refine one_ (i := 16) (N := some 6) #[true, true, true, true, true, true, true, true, true, true, true, true, true, true, true, true, true, false, false] rfl rfl (one_of HT_.out (by kernel_rfl)) (by decide) (fun K hK => ?_)
        refine box_step ?hg (N := 6) ?hd (cs := #[.int .i64 0, .int .i64 0, .int .i64 0, .int .i64 0]) (t := 25) ?hr ?_; (case hd => rfl); (case hg => rfl); (case hr => first | (go_simp; done) | (go_simp; rfl))
        intro gb299 hg w28 hbox hb
        replace HO286 := krb HO286 hb
        replace HO291 := krb HO291 hb
        have BK299 := Aside0.mk (hbox)
        have GW299 := lsz hg HB
        have GE299 := lsz hg HB
        replace HB := bst HB hb
        have NB280_299 := nlt hg BK280
        have NB299_280 := ngt hg BK280
        replace BK280 := bkb BK280 hb
        have NB281_299 := nlt hg BK281
        have NB299_281 := ngt hg BK281
        replace BK281 := bkb BK281 hb
        have NB282_299 := nlt hg BK282
        have NB299_282 := ngt hg BK282
        replace BK282 := bkb BK282 hb
        clear hb hbox hg
        refine hK.out _ _ (c4 BK280 (e4 BK281)) (fun hHeld => ?_)
        clear hK K
        refine nrp 6 ?_
        exact nrm (hJ4_5_10_11_12_16 (v285, v290, gb299) _ ⟨hHeld, (kr HO286), (kr HO291), (bk BK280), (bk BK281), (bk BK282), (bk BK299), GW299.out, GE299.out, NB280_299.out, NB299_280.out, NB281_299.out, NB299_281.out, NB282_299.out, NB299_282.out, (bl HB)⟩)
    rintro ⟨v285, v290, gb299⟩ w28 ⟨hS_, h0_, h1_, h2_, h3_, h4_, h5_, h6_, h7_, h8_, h9_, h10_, h11_, h12_, h13_, h14_⟩
    have HO286 : Aside0 (Kd.R k23 23 w28 w.heap.size (fun k_ => some k_ ≠ (v290 : Value).ownBlock) v285 y284) := ⟨h0_⟩
    have HO291 : Aside0 (Kd.R k23 23 w28 w.heap.size (fun k_ => some k_ ≠ (v285 : Value).ownBlock) v290 y289) := ⟨h1_⟩
    replace BK280 : Aside0 (w28.heap[gb280]? = some (.cells #[.int .i64 a0_0, .int .i64 a0_1, .int .i64 a0_2, .int .i64 a0_3] 25 (0, 0))) := ⟨h2_⟩
    replace BK281 : Aside0 (w28.heap[gb281]? = some (.cells #[.int .i64 a1_0, .int .i64 a1_1, .int .i64 a1_2, .int .i64 a1_3] 25 (0, 0))) := ⟨h3_⟩
    replace BK282 : Aside0 (w28.heap[gb282]? = some (.cells #[.int .i64 0, .int .i64 0, .int .i64 0, .int .i64 0] 25 (0, 0))) := ⟨h4_⟩
    have BK299 : Aside0 (w28.heap[gb299]? = some (.cells #[.int .i64 0, .int .i64 0, .int .i64 0, .int .i64 0] 25 (0, 0))) := ⟨h5_⟩
    have GW299 : Aside0 (w.heap.size ≤ gb299) := ⟨h6_⟩
    have GE299 : Aside0 (w.heap.size ≤ gb299) := ⟨h7_⟩
    have NB280_299 : Aside0 (gb280 ≠ gb299) := ⟨h8_⟩
    have NB299_280 : Aside0 (gb299 ≠ gb280) := ⟨h9_⟩
    have NB281_299 : Aside0 (gb281 ≠ gb299) := ⟨h10_⟩
    have NB299_281 : Aside0 (gb299 ≠ gb281) := ⟨h11_⟩
    have NB282_299 : Aside0 (gb282 ≠ gb299) := ⟨h12_⟩
    have NB299_282 : Aside0 (gb299 ≠ gb282) := ⟨h13_⟩
    replace HB : Aside0 (Below w.heap.size w w28) := ⟨h14_⟩
    clear h0_ h1_ h2_ h3_ h4_ h5_ h6_ h7_ h8_ h9_ h10_ h11_ h12_ h13_ h14_
    have hHeld : w28.cell? ⟨gb280, 0, none⟩ = some (.int .i64 a0_0) ∧ w28.cell? ⟨gb280, 1, none⟩ = some (.int .i64 a0_1) ∧ w28.cell? ⟨gb280, 2, none⟩ = some (.int .i64 a0_2) ∧ w28.cell? ⟨gb280, 3, none⟩ = some (.int .i64 a0_3) ∧ w28.cell? ⟨gb281, 0, none⟩ = some (.int .i64 a1_0) ∧ w28.cell? ⟨gb281, 1, none⟩ = some (.int .i64 a1_1) ∧ w28.cell? ⟨gb281, 2, none⟩ = some (.int .i64 a1_2) ∧ w28.cell? ⟨gb281, 3, none⟩ = some (.int .i64 a1_3) := hS_
    refine nra ?_
    refine one_ (i := 17) (N := none) #[true, true, true, true, true, true, true, true, true, true, true, true, true, true, true, true, true, true, false] rfl rfl (one_of HT_.out (by kernel_rfl)) (by decide) (fun K hK => ?_)
    have hs29 : w28.cell? ⟨gb299, 0, none⟩ = some (.int .i64 0) := (blk_cell BK299.out 0).trans rfl
    have hfs29 := blk_frozen BK299.out 0
    have hns29_0 := NB280_299.out
    have hns29_1 := NB281_299.out
    have hns29_2 := NB282_299.out
    have hms29_0 := NB299_280.out
    have hms29_1 := NB299_281.out
    have hms29_2 := NB299_282.out
    have hs30 : w28.cell? ⟨gb299, 1, none⟩ = some (.int .i64 0) := (blk_cell BK299.out 1).trans rfl
    have hfs30 := blk_frozen BK299.out 1
    have hns30_0 := NB280_299.out
    have hns30_1 := NB281_299.out
    have hns30_2 := NB282_299.out
    have hms30_0 := NB299_280.out
    have hms30_1 := NB299_281.out
    have hms30_2 := NB299_282.out
    have hs31 : w28.cell? ⟨gb299, 2, none⟩ = some (.int .i64 0) := (blk_cell BK299.out 2).trans rfl
    have hfs31 := blk_frozen BK299.out 2
    have hns31_0 := NB280_299.out
    have hns31_1 := NB281_299.out
    have hns31_2 := NB282_299.out
    have hms31_0 := NB299_280.out
    have hms31_1 := NB299_281.out
    have hms31_2 := NB299_282.out
    have hs32 : w28.cell? ⟨gb299, 3, none⟩ = some (.int .i64 0) := (blk_cell BK299.out 3).trans rfl
    have hfs32 := blk_frozen BK299.out 3
    have hns32_0 := NB280_299.out
    have hns32_1 := NB281_299.out
    have hns32_2 := NB282_299.out
    have hms32_0 := NB299_280.out
    have hms32_1 := NB299_281.out
    have hms32_2 := NB299_282.out
    refine skip_ (w1 := ?_) (by rfl) rfl ?_ ?_
    rotate_left
    · go_simp
      rfl
    refine hK.out _ _ ⟨((cell_far (p := ⟨gb299, _, none⟩) NB280_299.out _).trans (((cell_far (p := ⟨gb299, _, none⟩) NB280_299.out _).trans (((cell_far (p := ⟨gb299, _, none⟩) NB280_299.out _).trans (((cell_far (p := ⟨gb299, _, none⟩) NB280_299.out _).trans (hHeld.1)))))))), ((cell_far (p := ⟨gb299, _, none⟩) NB280_299.out _).trans (((cell_far (p := ⟨gb299, _, none⟩) NB280_299.out _).trans (((cell_far (p := ⟨gb299, _, none⟩) NB280_299.out _).trans (((cell_far (p := ⟨gb299, _, none⟩) NB280_299.out _).trans (hHeld.2.1)))))))), ((cell_far (p := ⟨gb299, _, none⟩) NB280_299.out _).trans (((cell_far (p := ⟨gb299, _, none⟩) NB280_299.out _).trans (((cell_far (p := ⟨gb299, _, none⟩) NB280_299.out _).trans (((cell_far (p := ⟨gb299, _, none⟩) NB280_299.out _).trans (hHeld.2.2.1)))))))), ((cell_far (p := ⟨gb299, _, none⟩) NB280_299.out _).trans (((cell_far (p := ⟨gb299, _, none⟩) NB280_299.out _).trans (((cell_far (p := ⟨gb299, _, none⟩) NB280_299.out _).trans (((cell_far (p := ⟨gb299, _, none⟩) NB280_299.out _).trans (hHeld.2.2.2.1)))))))), ((cell_far (p := ⟨gb299, _, none⟩) NB281_299.out _).trans (((cell_far (p := ⟨gb299, _, none⟩) NB281_299.out _).trans (((cell_far (p := ⟨gb299, _, none⟩) NB281_299.out _).trans (((cell_far (p := ⟨gb299, _, none⟩) NB281_299.out _).trans (hHeld.2.2.2.2.1)))))))), ((cell_far (p := ⟨gb299, _, none⟩) NB281_299.out _).trans (((cell_far (p := ⟨gb299, _, none⟩) NB281_299.out _).trans (((cell_far (p := ⟨gb299, _, none⟩) NB281_299.out _).trans (((cell_far (p := ⟨gb299, _, none⟩) NB281_299.out _).trans (hHeld.2.2.2.2.2.1)))))))), ((cell_far (p := ⟨gb299, _, none⟩) NB281_299.out _).trans (((cell_far (p := ⟨gb299, _, none⟩) NB281_299.out _).trans (((cell_far (p := ⟨gb299, _, none⟩) NB281_299.out _).trans (((cell_far (p := ⟨gb299, _, none⟩) NB281_299.out _).trans (hHeld.2.2.2.2.2.2.1)))))))), ((cell_far (p := ⟨gb299, _, none⟩) NB281_299.out _).trans (((cell_far (p := ⟨gb299, _, none⟩) NB281_299.out _).trans (((cell_far (p := ⟨gb299, _, none⟩) NB281_299.out _).trans (((cell_far (p := ⟨gb299, _, none⟩) NB281_299.out _).trans (hHeld.2.2.2.2.2.2.2))))))))⟩ (fun hHeld => ?_)
    clear hK K
    refine pu 18 (some 7) #[true, true, true, true, true, true, true, true, true, true, true, true, true, true, true, true, true, true, true] (any_of HT_.out (by kernel_rfl)) ?_
    refine done_ (done_of HT_.out (by kernel_rfl)) ?_
    have hnb33 := NB299_280.out
    have hnc33 := NB280_299.out
    have hnb34 := NB299_281.out
    have hnc34 := NB281_299.out
    have hnb35 := NB299_282.out
    have hnc35 := NB282_299.out
    have hcz36_0 : w28.cell? ⟨gb299, 0, none⟩ = some (.int .i64 0) := (blk_cell BK299.out 0).trans rfl
    have hcz36_1 : w28.cell? ⟨gb299, 1, none⟩ = some (.int .i64 0) := (blk_cell BK299.out 1).trans rfl
    have hcz36_2 : w28.cell? ⟨gb299, 2, none⟩ = some (.int .i64 0) := (blk_cell BK299.out 2).trans rfl
    have hcz36_3 : w28.cell? ⟨gb299, 3, none⟩ = some (.int .i64 0) := (blk_cell BK299.out 3).trans rfl
    have hfz36_0 := blk_frozen BK299.out 0
    have hfz36_1 := blk_frozen BK299.out 1
    have hfz36_2 := blk_frozen BK299.out 2
    have hfz36_3 := blk_frozen BK299.out 3
    have hcz37_0 : w28.cell? ⟨gb282, 0, none⟩ = some (.int .i64 0) := (blk_cell BK282.out 0).trans rfl
    have hcz37_1 : w28.cell? ⟨gb282, 1, none⟩ = some (.int .i64 0) := (blk_cell BK282.out 1).trans rfl
    have hcz37_2 : w28.cell? ⟨gb282, 2, none⟩ = some (.int .i64 0) := (blk_cell BK282.out 2).trans rfl
    have hcz37_3 : w28.cell? ⟨gb282, 3, none⟩ = some (.int .i64 0) := (blk_cell BK282.out 3).trans rfl
    have hfz37_0 := blk_frozen BK282.out 0
    have hfz37_1 := blk_frozen BK282.out 1
    have hfz37_2 := blk_frozen BK282.out 2
    have hfz37_3 := blk_frozen BK282.out 3
    try go_wp2
    refine bodyPost_ret (results_ct rfl _ _ gb282 25 #[.int .i64 t294, .int .i64 t295, .int .i64 t296, .int .i64 t297] (0, 0) _ rfl (by (with_reducible repeat (first | refine blk_drewN ?_ _ | refine blk_drew ?_ | refine blk_alloc ?_ _)); refine blk_put (cs := #[.int .i64 t294, .int .i64 t295, .int .i64 t296, .int .i64 0]) ?_ 3 _ rfl; (with_reducible repeat (first | refine blk_drewN ?_ _ | refine blk_drew ?_ | refine blk_alloc ?_ _)); refine blk_put (cs := #[.int .i64 t294, .int .i64 t295, .int .i64 0, .int .i64 0]) ?_ 2 _ rfl; (with_reducible repeat (first | refine blk_drewN ?_ _ | refine blk_drew ?_ | refine blk_alloc ?_ _)); refine blk_put (cs := #[.int .i64 t294, .int .i64 0, .int .i64 0, .int .i64 0]) ?_ 1 _ rfl; (with_reducible repeat (first | refine blk_drewN ?_ _ | refine blk_drew ?_ | refine blk_alloc ?_ _)); refine blk_put (cs := #[.int .i64 0, .int .i64 0, .int .i64 0, .int .i64 0]) ?_ 0 _ rfl; (with_reducible repeat (first | refine blk_drewN ?_ _ | refine blk_drew ?_ | refine blk_alloc ?_ _)); refine blk_far ?_ NB282_299.out _; (with_reducible repeat (first | refine blk_drewN ?_ _ | refine blk_drew ?_ | refine blk_alloc ?_ _)); refine blk_far ?_ NB282_299.out _; (with_reducible repeat (first | refine blk_drewN ?_ _ | refine blk_drew ?_ | refine blk_alloc ?_ _)); refine blk_far ?_ NB282_299.out _; (with_reducible repeat (first | refine blk_drewN ?_ _ | refine blk_drew ?_ | refine blk_alloc ?_ _)); refine blk_far ?_ NB282_299.out _; (with_reducible repeat (first | refine blk_drewN ?_ _ | refine blk_drew ?_ | refine blk_alloc ?_ _)); exact BK282.out) Try.underlying25 rfl (by kernel_rfl)) rfl ?_
    exact ⟨by first | rfl | (simp [errW_none, errW_some] <;> rfl) | (simp [*, errW_none, errW_some] <;> rfl), by repeat (first | (with_reducible first | exact HB.out | apply below_alloc | apply pw_below_drewN | apply below_drew1 | refine below_set ?_ GE280.out | refine below_set ?_ GE281.out | refine below_set ?_ GE282.out | refine below_set ?_ GE299.out) | exact HB.out)⟩
  · replace c4 := Bool.eq_false_iff.mpr c4
    subst c4
    have H1 : (some (0, 0, 0, 0, false)) = some (r1, r2, r3, r4, r5) := by rw [if_neg (show ¬ (false = true) by decide)] at H; exact H
    clear H
    have H := H1
    clear H1
    simp only [Option.some.injEq, Prod.mk.injEq] at H
    obtain ⟨rfl, rfl, rfl, rfl, rfl⟩ := H
    go_enter Try.func11, Try.ntmps11
    go_wp2_with (first | ((with_reducible refine gate_dst (N := 2) rfl ?_); refine bxe (N := 2) (cs := #[.int .i64 a0_0, .int .i64 a0_1, .int .i64 a0_2, .int .i64 a0_3]) (t := 25) ?_; intro gb280 hg w38 hbox hb; have BK280 := Aside0.mk (hbox); have GW280 := lsz hg HB; have GE280 := lsz hg HB; replace HB := bst HB hb; clear hb hbox hg) | ((with_reducible refine gate_dst (N := 3) rfl ?_); refine bxe (N := 3) (cs := #[.int .i64 a1_0, .int .i64 a1_1, .int .i64 a1_2, .int .i64 a1_3]) (t := 25) ?_; intro gb281 hg w39 hbox hb; have BK281 := Aside0.mk (hbox); have GW281 := lsz hg HB; have GE281 := lsz hg HB; replace HB := bst HB hb; have NB280_281 := nlt hg BK280; have NB281_280 := ngt hg BK280; replace BK280 := bkb BK280 hb; clear hb hbox hg) | ((with_reducible refine gate_dst (N := 4) rfl ?_); refine bxe (N := 4) (cs := #[.int .i64 0, .int .i64 0, .int .i64 0, .int .i64 0]) (t := 25) ?_; intro gb282 hg w40 hbox hb; have BK282 := Aside0.mk (hbox); have GW282 := lsz hg HB; have GE282 := lsz hg HB; replace HB := bst HB hb; have NB280_282 := nlt hg BK280; have NB282_280 := ngt hg BK280; replace BK280 := bkb BK280 hb; have NB281_282 := nlt hg BK281; have NB282_281 := ngt hg BK281; replace BK281 := bkb BK281 hb; clear hb hbox hg; have hnb41 := NB280_281.out; have hnc41 := NB281_280.out; have hnb42 := NB280_282.out; have hnc42 := NB282_280.out; have hcz43_0 : w40.cell? ⟨gb280, 0, none⟩ = some (.int .i64 a0_0) := (blk_cell BK280.out 0).trans rfl; have hcz43_1 : w40.cell? ⟨gb280, 1, none⟩ = some (.int .i64 a0_1) := (blk_cell BK280.out 1).trans rfl; have hcz43_2 : w40.cell? ⟨gb280, 2, none⟩ = some (.int .i64 a0_2) := (blk_cell BK280.out 2).trans rfl; have hcz43_3 : w40.cell? ⟨gb280, 3, none⟩ = some (.int .i64 a0_3) := (blk_cell BK280.out 3).trans rfl; have hfz43_0 := blk_frozen BK280.out 0; have hfz43_1 := blk_frozen BK280.out 1; have hfz43_2 := blk_frozen BK280.out 2; have hfz43_3 := blk_frozen BK280.out 3; have hnb44 := NB281_282.out; have hnc44 := NB282_281.out; have hcz45_0 : w40.cell? ⟨gb281, 0, none⟩ = some (.int .i64 a1_0) := (blk_cell BK281.out 0).trans rfl; have hcz45_1 : w40.cell? ⟨gb281, 1, none⟩ = some (.int .i64 a1_1) := (blk_cell BK281.out 1).trans rfl; have hcz45_2 : w40.cell? ⟨gb281, 2, none⟩ = some (.int .i64 a1_2) := (blk_cell BK281.out 2).trans rfl; have hcz45_3 : w40.cell? ⟨gb281, 3, none⟩ = some (.int .i64 a1_3) := (blk_cell BK281.out 3).trans rfl; have hfz45_0 := blk_frozen BK281.out 0; have hfz45_1 := blk_frozen BK281.out 1; have hfz45_2 := blk_frozen BK281.out 2; have hfz45_3 := blk_frozen BK281.out 3) | ((with_reducible refine gate_callee (f := 45) rfl ?_); refine gol (some 10) Try.func45 #[.agg #[.int .i64 a0_0, .int .i64 a0_1, .int .i64 a0_2, .int .i64 a0_3], .agg #[.int .i64 a1_0, .int .i64 a1_1, .int .i64 a1_2, .int .i64 a1_3]] ?_; (with_reducible refine (span_both.calls k a0_0 a0_1 a0_2 a0_3 a1_0 a1_1 a1_2 a1_3 false _ A3.out).mono ?_); rintro e w46 ⟨rfl, hb⟩; refine ⟨_, rfl, ?_⟩; replace BK280 := bkb BK280 hb; replace BK281 := bkb BK281 hb; replace BK282 := bkb BK282 hb; replace HB := bst HB hb; (try clear hb); (try clear hb2); (try clear hk); (try clear hi); have hcz47_0 : w46.cell? ⟨gb282, 0, none⟩ = some (.int .i64 0) := (blk_cell BK282.out 0).trans rfl; have hcz47_1 : w46.cell? ⟨gb282, 1, none⟩ = some (.int .i64 0) := (blk_cell BK282.out 1).trans rfl; have hcz47_2 : w46.cell? ⟨gb282, 2, none⟩ = some (.int .i64 0) := (blk_cell BK282.out 2).trans rfl; have hcz47_3 : w46.cell? ⟨gb282, 3, none⟩ = some (.int .i64 0) := (blk_cell BK282.out 3).trans rfl; have hfz47_0 := blk_frozen BK282.out 0; have hfz47_1 := blk_frozen BK282.out 1; have hfz47_2 := blk_frozen BK282.out 2; have hfz47_3 := blk_frozen BK282.out 3))
    refine bodyPost_ret (results_ct rfl _ _ gb282 25 #[.int .i64 0, .int .i64 0, .int .i64 0, .int .i64 0] (0, 0) _ rfl (by (with_reducible repeat (first | refine blk_drewN ?_ _ | refine blk_drew ?_ | refine blk_alloc ?_ _)); refine blk_put (cs := #[.int .i64 0, .int .i64 0, .int .i64 0, .int .i64 0]) ?_ 3 _ rfl; (with_reducible repeat (first | refine blk_drewN ?_ _ | refine blk_drew ?_ | refine blk_alloc ?_ _)); refine blk_put (cs := #[.int .i64 0, .int .i64 0, .int .i64 0, .int .i64 0]) ?_ 2 _ rfl; (with_reducible repeat (first | refine blk_drewN ?_ _ | refine blk_drew ?_ | refine blk_alloc ?_ _)); refine blk_put (cs := #[.int .i64 0, .int .i64 0, .int .i64 0, .int .i64 0]) ?_ 1 _ rfl; (with_reducible repeat (first | refine blk_drewN ?_ _ | refine blk_drew ?_ | refine blk_alloc ?_ _)); refine blk_put (cs := #[.int .i64 0, .int .i64 0, .int .i64 0, .int .i64 0]) ?_ 0 _ rfl; (with_reducible repeat (first | refine blk_drewN ?_ _ | refine blk_drew ?_ | refine blk_alloc ?_ _)); exact BK282.out) Try.underlying25 rfl (by kernel_rfl)) rfl ?_
    exact ⟨by first | rfl | (simp [errW_none, errW_some] <;> rfl) | (simp [*, errW_none, errW_some] <;> rfl), by repeat (first | (with_reducible first | exact HB.out | apply below_alloc | apply pw_below_drewN | apply below_drew1 | refine below_set ?_ GE280.out | refine below_set ?_ GE281.out | refine below_set ?_ GE282.out) | exact HB.out)⟩
/-! ### span_Overlap: function 13 -/
def span_Overlap.f (k : Nat) (a0_0 : Int) (a0_1 : Int) (a0_2 : Int) (a0_3 : Int) (a1_0 : Int) (a1_1 : Int) (a1_2 : Int) (a1_3 : Int) : Option (Bool) := (span_Meet.f k a0_0 a0_1 a0_2 a0_3 a1_0 a1_1 a1_2 a1_3).bind fun bt302 => (some bt302.2.2.2.2)
theorem span_Overlap.mono : ∀ a0 a1 a2 a3 a4 a5 a6 a7 k, LeO (span_Overlap.f k a0 a1 a2 a3 a4 a5 a6 a7) (span_Overlap.f (k + 1) a0 a1 a2 a3 a4 a5 a6 a7) := by
  intro a0 a1 a2 a3 a4 a5 a6 a7 k
  unfold span_Overlap.f
  repeat' first
      | (with_reducible exact span_Meet.mono _ _ _ _ _ _ _ _ _)
      | (with_reducible exact LeO.refl _)
      | (with_reducible exact LeO.none _)
      | (with_reducible refine LeO.ite ?_ ?_)
      | (with_reducible refine LeO.bind ?_ (fun _ => ?_))
      | exact span_Meet.mono _ _ _ _ _ _ _ _ _
      | exact LeO.none _
      | refine LeO.ite ?_ ?_
      | refine LeO.bind ?_ (fun _ => ?_)
set_option maxHeartbeats 8000000 in
set_option maxRecDepth 100000 in
theorem span_Overlap.calls (k : Nat) (a0_0 : Int) (a0_1 : Int) (a0_2 : Int) (a0_3 : Int) (a1_0 : Int) (a1_1 : Int) (a1_2 : Int) (a1_3 : Int) (r : Bool) (w : World) (h : span_Overlap.f k a0_0 a0_1 a0_2 a0_3 a1_0 a1_1 a1_2 a1_3 = some r) :
    Calls Try.prog 13 #[.agg #[.int .i64 a0_0, .int .i64 a0_1, .int .i64 a0_2, .int .i64 a0_3], .agg #[.int .i64 a1_0, .int .i64 a1_1, .int .i64 a1_2, .int .i64 a1_3]] w fun e w' => e = .returned (.bool r) ∧ Below w.heap.size w w' := by
  have hu25 := Try.underlying25
  have HB := Aside0.mk (Below.refl w.heap.size w)
  have H : ((span_Meet.f k a0_0 a0_1 a0_2 a0_3 a1_0 a1_1 a1_2 a1_3).bind fun bt302 => (some bt302.2.2.2.2)) = some r := h
  clear h
  replace H := Option.bind_eq_some_iff.mp H
  obtain ⟨⟨t302, t303, t304, t305, t306⟩, A30, H⟩ := H
  replace H : (some t306) = some r := H
  have A3 := Aside0.mk A30
  clear A30
  obtain rfl := Option.some.inj H
  go_enter Try.func13, Try.ntmps13
  go_wp2_with (first | ((with_reducible refine gate_dst (N := 2) rfl ?_); refine bxe (N := 2) (cs := #[.int .i64 a0_0, .int .i64 a0_1, .int .i64 a0_2, .int .i64 a0_3]) (t := 25) ?_; intro gb300 hg w4 hbox hb; have BK300 := Aside0.mk (hbox); have GW300 := lsz hg HB; have GE300 := lsz hg HB; replace HB := bst HB hb; clear hb hbox hg) | ((with_reducible refine gate_dst (N := 3) rfl ?_); refine bxe (N := 3) (cs := #[.int .i64 a1_0, .int .i64 a1_1, .int .i64 a1_2, .int .i64 a1_3]) (t := 25) ?_; intro gb301 hg w5 hbox hb; have BK301 := Aside0.mk (hbox); have GW301 := lsz hg HB; have GE301 := lsz hg HB; replace HB := bst HB hb; have NB300_301 := nlt hg BK300; have NB301_300 := ngt hg BK300; replace BK300 := bkb BK300 hb; clear hb hbox hg; have hnb6 := NB300_301.out; have hnc6 := NB301_300.out; have hcz7_0 : w5.cell? ⟨gb300, 0, none⟩ = some (.int .i64 a0_0) := (blk_cell BK300.out 0).trans rfl; have hcz7_1 : w5.cell? ⟨gb300, 1, none⟩ = some (.int .i64 a0_1) := (blk_cell BK300.out 1).trans rfl; have hcz7_2 : w5.cell? ⟨gb300, 2, none⟩ = some (.int .i64 a0_2) := (blk_cell BK300.out 2).trans rfl; have hcz7_3 : w5.cell? ⟨gb300, 3, none⟩ = some (.int .i64 a0_3) := (blk_cell BK300.out 3).trans rfl; have hfz7_0 := blk_frozen BK300.out 0; have hfz7_1 := blk_frozen BK300.out 1; have hfz7_2 := blk_frozen BK300.out 2; have hfz7_3 := blk_frozen BK300.out 3; have hcz8_0 : w5.cell? ⟨gb301, 0, none⟩ = some (.int .i64 a1_0) := (blk_cell BK301.out 0).trans rfl; have hcz8_1 : w5.cell? ⟨gb301, 1, none⟩ = some (.int .i64 a1_1) := (blk_cell BK301.out 1).trans rfl; have hcz8_2 : w5.cell? ⟨gb301, 2, none⟩ = some (.int .i64 a1_2) := (blk_cell BK301.out 2).trans rfl; have hcz8_3 : w5.cell? ⟨gb301, 3, none⟩ = some (.int .i64 a1_3) := (blk_cell BK301.out 3).trans rfl; have hfz8_0 := blk_frozen BK301.out 0; have hfz8_1 := blk_frozen BK301.out 1; have hfz8_2 := blk_frozen BK301.out 2; have hfz8_3 := blk_frozen BK301.out 3) | ((with_reducible refine gate_callee (f := 11) rfl ?_); refine gol (some 10) Try.func11 #[.agg #[.int .i64 a0_0, .int .i64 a0_1, .int .i64 a0_2, .int .i64 a0_3], .agg #[.int .i64 a1_0, .int .i64 a1_1, .int .i64 a1_2, .int .i64 a1_3]] ?_; (with_reducible refine (span_Meet.calls k a0_0 a0_1 a0_2 a0_3 a1_0 a1_1 a1_2 a1_3 t302 t303 t304 t305 t306 _ A3.out).mono ?_); rintro e w9 ⟨rfl, hb⟩; refine ⟨_, rfl, ?_⟩; replace BK300 := bkb BK300 hb; replace BK301 := bkb BK301 hb; replace HB := bst HB hb; (try clear hb); (try clear hb2); (try clear hk); (try clear hi)) | ((with_reducible refine gate_dst (N := 5) rfl ?_); refine bxe (N := 5) (cs := #[.int .i64 0, .int .i64 0, .int .i64 0, .int .i64 0]) (t := 25) ?_; intro gb307 hg w10 hbox hb; have BK307 := Aside0.mk (hbox); have GW307 := lsz hg HB; have GE307 := lsz hg HB; replace HB := bst HB hb; have NB300_307 := nlt hg BK300; have NB307_300 := ngt hg BK300; replace BK300 := bkb BK300 hb; have NB301_307 := nlt hg BK301; have NB307_301 := ngt hg BK301; replace BK301 := bkb BK301 hb; clear hb hbox hg; have hnb11 := NB307_300.out; have hnc11 := NB300_307.out; have hnb12 := NB307_301.out; have hnc12 := NB301_307.out; have hcz13_0 : w10.cell? ⟨gb307, 0, none⟩ = some (.int .i64 0) := (blk_cell BK307.out 0).trans rfl; have hcz13_1 : w10.cell? ⟨gb307, 1, none⟩ = some (.int .i64 0) := (blk_cell BK307.out 1).trans rfl; have hcz13_2 : w10.cell? ⟨gb307, 2, none⟩ = some (.int .i64 0) := (blk_cell BK307.out 2).trans rfl; have hcz13_3 : w10.cell? ⟨gb307, 3, none⟩ = some (.int .i64 0) := (blk_cell BK307.out 3).trans rfl; have hfz13_0 := blk_frozen BK307.out 0; have hfz13_1 := blk_frozen BK307.out 1; have hfz13_2 := blk_frozen BK307.out 2; have hfz13_3 := blk_frozen BK307.out 3))
  go_ret
  exact ⟨by first | rfl | (simp [errW_none, errW_some] <;> rfl) | (simp [*, errW_none, errW_some] <;> rfl), by repeat (first | (with_reducible first | exact HB.out | apply below_alloc | apply pw_below_drewN | apply below_drew1 | refine below_set ?_ GE300.out | refine below_set ?_ GE301.out | refine below_set ?_ GE307.out) | exact HB.out)⟩
/-! ### span_Holds: function 19 -/
def span_Holds.f (k : Nat) (a0_0 : Int) (a0_1 : Int) (a0_2 : Int) (a0_3 : Int) (a1_0 : Int) (a1_1 : Int) (a1_2 : Int) (a1_3 : Int) : Option (Bool) := (span_both.f k a0_0 a0_1 a0_2 a0_3 a1_0 a1_1 a1_2 a1_3).bind fun t326 => (if t326 = true then ((cut_Compare.f k a0_0 a0_1 a1_0 a1_1).bind fun t327 => (if t327 ≤ 0 then ((cut_Compare.f k a1_2 a1_3 a0_2 a0_3).bind fun t328 => (some (decide (t328 ≤ 0)))) else (some false))) else (some false))
theorem span_Holds.mono : ∀ a0 a1 a2 a3 a4 a5 a6 a7 k, LeO (span_Holds.f k a0 a1 a2 a3 a4 a5 a6 a7) (span_Holds.f (k + 1) a0 a1 a2 a3 a4 a5 a6 a7) := by
  intro a0 a1 a2 a3 a4 a5 a6 a7 k
  unfold span_Holds.f
  repeat' first
      | (with_reducible exact cut_Compare.mono _ _ _ _ _)
      | (with_reducible exact span_both.mono _ _ _ _ _ _ _ _ _)
      | (with_reducible exact LeO.refl _)
      | (with_reducible exact LeO.none _)
      | (with_reducible refine LeO.ite ?_ ?_)
      | (with_reducible refine LeO.bind ?_ (fun _ => ?_))
      | exact cut_Compare.mono _ _ _ _ _
      | exact span_both.mono _ _ _ _ _ _ _ _ _
      | exact LeO.none _
      | refine LeO.ite ?_ ?_
      | refine LeO.bind ?_ (fun _ => ?_)
set_option maxHeartbeats 8000000 in
set_option maxRecDepth 100000 in
theorem span_Holds.calls (k : Nat) (a0_0 : Int) (a0_1 : Int) (a0_2 : Int) (a0_3 : Int) (a1_0 : Int) (a1_1 : Int) (a1_2 : Int) (a1_3 : Int) (r : Bool) (w : World) (h : span_Holds.f k a0_0 a0_1 a0_2 a0_3 a1_0 a1_1 a1_2 a1_3 = some r) :
    Calls Try.prog 19 #[.agg #[.int .i64 a0_0, .int .i64 a0_1, .int .i64 a0_2, .int .i64 a0_3], .agg #[.int .i64 a1_0, .int .i64 a1_1, .int .i64 a1_2, .int .i64 a1_3]] w fun e w' => e = .returned (.bool r) ∧ Below w.heap.size w w' := by
  have hu25 := Try.underlying25
  have hu23 := Try.underlying23
  have HB := Aside0.mk (Below.refl w.heap.size w)
  have H : ((span_both.f k a0_0 a0_1 a0_2 a0_3 a1_0 a1_1 a1_2 a1_3).bind fun t326 => (if t326 = true then ((cut_Compare.f k a0_0 a0_1 a1_0 a1_1).bind fun t327 => (if t327 ≤ 0 then ((cut_Compare.f k a1_2 a1_3 a0_2 a0_3).bind fun t328 => (some (decide (t328 ≤ 0)))) else (some false))) else (some false))) = some r := h
  clear h
  replace H := Option.bind_eq_some_iff.mp H
  obtain ⟨t326, A30, H⟩ := H
  replace H : (if t326 = true then ((cut_Compare.f k a0_0 a0_1 a1_0 a1_1).bind fun t327 => (if t327 ≤ 0 then ((cut_Compare.f k a1_2 a1_3 a0_2 a0_3).bind fun t328 => (some (decide (t328 ≤ 0)))) else (some false))) else (some false)) = some r := H
  have A3 := Aside0.mk A30
  clear A30
  by_cases c4 : t326 = true
  · subst c4
    have H1 : ((cut_Compare.f k a0_0 a0_1 a1_0 a1_1).bind fun t327 => (if t327 ≤ 0 then ((cut_Compare.f k a1_2 a1_3 a0_2 a0_3).bind fun t328 => (some (decide (t328 ≤ 0)))) else (some false))) = some r := by rw [if_pos rfl] at H; exact H
    clear H
    have H := H1
    clear H1
    replace H := Option.bind_eq_some_iff.mp H
    obtain ⟨t327, A50, H⟩ := H
    replace H : (if t327 ≤ 0 then ((cut_Compare.f k a1_2 a1_3 a0_2 a0_3).bind fun t328 => (some (decide (t328 ≤ 0)))) else (some false)) = some r := H
    have A5 := Aside0.mk A50
    clear A50
    by_cases c6 : t327 ≤ 0
    · rw [if_pos c6] at H
      have c6b0 : decide (t327 ≤ 0) = true := decide_eq_true c6
      clear c6
      replace H := Option.bind_eq_some_iff.mp H
      obtain ⟨t328, A70, H⟩ := H
      replace H : (some (decide (t328 ≤ 0))) = some r := H
      have A7 := Aside0.mk A70
      clear A70
      obtain rfl := Option.some.inj H
      go_enter Try.func19, Try.ntmps19
      go_wp2_with (first | ((with_reducible refine gate_dst (N := 2) rfl ?_); refine bxe (N := 2) (cs := #[.int .i64 a0_0, .int .i64 a0_1, .int .i64 a0_2, .int .i64 a0_3]) (t := 25) ?_; intro gb324 hg w8 hbox hb; have BK324 := Aside0.mk (hbox); have GW324 := lsz hg HB; have GE324 := lsz hg HB; replace HB := bst HB hb; clear hb hbox hg) | ((with_reducible refine gate_dst (N := 3) rfl ?_); refine bxe (N := 3) (cs := #[.int .i64 a1_0, .int .i64 a1_1, .int .i64 a1_2, .int .i64 a1_3]) (t := 25) ?_; intro gb325 hg w9 hbox hb; have BK325 := Aside0.mk (hbox); have GW325 := lsz hg HB; have GE325 := lsz hg HB; replace HB := bst HB hb; have NB324_325 := nlt hg BK324; have NB325_324 := ngt hg BK324; replace BK324 := bkb BK324 hb; clear hb hbox hg; have hnb10 := NB324_325.out; have hnc10 := NB325_324.out; have hcz11_0 : w9.cell? ⟨gb324, 0, none⟩ = some (.int .i64 a0_0) := (blk_cell BK324.out 0).trans rfl; have hcz11_1 : w9.cell? ⟨gb324, 1, none⟩ = some (.int .i64 a0_1) := (blk_cell BK324.out 1).trans rfl; have hcz11_2 : w9.cell? ⟨gb324, 2, none⟩ = some (.int .i64 a0_2) := (blk_cell BK324.out 2).trans rfl; have hcz11_3 : w9.cell? ⟨gb324, 3, none⟩ = some (.int .i64 a0_3) := (blk_cell BK324.out 3).trans rfl; have hfz11_0 := blk_frozen BK324.out 0; have hfz11_1 := blk_frozen BK324.out 1; have hfz11_2 := blk_frozen BK324.out 2; have hfz11_3 := blk_frozen BK324.out 3; have hcz12_0 : w9.cell? ⟨gb325, 0, none⟩ = some (.int .i64 a1_0) := (blk_cell BK325.out 0).trans rfl; have hcz12_1 : w9.cell? ⟨gb325, 1, none⟩ = some (.int .i64 a1_1) := (blk_cell BK325.out 1).trans rfl; have hcz12_2 : w9.cell? ⟨gb325, 2, none⟩ = some (.int .i64 a1_2) := (blk_cell BK325.out 2).trans rfl; have hcz12_3 : w9.cell? ⟨gb325, 3, none⟩ = some (.int .i64 a1_3) := (blk_cell BK325.out 3).trans rfl; have hfz12_0 := blk_frozen BK325.out 0; have hfz12_1 := blk_frozen BK325.out 1; have hfz12_2 := blk_frozen BK325.out 2; have hfz12_3 := blk_frozen BK325.out 3) | ((with_reducible refine gate_callee (f := 45) rfl ?_); refine gol (some 7) Try.func45 #[.agg #[.int .i64 a0_0, .int .i64 a0_1, .int .i64 a0_2, .int .i64 a0_3], .agg #[.int .i64 a1_0, .int .i64 a1_1, .int .i64 a1_2, .int .i64 a1_3]] ?_; (with_reducible refine (span_both.calls k a0_0 a0_1 a0_2 a0_3 a1_0 a1_1 a1_2 a1_3 true _ A3.out).mono ?_); rintro e w13 ⟨rfl, hb⟩; refine ⟨_, rfl, ?_⟩; replace BK324 := bkb BK324 hb; replace BK325 := bkb BK325 hb; replace HB := bst HB hb; (try clear hb); (try clear hb2); (try clear hk); (try clear hi); have hcz14_0 : w13.cell? ⟨gb324, 0, none⟩ = some (.int .i64 a0_0) := (blk_cell BK324.out 0).trans rfl; have hcz14_1 : w13.cell? ⟨gb324, 1, none⟩ = some (.int .i64 a0_1) := (blk_cell BK324.out 1).trans rfl; have hcz14_2 : w13.cell? ⟨gb324, 2, none⟩ = some (.int .i64 a0_2) := (blk_cell BK324.out 2).trans rfl; have hcz14_3 : w13.cell? ⟨gb324, 3, none⟩ = some (.int .i64 a0_3) := (blk_cell BK324.out 3).trans rfl; have hfz14_0 := blk_frozen BK324.out 0; have hfz14_1 := blk_frozen BK324.out 1; have hfz14_2 := blk_frozen BK324.out 2; have hfz14_3 := blk_frozen BK324.out 3; have hcz15_0 : w13.cell? ⟨gb325, 0, none⟩ = some (.int .i64 a1_0) := (blk_cell BK325.out 0).trans rfl; have hcz15_1 : w13.cell? ⟨gb325, 1, none⟩ = some (.int .i64 a1_1) := (blk_cell BK325.out 1).trans rfl; have hcz15_2 : w13.cell? ⟨gb325, 2, none⟩ = some (.int .i64 a1_2) := (blk_cell BK325.out 2).trans rfl; have hcz15_3 : w13.cell? ⟨gb325, 3, none⟩ = some (.int .i64 a1_3) := (blk_cell BK325.out 3).trans rfl; have hfz15_0 := blk_frozen BK325.out 0; have hfz15_1 := blk_frozen BK325.out 1; have hfz15_2 := blk_frozen BK325.out 2; have hfz15_3 := blk_frozen BK325.out 3) | (go_at_call 53; (with_reducible refine (cut_Compare.calls k a0_0 a0_1 a1_0 a1_1 t327 _ A5.out).mono ?_); rintro e w16 ⟨rfl, hb⟩; replace BK324 := bkb BK324 hb; replace BK325 := bkb BK325 hb; replace HB := bst HB hb; (try clear hb); (try clear hb2); (try clear hk); (try clear hi); have hcz17_0 : w16.cell? ⟨gb325, 0, none⟩ = some (.int .i64 a1_0) := (blk_cell BK325.out 0).trans rfl; have hcz17_1 : w16.cell? ⟨gb325, 1, none⟩ = some (.int .i64 a1_1) := (blk_cell BK325.out 1).trans rfl; have hcz17_2 : w16.cell? ⟨gb325, 2, none⟩ = some (.int .i64 a1_2) := (blk_cell BK325.out 2).trans rfl; have hcz17_3 : w16.cell? ⟨gb325, 3, none⟩ = some (.int .i64 a1_3) := (blk_cell BK325.out 3).trans rfl; have hfz17_0 := blk_frozen BK325.out 0; have hfz17_1 := blk_frozen BK325.out 1; have hfz17_2 := blk_frozen BK325.out 2; have hfz17_3 := blk_frozen BK325.out 3; have hcz18_0 : w16.cell? ⟨gb324, 0, none⟩ = some (.int .i64 a0_0) := (blk_cell BK324.out 0).trans rfl; have hcz18_1 : w16.cell? ⟨gb324, 1, none⟩ = some (.int .i64 a0_1) := (blk_cell BK324.out 1).trans rfl; have hcz18_2 : w16.cell? ⟨gb324, 2, none⟩ = some (.int .i64 a0_2) := (blk_cell BK324.out 2).trans rfl; have hcz18_3 : w16.cell? ⟨gb324, 3, none⟩ = some (.int .i64 a0_3) := (blk_cell BK324.out 3).trans rfl; have hfz18_0 := blk_frozen BK324.out 0; have hfz18_1 := blk_frozen BK324.out 1; have hfz18_2 := blk_frozen BK324.out 2; have hfz18_3 := blk_frozen BK324.out 3) | (go_at_call 53; (with_reducible refine (cut_Compare.calls k a1_2 a1_3 a0_2 a0_3 t328 _ A7.out).mono ?_); rintro e w19 ⟨rfl, hb⟩; replace BK324 := bkb BK324 hb; replace BK325 := bkb BK325 hb; replace HB := bst HB hb; (try clear hb); (try clear hb2); (try clear hk); (try clear hi)))
      go_ret
      exact ⟨by first | rfl | (simp [errW_none, errW_some] <;> rfl) | (simp [*, errW_none, errW_some] <;> rfl), by repeat (first | (with_reducible first | exact HB.out | apply below_alloc | apply pw_below_drewN | apply below_drew1 | refine below_set ?_ GE324.out | refine below_set ?_ GE325.out) | exact HB.out)⟩
    · rw [if_neg c6] at H
      have c6b0 : decide (t327 ≤ 0) = false := decide_eq_false c6
      clear c6
      obtain rfl := Option.some.inj H
      go_enter Try.func19, Try.ntmps19
      go_wp2_with (first | ((with_reducible refine gate_dst (N := 2) rfl ?_); refine bxe (N := 2) (cs := #[.int .i64 a0_0, .int .i64 a0_1, .int .i64 a0_2, .int .i64 a0_3]) (t := 25) ?_; intro gb324 hg w20 hbox hb; have BK324 := Aside0.mk (hbox); have GW324 := lsz hg HB; have GE324 := lsz hg HB; replace HB := bst HB hb; clear hb hbox hg) | ((with_reducible refine gate_dst (N := 3) rfl ?_); refine bxe (N := 3) (cs := #[.int .i64 a1_0, .int .i64 a1_1, .int .i64 a1_2, .int .i64 a1_3]) (t := 25) ?_; intro gb325 hg w21 hbox hb; have BK325 := Aside0.mk (hbox); have GW325 := lsz hg HB; have GE325 := lsz hg HB; replace HB := bst HB hb; have NB324_325 := nlt hg BK324; have NB325_324 := ngt hg BK324; replace BK324 := bkb BK324 hb; clear hb hbox hg; have hnb22 := NB324_325.out; have hnc22 := NB325_324.out; have hcz23_0 : w21.cell? ⟨gb324, 0, none⟩ = some (.int .i64 a0_0) := (blk_cell BK324.out 0).trans rfl; have hcz23_1 : w21.cell? ⟨gb324, 1, none⟩ = some (.int .i64 a0_1) := (blk_cell BK324.out 1).trans rfl; have hcz23_2 : w21.cell? ⟨gb324, 2, none⟩ = some (.int .i64 a0_2) := (blk_cell BK324.out 2).trans rfl; have hcz23_3 : w21.cell? ⟨gb324, 3, none⟩ = some (.int .i64 a0_3) := (blk_cell BK324.out 3).trans rfl; have hfz23_0 := blk_frozen BK324.out 0; have hfz23_1 := blk_frozen BK324.out 1; have hfz23_2 := blk_frozen BK324.out 2; have hfz23_3 := blk_frozen BK324.out 3; have hcz24_0 : w21.cell? ⟨gb325, 0, none⟩ = some (.int .i64 a1_0) := (blk_cell BK325.out 0).trans rfl; have hcz24_1 : w21.cell? ⟨gb325, 1, none⟩ = some (.int .i64 a1_1) := (blk_cell BK325.out 1).trans rfl; have hcz24_2 : w21.cell? ⟨gb325, 2, none⟩ = some (.int .i64 a1_2) := (blk_cell BK325.out 2).trans rfl; have hcz24_3 : w21.cell? ⟨gb325, 3, none⟩ = some (.int .i64 a1_3) := (blk_cell BK325.out 3).trans rfl; have hfz24_0 := blk_frozen BK325.out 0; have hfz24_1 := blk_frozen BK325.out 1; have hfz24_2 := blk_frozen BK325.out 2; have hfz24_3 := blk_frozen BK325.out 3) | ((with_reducible refine gate_callee (f := 45) rfl ?_); refine gol (some 7) Try.func45 #[.agg #[.int .i64 a0_0, .int .i64 a0_1, .int .i64 a0_2, .int .i64 a0_3], .agg #[.int .i64 a1_0, .int .i64 a1_1, .int .i64 a1_2, .int .i64 a1_3]] ?_; (with_reducible refine (span_both.calls k a0_0 a0_1 a0_2 a0_3 a1_0 a1_1 a1_2 a1_3 true _ A3.out).mono ?_); rintro e w25 ⟨rfl, hb⟩; refine ⟨_, rfl, ?_⟩; replace BK324 := bkb BK324 hb; replace BK325 := bkb BK325 hb; replace HB := bst HB hb; (try clear hb); (try clear hb2); (try clear hk); (try clear hi); have hcz26_0 : w25.cell? ⟨gb324, 0, none⟩ = some (.int .i64 a0_0) := (blk_cell BK324.out 0).trans rfl; have hcz26_1 : w25.cell? ⟨gb324, 1, none⟩ = some (.int .i64 a0_1) := (blk_cell BK324.out 1).trans rfl; have hcz26_2 : w25.cell? ⟨gb324, 2, none⟩ = some (.int .i64 a0_2) := (blk_cell BK324.out 2).trans rfl; have hcz26_3 : w25.cell? ⟨gb324, 3, none⟩ = some (.int .i64 a0_3) := (blk_cell BK324.out 3).trans rfl; have hfz26_0 := blk_frozen BK324.out 0; have hfz26_1 := blk_frozen BK324.out 1; have hfz26_2 := blk_frozen BK324.out 2; have hfz26_3 := blk_frozen BK324.out 3; have hcz27_0 : w25.cell? ⟨gb325, 0, none⟩ = some (.int .i64 a1_0) := (blk_cell BK325.out 0).trans rfl; have hcz27_1 : w25.cell? ⟨gb325, 1, none⟩ = some (.int .i64 a1_1) := (blk_cell BK325.out 1).trans rfl; have hcz27_2 : w25.cell? ⟨gb325, 2, none⟩ = some (.int .i64 a1_2) := (blk_cell BK325.out 2).trans rfl; have hcz27_3 : w25.cell? ⟨gb325, 3, none⟩ = some (.int .i64 a1_3) := (blk_cell BK325.out 3).trans rfl; have hfz27_0 := blk_frozen BK325.out 0; have hfz27_1 := blk_frozen BK325.out 1; have hfz27_2 := blk_frozen BK325.out 2; have hfz27_3 := blk_frozen BK325.out 3) | (go_at_call 53; (with_reducible refine (cut_Compare.calls k a0_0 a0_1 a1_0 a1_1 t327 _ A5.out).mono ?_); rintro e w28 ⟨rfl, hb⟩; replace BK324 := bkb BK324 hb; replace BK325 := bkb BK325 hb; replace HB := bst HB hb; (try clear hb); (try clear hb2); (try clear hk); (try clear hi)))
      go_ret
      exact ⟨by first | rfl | (simp [errW_none, errW_some] <;> rfl) | (simp [*, errW_none, errW_some] <;> rfl), by repeat (first | (with_reducible first | exact HB.out | apply below_alloc | apply pw_below_drewN | apply below_drew1 | refine below_set ?_ GE324.out | refine below_set ?_ GE325.out) | exact HB.out)⟩
  · replace c4 := Bool.eq_false_iff.mpr c4
    subst c4
    have H1 : (some false) = some r := by rw [if_neg (show ¬ (false = true) by decide)] at H; exact H
    clear H
    have H := H1
    clear H1
    obtain rfl := Option.some.inj H
    go_enter Try.func19, Try.ntmps19
    go_wp2_with (first | ((with_reducible refine gate_dst (N := 2) rfl ?_); refine bxe (N := 2) (cs := #[.int .i64 a0_0, .int .i64 a0_1, .int .i64 a0_2, .int .i64 a0_3]) (t := 25) ?_; intro gb324 hg w29 hbox hb; have BK324 := Aside0.mk (hbox); have GW324 := lsz hg HB; have GE324 := lsz hg HB; replace HB := bst HB hb; clear hb hbox hg) | ((with_reducible refine gate_dst (N := 3) rfl ?_); refine bxe (N := 3) (cs := #[.int .i64 a1_0, .int .i64 a1_1, .int .i64 a1_2, .int .i64 a1_3]) (t := 25) ?_; intro gb325 hg w30 hbox hb; have BK325 := Aside0.mk (hbox); have GW325 := lsz hg HB; have GE325 := lsz hg HB; replace HB := bst HB hb; have NB324_325 := nlt hg BK324; have NB325_324 := ngt hg BK324; replace BK324 := bkb BK324 hb; clear hb hbox hg; have hnb31 := NB324_325.out; have hnc31 := NB325_324.out; have hcz32_0 : w30.cell? ⟨gb324, 0, none⟩ = some (.int .i64 a0_0) := (blk_cell BK324.out 0).trans rfl; have hcz32_1 : w30.cell? ⟨gb324, 1, none⟩ = some (.int .i64 a0_1) := (blk_cell BK324.out 1).trans rfl; have hcz32_2 : w30.cell? ⟨gb324, 2, none⟩ = some (.int .i64 a0_2) := (blk_cell BK324.out 2).trans rfl; have hcz32_3 : w30.cell? ⟨gb324, 3, none⟩ = some (.int .i64 a0_3) := (blk_cell BK324.out 3).trans rfl; have hfz32_0 := blk_frozen BK324.out 0; have hfz32_1 := blk_frozen BK324.out 1; have hfz32_2 := blk_frozen BK324.out 2; have hfz32_3 := blk_frozen BK324.out 3; have hcz33_0 : w30.cell? ⟨gb325, 0, none⟩ = some (.int .i64 a1_0) := (blk_cell BK325.out 0).trans rfl; have hcz33_1 : w30.cell? ⟨gb325, 1, none⟩ = some (.int .i64 a1_1) := (blk_cell BK325.out 1).trans rfl; have hcz33_2 : w30.cell? ⟨gb325, 2, none⟩ = some (.int .i64 a1_2) := (blk_cell BK325.out 2).trans rfl; have hcz33_3 : w30.cell? ⟨gb325, 3, none⟩ = some (.int .i64 a1_3) := (blk_cell BK325.out 3).trans rfl; have hfz33_0 := blk_frozen BK325.out 0; have hfz33_1 := blk_frozen BK325.out 1; have hfz33_2 := blk_frozen BK325.out 2; have hfz33_3 := blk_frozen BK325.out 3) | ((with_reducible refine gate_callee (f := 45) rfl ?_); refine gol (some 7) Try.func45 #[.agg #[.int .i64 a0_0, .int .i64 a0_1, .int .i64 a0_2, .int .i64 a0_3], .agg #[.int .i64 a1_0, .int .i64 a1_1, .int .i64 a1_2, .int .i64 a1_3]] ?_; (with_reducible refine (span_both.calls k a0_0 a0_1 a0_2 a0_3 a1_0 a1_1 a1_2 a1_3 false _ A3.out).mono ?_); rintro e w34 ⟨rfl, hb⟩; refine ⟨_, rfl, ?_⟩; replace BK324 := bkb BK324 hb; replace BK325 := bkb BK325 hb; replace HB := bst HB hb; (try clear hb); (try clear hb2); (try clear hk); (try clear hi)))
    go_ret
    exact ⟨by first | rfl | (simp [errW_none, errW_some] <;> rfl) | (simp [*, errW_none, errW_some] <;> rfl), by repeat (first | (with_reducible first | exact HB.out | apply below_alloc | apply pw_below_drewN | apply below_drew1 | refine below_set ?_ GE324.out | refine below_set ?_ GE325.out) | exact HB.out)⟩
section
attribute [local go_sem high] eqA23 eqA25
/-! ### span_Touch: function 20 -/
def span_Touch.f (k : Nat) (a0_0 : Int) (a0_1 : Int) (a0_2 : Int) (a0_3 : Int) (a1_0 : Int) (a1_1 : Int) (a1_2 : Int) (a1_3 : Int) : Option (Bool) := (span_both.f k a0_0 a0_1 a0_2 a0_3 a1_0 a1_1 a1_2 a1_3).bind fun t331 => (if t331 = true then (if (a0_2 == a1_0 && (a0_3 == a1_1)) = true then (some true) else (some (a1_2 == a0_0 && (a1_3 == a0_1)))) else (some false))
theorem span_Touch.mono : ∀ a0 a1 a2 a3 a4 a5 a6 a7 k, LeO (span_Touch.f k a0 a1 a2 a3 a4 a5 a6 a7) (span_Touch.f (k + 1) a0 a1 a2 a3 a4 a5 a6 a7) := by
  intro a0 a1 a2 a3 a4 a5 a6 a7 k
  unfold span_Touch.f
  repeat' first
      | (with_reducible exact span_both.mono _ _ _ _ _ _ _ _ _)
      | (with_reducible exact LeO.refl _)
      | (with_reducible exact LeO.none _)
      | (with_reducible refine LeO.ite ?_ ?_)
      | (with_reducible refine LeO.bind ?_ (fun _ => ?_))
      | exact span_both.mono _ _ _ _ _ _ _ _ _
      | exact LeO.none _
      | refine LeO.ite ?_ ?_
      | refine LeO.bind ?_ (fun _ => ?_)
set_option maxHeartbeats 8000000 in
set_option maxRecDepth 100000 in
theorem span_Touch.calls (k : Nat) (a0_0 : Int) (a0_1 : Int) (a0_2 : Int) (a0_3 : Int) (a1_0 : Int) (a1_1 : Int) (a1_2 : Int) (a1_3 : Int) (r : Bool) (w : World) (h : span_Touch.f k a0_0 a0_1 a0_2 a0_3 a1_0 a1_1 a1_2 a1_3 = some r) :
    Calls Try.prog 20 #[.agg #[.int .i64 a0_0, .int .i64 a0_1, .int .i64 a0_2, .int .i64 a0_3], .agg #[.int .i64 a1_0, .int .i64 a1_1, .int .i64 a1_2, .int .i64 a1_3]] w fun e w' => e = .returned (.bool r) ∧ Below w.heap.size w w' := by
  have hu25 := Try.underlying25
  have hu23 := Try.underlying23
  have HB := Aside0.mk (Below.refl w.heap.size w)
  have H : ((span_both.f k a0_0 a0_1 a0_2 a0_3 a1_0 a1_1 a1_2 a1_3).bind fun t331 => (if t331 = true then (if (a0_2 == a1_0 && (a0_3 == a1_1)) = true then (some true) else (some (a1_2 == a0_0 && (a1_3 == a0_1)))) else (some false))) = some r := h
  clear h
  replace H := Option.bind_eq_some_iff.mp H
  obtain ⟨t331, A30, H⟩ := H
  replace H : (if t331 = true then (if (a0_2 == a1_0 && (a0_3 == a1_1)) = true then (some true) else (some (a1_2 == a0_0 && (a1_3 == a0_1)))) else (some false)) = some r := H
  have A3 := Aside0.mk A30
  clear A30
  by_cases c4 : t331 = true
  · subst c4
    have H1 : (if (a0_2 == a1_0 && (a0_3 == a1_1)) = true then (some true) else (some (a1_2 == a0_0 && (a1_3 == a0_1)))) = some r := by rw [if_pos rfl] at H; exact H
    clear H
    have H := H1
    clear H1
    by_cases c5 : (a0_2 == a1_0 && (a0_3 == a1_1)) = true
    · rw [if_pos c5] at H
      have c5b0 : (a0_2 == a1_0 && (a0_3 == a1_1)) = true := c5
      (try (have c5b1 : decide (a0_2 = a1_0 && (a0_3 == a1_1)) = true := by simpa using c5))
      (try (have c5b2 : (a0_2 == a1_0 && (a0_3 == a1_1)) = true := by simpa using c5))
      clear c5
      obtain rfl := Option.some.inj H
      go_enter Try.func20, Try.ntmps20
      go_wp2_with (first | ((with_reducible refine gate_dst (N := 2) rfl ?_); refine bxe (N := 2) (cs := #[.int .i64 a0_0, .int .i64 a0_1, .int .i64 a0_2, .int .i64 a0_3]) (t := 25) ?_; intro gb329 hg w6 hbox hb; have BK329 := Aside0.mk (hbox); have GW329 := lsz hg HB; have GE329 := lsz hg HB; replace HB := bst HB hb; clear hb hbox hg) | ((with_reducible refine gate_dst (N := 3) rfl ?_); refine bxe (N := 3) (cs := #[.int .i64 a1_0, .int .i64 a1_1, .int .i64 a1_2, .int .i64 a1_3]) (t := 25) ?_; intro gb330 hg w7 hbox hb; have BK330 := Aside0.mk (hbox); have GW330 := lsz hg HB; have GE330 := lsz hg HB; replace HB := bst HB hb; have NB329_330 := nlt hg BK329; have NB330_329 := ngt hg BK329; replace BK329 := bkb BK329 hb; clear hb hbox hg; have hnb8 := NB329_330.out; have hnc8 := NB330_329.out; have hcz9_0 : w7.cell? ⟨gb329, 0, none⟩ = some (.int .i64 a0_0) := (blk_cell BK329.out 0).trans rfl; have hcz9_1 : w7.cell? ⟨gb329, 1, none⟩ = some (.int .i64 a0_1) := (blk_cell BK329.out 1).trans rfl; have hcz9_2 : w7.cell? ⟨gb329, 2, none⟩ = some (.int .i64 a0_2) := (blk_cell BK329.out 2).trans rfl; have hcz9_3 : w7.cell? ⟨gb329, 3, none⟩ = some (.int .i64 a0_3) := (blk_cell BK329.out 3).trans rfl; have hfz9_0 := blk_frozen BK329.out 0; have hfz9_1 := blk_frozen BK329.out 1; have hfz9_2 := blk_frozen BK329.out 2; have hfz9_3 := blk_frozen BK329.out 3; have hcz10_0 : w7.cell? ⟨gb330, 0, none⟩ = some (.int .i64 a1_0) := (blk_cell BK330.out 0).trans rfl; have hcz10_1 : w7.cell? ⟨gb330, 1, none⟩ = some (.int .i64 a1_1) := (blk_cell BK330.out 1).trans rfl; have hcz10_2 : w7.cell? ⟨gb330, 2, none⟩ = some (.int .i64 a1_2) := (blk_cell BK330.out 2).trans rfl; have hcz10_3 : w7.cell? ⟨gb330, 3, none⟩ = some (.int .i64 a1_3) := (blk_cell BK330.out 3).trans rfl; have hfz10_0 := blk_frozen BK330.out 0; have hfz10_1 := blk_frozen BK330.out 1; have hfz10_2 := blk_frozen BK330.out 2; have hfz10_3 := blk_frozen BK330.out 3) | ((with_reducible refine gate_callee (f := 45) rfl ?_); refine gol (some 7) Try.func45 #[.agg #[.int .i64 a0_0, .int .i64 a0_1, .int .i64 a0_2, .int .i64 a0_3], .agg #[.int .i64 a1_0, .int .i64 a1_1, .int .i64 a1_2, .int .i64 a1_3]] ?_; (with_reducible refine (span_both.calls k a0_0 a0_1 a0_2 a0_3 a1_0 a1_1 a1_2 a1_3 true _ A3.out).mono ?_); rintro e w11 ⟨rfl, hb⟩; refine ⟨_, rfl, ?_⟩; replace BK329 := bkb BK329 hb; replace BK330 := bkb BK330 hb; replace HB := bst HB hb; (try clear hb); (try clear hb2); (try clear hk); (try clear hi); have hcz12_0 : w11.cell? ⟨gb329, 0, none⟩ = some (.int .i64 a0_0) := (blk_cell BK329.out 0).trans rfl; have hcz12_1 : w11.cell? ⟨gb329, 1, none⟩ = some (.int .i64 a0_1) := (blk_cell BK329.out 1).trans rfl; have hcz12_2 : w11.cell? ⟨gb329, 2, none⟩ = some (.int .i64 a0_2) := (blk_cell BK329.out 2).trans rfl; have hcz12_3 : w11.cell? ⟨gb329, 3, none⟩ = some (.int .i64 a0_3) := (blk_cell BK329.out 3).trans rfl; have hfz12_0 := blk_frozen BK329.out 0; have hfz12_1 := blk_frozen BK329.out 1; have hfz12_2 := blk_frozen BK329.out 2; have hfz12_3 := blk_frozen BK329.out 3; have hcz13_0 : w11.cell? ⟨gb330, 0, none⟩ = some (.int .i64 a1_0) := (blk_cell BK330.out 0).trans rfl; have hcz13_1 : w11.cell? ⟨gb330, 1, none⟩ = some (.int .i64 a1_1) := (blk_cell BK330.out 1).trans rfl; have hcz13_2 : w11.cell? ⟨gb330, 2, none⟩ = some (.int .i64 a1_2) := (blk_cell BK330.out 2).trans rfl; have hcz13_3 : w11.cell? ⟨gb330, 3, none⟩ = some (.int .i64 a1_3) := (blk_cell BK330.out 3).trans rfl; have hfz13_0 := blk_frozen BK330.out 0; have hfz13_1 := blk_frozen BK330.out 1; have hfz13_2 := blk_frozen BK330.out 2; have hfz13_3 := blk_frozen BK330.out 3))
      go_ret
      exact ⟨by first | rfl | (simp [errW_none, errW_some] <;> rfl) | (simp [*, errW_none, errW_some] <;> rfl), by repeat (first | (with_reducible first | exact HB.out | apply below_alloc | apply pw_below_drewN | apply below_drew1 | refine below_set ?_ GE329.out | refine below_set ?_ GE330.out) | exact HB.out)⟩
    · rw [if_neg c5] at H
      have c5b0 : (a0_2 == a1_0 && (a0_3 == a1_1)) = false := by simpa using c5
      (try (have c5b1 : decide (a0_2 = a1_0 && (a0_3 == a1_1)) = false := by simpa using c5))
      (try (have c5b2 : (a0_2 == a1_0 && (a0_3 == a1_1)) = false := by simpa using c5))
      (try (have c5b3 : ¬ (a0_2 = a1_0 && (a0_3 == a1_1)) := by simpa using c5))
      clear c5
      obtain rfl := Option.some.inj H
      go_enter Try.func20, Try.ntmps20
      go_wp2_with (first | ((with_reducible refine gate_dst (N := 2) rfl ?_); refine bxe (N := 2) (cs := #[.int .i64 a0_0, .int .i64 a0_1, .int .i64 a0_2, .int .i64 a0_3]) (t := 25) ?_; intro gb329 hg w14 hbox hb; have BK329 := Aside0.mk (hbox); have GW329 := lsz hg HB; have GE329 := lsz hg HB; replace HB := bst HB hb; clear hb hbox hg) | ((with_reducible refine gate_dst (N := 3) rfl ?_); refine bxe (N := 3) (cs := #[.int .i64 a1_0, .int .i64 a1_1, .int .i64 a1_2, .int .i64 a1_3]) (t := 25) ?_; intro gb330 hg w15 hbox hb; have BK330 := Aside0.mk (hbox); have GW330 := lsz hg HB; have GE330 := lsz hg HB; replace HB := bst HB hb; have NB329_330 := nlt hg BK329; have NB330_329 := ngt hg BK329; replace BK329 := bkb BK329 hb; clear hb hbox hg; have hnb16 := NB329_330.out; have hnc16 := NB330_329.out; have hcz17_0 : w15.cell? ⟨gb329, 0, none⟩ = some (.int .i64 a0_0) := (blk_cell BK329.out 0).trans rfl; have hcz17_1 : w15.cell? ⟨gb329, 1, none⟩ = some (.int .i64 a0_1) := (blk_cell BK329.out 1).trans rfl; have hcz17_2 : w15.cell? ⟨gb329, 2, none⟩ = some (.int .i64 a0_2) := (blk_cell BK329.out 2).trans rfl; have hcz17_3 : w15.cell? ⟨gb329, 3, none⟩ = some (.int .i64 a0_3) := (blk_cell BK329.out 3).trans rfl; have hfz17_0 := blk_frozen BK329.out 0; have hfz17_1 := blk_frozen BK329.out 1; have hfz17_2 := blk_frozen BK329.out 2; have hfz17_3 := blk_frozen BK329.out 3; have hcz18_0 : w15.cell? ⟨gb330, 0, none⟩ = some (.int .i64 a1_0) := (blk_cell BK330.out 0).trans rfl; have hcz18_1 : w15.cell? ⟨gb330, 1, none⟩ = some (.int .i64 a1_1) := (blk_cell BK330.out 1).trans rfl; have hcz18_2 : w15.cell? ⟨gb330, 2, none⟩ = some (.int .i64 a1_2) := (blk_cell BK330.out 2).trans rfl; have hcz18_3 : w15.cell? ⟨gb330, 3, none⟩ = some (.int .i64 a1_3) := (blk_cell BK330.out 3).trans rfl; have hfz18_0 := blk_frozen BK330.out 0; have hfz18_1 := blk_frozen BK330.out 1; have hfz18_2 := blk_frozen BK330.out 2; have hfz18_3 := blk_frozen BK330.out 3) | ((with_reducible refine gate_callee (f := 45) rfl ?_); refine gol (some 7) Try.func45 #[.agg #[.int .i64 a0_0, .int .i64 a0_1, .int .i64 a0_2, .int .i64 a0_3], .agg #[.int .i64 a1_0, .int .i64 a1_1, .int .i64 a1_2, .int .i64 a1_3]] ?_; (with_reducible refine (span_both.calls k a0_0 a0_1 a0_2 a0_3 a1_0 a1_1 a1_2 a1_3 true _ A3.out).mono ?_); rintro e w19 ⟨rfl, hb⟩; refine ⟨_, rfl, ?_⟩; replace BK329 := bkb BK329 hb; replace BK330 := bkb BK330 hb; replace HB := bst HB hb; (try clear hb); (try clear hb2); (try clear hk); (try clear hi); have hcz20_0 : w19.cell? ⟨gb329, 0, none⟩ = some (.int .i64 a0_0) := (blk_cell BK329.out 0).trans rfl; have hcz20_1 : w19.cell? ⟨gb329, 1, none⟩ = some (.int .i64 a0_1) := (blk_cell BK329.out 1).trans rfl; have hcz20_2 : w19.cell? ⟨gb329, 2, none⟩ = some (.int .i64 a0_2) := (blk_cell BK329.out 2).trans rfl; have hcz20_3 : w19.cell? ⟨gb329, 3, none⟩ = some (.int .i64 a0_3) := (blk_cell BK329.out 3).trans rfl; have hfz20_0 := blk_frozen BK329.out 0; have hfz20_1 := blk_frozen BK329.out 1; have hfz20_2 := blk_frozen BK329.out 2; have hfz20_3 := blk_frozen BK329.out 3; have hcz21_0 : w19.cell? ⟨gb330, 0, none⟩ = some (.int .i64 a1_0) := (blk_cell BK330.out 0).trans rfl; have hcz21_1 : w19.cell? ⟨gb330, 1, none⟩ = some (.int .i64 a1_1) := (blk_cell BK330.out 1).trans rfl; have hcz21_2 : w19.cell? ⟨gb330, 2, none⟩ = some (.int .i64 a1_2) := (blk_cell BK330.out 2).trans rfl; have hcz21_3 : w19.cell? ⟨gb330, 3, none⟩ = some (.int .i64 a1_3) := (blk_cell BK330.out 3).trans rfl; have hfz21_0 := blk_frozen BK330.out 0; have hfz21_1 := blk_frozen BK330.out 1; have hfz21_2 := blk_frozen BK330.out 2; have hfz21_3 := blk_frozen BK330.out 3))
      go_ret
      exact ⟨by first | rfl | (simp [errW_none, errW_some] <;> rfl) | (simp [*, errW_none, errW_some] <;> rfl), by repeat (first | (with_reducible first | exact HB.out | apply below_alloc | apply pw_below_drewN | apply below_drew1 | refine below_set ?_ GE329.out | refine below_set ?_ GE330.out) | exact HB.out)⟩
  · replace c4 := Bool.eq_false_iff.mpr c4
    subst c4
    have H1 : (some false) = some r := by rw [if_neg (show ¬ (false = true) by decide)] at H; exact H
    clear H
    have H := H1
    clear H1
    obtain rfl := Option.some.inj H
    go_enter Try.func20, Try.ntmps20
    go_wp2_with (first | ((with_reducible refine gate_dst (N := 2) rfl ?_); refine bxe (N := 2) (cs := #[.int .i64 a0_0, .int .i64 a0_1, .int .i64 a0_2, .int .i64 a0_3]) (t := 25) ?_; intro gb329 hg w22 hbox hb; have BK329 := Aside0.mk (hbox); have GW329 := lsz hg HB; have GE329 := lsz hg HB; replace HB := bst HB hb; clear hb hbox hg) | ((with_reducible refine gate_dst (N := 3) rfl ?_); refine bxe (N := 3) (cs := #[.int .i64 a1_0, .int .i64 a1_1, .int .i64 a1_2, .int .i64 a1_3]) (t := 25) ?_; intro gb330 hg w23 hbox hb; have BK330 := Aside0.mk (hbox); have GW330 := lsz hg HB; have GE330 := lsz hg HB; replace HB := bst HB hb; have NB329_330 := nlt hg BK329; have NB330_329 := ngt hg BK329; replace BK329 := bkb BK329 hb; clear hb hbox hg; have hnb24 := NB329_330.out; have hnc24 := NB330_329.out; have hcz25_0 : w23.cell? ⟨gb329, 0, none⟩ = some (.int .i64 a0_0) := (blk_cell BK329.out 0).trans rfl; have hcz25_1 : w23.cell? ⟨gb329, 1, none⟩ = some (.int .i64 a0_1) := (blk_cell BK329.out 1).trans rfl; have hcz25_2 : w23.cell? ⟨gb329, 2, none⟩ = some (.int .i64 a0_2) := (blk_cell BK329.out 2).trans rfl; have hcz25_3 : w23.cell? ⟨gb329, 3, none⟩ = some (.int .i64 a0_3) := (blk_cell BK329.out 3).trans rfl; have hfz25_0 := blk_frozen BK329.out 0; have hfz25_1 := blk_frozen BK329.out 1; have hfz25_2 := blk_frozen BK329.out 2; have hfz25_3 := blk_frozen BK329.out 3; have hcz26_0 : w23.cell? ⟨gb330, 0, none⟩ = some (.int .i64 a1_0) := (blk_cell BK330.out 0).trans rfl; have hcz26_1 : w23.cell? ⟨gb330, 1, none⟩ = some (.int .i64 a1_1) := (blk_cell BK330.out 1).trans rfl; have hcz26_2 : w23.cell? ⟨gb330, 2, none⟩ = some (.int .i64 a1_2) := (blk_cell BK330.out 2).trans rfl; have hcz26_3 : w23.cell? ⟨gb330, 3, none⟩ = some (.int .i64 a1_3) := (blk_cell BK330.out 3).trans rfl; have hfz26_0 := blk_frozen BK330.out 0; have hfz26_1 := blk_frozen BK330.out 1; have hfz26_2 := blk_frozen BK330.out 2; have hfz26_3 := blk_frozen BK330.out 3) | ((with_reducible refine gate_callee (f := 45) rfl ?_); refine gol (some 7) Try.func45 #[.agg #[.int .i64 a0_0, .int .i64 a0_1, .int .i64 a0_2, .int .i64 a0_3], .agg #[.int .i64 a1_0, .int .i64 a1_1, .int .i64 a1_2, .int .i64 a1_3]] ?_; (with_reducible refine (span_both.calls k a0_0 a0_1 a0_2 a0_3 a1_0 a1_1 a1_2 a1_3 false _ A3.out).mono ?_); rintro e w27 ⟨rfl, hb⟩; refine ⟨_, rfl, ?_⟩; replace BK329 := bkb BK329 hb; replace BK330 := bkb BK330 hb; replace HB := bst HB hb; (try clear hb); (try clear hb2); (try clear hk); (try clear hi)))
    go_ret
    exact ⟨by first | rfl | (simp [errW_none, errW_some] <;> rfl) | (simp [*, errW_none, errW_some] <;> rfl), by repeat (first | (with_reducible first | exact HB.out | apply below_alloc | apply pw_below_drewN | apply below_drew1 | refine below_set ?_ GE329.out | refine below_set ?_ GE330.out) | exact HB.out)⟩
end
section
attribute [local go_sem high] eqA23 eqA25
/-! ### bocageref03_Same: function 22 -/
def bocageref03_Same.l0 : Nat → List (S25) → List (S25) → Int → Option (Bool)
  | 0, _, _, _ => none
  | k + 1, x0, x1, x5 => if x5 < (x0.length : Int) then (if 0 ≤ x5 then (if x5 < (x1.length : Int) then (if ((!(((rd_T25 x0 x5).f0.f0) == ((rd_T25 x1 x5).f0.f0)) || (!(((rd_T25 x0 x5).f0.f1) == ((rd_T25 x1 x5).f0.f1)))) || ((!(((rd_T25 x0 x5).f1.f0) == ((rd_T25 x1 x5).f1.f0)) || (!(((rd_T25 x0 x5).f1.f1) == ((rd_T25 x1 x5).f1.f1)))))) = true then (some false) else (bocageref03_Same.l0 k x0 x1 (wrap64 (x5 + 1)))) else (none)) else (none)) else (some true)
def bocageref03_Same.f (k : Nat) (l0 : List (S25)) (l1 : List (S25)) : Option (Bool) := if (l0.length : Int) = (l1.length : Int) then (bocageref03_Same.l0 k l0 l1 0) else (some false)
theorem bocageref03_Same.mono_l : ∀ k, (∀ y0 y1 y2, LeO (bocageref03_Same.l0 k y0 y1 y2) (bocageref03_Same.l0 (k + 1) y0 y1 y2))
  | 0 => fun _ _ _ r h => by simp [bocageref03_Same.l0] at h
  | k + 1 => by
    have ih0 := bocageref03_Same.mono_l k
    · intro y0 y1 y2
      unfold bocageref03_Same.l0
      repeat' first
      | (with_reducible exact ih0 _ _ _)
      | (with_reducible exact LeO.refl _)
      | (with_reducible exact LeO.none _)
      | (with_reducible refine LeO.ite ?_ ?_)
      | (with_reducible refine LeO.bind ?_ (fun _ => ?_))
      | exact ih0 _ _ _
      | exact LeO.none _
      | refine LeO.ite ?_ ?_
      | refine LeO.bind ?_ (fun _ => ?_)
theorem bocageref03_Same.mono : ∀ a0 a1 k, LeO (bocageref03_Same.f k a0 a1) (bocageref03_Same.f (k + 1) a0 a1) := by
  intro a0 a1 k
  have ih0 := bocageref03_Same.mono_l k
  unfold bocageref03_Same.f
  repeat' first
      | (with_reducible exact ih0 _ _ _)
      | (with_reducible exact LeO.refl _)
      | (with_reducible exact LeO.none _)
      | (with_reducible refine LeO.ite ?_ ?_)
      | (with_reducible refine LeO.bind ?_ (fun _ => ?_))
      | exact ih0 _ _ _
      | exact LeO.none _
      | refine LeO.ite ?_ ?_
      | refine LeO.bind ?_ (fun _ => ?_)
set_option maxHeartbeats 8000000 in
set_option maxRecDepth 100000 in
theorem bocageref03_Same.calls (k : Nat) (A0 : Option Addr) (c0 : Nat) (l0 : List (S25)) (A1 : Option Addr) (c1 : Nat) (l1 : List (S25)) (r : Bool) (w : World) (hr0 : Kd.C k25 w A0 l0.length l0) (hc0 : l0.length ≤ c0) (hr1 : Kd.C k25 w A1 l1.length l1) (hc1 : l1.length ≤ c1) (h : bocageref03_Same.f k l0 l1 = some r) :
    Calls Try.prog 22 #[.slice A0 l0.length c0, .slice A1 l1.length c1] w fun e w' => e = .returned (.bool r) ∧ Drawn0 w w' := by
  have hu25 := Try.underlying25
  have HR0 := Aside0.mk hr0
  have HC0 := Aside0.mk hc0
  clear hr0 hc0
  have HR1 := Aside0.mk hr1
  have HC1 := Aside0.mk hc1
  clear hr1 hc1
  have H : (if (l0.length : Int) = (l1.length : Int) then (bocageref03_Same.l0 k l0 l1 0) else (some false)) = some r := h
  clear h
  by_cases c3 : (l0.length : Int) = (l1.length : Int)
  · rw [if_pos c3] at H
    have c3b0 : ((l0.length : Int) == (l1.length : Int)) = true := beq_iff_eq.mpr c3
    have c3b1 : ((l0.length : Int) != (l1.length : Int)) = false := bne_eq_false_iff_eq.mpr c3
    have c3b2 : (l0.length == l1.length) = true := by first | simpa using c3 | (simp at c3 ⊢; omega)
    clear c3
    have H' := Aside0.mk H
    clear H
    go_enter Try.func22, Try.ntmps22
    go_wp2
    repeat (go_quiet (fail); try go_wp2)
    go_loopg [5] k (fun kq v5 w' => ∃ (x5_1 : Int), v5 = .int .i64 x5_1 ∧ Aside0 (bocageref03_Same.l0 kq l0 l1 x5_1 = some r) ∧ Aside0 (kq ≤ k) ∧ Drawn0 w w')
    case atStart => exact ⟨(0), (by first | rfl | (simp; done) | (simp [*]; done)), H', ⟨Nat.le_refl _⟩, by repeat (first | exact Drawn0.refl _ | apply Drawn0.step)⟩
    case round =>
      clear H'
      try clear c1
      try clear c2
      try clear p2
      try clear c3
      try clear c3b0
      try clear c3b1
      try clear c3b2
      obtain ⟨x5_1, rfl, HA, HK1, ⟨m1, rfl⟩⟩ := hrel
      cases gk with
      | zero => exact absurd HA.out (by simp [bocageref03_Same.l0])
      | succ k1 =>
        have H := HA.out
        clear HA
        simp only [bocageref03_Same.l0] at H
        by_cases c4 : x5_1 < (l0.length : Int)
        · rw [if_pos c4] at H
          have c4b0 : decide (x5_1 < (l0.length : Int)) = true := decide_eq_true c4
          clear c4
          by_cases c5 : 0 ≤ x5_1
          · rw [if_pos c5] at H
            have c5b0 : decide (0 ≤ x5_1) = true := decide_eq_true c5
            clear c5
            by_cases c6 : x5_1 < (l1.length : Int)
            · rw [if_pos c6] at H
              have c6b0 : decide (x5_1 < (l1.length : Int)) = true := decide_eq_true c6
              clear c6
              by_cases c7 : ((!(((rd_T25 l0 x5_1).f0.f0) == ((rd_T25 l1 x5_1).f0.f0)) || (!(((rd_T25 l0 x5_1).f0.f1) == ((rd_T25 l1 x5_1).f0.f1)))) || ((!(((rd_T25 l0 x5_1).f1.f0) == ((rd_T25 l1 x5_1).f1.f0)) || (!(((rd_T25 l0 x5_1).f1.f1) == ((rd_T25 l1 x5_1).f1.f1)))))) = true
              · rw [if_pos c7] at H
                have c7b0 : ((!(((rd_T25 l0 x5_1).f0.f0) == ((rd_T25 l1 x5_1).f0.f0)) || (!(((rd_T25 l0 x5_1).f0.f1) == ((rd_T25 l1 x5_1).f0.f1)))) || ((!(((rd_T25 l0 x5_1).f1.f0) == ((rd_T25 l1 x5_1).f1.f0)) || (!(((rd_T25 l0 x5_1).f1.f1) == ((rd_T25 l1 x5_1).f1.f1)))))) = true := c7
                clear c7
                obtain rfl := Option.some.inj H
                have p332 : 0 ≤ (x5_1 : Int) := of_decide_eq_true (by first | (with_reducible assumption) | assumption)
                have q332 : x5_1 < (l0.length : Int) := of_decide_eq_true (by first | (with_reducible assumption) | assumption)
                obtain ⟨ad332, e332, hx332_0, hx332_1, hx332_2, hx332_3⟩ := at_T25 HR0.out x5_1 p332 q332
                cases e332
                replace p332 := eq_true p332
                replace q332 := eq_true q332
                have p333 : 0 ≤ (x5_1 : Int) := of_decide_eq_true (by first | (with_reducible assumption) | assumption)
                have q333 : x5_1 < (l1.length : Int) := of_decide_eq_true (by first | (with_reducible assumption) | assumption)
                obtain ⟨ad333, e333, hx333_0, hx333_1, hx333_2, hx333_3⟩ := at_T25 HR1.out x5_1 p333 q333
                cases e333
                replace p333 := eq_true p333
                replace q333 := eq_true q333
                go_wp2
                repeat (go_quiet (fail); try go_wp2)
                go_ret
                exact ⟨by first | rfl | (simp; done) | (simp [*]; done), by repeat (first | exact Drawn0.refl _ | apply Drawn0.step)⟩
              · rw [if_neg c7] at H
                have c7b0 : ((!(((rd_T25 l0 x5_1).f0.f0) == ((rd_T25 l1 x5_1).f0.f0)) || (!(((rd_T25 l0 x5_1).f0.f1) == ((rd_T25 l1 x5_1).f0.f1)))) || ((!(((rd_T25 l0 x5_1).f1.f0) == ((rd_T25 l1 x5_1).f1.f0)) || (!(((rd_T25 l0 x5_1).f1.f1) == ((rd_T25 l1 x5_1).f1.f1)))))) = false := by simpa using c7
                clear c7
                have H' := Aside0.mk H
                clear H
                have p332 : 0 ≤ (x5_1 : Int) := of_decide_eq_true (by first | (with_reducible assumption) | assumption)
                have q332 : x5_1 < (l0.length : Int) := of_decide_eq_true (by first | (with_reducible assumption) | assumption)
                obtain ⟨ad332, e332, hx332_0, hx332_1, hx332_2, hx332_3⟩ := at_T25 HR0.out x5_1 p332 q332
                cases e332
                replace p332 := eq_true p332
                replace q332 := eq_true q332
                have p333 : 0 ≤ (x5_1 : Int) := of_decide_eq_true (by first | (with_reducible assumption) | assumption)
                have q333 : x5_1 < (l1.length : Int) := of_decide_eq_true (by first | (with_reducible assumption) | assumption)
                obtain ⟨ad333, e333, hx333_0, hx333_1, hx333_2, hx333_3⟩ := at_T25 HR1.out x5_1 p333 q333
                cases e333
                replace p333 := eq_true p333
                replace q333 := eq_true q333
                go_wp2
                repeat (go_quiet (fail); try go_wp2)
                go_roundg k1
                case measure => have := HK1.out; omega
                case rel => exact ⟨(wrap64 (x5_1 + 1)), (by first | rfl | (simp; done) | (simp [*]; done)), H', ⟨by have := HK1.out; omega⟩, by repeat (first | exact Drawn0.refl _ | apply Drawn0.step)⟩
            · rw [if_neg c6] at H
              exact absurd H (by simp)
          · rw [if_neg c5] at H
            exact absurd H (by simp)
        · rw [if_neg c4] at H
          have c4b0 : decide (x5_1 < (l0.length : Int)) = false := decide_eq_false c4
          clear c4
          obtain rfl := Option.some.inj H
          go_wp2
          repeat (go_quiet (fail); try go_wp2)
          go_ret
          exact ⟨by first | rfl | (simp; done) | (simp [*]; done), by repeat (first | exact Drawn0.refl _ | apply Drawn0.step)⟩
  · rw [if_neg c3] at H
    have c3b0 : ((l0.length : Int) == (l1.length : Int)) = false := beq_eq_false_iff_ne.mpr c3
    have c3b1 : ((l0.length : Int) != (l1.length : Int)) = true := bne_iff_ne.mpr c3
    have c3b2 : (l0.length == l1.length) = false := by first | simpa using c3 | (simp at c3 ⊢; omega)
    obtain rfl := Option.some.inj H
    go_enter Try.func22, Try.ntmps22
    go_wp2
    repeat (go_quiet (fail); try go_wp2)
    go_ret
    exact ⟨by first | rfl | (simp; done) | (simp [*]; done), by repeat (first | exact Drawn0.refl _ | apply Drawn0.step)⟩
end
/-! ### span_Minus: function 23 -/
set_option maxHeartbeats 8000000 in
set_option maxRecDepth 100000 in
theorem span_Minus_add (k : Nat) (l0 l1 h0 h1 r1 r2 r3 r4 r5 : Int) (h : span_Of.f k l0 l1 h0 h1 = some (r1, r2, r3, r4, r5)) (g base : Nat) (ok : Nat → Prop) (v : Value) (xs : List S25) (w0 W : World) (HBw : Below base w0 W) (hbase : base ≤ W.heap.size)
    (hg : W.heap[g]? = some (.cells #[v] 26 (0, 0))) (hgb : base ≤ g) (HO : Kd.R k25 25 W base ok v xs) (hok : ∀ q, ok q → q ≠ g) (hfr : ∀ q, W.heap.size ≤ q → ok q) (hl : xs.length < 1000) :
    Calls Try.prog 54 #[.agg #[.int .i64 l0, .int .i64 l1], .agg #[.int .i64 h0, .int .i64 h1], .pointer (some ⟨g, 0, none⟩)] W fun e w' => e = .returned (.tuple #[]) ∧
      ∃ v', w'.heap[g]? = some (.cells #[v'] 26 (0, 0)) ∧ Kd.R k25 25 w' base ok v' (xs ++ if r5 = 0 then [⟨⟨r1, r2⟩, ⟨r3, r4⟩⟩] else []) ∧ Below base w0 w' ∧ ∀ (q : Nat) (o : Obj), W.heap[q]? = some o → q ≠ g → some q ≠ v.ownBlock → w'.heap[q]? = some o := by
  have hu25 := Try.underlying25
  have hu23 := Try.underlying23
  have hu26 := Try.underlying26
  have A1 := Aside0.mk h
  have BG := Aside0.mk hg
  have HO0 := Aside0.mk HO
  have HB0 := Aside0.mk HBw
  have HOK := Aside0.mk hok
  have HFR := Aside0.mk hfr
  have HB := Aside0.mk (Below.refl W.heap.size W)
  clear h hg HO HBw hok hfr
  go_enter Try.func54, Try.ntmps54
  go_upto_region 1 with (first
    | ((with_reducible refine gate_dst (N := 3) rfl ?_); refine bxe (N := 3) (cs := #[.int .i64 l0, .int .i64 l1]) (t := 23) ?_; intro ga hga w1 hbox hb; have BA := Aside0.mk hbox; have n0 := bst HB hb; clear HB; have HB := n0; clear n0; clear hb hbox hga)
    | ((with_reducible refine gate_dst (N := 4) rfl ?_); refine bxe (N := 4) (cs := #[.int .i64 h0, .int .i64 h1]) (t := 23) ?_; intro gc hgc w2 hbox hb; have BC := Aside0.mk hbox; have n1 := Aside0.mk (blk_below BA.out hb); have n0 := bst HB hb; clear HB BA; have HB := n0; have BA := n1; clear n0 n1; clear hb hbox hgc))
  have c10 := (blk_cell BA.out 0).trans rfl
  have c11 := (blk_cell BA.out 1).trans rfl
  have c20 := (blk_cell BC.out 0).trans rfl
  have c21 := (blk_cell BC.out 1).trans rfl
  by_cases h5 : r5 = 0
  · have d5 : (r5 == 0) = true := beq_iff_eq.2 h5
    have H5 := Aside0.mk h5
    clear h5
    go_upto_region 3 with (first | (go_at_call 24; (with_reducible refine (span_Of.calls k l0 l1 h0 h1 r1 r2 r3 r4 r5 _ A1.out).mono ?_); rintro e w5 ⟨rfl, hb5⟩; have HB' := bst HB hb5; have BG' := Aside0.mk (blk_below BG.out HB'.out); have cg : w5.cell? ⟨g, 0, none⟩ = some v := (blk_cell BG'.out 0).trans rfl; have hgl5 := blk_lt BG'.out; have hn1 : g ≠ w5.heap.size := Nat.ne_of_lt hgl5; have hn2 : w5.heap.size ≠ g := Nat.ne_of_gt hgl5; have cg1 : ∀ o_, (w5.alloc o_).cell? ⟨g, 0, none⟩ = some v := (fun o_ => (blk_cell (blk_alloc BG'.out o_) 0).trans rfl); have hgl := blk_lt BG.out; have hs5 := HB'.out.size; clear hb5))
    have HK5 := Aside0.mk (fun (q : Nat) (o : Obj) (hq : W.heap[q]? = some o) => blk_alloc (blk_below hq HB'.out) (Obj.cells #[.int .i64 r1, .int .i64 r2, .int .i64 r3, .int .i64 r4] 25))
    have HS5 := Aside0.mk (Nat.le_trans hs5 (below_size (below_alloc (Below.refl _ w5) (Obj.cells #[.int .i64 r1, .int .i64 r2, .int .i64 r3, .int .i64 r4] 25))))
    have BG5 := Aside0.mk (blk_alloc BG'.out (Obj.cells #[.int .i64 r1, .int .i64 r2, .int .i64 r3, .int .i64 r4] 25))
    have BS5 := Aside0.mk (blk_new w5 (Obj.cells #[.int .i64 r1, .int .i64 r2, .int .i64 r3, .int .i64 r4] 25))
    have HO5 := Aside0.mk (Kd.R_alloc (Kd.R_below HO0.out HB'.out) (Obj.cells #[.int .i64 r1, .int .i64 r2, .int .i64 r3, .int .i64 r4] 25))
    have HB5 := Aside0.mk ((HB0.out.trans (HB'.out.mono hbase)).alloc (by omega) (Obj.cells #[.int .i64 r1, .int .i64 r2, .int .i64 r3, .int .i64 r4] 25))
    clear cg cg1 hn1 hn2 hgl5 BG' HB' HB BA BC c10 c11 c20 c21 hs5 hgl
    generalize w5.alloc (Obj.cells #[.int .i64 r1, .int .i64 r2, .int .i64 r3, .int .i64 r4] 25) = W5 at *
    generalize w5.heap.size = gs at *
    have cg : W5.cell? ⟨g, 0, none⟩ = some v := (blk_cell BG5.out 0).trans rfl
    have cs0 : W5.cell? ⟨gs, 0, none⟩ = some (.int .i64 r1) := (blk_cell BS5.out 0).trans rfl
    have cs1 : W5.cell? ⟨gs, 1, none⟩ = some (.int .i64 r2) := (blk_cell BS5.out 1).trans rfl
    have cs2 : W5.cell? ⟨gs, 2, none⟩ = some (.int .i64 r3) := (blk_cell BS5.out 2).trans rfl
    have cs3 : W5.cell? ⟨gs, 3, none⟩ = some (.int .i64 r4) := (blk_cell BS5.out 3).trans rfl
    have hb5s : base ≤ W5.heap.size := by have := blk_lt BG5.out; omega
    go_wp2_with (first | ((with_reducible refine gate_builtin (b := .append) (xs := #[.tmp 15, .tmp 17]) rfl ?_); (try (refine gate_guard (by rfl) ?_; dsimp only)); at_builtin; (refine Kd.R_append k25 (w0 := w0) base rfl (.tmp 15) (.tmp 17) 26 25 (.agg #[(.int .i64 0), (.int .i64 0), (.int .i64 0), (.int .i64 0)]) 32 rfl Try.underlying26 info25 rfl (by decide) (by omega) v xs (⟨⟨r1, r2⟩, ⟨r3, r4⟩⟩ : S25) [.int .i64 r1, .int .i64 r2, .int .i64 r3, .int .i64 r4] ok (fun _ => False) rfl rfl ?aP (fun _ hk => hk.elim) ?aF ?aO ?aB ?aS ?aL ?_; (case aP => exact k25_mkM _ _ _ (⟨⟨r1, r2⟩, ⟨r3, r4⟩⟩ : S25)); (case aF => exact (fun k_ hk => HFR.out k_ (Nat.le_trans HS5.out hk))); (case aO => exact HO5.out); (case aB => exact HB5.out); (case aS => exact hb5s); (case aL => omega); intro v1 w6 ho hb hgr hat; obtain ⟨A6, c6, rfl⟩ := Kd.R_slice ho; have BG6 := Aside0.mk (blk_grown BG5.out hgr (Kd.R_away HO5.out HOK.out)); have HO6 := Aside0.mk ho; have HB6 := Aside0.mk hb; have cg6 : w6.cell? ⟨g, 0, none⟩ = some v := (blk_cell BG6.out 0).trans rfl; have fg6 := blk_frozen BG6.out 0; have HG6 := Aside0.mk hgr; clear ho hb hgr hat)))
    case inl =>
      go_end0
      exact ⟨rfl, _, blk_put BG6.out 0 _ rfl, by have hR := Kd.R_far HO6.out (p := ⟨g, 0, none⟩) HOK.out (Value.slice A6 (xs.length + 1) c6); simpa using hR, HB6.out.setCell hgb _, fun q o hq hne hov => (Below.heap_setCell w6 ⟨g, 0, none⟩ _ q hne).trans (blk_grown (HK5.out q o hq) HG6.out hov)⟩
    case inr => exact absurd H5.out (by assumption)
  · have d5 : (r5 == 0) = false := beq_eq_false_iff_ne.2 h5
    have H5 := Aside0.mk h5
    clear h5
    go_wp2_with (first | (go_at_call 24; (with_reducible refine (span_Of.calls k l0 l1 h0 h1 r1 r2 r3 r4 r5 _ A1.out).mono ?_); rintro e w5 ⟨rfl, hb5⟩; have HB' := bst HB hb5; have BG' := Aside0.mk (blk_below BG.out HB'.out); have cg : w5.cell? ⟨g, 0, none⟩ = some v := (blk_cell BG'.out 0).trans rfl; have hgl5 := blk_lt BG'.out; have hn1 : g ≠ w5.heap.size := Nat.ne_of_lt hgl5; have hn2 : w5.heap.size ≠ g := Nat.ne_of_gt hgl5; have cg1 : ∀ o_, (w5.alloc o_).cell? ⟨g, 0, none⟩ = some v := (fun o_ => (blk_cell (blk_alloc BG'.out o_) 0).trans rfl); have hgl := blk_lt BG.out; have hs5 := HB'.out.size; clear hb5))
    all_goals first
      | (go_end0; exact ⟨rfl, v, blk_alloc BG'.out _, Kd.R_alloc (Kd.R_below HO0.out HB'.out) _, (HB0.out.trans (HB'.out.mono hbase)).alloc (by omega) _, fun q o hq _ _ => blk_alloc (blk_below hq HB'.out) _⟩)
      | exact absurd (by assumption) H5.out
/-- a row of two cuts, just laid, reads as such -/
theorem lit2 (W : World) (x y : S23) : Kd.C k23 (W.alloc (.cells #[.int .i64 x.f0, .int .i64 x.f1, .int .i64 y.f0, .int .i64 y.f1] 23 (0, 0))) (some ⟨W.heap.size, 0, none⟩) 2 [x, y] := by
  have h2 := World.ownsRow_lit (base := W.heap.size) (e := 23) (size := k23.sz) W #[.int .i64 x.f0, .int .i64 x.f1, .int .i64 y.f0, .int .i64 y.f1] 2 (Nat.le_refl _) (by decide) rfl
  have hr : Reps (k23.M W W.heap.size (fun _ => True)) k23.sz [x, y] [.int .i64 x.f0, .int .i64 x.f1, .int .i64 y.f0, .int .i64 y.f1] := (Reps.c2 (show Kd.M k23 _ _ _ x [.int .i64 x.f0, .int .i64 x.f1] from (k23_mkM _ _ _ x)) (Reps.c2 (show Kd.M k23 _ _ _ y [.int .i64 y.f0, .int .i64 y.f1] from (k23_mkM _ _ _ y)) (Reps.none _ _)))
  have R : Kd.R k23 23 (W.alloc (.cells #[.int .i64 x.f0, .int .i64 x.f1, .int .i64 y.f0, .int .i64 y.f1] 23 (0, 0))) W.heap.size (fun _ => True) (.slice (some ⟨W.heap.size, 0, none⟩) 2 2) [x, y] :=
    ⟨fun _ _ => trivial, _, h2, hr.imp_ (fun p c hp => k23.M_mono (fun k hk => ⟨trivial, fun he => by
      have h3 : k = W.heap.size := by simpa [Value.ownBlock] using he
      have := hk.2.2.1
      omega⟩) (Kd.M_below (k23.M_bound hp) (below_alloc (Below.refl _ _) _)))⟩
  exact (Kd.R_reads' R).2.2
theorem least2 (k : Nat) (x y : S23) (r1 r2 : Int) (h : cut_Least.f k [x, y] = some (r1, r2)) (g : Nat) (W : World) (hc : Kd.C k23 W (some ⟨g, 0, none⟩) 2 [x, y]) :
    Calls Try.prog 47 #[.slice (some ⟨g, 0, none⟩) 2 2] W fun e w' => e = .returned (.agg #[.int .i64 r1, .int .i64 r2]) ∧ Below W.heap.size W w' := cut_Least.calls k _ 2 [x, y] r1 r2 W hc (Nat.le_refl 2) h
theorem greatest2 (k : Nat) (x y : S23) (r1 r2 : Int) (h : cut_Greatest.f k [x, y] = some (r1, r2)) (g : Nat) (W : World) (hc : Kd.C k23 W (some ⟨g, 0, none⟩) 2 [x, y]) :
    Calls Try.prog 46 #[.slice (some ⟨g, 0, none⟩) 2 2] W fun e w' => e = .returned (.agg #[.int .i64 r1, .int .i64 r2]) ∧ Below W.heap.size W w' := cut_Greatest.calls k _ 2 [x, y] r1 r2 W hc (Nat.le_refl 2) h
def optS (p1 p2 p3 p4 p5 : Int) : List S25 := if p5 = 0 then [⟨⟨p1, p2⟩, ⟨p3, p4⟩⟩] else []
theorem mkS {ga gb : Nat} {a0 a1 a2 a3 b0 b1 b2 b3 : Int} {W W' : World} (h1 : Aside0 (W.heap[ga]? = some (.cells #[.int .i64 a0, .int .i64 a1, .int .i64 a2, .int .i64 a3] 25 (0, 0)))) (h2 : Aside0 (W.heap[gb]? = some (.cells #[.int .i64 b0, .int .i64 b1, .int .i64 b2, .int .i64 b3] 25 (0, 0)))) (hb : Below W.heap.size W W') : (fun w' => Aside0 (w'.heap[ga]? = some (.cells #[.int .i64 a0, .int .i64 a1, .int .i64 a2, .int .i64 a3] 25 (0, 0))) ∧ Aside0 (w'.heap[gb]? = some (.cells #[.int .i64 b0, .int .i64 b1, .int .i64 b2, .int .i64 b3] 25 (0, 0))) ∧ w'.cell? ⟨ga, 0, none⟩ = some (.int .i64 a0) ∧ w'.cell? ⟨ga, 1, none⟩ = some (.int .i64 a1) ∧ w'.cell? ⟨ga, 2, none⟩ = some (.int .i64 a2) ∧ w'.cell? ⟨ga, 3, none⟩ = some (.int .i64 a3) ∧ w'.cell? ⟨gb, 0, none⟩ = some (.int .i64 b0) ∧ w'.cell? ⟨gb, 1, none⟩ = some (.int .i64 b1) ∧ w'.cell? ⟨gb, 2, none⟩ = some (.int .i64 b2) ∧ w'.cell? ⟨gb, 3, none⟩ = some (.int .i64 b3)) W' := by
  have k1 := blk_below h1.out hb
  have k2 := blk_below h2.out hb
  exact ⟨⟨k1⟩, ⟨k2⟩, (blk_cell k1 0).trans rfl, (blk_cell k1 1).trans rfl, (blk_cell k1 2).trans rfl, (blk_cell k1 3).trans rfl, (blk_cell k2 0).trans rfl, (blk_cell k2 1).trans rfl, (blk_cell k2 2).trans rfl, (blk_cell k2 3).trans rfl⟩
theorem frs {g ga gb : Nat} {o1 o2 o3 : Obj} {W W' : World} (h1 : Aside0 (W.heap[g]? = some o1)) (h2 : Aside0 (W.heap[ga]? = some o2)) (h3 : Aside0 (W.heap[gb]? = some o3)) (hs : W'.heap.size = W.heap.size) : ∀ q, W'.heap.size ≤ q → q ≠ g ∧ q ≠ ga ∧ q ≠ gb := by
  intro q hq
  have l1 := blk_lt h1.out
  have l2 := blk_lt h2.out
  have l3 := blk_lt h3.out
  refine ⟨?_, ?_, ?_⟩ <;> omega
set_option maxHeartbeats 8000000 in
set_option maxRecDepth 100000 in
theorem span_Minus_yes (k : Nat) (a0 a1 a2 a3 b0 b1 b2 b3 : Int) (w : World) (e1 : span_both.f k a0 a1 a2 a3 b0 b1 b2 b3 = some true)
    (l1 l2 p1 p2 p3 p4 p5 m1 m2 q1 q2 q3 q4 q5 : Int) (e2 : cut_Least.f k [⟨a2, a3⟩, ⟨b0, b1⟩] = some (l1, l2)) (e3 : span_Of.f k a0 a1 l1 l2 = some (p1, p2, p3, p4, p5))
    (e4 : cut_Greatest.f k [⟨a0, a1⟩, ⟨b2, b3⟩] = some (m1, m2)) (e5 : span_Of.f k m1 m2 a2 a3 = some (q1, q2, q3, q4, q5)) :
    Calls Try.prog 23 #[.agg #[.int .i64 a0, .int .i64 a1, .int .i64 a2, .int .i64 a3], .agg #[.int .i64 b0, .int .i64 b1, .int .i64 b2, .int .i64 b3]] w fun e w' =>
      ∃ v0_ : Value, e = .returned (v0_) ∧ Kd.R k25 25 w' w.heap.size (fun _ => True) v0_ (optS p1 p2 p3 p4 p5 ++ optS q1 q2 q3 q4 q5) ∧ Below w.heap.size w w' := by
  have E1 := Aside0.mk e1
  have E2 := Aside0.mk e2
  have E3 := Aside0.mk e3
  have E4 := Aside0.mk e4
  have E5 := Aside0.mk e5
  clear e1 e2 e3 e4 e5
  have HB := Aside0.mk (Below.refl w.heap.size w)
  go_enter Try.func23, Try.ntmps23
  go_upto_region 1 with (first | ((with_reducible refine gate_dst (N := 2) rfl ?_); refine bxe (N := 2) (cs := #[.int .i64 a0, .int .i64 a1, .int .i64 a2, .int .i64 a3]) (t := 25) ?_; intro ga hga w2 hbox hb; have n0 := bst HB hb; have Bga := Aside0.mk hbox; have Lga : w.heap.size ≤ ga := (by rw [hga]; have := HB.out.size; first | exact this | (simp; done)); clear HB; have HB := n0; clear n0; clear hb hbox hga) | ((with_reducible refine gate_dst (N := 3) rfl ?_); refine bxe (N := 3) (cs := #[.int .i64 b0, .int .i64 b1, .int .i64 b2, .int .i64 b3]) (t := 25) ?_; intro gb hgb w3 hbox hb; have n0 := bst HB hb; have Bgb := Aside0.mk hbox; have Lgb : w.heap.size ≤ gb := (by rw [hgb]; have := HB.out.size; first | exact this | (simp; done)); have nga := Aside0.mk (blk_below Bga.out hb); clear Bga; have Bga := nga; clear nga; clear HB; have HB := n0; clear n0; clear hb hbox hgb))
  go_upto_region 3 with fail
  have Bg := Aside0.mk (blk_new w3 (Obj.cells #[Value.slice none 0 0] 26))
  have Bga' := Aside0.mk (blk_alloc Bga.out (Obj.cells #[Value.slice none 0 0] 26))
  have Bgb' := Aside0.mk (blk_alloc Bgb.out (Obj.cells #[Value.slice none 0 0] 26))
  have HB' := Aside0.mk (below_alloc HB.out (Obj.cells #[Value.slice none 0 0] 26))
  have Lg : w.heap.size ≤ w3.heap.size := HB.out.size
  have nga : ga ≠ w3.heap.size := Nat.ne_of_lt (blk_lt Bga.out)
  have ngb : gb ≠ w3.heap.size := Nat.ne_of_lt (blk_lt Bgb.out)
  clear Bga Bgb HB
  generalize w3.alloc (Obj.cells #[Value.slice none 0 0] 26) = W3 at *
  generalize w3.heap.size = g at *
  have ca0 := (blk_cell Bga'.out 0).trans rfl
  have ca1 := (blk_cell Bga'.out 1).trans rfl
  have ca2 := (blk_cell Bga'.out 2).trans rfl
  have ca3 := (blk_cell Bga'.out 3).trans rfl
  have cb0 := (blk_cell Bgb'.out 0).trans rfl
  have cb1 := (blk_cell Bgb'.out 1).trans rfl
  have cb2 := (blk_cell Bgb'.out 2).trans rfl
  have cb3 := (blk_cell Bgb'.out 3).trans rfl
  go_upto_region 4 with (go_at_call 45; (with_reducible refine (span_both.calls k a0 a1 a2 a3 b0 b1 b2 b3 true _ E1.out).mono ?_); rintro e w5 ⟨rfl, hb5⟩; have Cga := Aside0.mk (blk_below Bga'.out hb5); have Cgb := Aside0.mk (blk_below Bgb'.out hb5); have Cg := Aside0.mk (blk_below Bg.out hb5); have HC := Aside0.mk (below_step HB'.out hb5); have cg : w5.cell? ⟨g, 0, none⟩ = some (.slice none 0 0) := (blk_cell Cg.out 0).trans rfl; clear hb5)
  clear Bga' Bgb' HB' Bg ca0 ca1 ca2 ca3 cb0 cb1 cb2 cb3
  go_region_held3 (fun w' => Aside0 (w'.heap[ga]? = some (.cells #[.int .i64 a0, .int .i64 a1, .int .i64 a2, .int .i64 a3] 25 (0, 0))) ∧ Aside0 (w'.heap[gb]? = some (.cells #[.int .i64 b0, .int .i64 b1, .int .i64 b2, .int .i64 b3] 25 (0, 0))) ∧ w'.cell? ⟨ga, 0, none⟩ = some (.int .i64 a0) ∧ w'.cell? ⟨ga, 1, none⟩ = some (.int .i64 a1) ∧ w'.cell? ⟨ga, 2, none⟩ = some (.int .i64 a2) ∧ w'.cell? ⟨ga, 3, none⟩ = some (.int .i64 a3) ∧ w'.cell? ⟨gb, 0, none⟩ = some (.int .i64 b0) ∧ w'.cell? ⟨gb, 1, none⟩ = some (.int .i64 b1) ∧ w'.cell? ⟨gb, 2, none⟩ = some (.int .i64 b2) ∧ w'.cell? ⟨gb, 3, none⟩ = some (.int .i64 b3)) (first | exact mkS (by assumption) (by assumption) (by repeat (first | (with_reducible first | exact Below.refl _ _ | apply below_alloc | apply pw_below_drewN | apply below_drew1) | exact Below.refl _ _)))
    ((first
      | (go_at_call 47; (refine (least2 k ⟨a2, a3⟩ ⟨b0, b1⟩ l1 l2 E2.out _ _ ?_).mono ?_); (first | exact lit2 _ ⟨a2, a3⟩ ⟨b0, b1⟩ | exact Kd.C_drew (lit2 _ ⟨a2, a3⟩ ⟨b0, b1⟩) | exact Kd.C_drewN (lit2 _ ⟨a2, a3⟩ ⟨b0, b1⟩) _); rintro e w6 ⟨rfl, hb6⟩; have Y6 := below_step (w := w5) (by repeat (first | (with_reducible first | exact Below.refl _ _ | apply below_alloc | apply pw_below_drewN | apply below_drew1) | exact Below.refl _ _)) hb6; have Cga6 := Aside0.mk (blk_below Cga.out Y6); have Cgb6 := Aside0.mk (blk_below Cgb.out Y6); have Cg6 := Aside0.mk (blk_below Cg.out Y6); have HC6 := Aside0.mk (below_step HC.out Y6); clear Y6 hb6)
      | (go_at_call 54; (refine (span_Minus_add k a0 a1 l1 l2 p1 p2 p3 p4 p5 E3.out g w.heap.size (fun q => q ≠ g ∧ q ≠ ga ∧ q ≠ gb) (.slice none 0 0) [] w _ ?_ ?_ ?_ Lg (Kd.R_nil _ _ _ _ _) (fun _ h_ => h_.1) ?_ (by decide)).mono ?_); (with_reducible first | exact HC6.out | exact below_drew1 HC6.out); (with_reducible first | exact below_size HC6.out | exact below_size (below_drew1 HC6.out)); (with_reducible first | exact Cg6.out | exact blk_drew Cg6.out); (exact frs Cg6 Cga6 Cgb6 (by rfl)); rintro e w7 ⟨rfl, v7, hg7, hr7, hb7, hk7⟩; have Cga7 := Aside0.mk (hk7 ga _ (by first | exact Cga6.out | exact blk_drew Cga6.out) nga (by simp [Value.ownBlock])); have Cgb7 := Aside0.mk (hk7 gb _ (by first | exact Cgb6.out | exact blk_drew Cgb6.out) ngb (by simp [Value.ownBlock])); have Cg7 := Aside0.mk hg7; have HC7 := Aside0.mk hb7; have HR7 := Aside0.mk hr7; have fr7 := hr7.1; clear hg7 hr7 hb7 hk7 Cga6 Cgb6 Cg6 HC6 Cga Cgb Cg HC)))
  have D7 : w.heap.size ≤ w7.heap.size := below_size HC7.out
  have da0 := (blk_cell Cga7.out 0).trans rfl; have da1 := (blk_cell Cga7.out 1).trans rfl; have da2 := (blk_cell Cga7.out 2).trans rfl; have da3 := (blk_cell Cga7.out 3).trans rfl; have db0 := (blk_cell Cgb7.out 0).trans rfl; have db1 := (blk_cell Cgb7.out 1).trans rfl; have db2 := (blk_cell Cgb7.out 2).trans rfl; have db3 := (blk_cell Cgb7.out 3).trans rfl
  go_upto_region 5 with fail
  go_region_held3 (fun w' => Aside0 (w'.heap[ga]? = some (.cells #[.int .i64 a0, .int .i64 a1, .int .i64 a2, .int .i64 a3] 25 (0, 0))) ∧ Aside0 (w'.heap[gb]? = some (.cells #[.int .i64 b0, .int .i64 b1, .int .i64 b2, .int .i64 b3] 25 (0, 0))) ∧ w'.cell? ⟨ga, 0, none⟩ = some (.int .i64 a0) ∧ w'.cell? ⟨ga, 1, none⟩ = some (.int .i64 a1) ∧ w'.cell? ⟨ga, 2, none⟩ = some (.int .i64 a2) ∧ w'.cell? ⟨ga, 3, none⟩ = some (.int .i64 a3) ∧ w'.cell? ⟨gb, 0, none⟩ = some (.int .i64 b0) ∧ w'.cell? ⟨gb, 1, none⟩ = some (.int .i64 b1) ∧ w'.cell? ⟨gb, 2, none⟩ = some (.int .i64 b2) ∧ w'.cell? ⟨gb, 3, none⟩ = some (.int .i64 b3)) (first | exact mkS (by assumption) (by assumption) (by repeat (first | (with_reducible first | exact Below.refl _ _ | apply below_alloc | apply pw_below_drewN | apply below_drew1) | exact Below.refl _ _)))
    ((first
      | (go_at_call 46; (refine (greatest2 k ⟨a0, a1⟩ ⟨b2, b3⟩ m1 m2 E4.out _ _ ?_).mono ?_); (first | exact lit2 _ ⟨a0, a1⟩ ⟨b2, b3⟩ | exact Kd.C_drew (lit2 _ ⟨a0, a1⟩ ⟨b2, b3⟩) | exact Kd.C_drewN (lit2 _ ⟨a0, a1⟩ ⟨b2, b3⟩) _); rintro e w8 ⟨rfl, hb8⟩; have Y8 := below_step (w := w7) (by repeat (first | (with_reducible first | exact Below.refl _ _ | apply below_alloc | apply pw_below_drewN | apply below_drew1) | exact Below.refl _ _)) hb8; have Cga8 := Aside0.mk (blk_below Cga7.out Y8); have Cgb8 := Aside0.mk (blk_below Cgb7.out Y8); have Cg8 := Aside0.mk (blk_below Cg7.out Y8); have HR8 := Aside0.mk (Kd.R_below HR7.out Y8); have HC8 := Aside0.mk (below_step HC7.out Y8); clear Y8 hb8)
      | (go_at_call 54; (refine (span_Minus_add k m1 m2 a2 a3 q1 q2 q3 q4 q5 E5.out g w.heap.size (fun q => q ≠ g ∧ q ≠ ga ∧ q ≠ gb) v7 (([] : List S25) ++ if p5 = 0 then [(⟨⟨p1, p2⟩, ⟨p3, p4⟩⟩ : S25)] else []) w _ ?_ ?_ ?_ Lg ?_ (fun _ h_ => h_.1) ?_ ?_).mono ?_); (with_reducible first | exact HC8.out | exact below_drew1 HC8.out); (with_reducible first | exact below_size HC8.out | exact below_size (below_drew1 HC8.out)); (with_reducible first | exact Cg8.out | exact blk_drew Cg8.out); (first | exact HR8.out | exact Kd.R_drew HR8.out); (exact frs Cg8 Cga8 Cgb8 (by rfl)); (exact (by split <;> simp)); rintro e w9 ⟨rfl, v9, hg9, hr9, hb9, hk9⟩; have Cg9 := Aside0.mk hg9; have HC9 := Aside0.mk hb9; have HR9 := Aside0.mk hr9; have Cga9 := Aside0.mk (hk9 ga _ (by first | exact Cga8.out | exact blk_drew Cga8.out) nga (fun he => (fr7 _ he.symm).2.1 rfl)); have Cgb9 := Aside0.mk (hk9 gb _ (by first | exact Cgb8.out | exact blk_drew Cgb8.out) ngb (fun he => (fr7 _ he.symm).2.2 rfl)); clear hg9 hr9 hb9 hk9)))
  have cg9 : w9.cell? ⟨g, 0, none⟩ = some v9 := (blk_cell Cg9.out 0).trans rfl
  clear Cga9 Cgb9 Cg9 fr7 cg
  go_wp2
  go_ret
  exact ⟨v9, rfl, by have hR := Kd.R_mono HR9.out (ok' := fun _ => True) (fun _ _ => trivial); (rw [List.nil_append] at hR; exact hR), HC9.out⟩
set_option maxHeartbeats 8000000 in
set_option maxRecDepth 100000 in
theorem span_Minus_no (k : Nat) (a0 a1 a2 a3 b0 b1 b2 b3 : Int) (w : World) (e1 : span_both.f k a0 a1 a2 a3 b0 b1 b2 b3 = some false) :
    Calls Try.prog 23 #[.agg #[.int .i64 a0, .int .i64 a1, .int .i64 a2, .int .i64 a3], .agg #[.int .i64 b0, .int .i64 b1, .int .i64 b2, .int .i64 b3]] w fun e w' =>
      ∃ v0_ : Value, e = .returned (v0_) ∧ Kd.R k25 25 w' w.heap.size (fun _ => True) v0_ ([] : List S25) ∧ Below w.heap.size w w' := by
  have E1 := Aside0.mk e1
  clear e1
  have HB := Aside0.mk (Below.refl w.heap.size w)
  go_enter Try.func23, Try.ntmps23
  go_upto_region 1 with (first | ((with_reducible refine gate_dst (N := 2) rfl ?_); refine bxe (N := 2) (cs := #[.int .i64 a0, .int .i64 a1, .int .i64 a2, .int .i64 a3]) (t := 25) ?_; intro ga hga w2 hbox hb; have n0 := bst HB hb; have Bga := Aside0.mk hbox; have Lga : w.heap.size ≤ ga := (by rw [hga]; have := HB.out.size; first | exact this | (simp; done)); clear HB; have HB := n0; clear n0; clear hb hbox hga) | ((with_reducible refine gate_dst (N := 3) rfl ?_); refine bxe (N := 3) (cs := #[.int .i64 b0, .int .i64 b1, .int .i64 b2, .int .i64 b3]) (t := 25) ?_; intro gb hgb w3 hbox hb; have n0 := bst HB hb; have Bgb := Aside0.mk hbox; have Lgb : w.heap.size ≤ gb := (by rw [hgb]; have := HB.out.size; first | exact this | (simp; done)); have nga := Aside0.mk (blk_below Bga.out hb); clear Bga; have Bga := nga; clear nga; clear HB; have HB := n0; clear n0; clear hb hbox hgb))
  go_upto_region 3 with fail
  have Bg := Aside0.mk (blk_new w3 (Obj.cells #[Value.slice none 0 0] 26))
  have Bga' := Aside0.mk (blk_alloc Bga.out (Obj.cells #[Value.slice none 0 0] 26))
  have Bgb' := Aside0.mk (blk_alloc Bgb.out (Obj.cells #[Value.slice none 0 0] 26))
  have HB' := Aside0.mk (below_alloc HB.out (Obj.cells #[Value.slice none 0 0] 26))
  clear Bga Bgb HB
  generalize w3.alloc (Obj.cells #[Value.slice none 0 0] 26) = W3 at *
  generalize w3.heap.size = g at *
  have ca0 := (blk_cell Bga'.out 0).trans rfl
  have ca1 := (blk_cell Bga'.out 1).trans rfl
  have ca2 := (blk_cell Bga'.out 2).trans rfl
  have ca3 := (blk_cell Bga'.out 3).trans rfl
  have cb0 := (blk_cell Bgb'.out 0).trans rfl
  have cb1 := (blk_cell Bgb'.out 1).trans rfl
  have cb2 := (blk_cell Bgb'.out 2).trans rfl
  have cb3 := (blk_cell Bgb'.out 3).trans rfl
  go_wp2_with (go_at_call 45; (with_reducible refine (span_both.calls k a0 a1 a2 a3 b0 b1 b2 b3 false _ E1.out).mono ?_); rintro e w5 ⟨rfl, hb5⟩; have Cga := Aside0.mk (blk_below Bga'.out hb5); have Cgb := Aside0.mk (blk_below Bgb'.out hb5); have Cg := Aside0.mk (blk_below Bg.out hb5); have HC := Aside0.mk (below_step HB'.out hb5); have cg : w5.cell? ⟨g, 0, none⟩ = some (.slice none 0 0) := (blk_cell Cg.out 0).trans rfl; clear hb5)
  go_ret
  exact ⟨_, rfl, Kd.R_nil _ _ _ _ _, HC.out⟩
def span_Minus.f (k : Nat) (a0_0 : Int) (a0_1 : Int) (a0_2 : Int) (a0_3 : Int) (a1_0 : Int) (a1_1 : Int) (a1_2 : Int) (a1_3 : Int) : Option (List S25) := (span_both.f k a0_0 a0_1 a0_2 a0_3 a1_0 a1_1 a1_2 a1_3).bind fun t => (if t = true then ((cut_Least.f k [⟨a0_2, a0_3⟩, ⟨a1_0, a1_1⟩]).bind fun x => ((span_Of.f k a0_0 a0_1 x.1 x.2).bind fun p => ((cut_Greatest.f k [⟨a0_0, a0_1⟩, ⟨a1_2, a1_3⟩]).bind fun y => ((span_Of.f k y.1 y.2 a0_2 a0_3).bind fun q => (some (optS p.1 p.2.1 p.2.2.1 p.2.2.2.1 p.2.2.2.2 ++ optS q.1 q.2.1 q.2.2.1 q.2.2.2.1 q.2.2.2.2)))))) else (some []))
theorem span_Minus.mono : ∀ a0 a1 a2 a3 a4 a5 a6 a7 k, LeO (span_Minus.f k a0 a1 a2 a3 a4 a5 a6 a7) (span_Minus.f (k + 1) a0 a1 a2 a3 a4 a5 a6 a7) := by
  intro a0 a1 a2 a3 a4 a5 a6 a7 k
  unfold span_Minus.f
  refine LeO.bind (span_both.mono _ _ _ _ _ _ _ _ _) (fun t => LeO.ite ?_ (LeO.refl _))
  exact LeO.bind (cut_Least.mono _ _) (fun x => LeO.bind (span_Of.mono _ _ _ _ _) (fun p => LeO.bind (cut_Greatest.mono _ _) (fun y => LeO.bind (span_Of.mono _ _ _ _ _) (fun q => LeO.refl _))))
theorem span_Minus.calls (k : Nat) (a0_0 : Int) (a0_1 : Int) (a0_2 : Int) (a0_3 : Int) (a1_0 : Int) (a1_1 : Int) (a1_2 : Int) (a1_3 : Int) (r : List S25) (w : World) (h : span_Minus.f k a0_0 a0_1 a0_2 a0_3 a1_0 a1_1 a1_2 a1_3 = some r) :
    Calls Try.prog 23 #[.agg #[.int .i64 a0_0, .int .i64 a0_1, .int .i64 a0_2, .int .i64 a0_3], .agg #[.int .i64 a1_0, .int .i64 a1_1, .int .i64 a1_2, .int .i64 a1_3]] w fun e w' =>
      ∃ v0_ : Value, e = .returned (v0_) ∧ Kd.R k25 25 w' w.heap.size (fun _ => True) v0_ r ∧ Below w.heap.size w w' := by
  unfold span_Minus.f at h
  obtain ⟨t, h1, h⟩ := Option.bind_eq_some_iff.mp h
  cases t with
  | false =>
    rw [if_neg Bool.false_ne_true] at h
    obtain rfl := Option.some.inj h
    exact span_Minus_no k a0_0 a0_1 a0_2 a0_3 a1_0 a1_1 a1_2 a1_3 w h1
  | true =>
    rw [if_pos rfl] at h
    obtain ⟨⟨l1, l2⟩, h2, h⟩ := Option.bind_eq_some_iff.mp h
    obtain ⟨⟨p1, p2, p3, p4, p5⟩, h3, h⟩ := Option.bind_eq_some_iff.mp h
    obtain ⟨⟨m1, m2⟩, h4, h⟩ := Option.bind_eq_some_iff.mp h
    obtain ⟨⟨q1, q2, q3, q4, q5⟩, h5, h⟩ := Option.bind_eq_some_iff.mp h
    obtain rfl := Option.some.inj h
    exact span_Minus_yes k a0_0 a0_1 a0_2 a0_3 a1_0 a1_1 a1_2 a1_3 w h1 l1 l2 p1 p2 p3 p4 p5 m1 m2 q1 q2 q3 q4 q5 h2 h3 h4 h5
section
attribute [local go_sem high] eqA23
/-! ### cut_Next: function 60 -/
def cut_Next.f (k : Nat) (a0_0 : Int) (a0_1 : Int) : Option (Int × Bool) := (cut_Canon.f k a0_0 a0_1).bind fun bt335 => ((cut_Last.f).bind fun bt337 => (if (bt335.1 == bt337.1 && (bt335.2 == bt337.2)) = true then (some (0, false)) else ((cut_First.f).bind fun bt339 => (if (bt335.1 == bt339.1 && (bt335.2 == bt339.2)) = true then (some ((-9223372036854775808), true)) else (some (bt335.2, true))))))
theorem cut_Next.mono : ∀ a0 a1 k, LeO (cut_Next.f k a0 a1) (cut_Next.f (k + 1) a0 a1) := by
  intro a0 a1 k
  unfold cut_Next.f
  repeat' first
      | (with_reducible exact cut_Canon.mono _ _ _)
      | (with_reducible exact LeO.refl _)
      | (with_reducible exact LeO.none _)
      | (with_reducible refine LeO.ite ?_ ?_)
      | (with_reducible refine LeO.bind ?_ (fun _ => ?_))
      | exact cut_Canon.mono _ _ _
      | exact LeO.none _
      | refine LeO.ite ?_ ?_
      | refine LeO.bind ?_ (fun _ => ?_)
set_option maxHeartbeats 8000000 in
set_option maxRecDepth 100000 in
theorem cut_Next.calls (k : Nat) (a0_0 : Int) (a0_1 : Int) (r1 : Int) (r2 : Bool) (w : World) (h : cut_Next.f k a0_0 a0_1 = some (r1, r2)) :
    Calls Try.prog 60 #[.agg #[.int .i64 a0_0, .int .i64 a0_1]] w fun e w' => e = .returned (.tuple #[.int .i64 r1, .bool r2]) ∧ Below w.heap.size w w' := by
  have hu23 := Try.underlying23
  have HB := Aside0.mk (Below.refl w.heap.size w)
  have H : ((cut_Canon.f k a0_0 a0_1).bind fun bt335 => ((cut_Last.f).bind fun bt337 => (if (bt335.1 == bt337.1 && (bt335.2 == bt337.2)) = true then (some (0, false)) else ((cut_First.f).bind fun bt339 => (if (bt335.1 == bt339.1 && (bt335.2 == bt339.2)) = true then (some ((-9223372036854775808), true)) else (some (bt335.2, true))))))) = some (r1, r2) := h
  clear h
  replace H := Option.bind_eq_some_iff.mp H
  obtain ⟨⟨t335, t336⟩, A20, H⟩ := H
  replace H : ((cut_Last.f).bind fun bt337 => (if (t335 == bt337.1 && (t336 == bt337.2)) = true then (some (0, false)) else ((cut_First.f).bind fun bt339 => (if (t335 == bt339.1 && (t336 == bt339.2)) = true then (some ((-9223372036854775808), true)) else (some (t336, true)))))) = some (r1, r2) := H
  have A2 := Aside0.mk A20
  clear A20
  replace H := Option.bind_eq_some_iff.mp H
  obtain ⟨⟨t337, t338⟩, A30, H⟩ := H
  replace H : (if (t335 == t337 && (t336 == t338)) = true then (some (0, false)) else ((cut_First.f).bind fun bt339 => (if (t335 == bt339.1 && (t336 == bt339.2)) = true then (some ((-9223372036854775808), true)) else (some (t336, true))))) = some (r1, r2) := H
  have A3 := Aside0.mk A30
  clear A30
  by_cases c4 : (t335 == t337 && (t336 == t338)) = true
  · rw [if_pos c4] at H
    have c4b0 : (t335 == t337 && (t336 == t338)) = true := c4
    (try (have c4b1 : decide (t335 = t337 && (t336 == t338)) = true := by simpa using c4))
    (try (have c4b2 : (t335 == t337 && (t336 == t338)) = true := by simpa using c4))
    clear c4
    simp only [Option.some.injEq, Prod.mk.injEq] at H
    obtain ⟨rfl, rfl⟩ := H
    go_enter Try.func60, Try.ntmps60
    go_wp2_with (first | ((with_reducible refine gate_dst (N := 1) rfl ?_); refine bxe (N := 1) (cs := #[.int .i64 a0_0, .int .i64 a0_1]) (t := 23) ?_; intro gb334 hg w5 hbox hb; have BK334 := Aside0.mk (hbox); have GW334 := lsz hg HB; have GE334 := lsz hg HB; replace HB := bst HB hb; clear hb hbox hg; have hcz6_0 : w5.cell? ⟨gb334, 0, none⟩ = some (.int .i64 a0_0) := (blk_cell BK334.out 0).trans rfl; have hcz6_1 : w5.cell? ⟨gb334, 1, none⟩ = some (.int .i64 a0_1) := (blk_cell BK334.out 1).trans rfl; have hfz6_0 := blk_frozen BK334.out 0; have hfz6_1 := blk_frozen BK334.out 1) | ((with_reducible refine gate_callee (f := 55) rfl ?_); refine gol (some 5) Try.func55 #[.agg #[.int .i64 a0_0, .int .i64 a0_1]] ?_; (with_reducible refine (cut_Canon.calls k a0_0 a0_1 t335 t336 _ A2.out).mono ?_); rintro e w7 ⟨rfl, hb⟩; refine ⟨_, rfl, ?_⟩; replace BK334 := bkb BK334 hb; replace HB := bst HB hb; (try clear hb); (try clear hb2); (try clear hk); (try clear hi); have hcz8_0 : w7.cell? ⟨gb334, 0, none⟩ = some (.int .i64 a0_0) := (blk_cell BK334.out 0).trans rfl; have hcz8_1 : w7.cell? ⟨gb334, 1, none⟩ = some (.int .i64 a0_1) := (blk_cell BK334.out 1).trans rfl; have hfz8_0 := blk_frozen BK334.out 0; have hfz8_1 := blk_frozen BK334.out 1) | ((with_reducible refine gate_callee (f := 70) rfl ?_); refine gol (some 8) Try.func70 #[] ?_; (with_reducible refine (cut_Last.calls  t337 t338 _ A3.out).mono ?_); rintro e w9 ⟨rfl, hb⟩; refine ⟨_, rfl, ?_⟩; replace BK334 := Aside0.mk (blk_below (g := gb334) (o := .cells #[.int .i64 t335, .int .i64 t336] 23 (0, 0)) (by (with_reducible repeat (first | refine blk_drewN ?_ _ | refine blk_drew ?_ | refine blk_alloc ?_ _)); refine blk_put (cs := #[.int .i64 t335, .int .i64 a0_1]) ?_ 1 _ rfl; (with_reducible repeat (first | refine blk_drewN ?_ _ | refine blk_drew ?_ | refine blk_alloc ?_ _)); refine blk_put (cs := #[.int .i64 a0_0, .int .i64 a0_1]) ?_ 0 _ rfl; (with_reducible repeat (first | refine blk_drewN ?_ _ | refine blk_drew ?_ | refine blk_alloc ?_ _)); exact BK334.out) hb); replace HB := bst HB hb; (try clear hb); (try clear hb2); (try clear hk); (try clear hi)))
    go_ret2
    exact ⟨by first | rfl | (simp [errW_none, errW_some] <;> rfl) | (simp [*, errW_none, errW_some] <;> rfl), by repeat (first | (with_reducible first | exact HB.out | apply below_alloc | apply pw_below_drewN | apply below_drew1 | refine below_set ?_ GE334.out) | exact HB.out)⟩
  · rw [if_neg c4] at H
    have c4b0 : (t335 == t337 && (t336 == t338)) = false := by simpa using c4
    (try (have c4b1 : decide (t335 = t337 && (t336 == t338)) = false := by simpa using c4))
    (try (have c4b2 : (t335 == t337 && (t336 == t338)) = false := by simpa using c4))
    (try (have c4b3 : ¬ (t335 = t337 && (t336 == t338)) := by simpa using c4))
    clear c4
    replace H := Option.bind_eq_some_iff.mp H
    obtain ⟨⟨t339, t340⟩, A100, H⟩ := H
    replace H : (if (t335 == t339 && (t336 == t340)) = true then (some ((-9223372036854775808), true)) else (some (t336, true))) = some (r1, r2) := H
    have A10 := Aside0.mk A100
    clear A100
    by_cases c11 : (t335 == t339 && (t336 == t340)) = true
    · rw [if_pos c11] at H
      have c11b0 : (t335 == t339 && (t336 == t340)) = true := c11
      (try (have c11b1 : decide (t335 = t339 && (t336 == t340)) = true := by simpa using c11))
      (try (have c11b2 : (t335 == t339 && (t336 == t340)) = true := by simpa using c11))
      clear c11
      simp only [Option.some.injEq, Prod.mk.injEq] at H
      obtain ⟨rfl, rfl⟩ := H
      go_enter Try.func60, Try.ntmps60
      go_wp2_with (first | ((with_reducible refine gate_dst (N := 1) rfl ?_); refine bxe (N := 1) (cs := #[.int .i64 a0_0, .int .i64 a0_1]) (t := 23) ?_; intro gb334 hg w12 hbox hb; have BK334 := Aside0.mk (hbox); have GW334 := lsz hg HB; have GE334 := lsz hg HB; replace HB := bst HB hb; clear hb hbox hg; have hcz13_0 : w12.cell? ⟨gb334, 0, none⟩ = some (.int .i64 a0_0) := (blk_cell BK334.out 0).trans rfl; have hcz13_1 : w12.cell? ⟨gb334, 1, none⟩ = some (.int .i64 a0_1) := (blk_cell BK334.out 1).trans rfl; have hfz13_0 := blk_frozen BK334.out 0; have hfz13_1 := blk_frozen BK334.out 1) | ((with_reducible refine gate_callee (f := 55) rfl ?_); refine gol (some 5) Try.func55 #[.agg #[.int .i64 a0_0, .int .i64 a0_1]] ?_; (with_reducible refine (cut_Canon.calls k a0_0 a0_1 t335 t336 _ A2.out).mono ?_); rintro e w14 ⟨rfl, hb⟩; refine ⟨_, rfl, ?_⟩; replace BK334 := bkb BK334 hb; replace HB := bst HB hb; (try clear hb); (try clear hb2); (try clear hk); (try clear hi); have hcz15_0 : w14.cell? ⟨gb334, 0, none⟩ = some (.int .i64 a0_0) := (blk_cell BK334.out 0).trans rfl; have hcz15_1 : w14.cell? ⟨gb334, 1, none⟩ = some (.int .i64 a0_1) := (blk_cell BK334.out 1).trans rfl; have hfz15_0 := blk_frozen BK334.out 0; have hfz15_1 := blk_frozen BK334.out 1) | ((with_reducible refine gate_callee (f := 70) rfl ?_); refine gol (some 8) Try.func70 #[] ?_; (with_reducible refine (cut_Last.calls  t337 t338 _ A3.out).mono ?_); rintro e w16 ⟨rfl, hb⟩; refine ⟨_, rfl, ?_⟩; replace BK334 := Aside0.mk (blk_below (g := gb334) (o := .cells #[.int .i64 t335, .int .i64 t336] 23 (0, 0)) (by (with_reducible repeat (first | refine blk_drewN ?_ _ | refine blk_drew ?_ | refine blk_alloc ?_ _)); refine blk_put (cs := #[.int .i64 t335, .int .i64 a0_1]) ?_ 1 _ rfl; (with_reducible repeat (first | refine blk_drewN ?_ _ | refine blk_drew ?_ | refine blk_alloc ?_ _)); refine blk_put (cs := #[.int .i64 a0_0, .int .i64 a0_1]) ?_ 0 _ rfl; (with_reducible repeat (first | refine blk_drewN ?_ _ | refine blk_drew ?_ | refine blk_alloc ?_ _)); exact BK334.out) hb); replace HB := bst HB hb; (try clear hb); (try clear hb2); (try clear hk); (try clear hi)) | ((with_reducible refine gate_callee (f := 69) rfl ?_); refine gol (some 11) Try.func69 #[] ?_; (with_reducible refine (cut_First.calls  t339 t340 _ A10.out).mono ?_); rintro e w17 ⟨rfl, hb⟩; refine ⟨_, rfl, ?_⟩; replace BK334 := bkb BK334 hb; replace HB := bst HB hb; (try clear hb); (try clear hb2); (try clear hk); (try clear hi)))
      go_ret2
      exact ⟨by first | rfl | (simp [errW_none, errW_some] <;> rfl) | (simp [*, errW_none, errW_some] <;> rfl), by repeat (first | (with_reducible first | exact HB.out | apply below_alloc | apply pw_below_drewN | apply below_drew1 | refine below_set ?_ GE334.out) | exact HB.out)⟩
    · rw [if_neg c11] at H
      have c11b0 : (t335 == t339 && (t336 == t340)) = false := by simpa using c11
      (try (have c11b1 : decide (t335 = t339 && (t336 == t340)) = false := by simpa using c11))
      (try (have c11b2 : (t335 == t339 && (t336 == t340)) = false := by simpa using c11))
      (try (have c11b3 : ¬ (t335 = t339 && (t336 == t340)) := by simpa using c11))
      clear c11
      simp only [Option.some.injEq, Prod.mk.injEq] at H
      obtain ⟨rfl, rfl⟩ := H
      go_enter Try.func60, Try.ntmps60
      go_wp2_with (first | ((with_reducible refine gate_dst (N := 1) rfl ?_); refine bxe (N := 1) (cs := #[.int .i64 a0_0, .int .i64 a0_1]) (t := 23) ?_; intro gb334 hg w18 hbox hb; have BK334 := Aside0.mk (hbox); have GW334 := lsz hg HB; have GE334 := lsz hg HB; replace HB := bst HB hb; clear hb hbox hg; have hcz19_0 : w18.cell? ⟨gb334, 0, none⟩ = some (.int .i64 a0_0) := (blk_cell BK334.out 0).trans rfl; have hcz19_1 : w18.cell? ⟨gb334, 1, none⟩ = some (.int .i64 a0_1) := (blk_cell BK334.out 1).trans rfl; have hfz19_0 := blk_frozen BK334.out 0; have hfz19_1 := blk_frozen BK334.out 1) | ((with_reducible refine gate_callee (f := 55) rfl ?_); refine gol (some 5) Try.func55 #[.agg #[.int .i64 a0_0, .int .i64 a0_1]] ?_; (with_reducible refine (cut_Canon.calls k a0_0 a0_1 t335 t336 _ A2.out).mono ?_); rintro e w20 ⟨rfl, hb⟩; refine ⟨_, rfl, ?_⟩; replace BK334 := bkb BK334 hb; replace HB := bst HB hb; (try clear hb); (try clear hb2); (try clear hk); (try clear hi); have hcz21_0 : w20.cell? ⟨gb334, 0, none⟩ = some (.int .i64 a0_0) := (blk_cell BK334.out 0).trans rfl; have hcz21_1 : w20.cell? ⟨gb334, 1, none⟩ = some (.int .i64 a0_1) := (blk_cell BK334.out 1).trans rfl; have hfz21_0 := blk_frozen BK334.out 0; have hfz21_1 := blk_frozen BK334.out 1) | ((with_reducible refine gate_callee (f := 70) rfl ?_); refine gol (some 8) Try.func70 #[] ?_; (with_reducible refine (cut_Last.calls  t337 t338 _ A3.out).mono ?_); rintro e w22 ⟨rfl, hb⟩; refine ⟨_, rfl, ?_⟩; replace BK334 := Aside0.mk (blk_below (g := gb334) (o := .cells #[.int .i64 t335, .int .i64 t336] 23 (0, 0)) (by (with_reducible repeat (first | refine blk_drewN ?_ _ | refine blk_drew ?_ | refine blk_alloc ?_ _)); refine blk_put (cs := #[.int .i64 t335, .int .i64 a0_1]) ?_ 1 _ rfl; (with_reducible repeat (first | refine blk_drewN ?_ _ | refine blk_drew ?_ | refine blk_alloc ?_ _)); refine blk_put (cs := #[.int .i64 a0_0, .int .i64 a0_1]) ?_ 0 _ rfl; (with_reducible repeat (first | refine blk_drewN ?_ _ | refine blk_drew ?_ | refine blk_alloc ?_ _)); exact BK334.out) hb); replace HB := bst HB hb; (try clear hb); (try clear hb2); (try clear hk); (try clear hi)) | ((with_reducible refine gate_callee (f := 69) rfl ?_); refine gol (some 11) Try.func69 #[] ?_; (with_reducible refine (cut_First.calls  t339 t340 _ A10.out).mono ?_); rintro e w23 ⟨rfl, hb⟩; refine ⟨_, rfl, ?_⟩; replace BK334 := bkb BK334 hb; replace HB := bst HB hb; (try clear hb); (try clear hb2); (try clear hk); (try clear hi); have hcz24_0 : w23.cell? ⟨gb334, 0, none⟩ = some (.int .i64 t335) := (blk_cell BK334.out 0).trans rfl; have hcz24_1 : w23.cell? ⟨gb334, 1, none⟩ = some (.int .i64 t336) := (blk_cell BK334.out 1).trans rfl; have hfz24_0 := blk_frozen BK334.out 0; have hfz24_1 := blk_frozen BK334.out 1))
      go_ret2
      exact ⟨by first | rfl | (simp [errW_none, errW_some] <;> rfl) | (simp [*, errW_none, errW_some] <;> rfl), by repeat (first | (with_reducible first | exact HB.out | apply below_alloc | apply pw_below_drewN | apply below_drew1 | refine below_set ?_ GE334.out) | exact HB.out)⟩
end
section
attribute [local go_sem high] eqA23
/-! ### cut_Prev: function 61 -/
def cut_Prev.f (k : Nat) (a0_0 : Int) (a0_1 : Int) : Option (Int × Bool) := (cut_Canon.f k a0_0 a0_1).bind fun bt342 => ((cut_First.f).bind fun bt344 => (if (bt342.1 == bt344.1 && (bt342.2 == bt344.2)) = true then (some (0, false)) else ((cut_Last.f).bind fun bt346 => (if (bt342.1 == bt346.1 && (bt342.2 == bt346.2)) = true then (some (9223372036854775807, true)) else (some (wrap64 (bt342.2 - 1), true))))))
theorem cut_Prev.mono : ∀ a0 a1 k, LeO (cut_Prev.f k a0 a1) (cut_Prev.f (k + 1) a0 a1) := by
  intro a0 a1 k
  unfold cut_Prev.f
  repeat' first
      | (with_reducible exact cut_Canon.mono _ _ _)
      | (with_reducible exact LeO.refl _)
      | (with_reducible exact LeO.none _)
      | (with_reducible refine LeO.ite ?_ ?_)
      | (with_reducible refine LeO.bind ?_ (fun _ => ?_))
      | exact cut_Canon.mono _ _ _
      | exact LeO.none _
      | refine LeO.ite ?_ ?_
      | refine LeO.bind ?_ (fun _ => ?_)
set_option maxHeartbeats 8000000 in
set_option maxRecDepth 100000 in
theorem cut_Prev.calls (k : Nat) (a0_0 : Int) (a0_1 : Int) (r1 : Int) (r2 : Bool) (w : World) (h : cut_Prev.f k a0_0 a0_1 = some (r1, r2)) :
    Calls Try.prog 61 #[.agg #[.int .i64 a0_0, .int .i64 a0_1]] w fun e w' => e = .returned (.tuple #[.int .i64 r1, .bool r2]) ∧ Below w.heap.size w w' := by
  have hu23 := Try.underlying23
  have HB := Aside0.mk (Below.refl w.heap.size w)
  have H : ((cut_Canon.f k a0_0 a0_1).bind fun bt342 => ((cut_First.f).bind fun bt344 => (if (bt342.1 == bt344.1 && (bt342.2 == bt344.2)) = true then (some (0, false)) else ((cut_Last.f).bind fun bt346 => (if (bt342.1 == bt346.1 && (bt342.2 == bt346.2)) = true then (some (9223372036854775807, true)) else (some (wrap64 (bt342.2 - 1), true))))))) = some (r1, r2) := h
  clear h
  replace H := Option.bind_eq_some_iff.mp H
  obtain ⟨⟨t342, t343⟩, A20, H⟩ := H
  replace H : ((cut_First.f).bind fun bt344 => (if (t342 == bt344.1 && (t343 == bt344.2)) = true then (some (0, false)) else ((cut_Last.f).bind fun bt346 => (if (t342 == bt346.1 && (t343 == bt346.2)) = true then (some (9223372036854775807, true)) else (some (wrap64 (t343 - 1), true)))))) = some (r1, r2) := H
  have A2 := Aside0.mk A20
  clear A20
  replace H := Option.bind_eq_some_iff.mp H
  obtain ⟨⟨t344, t345⟩, A30, H⟩ := H
  replace H : (if (t342 == t344 && (t343 == t345)) = true then (some (0, false)) else ((cut_Last.f).bind fun bt346 => (if (t342 == bt346.1 && (t343 == bt346.2)) = true then (some (9223372036854775807, true)) else (some (wrap64 (t343 - 1), true))))) = some (r1, r2) := H
  have A3 := Aside0.mk A30
  clear A30
  by_cases c4 : (t342 == t344 && (t343 == t345)) = true
  · rw [if_pos c4] at H
    have c4b0 : (t342 == t344 && (t343 == t345)) = true := c4
    (try (have c4b1 : decide (t342 = t344 && (t343 == t345)) = true := by simpa using c4))
    (try (have c4b2 : (t342 == t344 && (t343 == t345)) = true := by simpa using c4))
    clear c4
    simp only [Option.some.injEq, Prod.mk.injEq] at H
    obtain ⟨rfl, rfl⟩ := H
    go_enter Try.func61, Try.ntmps61
    go_wp2_with (first | ((with_reducible refine gate_dst (N := 1) rfl ?_); refine bxe (N := 1) (cs := #[.int .i64 a0_0, .int .i64 a0_1]) (t := 23) ?_; intro gb341 hg w5 hbox hb; have BK341 := Aside0.mk (hbox); have GW341 := lsz hg HB; have GE341 := lsz hg HB; replace HB := bst HB hb; clear hb hbox hg; have hcz6_0 : w5.cell? ⟨gb341, 0, none⟩ = some (.int .i64 a0_0) := (blk_cell BK341.out 0).trans rfl; have hcz6_1 : w5.cell? ⟨gb341, 1, none⟩ = some (.int .i64 a0_1) := (blk_cell BK341.out 1).trans rfl; have hfz6_0 := blk_frozen BK341.out 0; have hfz6_1 := blk_frozen BK341.out 1) | ((with_reducible refine gate_callee (f := 55) rfl ?_); refine gol (some 5) Try.func55 #[.agg #[.int .i64 a0_0, .int .i64 a0_1]] ?_; (with_reducible refine (cut_Canon.calls k a0_0 a0_1 t342 t343 _ A2.out).mono ?_); rintro e w7 ⟨rfl, hb⟩; refine ⟨_, rfl, ?_⟩; replace BK341 := bkb BK341 hb; replace HB := bst HB hb; (try clear hb); (try clear hb2); (try clear hk); (try clear hi); have hcz8_0 : w7.cell? ⟨gb341, 0, none⟩ = some (.int .i64 a0_0) := (blk_cell BK341.out 0).trans rfl; have hcz8_1 : w7.cell? ⟨gb341, 1, none⟩ = some (.int .i64 a0_1) := (blk_cell BK341.out 1).trans rfl; have hfz8_0 := blk_frozen BK341.out 0; have hfz8_1 := blk_frozen BK341.out 1) | ((with_reducible refine gate_callee (f := 69) rfl ?_); refine gol (some 8) Try.func69 #[] ?_; (with_reducible refine (cut_First.calls  t344 t345 _ A3.out).mono ?_); rintro e w9 ⟨rfl, hb⟩; refine ⟨_, rfl, ?_⟩; replace BK341 := Aside0.mk (blk_below (g := gb341) (o := .cells #[.int .i64 t342, .int .i64 t343] 23 (0, 0)) (by (with_reducible repeat (first | refine blk_drewN ?_ _ | refine blk_drew ?_ | refine blk_alloc ?_ _)); refine blk_put (cs := #[.int .i64 t342, .int .i64 a0_1]) ?_ 1 _ rfl; (with_reducible repeat (first | refine blk_drewN ?_ _ | refine blk_drew ?_ | refine blk_alloc ?_ _)); refine blk_put (cs := #[.int .i64 a0_0, .int .i64 a0_1]) ?_ 0 _ rfl; (with_reducible repeat (first | refine blk_drewN ?_ _ | refine blk_drew ?_ | refine blk_alloc ?_ _)); exact BK341.out) hb); replace HB := bst HB hb; (try clear hb); (try clear hb2); (try clear hk); (try clear hi)))
    go_ret2
    exact ⟨by first | rfl | (simp [errW_none, errW_some] <;> rfl) | (simp [*, errW_none, errW_some] <;> rfl), by repeat (first | (with_reducible first | exact HB.out | apply below_alloc | apply pw_below_drewN | apply below_drew1 | refine below_set ?_ GE341.out) | exact HB.out)⟩
  · rw [if_neg c4] at H
    have c4b0 : (t342 == t344 && (t343 == t345)) = false := by simpa using c4
    (try (have c4b1 : decide (t342 = t344 && (t343 == t345)) = false := by simpa using c4))
    (try (have c4b2 : (t342 == t344 && (t343 == t345)) = false := by simpa using c4))
    (try (have c4b3 : ¬ (t342 = t344 && (t343 == t345)) := by simpa using c4))
    clear c4
    replace H := Option.bind_eq_some_iff.mp H
    obtain ⟨⟨t346, t347⟩, A100, H⟩ := H
    replace H : (if (t342 == t346 && (t343 == t347)) = true then (some (9223372036854775807, true)) else (some (wrap64 (t343 - 1), true))) = some (r1, r2) := H
    have A10 := Aside0.mk A100
    clear A100
    by_cases c11 : (t342 == t346 && (t343 == t347)) = true
    · rw [if_pos c11] at H
      have c11b0 : (t342 == t346 && (t343 == t347)) = true := c11
      (try (have c11b1 : decide (t342 = t346 && (t343 == t347)) = true := by simpa using c11))
      (try (have c11b2 : (t342 == t346 && (t343 == t347)) = true := by simpa using c11))
      clear c11
      simp only [Option.some.injEq, Prod.mk.injEq] at H
      obtain ⟨rfl, rfl⟩ := H
      go_enter Try.func61, Try.ntmps61
      go_wp2_with (first | ((with_reducible refine gate_dst (N := 1) rfl ?_); refine bxe (N := 1) (cs := #[.int .i64 a0_0, .int .i64 a0_1]) (t := 23) ?_; intro gb341 hg w12 hbox hb; have BK341 := Aside0.mk (hbox); have GW341 := lsz hg HB; have GE341 := lsz hg HB; replace HB := bst HB hb; clear hb hbox hg; have hcz13_0 : w12.cell? ⟨gb341, 0, none⟩ = some (.int .i64 a0_0) := (blk_cell BK341.out 0).trans rfl; have hcz13_1 : w12.cell? ⟨gb341, 1, none⟩ = some (.int .i64 a0_1) := (blk_cell BK341.out 1).trans rfl; have hfz13_0 := blk_frozen BK341.out 0; have hfz13_1 := blk_frozen BK341.out 1) | ((with_reducible refine gate_callee (f := 55) rfl ?_); refine gol (some 5) Try.func55 #[.agg #[.int .i64 a0_0, .int .i64 a0_1]] ?_; (with_reducible refine (cut_Canon.calls k a0_0 a0_1 t342 t343 _ A2.out).mono ?_); rintro e w14 ⟨rfl, hb⟩; refine ⟨_, rfl, ?_⟩; replace BK341 := bkb BK341 hb; replace HB := bst HB hb; (try clear hb); (try clear hb2); (try clear hk); (try clear hi); have hcz15_0 : w14.cell? ⟨gb341, 0, none⟩ = some (.int .i64 a0_0) := (blk_cell BK341.out 0).trans rfl; have hcz15_1 : w14.cell? ⟨gb341, 1, none⟩ = some (.int .i64 a0_1) := (blk_cell BK341.out 1).trans rfl; have hfz15_0 := blk_frozen BK341.out 0; have hfz15_1 := blk_frozen BK341.out 1) | ((with_reducible refine gate_callee (f := 69) rfl ?_); refine gol (some 8) Try.func69 #[] ?_; (with_reducible refine (cut_First.calls  t344 t345 _ A3.out).mono ?_); rintro e w16 ⟨rfl, hb⟩; refine ⟨_, rfl, ?_⟩; replace BK341 := Aside0.mk (blk_below (g := gb341) (o := .cells #[.int .i64 t342, .int .i64 t343] 23 (0, 0)) (by (with_reducible repeat (first | refine blk_drewN ?_ _ | refine blk_drew ?_ | refine blk_alloc ?_ _)); refine blk_put (cs := #[.int .i64 t342, .int .i64 a0_1]) ?_ 1 _ rfl; (with_reducible repeat (first | refine blk_drewN ?_ _ | refine blk_drew ?_ | refine blk_alloc ?_ _)); refine blk_put (cs := #[.int .i64 a0_0, .int .i64 a0_1]) ?_ 0 _ rfl; (with_reducible repeat (first | refine blk_drewN ?_ _ | refine blk_drew ?_ | refine blk_alloc ?_ _)); exact BK341.out) hb); replace HB := bst HB hb; (try clear hb); (try clear hb2); (try clear hk); (try clear hi)) | ((with_reducible refine gate_callee (f := 70) rfl ?_); refine gol (some 11) Try.func70 #[] ?_; (with_reducible refine (cut_Last.calls  t346 t347 _ A10.out).mono ?_); rintro e w17 ⟨rfl, hb⟩; refine ⟨_, rfl, ?_⟩; replace BK341 := bkb BK341 hb; replace HB := bst HB hb; (try clear hb); (try clear hb2); (try clear hk); (try clear hi)))
      go_ret2
      exact ⟨by first | rfl | (simp [errW_none, errW_some] <;> rfl) | (simp [*, errW_none, errW_some] <;> rfl), by repeat (first | (with_reducible first | exact HB.out | apply below_alloc | apply pw_below_drewN | apply below_drew1 | refine below_set ?_ GE341.out) | exact HB.out)⟩
    · rw [if_neg c11] at H
      have c11b0 : (t342 == t346 && (t343 == t347)) = false := by simpa using c11
      (try (have c11b1 : decide (t342 = t346 && (t343 == t347)) = false := by simpa using c11))
      (try (have c11b2 : (t342 == t346 && (t343 == t347)) = false := by simpa using c11))
      (try (have c11b3 : ¬ (t342 = t346 && (t343 == t347)) := by simpa using c11))
      clear c11
      simp only [Option.some.injEq, Prod.mk.injEq] at H
      obtain ⟨rfl, rfl⟩ := H
      go_enter Try.func61, Try.ntmps61
      go_wp2_with (first | ((with_reducible refine gate_dst (N := 1) rfl ?_); refine bxe (N := 1) (cs := #[.int .i64 a0_0, .int .i64 a0_1]) (t := 23) ?_; intro gb341 hg w18 hbox hb; have BK341 := Aside0.mk (hbox); have GW341 := lsz hg HB; have GE341 := lsz hg HB; replace HB := bst HB hb; clear hb hbox hg; have hcz19_0 : w18.cell? ⟨gb341, 0, none⟩ = some (.int .i64 a0_0) := (blk_cell BK341.out 0).trans rfl; have hcz19_1 : w18.cell? ⟨gb341, 1, none⟩ = some (.int .i64 a0_1) := (blk_cell BK341.out 1).trans rfl; have hfz19_0 := blk_frozen BK341.out 0; have hfz19_1 := blk_frozen BK341.out 1) | ((with_reducible refine gate_callee (f := 55) rfl ?_); refine gol (some 5) Try.func55 #[.agg #[.int .i64 a0_0, .int .i64 a0_1]] ?_; (with_reducible refine (cut_Canon.calls k a0_0 a0_1 t342 t343 _ A2.out).mono ?_); rintro e w20 ⟨rfl, hb⟩; refine ⟨_, rfl, ?_⟩; replace BK341 := bkb BK341 hb; replace HB := bst HB hb; (try clear hb); (try clear hb2); (try clear hk); (try clear hi); have hcz21_0 : w20.cell? ⟨gb341, 0, none⟩ = some (.int .i64 a0_0) := (blk_cell BK341.out 0).trans rfl; have hcz21_1 : w20.cell? ⟨gb341, 1, none⟩ = some (.int .i64 a0_1) := (blk_cell BK341.out 1).trans rfl; have hfz21_0 := blk_frozen BK341.out 0; have hfz21_1 := blk_frozen BK341.out 1) | ((with_reducible refine gate_callee (f := 69) rfl ?_); refine gol (some 8) Try.func69 #[] ?_; (with_reducible refine (cut_First.calls  t344 t345 _ A3.out).mono ?_); rintro e w22 ⟨rfl, hb⟩; refine ⟨_, rfl, ?_⟩; replace BK341 := Aside0.mk (blk_below (g := gb341) (o := .cells #[.int .i64 t342, .int .i64 t343] 23 (0, 0)) (by (with_reducible repeat (first | refine blk_drewN ?_ _ | refine blk_drew ?_ | refine blk_alloc ?_ _)); refine blk_put (cs := #[.int .i64 t342, .int .i64 a0_1]) ?_ 1 _ rfl; (with_reducible repeat (first | refine blk_drewN ?_ _ | refine blk_drew ?_ | refine blk_alloc ?_ _)); refine blk_put (cs := #[.int .i64 a0_0, .int .i64 a0_1]) ?_ 0 _ rfl; (with_reducible repeat (first | refine blk_drewN ?_ _ | refine blk_drew ?_ | refine blk_alloc ?_ _)); exact BK341.out) hb); replace HB := bst HB hb; (try clear hb); (try clear hb2); (try clear hk); (try clear hi)) | ((with_reducible refine gate_callee (f := 70) rfl ?_); refine gol (some 11) Try.func70 #[] ?_; (with_reducible refine (cut_Last.calls  t346 t347 _ A10.out).mono ?_); rintro e w23 ⟨rfl, hb⟩; refine ⟨_, rfl, ?_⟩; replace BK341 := bkb BK341 hb; replace HB := bst HB hb; (try clear hb); (try clear hb2); (try clear hk); (try clear hi); have hcz24_0 : w23.cell? ⟨gb341, 0, none⟩ = some (.int .i64 t342) := (blk_cell BK341.out 0).trans rfl; have hcz24_1 : w23.cell? ⟨gb341, 1, none⟩ = some (.int .i64 t343) := (blk_cell BK341.out 1).trans rfl; have hfz24_0 := blk_frozen BK341.out 0; have hfz24_1 := blk_frozen BK341.out 1))
      go_ret2
      exact ⟨by first | rfl | (simp [errW_none, errW_some] <;> rfl) | (simp [*, errW_none, errW_some] <;> rfl), by repeat (first | (with_reducible first | exact HB.out | apply below_alloc | apply pw_below_drewN | apply below_drew1 | refine below_set ?_ GE341.out) | exact HB.out)⟩
end
section
attribute [local go_sem high] eqA23
/-! ### span_Ends: function 31 -/
def span_Ends.f (k : Nat) (a0_0 : Int) (a0_1 : Int) (a0_2 : Int) (a0_3 : Int) : Option (Int × Int) := (span_Right.f k a0_0 a0_1 a0_2 a0_3).bind fun t349 => (if t349 = true then ((cut_Next.f k a0_0 a0_1).bind fun bt350 => ((cut_Prev.f k a0_2 a0_3).bind fun bt352 => (some (bt350.1, bt352.1)))) else (some (0, 0)))
theorem span_Ends.mono : ∀ a0 a1 a2 a3 k, LeO (span_Ends.f k a0 a1 a2 a3) (span_Ends.f (k + 1) a0 a1 a2 a3) := by
  intro a0 a1 a2 a3 k
  unfold span_Ends.f
  repeat' first
      | (with_reducible exact cut_Next.mono _ _ _)
      | (with_reducible exact cut_Prev.mono _ _ _)
      | (with_reducible exact span_Right.mono _ _ _ _ _)
      | (with_reducible exact LeO.refl _)
      | (with_reducible exact LeO.none _)
      | (with_reducible refine LeO.ite ?_ ?_)
      | (with_reducible refine LeO.bind ?_ (fun _ => ?_))
      | exact cut_Next.mono _ _ _
      | exact cut_Prev.mono _ _ _
      | exact span_Right.mono _ _ _ _ _
      | exact LeO.none _
      | refine LeO.ite ?_ ?_
      | refine LeO.bind ?_ (fun _ => ?_)
set_option maxHeartbeats 8000000 in
set_option maxRecDepth 100000 in
theorem span_Ends.calls (k : Nat) (a0_0 : Int) (a0_1 : Int) (a0_2 : Int) (a0_3 : Int) (r1 : Int) (r2 : Int) (w : World) (h : span_Ends.f k a0_0 a0_1 a0_2 a0_3 = some (r1, r2)) :
    Calls Try.prog 31 #[.agg #[.int .i64 a0_0, .int .i64 a0_1, .int .i64 a0_2, .int .i64 a0_3]] w fun e w' => e = .returned (.tuple #[.int .i64 r1, .int .i64 r2]) ∧ Below w.heap.size w w' := by
  have hu25 := Try.underlying25
  have hu23 := Try.underlying23
  have HB := Aside0.mk (Below.refl w.heap.size w)
  have H : ((span_Right.f k a0_0 a0_1 a0_2 a0_3).bind fun t349 => (if t349 = true then ((cut_Next.f k a0_0 a0_1).bind fun bt350 => ((cut_Prev.f k a0_2 a0_3).bind fun bt352 => (some (bt350.1, bt352.1)))) else (some (0, 0)))) = some (r1, r2) := h
  clear h
  replace H := Option.bind_eq_some_iff.mp H
  obtain ⟨t349, A20, H⟩ := H
  replace H : (if t349 = true then ((cut_Next.f k a0_0 a0_1).bind fun bt350 => ((cut_Prev.f k a0_2 a0_3).bind fun bt352 => (some (bt350.1, bt352.1)))) else (some (0, 0))) = some (r1, r2) := H
  have A2 := Aside0.mk A20
  clear A20
  by_cases c3 : t349 = true
  · subst c3
    have H1 : ((cut_Next.f k a0_0 a0_1).bind fun bt350 => ((cut_Prev.f k a0_2 a0_3).bind fun bt352 => (some (bt350.1, bt352.1)))) = some (r1, r2) := by rw [if_pos rfl] at H; exact H
    clear H
    have H := H1
    clear H1
    replace H := Option.bind_eq_some_iff.mp H
    obtain ⟨⟨t350, t351⟩, A40, H⟩ := H
    replace H : ((cut_Prev.f k a0_2 a0_3).bind fun bt352 => (some (t350, bt352.1))) = some (r1, r2) := H
    have A4 := Aside0.mk A40
    clear A40
    replace H := Option.bind_eq_some_iff.mp H
    obtain ⟨⟨t352, t353⟩, A50, H⟩ := H
    replace H : (some (t350, t352)) = some (r1, r2) := H
    have A5 := Aside0.mk A50
    clear A50
    simp only [Option.some.injEq, Prod.mk.injEq] at H
    obtain ⟨rfl, rfl⟩ := H
    go_enter Try.func31, Try.ntmps31
    go_wp2_with (first | ((with_reducible refine gate_dst (N := 1) rfl ?_); refine bxe (N := 1) (cs := #[.int .i64 a0_0, .int .i64 a0_1, .int .i64 a0_2, .int .i64 a0_3]) (t := 25) ?_; intro gb348 hg w6 hbox hb; have BK348 := Aside0.mk (hbox); have GW348 := lsz hg HB; have GE348 := lsz hg HB; replace HB := bst HB hb; clear hb hbox hg; have hcz7_0 : w6.cell? ⟨gb348, 0, none⟩ = some (.int .i64 a0_0) := (blk_cell BK348.out 0).trans rfl; have hcz7_1 : w6.cell? ⟨gb348, 1, none⟩ = some (.int .i64 a0_1) := (blk_cell BK348.out 1).trans rfl; have hcz7_2 : w6.cell? ⟨gb348, 2, none⟩ = some (.int .i64 a0_2) := (blk_cell BK348.out 2).trans rfl; have hcz7_3 : w6.cell? ⟨gb348, 3, none⟩ = some (.int .i64 a0_3) := (blk_cell BK348.out 3).trans rfl; have hfz7_0 := blk_frozen BK348.out 0; have hfz7_1 := blk_frozen BK348.out 1; have hfz7_2 := blk_frozen BK348.out 2; have hfz7_3 := blk_frozen BK348.out 3) | ((with_reducible refine gate_callee (f := 28) rfl ?_); refine gol (some 9) Try.func28 #[.agg #[.int .i64 a0_0, .int .i64 a0_1, .int .i64 a0_2, .int .i64 a0_3]] ?_; (with_reducible refine (span_Right.calls k a0_0 a0_1 a0_2 a0_3 true _ A2.out).mono ?_); rintro e w8 ⟨rfl, hb⟩; refine ⟨_, rfl, ?_⟩; replace BK348 := bkb BK348 hb; replace HB := bst HB hb; (try clear hb); (try clear hb2); (try clear hk); (try clear hi); have hcz9_0 : w8.cell? ⟨gb348, 0, none⟩ = some (.int .i64 a0_0) := (blk_cell BK348.out 0).trans rfl; have hcz9_1 : w8.cell? ⟨gb348, 1, none⟩ = some (.int .i64 a0_1) := (blk_cell BK348.out 1).trans rfl; have hcz9_2 : w8.cell? ⟨gb348, 2, none⟩ = some (.int .i64 a0_2) := (blk_cell BK348.out 2).trans rfl; have hcz9_3 : w8.cell? ⟨gb348, 3, none⟩ = some (.int .i64 a0_3) := (blk_cell BK348.out 3).trans rfl; have hfz9_0 := blk_frozen BK348.out 0; have hfz9_1 := blk_frozen BK348.out 1; have hfz9_2 := blk_frozen BK348.out 2; have hfz9_3 := blk_frozen BK348.out 3) | ((with_reducible refine gate_callee (f := 60) rfl ?_); refine gol (some 14) Try.func60 #[.agg #[.int .i64 a0_0, .int .i64 a0_1]] ?_; (with_reducible refine (cut_Next.calls k a0_0 a0_1 t350 t351 _ A4.out).mono ?_); rintro e w10 ⟨rfl, hb⟩; refine ⟨_, rfl, ?_⟩; replace BK348 := bkb BK348 hb; replace HB := bst HB hb; (try clear hb); (try clear hb2); (try clear hk); (try clear hi); have hcz11_0 : w10.cell? ⟨gb348, 0, none⟩ = some (.int .i64 a0_0) := (blk_cell BK348.out 0).trans rfl; have hcz11_1 : w10.cell? ⟨gb348, 1, none⟩ = some (.int .i64 a0_1) := (blk_cell BK348.out 1).trans rfl; have hcz11_2 : w10.cell? ⟨gb348, 2, none⟩ = some (.int .i64 a0_2) := (blk_cell BK348.out 2).trans rfl; have hcz11_3 : w10.cell? ⟨gb348, 3, none⟩ = some (.int .i64 a0_3) := (blk_cell BK348.out 3).trans rfl; have hfz11_0 := blk_frozen BK348.out 0; have hfz11_1 := blk_frozen BK348.out 1; have hfz11_2 := blk_frozen BK348.out 2; have hfz11_3 := blk_frozen BK348.out 3) | ((with_reducible refine gate_callee (f := 61) rfl ?_); refine gol (some 20) Try.func61 #[.agg #[.int .i64 a0_2, .int .i64 a0_3]] ?_; (with_reducible refine (cut_Prev.calls k a0_2 a0_3 t352 t353 _ A5.out).mono ?_); rintro e w12 ⟨rfl, hb⟩; refine ⟨_, rfl, ?_⟩; replace BK348 := bkb BK348 hb; replace HB := bst HB hb; (try clear hb); (try clear hb2); (try clear hk); (try clear hi)))
    go_ret2
    exact ⟨by first | rfl | (simp [errW_none, errW_some] <;> rfl) | (simp [*, errW_none, errW_some] <;> rfl), by repeat (first | (with_reducible first | exact HB.out | apply below_alloc | apply pw_below_drewN | apply below_drew1 | refine below_set ?_ GE348.out) | exact HB.out)⟩
  · replace c3 := Bool.eq_false_iff.mpr c3
    subst c3
    have H1 : (some (0, 0)) = some (r1, r2) := by rw [if_neg (show ¬ (false = true) by decide)] at H; exact H
    clear H
    have H := H1
    clear H1
    simp only [Option.some.injEq, Prod.mk.injEq] at H
    obtain ⟨rfl, rfl⟩ := H
    go_enter Try.func31, Try.ntmps31
    go_wp2_with (first | ((with_reducible refine gate_dst (N := 1) rfl ?_); refine bxe (N := 1) (cs := #[.int .i64 a0_0, .int .i64 a0_1, .int .i64 a0_2, .int .i64 a0_3]) (t := 25) ?_; intro gb348 hg w13 hbox hb; have BK348 := Aside0.mk (hbox); have GW348 := lsz hg HB; have GE348 := lsz hg HB; replace HB := bst HB hb; clear hb hbox hg; have hcz14_0 : w13.cell? ⟨gb348, 0, none⟩ = some (.int .i64 a0_0) := (blk_cell BK348.out 0).trans rfl; have hcz14_1 : w13.cell? ⟨gb348, 1, none⟩ = some (.int .i64 a0_1) := (blk_cell BK348.out 1).trans rfl; have hcz14_2 : w13.cell? ⟨gb348, 2, none⟩ = some (.int .i64 a0_2) := (blk_cell BK348.out 2).trans rfl; have hcz14_3 : w13.cell? ⟨gb348, 3, none⟩ = some (.int .i64 a0_3) := (blk_cell BK348.out 3).trans rfl; have hfz14_0 := blk_frozen BK348.out 0; have hfz14_1 := blk_frozen BK348.out 1; have hfz14_2 := blk_frozen BK348.out 2; have hfz14_3 := blk_frozen BK348.out 3) | ((with_reducible refine gate_callee (f := 28) rfl ?_); refine gol (some 9) Try.func28 #[.agg #[.int .i64 a0_0, .int .i64 a0_1, .int .i64 a0_2, .int .i64 a0_3]] ?_; (with_reducible refine (span_Right.calls k a0_0 a0_1 a0_2 a0_3 false _ A2.out).mono ?_); rintro e w15 ⟨rfl, hb⟩; refine ⟨_, rfl, ?_⟩; replace BK348 := bkb BK348 hb; replace HB := bst HB hb; (try clear hb); (try clear hb2); (try clear hk); (try clear hi)))
    go_ret2
    exact ⟨by first | rfl | (simp [errW_none, errW_some] <;> rfl) | (simp [*, errW_none, errW_some] <;> rfl), by repeat (first | (with_reducible first | exact HB.out | apply below_alloc | apply pw_below_drewN | apply below_drew1 | refine below_set ?_ GE348.out) | exact HB.out)⟩
end
/-! ### span_Count: function 26 -/
def span_Count.f (k : Nat) (a0_0 : Int) (a0_1 : Int) (a0_2 : Int) (a0_3 : Int) : Option (Int × Bool) := (span_Right.f k a0_0 a0_1 a0_2 a0_3).bind fun t355 => (if t355 = true then ((span_Ends.f k a0_0 a0_1 a0_2 a0_3).bind fun bt356 => (some (IntKind.u64.wrap ((IntKind.u64.wrap ((IntKind.u64.wrap (bt356.2)) - (IntKind.u64.wrap (bt356.1)))) + 1), decide ((IntKind.u64.wrap ((IntKind.u64.wrap ((IntKind.u64.wrap (bt356.2)) - (IntKind.u64.wrap (bt356.1)))) + 1)) > 0)))) else (some (0, false)))
theorem span_Count.mono : ∀ a0 a1 a2 a3 k, LeO (span_Count.f k a0 a1 a2 a3) (span_Count.f (k + 1) a0 a1 a2 a3) := by
  intro a0 a1 a2 a3 k
  unfold span_Count.f
  repeat' first
      | (with_reducible exact span_Ends.mono _ _ _ _ _)
      | (with_reducible exact span_Right.mono _ _ _ _ _)
      | (with_reducible exact LeO.refl _)
      | (with_reducible exact LeO.none _)
      | (with_reducible refine LeO.ite ?_ ?_)
      | (with_reducible refine LeO.bind ?_ (fun _ => ?_))
      | exact span_Ends.mono _ _ _ _ _
      | exact span_Right.mono _ _ _ _ _
      | exact LeO.none _
      | refine LeO.ite ?_ ?_
      | refine LeO.bind ?_ (fun _ => ?_)
set_option maxHeartbeats 8000000 in
set_option maxRecDepth 100000 in
theorem span_Count.calls (k : Nat) (a0_0 : Int) (a0_1 : Int) (a0_2 : Int) (a0_3 : Int) (r1 : Int) (r2 : Bool) (w : World) (h : span_Count.f k a0_0 a0_1 a0_2 a0_3 = some (r1, r2)) :
    Calls Try.prog 26 #[.agg #[.int .i64 a0_0, .int .i64 a0_1, .int .i64 a0_2, .int .i64 a0_3]] w fun e w' => e = .returned (.tuple #[.int .u64 r1, .bool r2]) ∧ Below w.heap.size w w' := by
  have hu25 := Try.underlying25
  have HB := Aside0.mk (Below.refl w.heap.size w)
  have H : ((span_Right.f k a0_0 a0_1 a0_2 a0_3).bind fun t355 => (if t355 = true then ((span_Ends.f k a0_0 a0_1 a0_2 a0_3).bind fun bt356 => (some (IntKind.u64.wrap ((IntKind.u64.wrap ((IntKind.u64.wrap (bt356.2)) - (IntKind.u64.wrap (bt356.1)))) + 1), decide ((IntKind.u64.wrap ((IntKind.u64.wrap ((IntKind.u64.wrap (bt356.2)) - (IntKind.u64.wrap (bt356.1)))) + 1)) > 0)))) else (some (0, false)))) = some (r1, r2) := h
  clear h
  replace H := Option.bind_eq_some_iff.mp H
  obtain ⟨t355, A20, H⟩ := H
  replace H : (if t355 = true then ((span_Ends.f k a0_0 a0_1 a0_2 a0_3).bind fun bt356 => (some (IntKind.u64.wrap ((IntKind.u64.wrap ((IntKind.u64.wrap (bt356.2)) - (IntKind.u64.wrap (bt356.1)))) + 1), decide ((IntKind.u64.wrap ((IntKind.u64.wrap ((IntKind.u64.wrap (bt356.2)) - (IntKind.u64.wrap (bt356.1)))) + 1)) > 0)))) else (some (0, false))) = some (r1, r2) := H
  have A2 := Aside0.mk A20
  clear A20
  by_cases c3 : t355 = true
  · subst c3
    have H1 : ((span_Ends.f k a0_0 a0_1 a0_2 a0_3).bind fun bt356 => (some (IntKind.u64.wrap ((IntKind.u64.wrap ((IntKind.u64.wrap (bt356.2)) - (IntKind.u64.wrap (bt356.1)))) + 1), decide ((IntKind.u64.wrap ((IntKind.u64.wrap ((IntKind.u64.wrap (bt356.2)) - (IntKind.u64.wrap (bt356.1)))) + 1)) > 0)))) = some (r1, r2) := by rw [if_pos rfl] at H; exact H
    clear H
    have H := H1
    clear H1
    replace H := Option.bind_eq_some_iff.mp H
    obtain ⟨⟨t356, t357⟩, A40, H⟩ := H
    replace H : (some (IntKind.u64.wrap ((IntKind.u64.wrap ((IntKind.u64.wrap (t357)) - (IntKind.u64.wrap (t356)))) + 1), decide ((IntKind.u64.wrap ((IntKind.u64.wrap ((IntKind.u64.wrap (t357)) - (IntKind.u64.wrap (t356)))) + 1)) > 0))) = some (r1, r2) := H
    have A4 := Aside0.mk A40
    clear A40
    simp only [Option.some.injEq, Prod.mk.injEq] at H
    obtain ⟨rfl, rfl⟩ := H
    go_enter Try.func26, Try.ntmps26
    go_wp2_with (first | ((with_reducible refine gate_dst (N := 1) rfl ?_); refine bxe (N := 1) (cs := #[.int .i64 a0_0, .int .i64 a0_1, .int .i64 a0_2, .int .i64 a0_3]) (t := 25) ?_; intro gb354 hg w5 hbox hb; have BK354 := Aside0.mk (hbox); have GW354 := lsz hg HB; have GE354 := lsz hg HB; replace HB := bst HB hb; clear hb hbox hg; have hcz6_0 : w5.cell? ⟨gb354, 0, none⟩ = some (.int .i64 a0_0) := (blk_cell BK354.out 0).trans rfl; have hcz6_1 : w5.cell? ⟨gb354, 1, none⟩ = some (.int .i64 a0_1) := (blk_cell BK354.out 1).trans rfl; have hcz6_2 : w5.cell? ⟨gb354, 2, none⟩ = some (.int .i64 a0_2) := (blk_cell BK354.out 2).trans rfl; have hcz6_3 : w5.cell? ⟨gb354, 3, none⟩ = some (.int .i64 a0_3) := (blk_cell BK354.out 3).trans rfl; have hfz6_0 := blk_frozen BK354.out 0; have hfz6_1 := blk_frozen BK354.out 1; have hfz6_2 := blk_frozen BK354.out 2; have hfz6_3 := blk_frozen BK354.out 3) | ((with_reducible refine gate_callee (f := 28) rfl ?_); refine gol (some 8) Try.func28 #[.agg #[.int .i64 a0_0, .int .i64 a0_1, .int .i64 a0_2, .int .i64 a0_3]] ?_; (with_reducible refine (span_Right.calls k a0_0 a0_1 a0_2 a0_3 true _ A2.out).mono ?_); rintro e w7 ⟨rfl, hb⟩; refine ⟨_, rfl, ?_⟩; replace BK354 := bkb BK354 hb; replace HB := bst HB hb; (try clear hb); (try clear hb2); (try clear hk); (try clear hi); have hcz8_0 : w7.cell? ⟨gb354, 0, none⟩ = some (.int .i64 a0_0) := (blk_cell BK354.out 0).trans rfl; have hcz8_1 : w7.cell? ⟨gb354, 1, none⟩ = some (.int .i64 a0_1) := (blk_cell BK354.out 1).trans rfl; have hcz8_2 : w7.cell? ⟨gb354, 2, none⟩ = some (.int .i64 a0_2) := (blk_cell BK354.out 2).trans rfl; have hcz8_3 : w7.cell? ⟨gb354, 3, none⟩ = some (.int .i64 a0_3) := (blk_cell BK354.out 3).trans rfl; have hfz8_0 := blk_frozen BK354.out 0; have hfz8_1 := blk_frozen BK354.out 1; have hfz8_2 := blk_frozen BK354.out 2; have hfz8_3 := blk_frozen BK354.out 3) | ((with_reducible refine gate_callee (f := 31) rfl ?_); refine gol (some 12) Try.func31 #[.agg #[.int .i64 a0_0, .int .i64 a0_1, .int .i64 a0_2, .int .i64 a0_3]] ?_; (with_reducible refine (span_Ends.calls k a0_0 a0_1 a0_2 a0_3 t356 t357 _ A4.out).mono ?_); rintro e w9 ⟨rfl, hb⟩; refine ⟨_, rfl, ?_⟩; replace BK354 := bkb BK354 hb; replace HB := bst HB hb; (try clear hb); (try clear hb2); (try clear hk); (try clear hi)))
    go_ret2
    exact ⟨by first | rfl | (simp [errW_none, errW_some] <;> rfl) | (simp [*, errW_none, errW_some] <;> rfl), by repeat (first | (with_reducible first | exact HB.out | apply below_alloc | apply pw_below_drewN | apply below_drew1 | refine below_set ?_ GE354.out) | exact HB.out)⟩
  · replace c3 := Bool.eq_false_iff.mpr c3
    subst c3
    have H1 : (some (0, false)) = some (r1, r2) := by rw [if_neg (show ¬ (false = true) by decide)] at H; exact H
    clear H
    have H := H1
    clear H1
    simp only [Option.some.injEq, Prod.mk.injEq] at H
    obtain ⟨rfl, rfl⟩ := H
    go_enter Try.func26, Try.ntmps26
    go_wp2_with (first | ((with_reducible refine gate_dst (N := 1) rfl ?_); refine bxe (N := 1) (cs := #[.int .i64 a0_0, .int .i64 a0_1, .int .i64 a0_2, .int .i64 a0_3]) (t := 25) ?_; intro gb354 hg w10 hbox hb; have BK354 := Aside0.mk (hbox); have GW354 := lsz hg HB; have GE354 := lsz hg HB; replace HB := bst HB hb; clear hb hbox hg; have hcz11_0 : w10.cell? ⟨gb354, 0, none⟩ = some (.int .i64 a0_0) := (blk_cell BK354.out 0).trans rfl; have hcz11_1 : w10.cell? ⟨gb354, 1, none⟩ = some (.int .i64 a0_1) := (blk_cell BK354.out 1).trans rfl; have hcz11_2 : w10.cell? ⟨gb354, 2, none⟩ = some (.int .i64 a0_2) := (blk_cell BK354.out 2).trans rfl; have hcz11_3 : w10.cell? ⟨gb354, 3, none⟩ = some (.int .i64 a0_3) := (blk_cell BK354.out 3).trans rfl; have hfz11_0 := blk_frozen BK354.out 0; have hfz11_1 := blk_frozen BK354.out 1; have hfz11_2 := blk_frozen BK354.out 2; have hfz11_3 := blk_frozen BK354.out 3) | ((with_reducible refine gate_callee (f := 28) rfl ?_); refine gol (some 8) Try.func28 #[.agg #[.int .i64 a0_0, .int .i64 a0_1, .int .i64 a0_2, .int .i64 a0_3]] ?_; (with_reducible refine (span_Right.calls k a0_0 a0_1 a0_2 a0_3 false _ A2.out).mono ?_); rintro e w12 ⟨rfl, hb⟩; refine ⟨_, rfl, ?_⟩; replace BK354 := bkb BK354 hb; replace HB := bst HB hb; (try clear hb); (try clear hb2); (try clear hk); (try clear hi)))
    go_ret2
    exact ⟨by first | rfl | (simp [errW_none, errW_some] <;> rfl) | (simp [*, errW_none, errW_some] <;> rfl), by repeat (first | (with_reducible first | exact HB.out | apply below_alloc | apply pw_below_drewN | apply below_drew1 | refine below_set ?_ GE354.out) | exact HB.out)⟩
/-! ### cut_Ahead: function 63 -/
def cut_Ahead.f (k : Nat) (a0 : Int) : Option (Int × Int) := (cut_Canon.f k 0 a0).bind fun bt359 => (some (bt359.1, bt359.2))
theorem cut_Ahead.mono : ∀ a0 k, LeO (cut_Ahead.f k a0) (cut_Ahead.f (k + 1) a0) := by
  intro a0 k
  unfold cut_Ahead.f
  repeat' first
      | (with_reducible exact cut_Canon.mono _ _ _)
      | (with_reducible exact LeO.refl _)
      | (with_reducible exact LeO.none _)
      | (with_reducible refine LeO.ite ?_ ?_)
      | (with_reducible refine LeO.bind ?_ (fun _ => ?_))
      | exact cut_Canon.mono _ _ _
      | exact LeO.none _
      | refine LeO.ite ?_ ?_
      | refine LeO.bind ?_ (fun _ => ?_)
set_option maxHeartbeats 8000000 in
set_option maxRecDepth 100000 in
theorem cut_Ahead.calls (k : Nat) (a0 : Int) (r1 : Int) (r2 : Int) (w : World) (h : cut_Ahead.f k a0 = some (r1, r2)) :
    Calls Try.prog 63 #[.int .i64 a0] w fun e w' => e = .returned (.agg #[.int .i64 r1, .int .i64 r2]) ∧ Below w.heap.size w w' := by
  have hu23 := Try.underlying23
  have HB := Aside0.mk (Below.refl w.heap.size w)
  have H : ((cut_Canon.f k 0 a0).bind fun bt359 => (some (bt359.1, bt359.2))) = some (r1, r2) := h
  clear h
  replace H := Option.bind_eq_some_iff.mp H
  obtain ⟨⟨t359, t360⟩, A20, H⟩ := H
  replace H : (some (t359, t360)) = some (r1, r2) := H
  have A2 := Aside0.mk A20
  clear A20
  simp only [Option.some.injEq, Prod.mk.injEq] at H
  obtain ⟨rfl, rfl⟩ := H
  go_enter Try.func63, Try.ntmps63
  go_wp2_with (first | ((with_reducible refine gate_dst (N := 2) rfl ?_); refine bxe (N := 2) (cs := #[.int .i64 0, .int .i64 0]) (t := 23) ?_; intro gb358 hg w3 hbox hb; have BK358 := Aside0.mk (hbox); have GW358 := lsz hg HB; have GE358 := lsz hg HB; replace HB := bst HB hb; clear hb hbox hg) | ((with_reducible refine gate_callee (f := 55) rfl ?_); refine gol (some 5) Try.func55 #[.agg #[.int .i64 0, .int .i64 a0]] ?_; (with_reducible refine (cut_Canon.calls k 0 a0 t359 t360 _ A2.out).mono ?_); rintro e w4 ⟨rfl, hb⟩; refine ⟨_, rfl, ?_⟩; replace BK358 := bkb BK358 hb; replace HB := bst HB hb; (try clear hb); (try clear hb2); (try clear hk); (try clear hi); have hcz5_0 : w4.cell? ⟨gb358, 0, none⟩ = some (.int .i64 0) := (blk_cell BK358.out 0).trans rfl; have hcz5_1 : w4.cell? ⟨gb358, 1, none⟩ = some (.int .i64 0) := (blk_cell BK358.out 1).trans rfl; have hfz5_0 := blk_frozen BK358.out 0; have hfz5_1 := blk_frozen BK358.out 1))
  refine bodyPost_ret (results_cell_row rfl _ _ gb358 23 #[.int .i64 t359, .int .i64 t360] (0, 0) _ rfl (by (with_reducible repeat (first | refine blk_drewN ?_ _ | refine blk_drew ?_ | refine blk_alloc ?_ _)); refine blk_put (cs := #[.int .i64 t359, .int .i64 0]) ?_ 1 _ rfl; (with_reducible repeat (first | refine blk_drewN ?_ _ | refine blk_drew ?_ | refine blk_alloc ?_ _)); refine blk_put (cs := #[.int .i64 0, .int .i64 0]) ?_ 0 _ rfl; (with_reducible repeat (first | refine blk_drewN ?_ _ | refine blk_drew ?_ | refine blk_alloc ?_ _)); exact BK358.out) Try.underlying23 rfl (by kernel_rfl)) rfl ?_
  exact ⟨by first | rfl | (simp [errW_none, errW_some] <;> rfl) | (simp [*, errW_none, errW_some] <;> rfl), by repeat (first | (with_reducible first | exact HB.out | apply below_alloc | apply pw_below_drewN | apply below_drew1 | refine below_set ?_ GE358.out) | exact HB.out)⟩
/-! ### cut_Behind: function 64 -/
def cut_Behind.f (a0 : Int) : Option (Int × Int) := if a0 = 9223372036854775807 then ((cut_Last.f).bind fun bt362 => (some (bt362.1, bt362.2))) else (some (0, wrap64 (a0 + 1)))
set_option maxHeartbeats 8000000 in
set_option maxRecDepth 100000 in
theorem cut_Behind.calls (a0 : Int) (r1 : Int) (r2 : Int) (w : World) (h : cut_Behind.f a0 = some (r1, r2)) :
    Calls Try.prog 64 #[.int .i64 a0] w fun e w' => e = .returned (.agg #[.int .i64 r1, .int .i64 r2]) ∧ Below w.heap.size w w' := by
  have hu23 := Try.underlying23
  have HB := Aside0.mk (Below.refl w.heap.size w)
  have H : (if a0 = 9223372036854775807 then ((cut_Last.f).bind fun bt362 => (some (bt362.1, bt362.2))) else (some (0, wrap64 (a0 + 1)))) = some (r1, r2) := h
  clear h
  by_cases c2 : a0 = 9223372036854775807
  · rw [if_pos c2] at H
    have c2b0 : (a0 == 9223372036854775807) = true := beq_iff_eq.mpr c2
    have c2b1 : (a0 != 9223372036854775807) = false := bne_eq_false_iff_eq.mpr c2
    clear c2
    replace H := Option.bind_eq_some_iff.mp H
    obtain ⟨⟨t362, t363⟩, A30, H⟩ := H
    replace H : (some (t362, t363)) = some (r1, r2) := H
    have A3 := Aside0.mk A30
    clear A30
    simp only [Option.some.injEq, Prod.mk.injEq] at H
    obtain ⟨rfl, rfl⟩ := H
    go_enter Try.func64, Try.ntmps64
    go_wp2_with (first | ((with_reducible refine gate_dst (N := 2) rfl ?_); refine bxe (N := 2) (cs := #[.int .i64 0, .int .i64 0]) (t := 23) ?_; intro gb361 hg w4 hbox hb; have BK361 := Aside0.mk (hbox); have GW361 := lsz hg HB; have GE361 := lsz hg HB; replace HB := bst HB hb; clear hb hbox hg) | ((with_reducible refine gate_callee (f := 70) rfl ?_); refine gol (some 5) Try.func70 #[] ?_; (with_reducible refine (cut_Last.calls  t362 t363 _ A3.out).mono ?_); rintro e w5 ⟨rfl, hb⟩; refine ⟨_, rfl, ?_⟩; replace BK361 := bkb BK361 hb; replace HB := bst HB hb; (try clear hb); (try clear hb2); (try clear hk); (try clear hi); have hcz6_0 : w5.cell? ⟨gb361, 0, none⟩ = some (.int .i64 0) := (blk_cell BK361.out 0).trans rfl; have hcz6_1 : w5.cell? ⟨gb361, 1, none⟩ = some (.int .i64 0) := (blk_cell BK361.out 1).trans rfl; have hfz6_0 := blk_frozen BK361.out 0; have hfz6_1 := blk_frozen BK361.out 1))
    refine bodyPost_ret (results_cell_row rfl _ _ gb361 23 #[.int .i64 t362, .int .i64 t363] (0, 0) _ rfl (by (with_reducible repeat (first | refine blk_drewN ?_ _ | refine blk_drew ?_ | refine blk_alloc ?_ _)); refine blk_put (cs := #[.int .i64 t362, .int .i64 0]) ?_ 1 _ rfl; (with_reducible repeat (first | refine blk_drewN ?_ _ | refine blk_drew ?_ | refine blk_alloc ?_ _)); refine blk_put (cs := #[.int .i64 0, .int .i64 0]) ?_ 0 _ rfl; (with_reducible repeat (first | refine blk_drewN ?_ _ | refine blk_drew ?_ | refine blk_alloc ?_ _)); exact BK361.out) Try.underlying23 rfl (by kernel_rfl)) rfl ?_
    exact ⟨by first | rfl | (simp [errW_none, errW_some] <;> rfl) | (simp [*, errW_none, errW_some] <;> rfl), by repeat (first | (with_reducible first | exact HB.out | apply below_alloc | apply pw_below_drewN | apply below_drew1 | refine below_set ?_ GE361.out) | exact HB.out)⟩
  · rw [if_neg c2] at H
    have c2b0 : (a0 == 9223372036854775807) = false := beq_eq_false_iff_ne.mpr c2
    have c2b1 : (a0 != 9223372036854775807) = true := bne_iff_ne.mpr c2
    simp only [Option.some.injEq, Prod.mk.injEq] at H
    obtain ⟨rfl, rfl⟩ := H
    go_enter Try.func64, Try.ntmps64
    go_wp2_with (first | ((with_reducible refine gate_dst (N := 2) rfl ?_); refine bxe (N := 2) (cs := #[.int .i64 0, .int .i64 0]) (t := 23) ?_; intro gb361 hg w7 hbox hb; have BK361 := Aside0.mk (hbox); have GW361 := lsz hg HB; have GE361 := lsz hg HB; replace HB := bst HB hb; clear hb hbox hg; have hcz8_0 : w7.cell? ⟨gb361, 0, none⟩ = some (.int .i64 0) := (blk_cell BK361.out 0).trans rfl; have hcz8_1 : w7.cell? ⟨gb361, 1, none⟩ = some (.int .i64 0) := (blk_cell BK361.out 1).trans rfl; have hfz8_0 := blk_frozen BK361.out 0; have hfz8_1 := blk_frozen BK361.out 1))
    refine bodyPost_ret (results_cell_row rfl _ _ gb361 23 #[.int .i64 0, .int .i64 (wrap64 (a0 + 1))] (0, 0) _ rfl (by (with_reducible repeat (first | refine blk_drewN ?_ _ | refine blk_drew ?_ | refine blk_alloc ?_ _)); refine blk_put (cs := #[.int .i64 0, .int .i64 0]) ?_ 1 _ rfl; (with_reducible repeat (first | refine blk_drewN ?_ _ | refine blk_drew ?_ | refine blk_alloc ?_ _)); refine blk_put (cs := #[.int .i64 0, .int .i64 0]) ?_ 0 _ rfl; (with_reducible repeat (first | refine blk_drewN ?_ _ | refine blk_drew ?_ | refine blk_alloc ?_ _)); exact BK361.out) Try.underlying23 rfl (by kernel_rfl)) rfl ?_
    exact ⟨by first | rfl | (simp [errW_none, errW_some] <;> rfl) | (simp [*, errW_none, errW_some] <;> rfl), by repeat (first | (with_reducible first | exact HB.out | apply below_alloc | apply pw_below_drewN | apply below_drew1 | refine below_set ?_ GE361.out) | exact HB.out)⟩
/-! ### span_Point: function 34 -/
def span_Point.f (k : Nat) (a0 : Int) : Option (Int × Int × Int × Int) := (cut_Ahead.f k a0).bind fun bt365 => ((cut_Behind.f a0).bind fun bt367 => (some (bt365.1, bt365.2, bt367.1, bt367.2)))
theorem span_Point.mono : ∀ a0 k, LeO (span_Point.f k a0) (span_Point.f (k + 1) a0) := by
  intro a0 k
  unfold span_Point.f
  repeat' first
      | (with_reducible exact cut_Ahead.mono _ _)
      | (with_reducible exact LeO.refl _)
      | (with_reducible exact LeO.none _)
      | (with_reducible refine LeO.ite ?_ ?_)
      | (with_reducible refine LeO.bind ?_ (fun _ => ?_))
      | exact cut_Ahead.mono _ _
      | exact LeO.none _
      | refine LeO.ite ?_ ?_
      | refine LeO.bind ?_ (fun _ => ?_)
set_option maxHeartbeats 8000000 in
set_option maxRecDepth 100000 in
theorem span_Point.calls (k : Nat) (a0 : Int) (r1 : Int) (r2 : Int) (r3 : Int) (r4 : Int) (w : World) (h : span_Point.f k a0 = some (r1, r2, r3, r4)) :
    Calls Try.prog 34 #[.int .i64 a0] w fun e w' => e = .returned (.agg #[.int .i64 r1, .int .i64 r2, .int .i64 r3, .int .i64 r4]) ∧ Below w.heap.size w w' := by
  have hu25 := Try.underlying25
  have HB := Aside0.mk (Below.refl w.heap.size w)
  have H : ((cut_Ahead.f k a0).bind fun bt365 => ((cut_Behind.f a0).bind fun bt367 => (some (bt365.1, bt365.2, bt367.1, bt367.2)))) = some (r1, r2, r3, r4) := h
  clear h
  replace H := Option.bind_eq_some_iff.mp H
  obtain ⟨⟨t365, t366⟩, A20, H⟩ := H
  replace H : ((cut_Behind.f a0).bind fun bt367 => (some (t365, t366, bt367.1, bt367.2))) = some (r1, r2, r3, r4) := H
  have A2 := Aside0.mk A20
  clear A20
  replace H := Option.bind_eq_some_iff.mp H
  obtain ⟨⟨t367, t368⟩, A30, H⟩ := H
  replace H : (some (t365, t366, t367, t368)) = some (r1, r2, r3, r4) := H
  have A3 := Aside0.mk A30
  clear A30
  simp only [Option.some.injEq, Prod.mk.injEq] at H
  obtain ⟨rfl, rfl, rfl, rfl⟩ := H
  go_enter Try.func34, Try.ntmps34
  go_wp2_with (first | ((with_reducible refine gate_dst (N := 2) rfl ?_); refine bxe (N := 2) (cs := #[.int .i64 0, .int .i64 0, .int .i64 0, .int .i64 0]) (t := 25) ?_; intro gb364 hg w4 hbox hb; have BK364 := Aside0.mk (hbox); have GW364 := lsz hg HB; have GE364 := lsz hg HB; replace HB := bst HB hb; clear hb hbox hg) | ((with_reducible refine gate_callee (f := 63) rfl ?_); refine gol (some 4) Try.func63 #[.int .i64 a0] ?_; (with_reducible refine (cut_Ahead.calls k a0 t365 t366 _ A2.out).mono ?_); rintro e w5 ⟨rfl, hb⟩; refine ⟨_, rfl, ?_⟩; replace BK364 := bkb BK364 hb; replace HB := bst HB hb; (try clear hb); (try clear hb2); (try clear hk); (try clear hi)) | ((with_reducible refine gate_callee (f := 64) rfl ?_); refine gol (some 6) Try.func64 #[.int .i64 a0] ?_; (with_reducible refine (cut_Behind.calls a0 t367 t368 _ A3.out).mono ?_); rintro e w6 ⟨rfl, hb⟩; refine ⟨_, rfl, ?_⟩; replace BK364 := bkb BK364 hb; replace HB := bst HB hb; (try clear hb); (try clear hb2); (try clear hk); (try clear hi); have hcz7_0 : w6.cell? ⟨gb364, 0, none⟩ = some (.int .i64 0) := (blk_cell BK364.out 0).trans rfl; have hcz7_1 : w6.cell? ⟨gb364, 1, none⟩ = some (.int .i64 0) := (blk_cell BK364.out 1).trans rfl; have hcz7_2 : w6.cell? ⟨gb364, 2, none⟩ = some (.int .i64 0) := (blk_cell BK364.out 2).trans rfl; have hcz7_3 : w6.cell? ⟨gb364, 3, none⟩ = some (.int .i64 0) := (blk_cell BK364.out 3).trans rfl; have hfz7_0 := blk_frozen BK364.out 0; have hfz7_1 := blk_frozen BK364.out 1; have hfz7_2 := blk_frozen BK364.out 2; have hfz7_3 := blk_frozen BK364.out 3))
  refine bodyPost_ret (results_cell_row rfl _ _ gb364 25 #[.int .i64 t365, .int .i64 t366, .int .i64 t367, .int .i64 t368] (0, 0) _ rfl (by (with_reducible repeat (first | refine blk_drewN ?_ _ | refine blk_drew ?_ | refine blk_alloc ?_ _)); refine blk_put (cs := #[.int .i64 t365, .int .i64 t366, .int .i64 t367, .int .i64 0]) ?_ 3 _ rfl; (with_reducible repeat (first | refine blk_drewN ?_ _ | refine blk_drew ?_ | refine blk_alloc ?_ _)); refine blk_put (cs := #[.int .i64 t365, .int .i64 t366, .int .i64 0, .int .i64 0]) ?_ 2 _ rfl; (with_reducible repeat (first | refine blk_drewN ?_ _ | refine blk_drew ?_ | refine blk_alloc ?_ _)); refine blk_put (cs := #[.int .i64 t365, .int .i64 0, .int .i64 0, .int .i64 0]) ?_ 1 _ rfl; (with_reducible repeat (first | refine blk_drewN ?_ _ | refine blk_drew ?_ | refine blk_alloc ?_ _)); refine blk_put (cs := #[.int .i64 0, .int .i64 0, .int .i64 0, .int .i64 0]) ?_ 0 _ rfl; (with_reducible repeat (first | refine blk_drewN ?_ _ | refine blk_drew ?_ | refine blk_alloc ?_ _)); exact BK364.out) Try.underlying25 rfl (by kernel_rfl)) rfl ?_
  exact ⟨by first | rfl | (simp [errW_none, errW_some] <;> rfl) | (simp [*, errW_none, errW_some] <;> rfl), by repeat (first | (with_reducible first | exact HB.out | apply below_alloc | apply pw_below_drewN | apply below_drew1 | refine below_set ?_ GE364.out) | exact HB.out)⟩
/-! ### span_Has: function 29 -/
def span_Has.f (k : Nat) (a0_0 : Int) (a0_1 : Int) (a0_2 : Int) (a0_3 : Int) (a1 : Int) : Option (Bool) := (span_Point.f k a1).bind fun bt370 => ((span_Holds.f k a0_0 a0_1 a0_2 a0_3 bt370.1 bt370.2.1 bt370.2.2.1 bt370.2.2.2).bind fun t374 => (some t374))
theorem span_Has.mono : ∀ a0 a1 a2 a3 a4 k, LeO (span_Has.f k a0 a1 a2 a3 a4) (span_Has.f (k + 1) a0 a1 a2 a3 a4) := by
  intro a0 a1 a2 a3 a4 k
  unfold span_Has.f
  repeat' first
      | (with_reducible exact span_Holds.mono _ _ _ _ _ _ _ _ _)
      | (with_reducible exact span_Point.mono _ _)
      | (with_reducible exact LeO.refl _)
      | (with_reducible exact LeO.none _)
      | (with_reducible refine LeO.ite ?_ ?_)
      | (with_reducible refine LeO.bind ?_ (fun _ => ?_))
      | exact span_Holds.mono _ _ _ _ _ _ _ _ _
      | exact span_Point.mono _ _
      | exact LeO.none _
      | refine LeO.ite ?_ ?_
      | refine LeO.bind ?_ (fun _ => ?_)
set_option maxHeartbeats 8000000 in
set_option maxRecDepth 100000 in
theorem span_Has.calls (k : Nat) (a0_0 : Int) (a0_1 : Int) (a0_2 : Int) (a0_3 : Int) (a1 : Int) (r : Bool) (w : World) (h : span_Has.f k a0_0 a0_1 a0_2 a0_3 a1 = some r) :
    Calls Try.prog 29 #[.agg #[.int .i64 a0_0, .int .i64 a0_1, .int .i64 a0_2, .int .i64 a0_3], .int .i64 a1] w fun e w' => e = .returned (.bool r) ∧ Below w.heap.size w w' := by
  have hu25 := Try.underlying25
  have HB := Aside0.mk (Below.refl w.heap.size w)
  have H : ((span_Point.f k a1).bind fun bt370 => ((span_Holds.f k a0_0 a0_1 a0_2 a0_3 bt370.1 bt370.2.1 bt370.2.2.1 bt370.2.2.2).bind fun t374 => (some t374))) = some r := h
  clear h
  replace H := Option.bind_eq_some_iff.mp H
  obtain ⟨⟨t370, t371, t372, t373⟩, A30, H⟩ := H
  replace H : ((span_Holds.f k a0_0 a0_1 a0_2 a0_3 t370 t371 t372 t373).bind fun t374 => (some t374)) = some r := H
  have A3 := Aside0.mk A30
  clear A30
  replace H := Option.bind_eq_some_iff.mp H
  obtain ⟨t374, A40, H⟩ := H
  replace H : (some t374) = some r := H
  have A4 := Aside0.mk A40
  clear A40
  obtain rfl := Option.some.inj H
  go_enter Try.func29, Try.ntmps29
  try go_wp2_with (first | ((with_reducible refine gate_dst (N := 2) rfl ?_); refine bxe (N := 2) (cs := #[.int .i64 a0_0, .int .i64 a0_1, .int .i64 a0_2, .int .i64 a0_3]) (t := 25) ?_; intro gb369 hg w5 hbox hb; have BK369 := Aside0.mk (hbox); have GW369 := lsz hg HB; have GE369 := lsz hg HB; replace HB := bst HB hb; clear hb hbox hg))
  replace BK369 := Aside0.mk (blk_drew BK369.out)
  replace HB := Aside0.mk (below_drew1 HB.out)
  refine start_ (n := 5) (S := fun w' => w'.cell? ⟨gb369, 0, none⟩ = some (.int .i64 a0_0) ∧ w'.cell? ⟨gb369, 1, none⟩ = some (.int .i64 a0_1) ∧ w'.cell? ⟨gb369, 2, none⟩ = some (.int .i64 a0_2) ∧ w'.cell? ⟨gb369, 3, none⟩ = some (.int .i64 a0_3)) (ds := []) #[false, false, false, false, false] (by kernel_rfl) rfl rfl (e4 BK369) (fun hHeld => ?_)
  generalize w5.drew = w6 at BK369 HB hHeld ⊢
  refine pu 1 (some 6) #[false, true, false, false, false] (by kernel_rfl) ?_
  refine tk4 0 (some 5) #[true, true, false, false, false] (by kernel_rfl) hHeld ?_
  refine one_ (i := 2) (N := some 7) #[true, true, true, false, false] rfl rfl (by kernel_rfl) (by decide) (fun K hK => ?_)
  refine goes_ Try.func34 (by kernel_rfl) rfl #[.int .i64 a1] (by rfl) rfl rfl (by (try simp only [List.map_toArray, List.map_cons, List.map_nil]); first | done | rfl | (simp only [List.length_drop, List.length_take]; rfl)) ?_
  with_reducible refine (span_Point.calls k a1 t370 t371 t372 t373 _ A3.out).mono ?_
  rintro e w7 ⟨rfl, hb⟩
  refine ⟨_, rfl, ?_⟩
  replace BK369 := bkb BK369 hb
  replace HB := bst HB hb
  (try clear hb)
  (try clear hb2)
  (try clear hk)
  (try clear hi)
  refine hK.out _ _ (e4 BK369) (fun hHeld => ?_)
  clear hK K
  refine nrp 7 ?_
  refine one_ (i := 3) (N := some 8) #[true, true, true, true, false] rfl rfl (by kernel_rfl) (by decide) (fun K hK => ?_)
  refine goes_ Try.func19 (by kernel_rfl) rfl #[.agg #[.int .i64 a0_0, .int .i64 a0_1, .int .i64 a0_2, .int .i64 a0_3], .agg #[.int .i64 t370, .int .i64 t371, .int .i64 t372, .int .i64 t373]] (by rfl) rfl rfl (by (try simp only [List.map_toArray, List.map_cons, List.map_nil]); first | done | rfl | (simp only [List.length_drop, List.length_take]; rfl)) ?_
  with_reducible refine (span_Holds.calls k a0_0 a0_1 a0_2 a0_3 t370 t371 t372 t373 t374 _ A4.out).mono ?_
  rintro e w8 ⟨rfl, hb⟩
  refine ⟨_, rfl, ?_⟩
  replace BK369 := bkb BK369 hb
  replace HB := bst HB hb
  (try clear hb)
  (try clear hb2)
  (try clear hk)
  (try clear hi)
  refine hK.out _ _ (e4 BK369) (fun hHeld => ?_)
  clear hK K
  refine nrp 8 ?_
  refine pu 4 (some 4) #[true, true, true, true, true] (by kernel_rfl) ?_
  refine done_ (by kernel_rfl) ?_
  try go_wp2
  go_ret
  exact ⟨by first | rfl | (simp [errW_none, errW_some] <;> rfl) | (simp [*, errW_none, errW_some] <;> rfl), by repeat (first | (with_reducible first | exact HB.out | apply below_alloc | apply pw_below_drewN | apply below_drew1 | refine below_set ?_ GE369.out) | exact HB.out)⟩
end Go.Proofs.Ytkkbmjfhpngalaa.Print
