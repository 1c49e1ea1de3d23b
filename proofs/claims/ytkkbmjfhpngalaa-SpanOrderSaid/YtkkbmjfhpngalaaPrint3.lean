-- Laid by wip/print/bprint.py of this repo, over the kit's printer, with functions given by hand; not trusted: Lean checks it.
import Derived.Test.YtkkbmjfhpngalaaPrint0
import Derived.Test.YtkkbmjfhpngalaaPrint1
import Derived.Test.YtkkbmjfhpngalaaSh
namespace Go.Proofs.Ytkkbmjfhpngalaa.Print
open Go.RowKit Go.Proofs.YtkkbmjfhpngalaaW.PrintWords Go.Proofs.YtkkbmjfhpngalaaW.PrintLast Go.Proofs.YtkkbmjfhpngalaaW.PrintMore
attribute [local go_sem] max2_int min2_int max_two min_two max_three min_three max_four min_four   -- for this text's walks alone
set_option linter.unusedVariables false
set_option linter.unusedSimpArgs false
/-! ### span_Hull: function 21 -/
def span_Hull.f (k : Nat) (a0_0 : Int) (a0_1 : Int) (a0_2 : Int) (a0_3 : Int) (a1_0 : Int) (a1_1 : Int) (a1_2 : Int) (a1_3 : Int) : Option (Int × Int × Int × Int) := (span_both.f k a0_0 a0_1 a0_2 a0_3 a1_0 a1_1 a1_2 a1_3).bind fun t378 => (if t378 = true then ((cut_Least.f k (([(⟨a0_0, a0_1⟩ : S23), (⟨a1_0, a1_1⟩ : S23)] : List (S23)))).bind fun bt382 => ((cut_Greatest.f k (([(⟨a0_2, a0_3⟩ : S23), (⟨a1_2, a1_3⟩ : S23)] : List (S23)))).bind fun bt387 => (some (bt382.1, bt382.2, bt387.1, bt387.2)))) else (some (0, 0, 0, 0)))
theorem span_Hull.mono : ∀ a0 a1 a2 a3 a4 a5 a6 a7 k, LeO (span_Hull.f k a0 a1 a2 a3 a4 a5 a6 a7) (span_Hull.f (k + 1) a0 a1 a2 a3 a4 a5 a6 a7) := by
  intro a0 a1 a2 a3 a4 a5 a6 a7 k
  unfold span_Hull.f
  repeat' first
      | (with_reducible exact cut_Greatest.mono _ _)
      | (with_reducible exact cut_Least.mono _ _)
      | (with_reducible exact span_both.mono _ _ _ _ _ _ _ _ _)
      | (with_reducible exact LeO.refl _)
      | (with_reducible exact LeO.none _)
      | (with_reducible refine LeO.ite ?_ ?_)
      | (with_reducible refine LeO.bind ?_ (fun _ => ?_))
      | exact cut_Greatest.mono _ _
      | exact cut_Least.mono _ _
      | exact span_both.mono _ _ _ _ _ _ _ _ _
      | exact LeO.none _
      | refine LeO.ite ?_ ?_
      | refine LeO.bind ?_ (fun _ => ?_)
def span_Hull.T3 : Bool × List (List Nat × List Nat) := (true, [([], []), ([0], [0]), ([], []), ([2], [2]), ([1, 3], [1, 3]), ([4], [4]), ([], []), ([6], [6]), ([], []), ([8], [8]), ([7, 9], [7, 9]), ([10, 5], [10]), ([5, 11], [5, 11]), ([12, 11, 0, 1, 2, 3, 4, 5, 6, 7, 8, 9, 10, 11, 12], [12])])
def span_Hull.B3 : List Nat := [0, 1, 0, 4, 15, 31, 0, 64, 0, 256, 960, 2047, 4095, 8191]
theorem span_Hull.tab3 : rtab .any (opsOf Try.f21 3) = span_Hull.T3 := by kernel_rfl
theorem span_Hull.bits3 : waitsOk span_Hull.T3.2 span_Hull.B3 = true := by kernel_rfl
set_option maxHeartbeats 8000000 in
set_option maxRecDepth 100000 in
theorem span_Hull.calls (k : Nat) (a0_0 : Int) (a0_1 : Int) (a0_2 : Int) (a0_3 : Int) (a1_0 : Int) (a1_1 : Int) (a1_2 : Int) (a1_3 : Int) (r1 : Int) (r2 : Int) (r3 : Int) (r4 : Int) (w : World) (h : span_Hull.f k a0_0 a0_1 a0_2 a0_3 a1_0 a1_1 a1_2 a1_3 = some (r1, r2, r3, r4)) :
    Calls Try.prog 21 #[.agg #[.int .i64 a0_0, .int .i64 a0_1, .int .i64 a0_2, .int .i64 a0_3], .agg #[.int .i64 a1_0, .int .i64 a1_1, .int .i64 a1_2, .int .i64 a1_3]] w fun e w' => e = .returned (.agg #[.int .i64 r1, .int .i64 r2, .int .i64 r3, .int .i64 r4]) ∧ Below w.heap.size w w' := by
  have hu25 := Try.underlying25
  have hu23 := Try.underlying23
  have HB := Aside0.mk (Below.refl w.heap.size w)
  have H : ((span_both.f k a0_0 a0_1 a0_2 a0_3 a1_0 a1_1 a1_2 a1_3).bind fun t378 => (if t378 = true then ((cut_Least.f k (([(⟨a0_0, a0_1⟩ : S23), (⟨a1_0, a1_1⟩ : S23)] : List (S23)))).bind fun bt382 => ((cut_Greatest.f k (([(⟨a0_2, a0_3⟩ : S23), (⟨a1_2, a1_3⟩ : S23)] : List (S23)))).bind fun bt387 => (some (bt382.1, bt382.2, bt387.1, bt387.2)))) else (some (0, 0, 0, 0)))) = some (r1, r2, r3, r4) := h
  clear h
  replace H := Option.bind_eq_some_iff.mp H
  obtain ⟨t378, A30, H⟩ := H
  replace H : (if t378 = true then ((cut_Least.f k (([(⟨a0_0, a0_1⟩ : S23), (⟨a1_0, a1_1⟩ : S23)] : List (S23)))).bind fun bt382 => ((cut_Greatest.f k (([(⟨a0_2, a0_3⟩ : S23), (⟨a1_2, a1_3⟩ : S23)] : List (S23)))).bind fun bt387 => (some (bt382.1, bt382.2, bt387.1, bt387.2)))) else (some (0, 0, 0, 0))) = some (r1, r2, r3, r4) := H
  have A3 := Aside0.mk A30
  clear A30
  by_cases c4 : t378 = true
  · subst c4
    have H1 : ((cut_Least.f k (([(⟨a0_0, a0_1⟩ : S23), (⟨a1_0, a1_1⟩ : S23)] : List (S23)))).bind fun bt382 => ((cut_Greatest.f k (([(⟨a0_2, a0_3⟩ : S23), (⟨a1_2, a1_3⟩ : S23)] : List (S23)))).bind fun bt387 => (some (bt382.1, bt382.2, bt387.1, bt387.2)))) = some (r1, r2, r3, r4) := by rw [if_pos rfl] at H; exact H
    clear H
    have H := H1
    clear H1
    obtain ⟨y379, hy379⟩ : ∃ y_ : List (S23), y_ = (([(⟨a0_0, a0_1⟩ : S23), (⟨a1_0, a1_1⟩ : S23)] : List (S23))) := ⟨_, rfl⟩
    replace H : ((cut_Least.f k y379).bind fun bt382 => ((cut_Greatest.f k (([(⟨a0_2, a0_3⟩ : S23), (⟨a1_2, a1_3⟩ : S23)] : List (S23)))).bind fun bt387 => (some (bt382.1, bt382.2, bt387.1, bt387.2)))) = some (r1, r2, r3, r4) := by first | (rw [hy379]; with_reducible exact H) | (have H2_ := (Option.bind_some _ _).symm.trans H; rw [hy379]; with_reducible exact H2_) | (have H2_ := (Option.bind_some _ _).symm.trans H; with_reducible exact H2_) | with_reducible exact H | (rw [hy379]; exact H) | exact H
    have Ny379 := Aside0.mk hy379
    clear hy379
    replace H := Option.bind_eq_some_iff.mp H
    obtain ⟨⟨t382, t383⟩, A50, H⟩ := H
    replace H : ((cut_Greatest.f k (([(⟨a0_2, a0_3⟩ : S23), (⟨a1_2, a1_3⟩ : S23)] : List (S23)))).bind fun bt387 => (some (t382, t383, bt387.1, bt387.2))) = some (r1, r2, r3, r4) := H
    have A5 := Aside0.mk A50
    clear A50
    obtain ⟨y384, hy384⟩ : ∃ y_ : List (S23), y_ = (([(⟨a0_2, a0_3⟩ : S23), (⟨a1_2, a1_3⟩ : S23)] : List (S23))) := ⟨_, rfl⟩
    replace H : ((cut_Greatest.f k y384).bind fun bt387 => (some (t382, t383, bt387.1, bt387.2))) = some (r1, r2, r3, r4) := by first | (rw [hy384]; with_reducible exact H) | (have H2_ := (Option.bind_some _ _).symm.trans H; rw [hy384]; with_reducible exact H2_) | (have H2_ := (Option.bind_some _ _).symm.trans H; with_reducible exact H2_) | with_reducible exact H | (rw [hy384]; exact H) | exact H
    have Ny384 := Aside0.mk hy384
    clear hy384
    replace H := Option.bind_eq_some_iff.mp H
    obtain ⟨⟨t387, t388⟩, A60, H⟩ := H
    replace H : (some (t382, t383, t387, t388)) = some (r1, r2, r3, r4) := H
    have A6 := Aside0.mk A60
    clear A60
    simp only [Option.some.injEq, Prod.mk.injEq] at H
    obtain ⟨rfl, rfl, rfl, rfl⟩ := H
    go_enter Try.func21, Try.ntmps21
    try go_wp2_with (first | ((with_reducible refine gate_dst (N := 2) rfl ?_); refine bxe (N := 2) (cs := #[.int .i64 a0_0, .int .i64 a0_1, .int .i64 a0_2, .int .i64 a0_3]) (t := 25) ?_; intro gb375 hg w7 hbox hb; have BK375 := Aside0.mk (hbox); have GW375 := lsz hg HB; have GE375 := lsz hg HB; replace HB := bst HB hb; clear hb hbox hg) | ((with_reducible refine gate_dst (N := 3) rfl ?_); refine bxe (N := 3) (cs := #[.int .i64 a1_0, .int .i64 a1_1, .int .i64 a1_2, .int .i64 a1_3]) (t := 25) ?_; intro gb376 hg w8 hbox hb; have BK376 := Aside0.mk (hbox); have GW376 := lsz hg HB; have GE376 := lsz hg HB; replace HB := bst HB hb; have NB375_376 := nlt hg BK375; have NB376_375 := ngt hg BK375; replace BK375 := bkb BK375 hb; clear hb hbox hg) | ((with_reducible refine gate_dst (N := 4) rfl ?_); refine bxe (N := 4) (cs := #[.int .i64 0, .int .i64 0, .int .i64 0, .int .i64 0]) (t := 25) ?_; intro gb377 hg w9 hbox hb; have BK377 := Aside0.mk (hbox); have GW377 := lsz hg HB; have GE377 := lsz hg HB; replace HB := bst HB hb; have NB375_377 := nlt hg BK375; have NB377_375 := ngt hg BK375; replace BK375 := bkb BK375 hb; have NB376_377 := nlt hg BK376; have NB377_376 := ngt hg BK376; replace BK376 := bkb BK376 hb; clear hb hbox hg; have hnb10 := NB375_376.out; have hnc10 := NB376_375.out; have hnb11 := NB375_377.out; have hnc11 := NB377_375.out; have hcz12_0 : w9.cell? ⟨gb375, 0, none⟩ = some (.int .i64 a0_0) := (blk_cell BK375.out 0).trans rfl; have hcz12_1 : w9.cell? ⟨gb375, 1, none⟩ = some (.int .i64 a0_1) := (blk_cell BK375.out 1).trans rfl; have hcz12_2 : w9.cell? ⟨gb375, 2, none⟩ = some (.int .i64 a0_2) := (blk_cell BK375.out 2).trans rfl; have hcz12_3 : w9.cell? ⟨gb375, 3, none⟩ = some (.int .i64 a0_3) := (blk_cell BK375.out 3).trans rfl; have hfz12_0 := blk_frozen BK375.out 0; have hfz12_1 := blk_frozen BK375.out 1; have hfz12_2 := blk_frozen BK375.out 2; have hfz12_3 := blk_frozen BK375.out 3; have hnb13 := NB376_377.out; have hnc13 := NB377_376.out; have hcz14_0 : w9.cell? ⟨gb376, 0, none⟩ = some (.int .i64 a1_0) := (blk_cell BK376.out 0).trans rfl; have hcz14_1 : w9.cell? ⟨gb376, 1, none⟩ = some (.int .i64 a1_1) := (blk_cell BK376.out 1).trans rfl; have hcz14_2 : w9.cell? ⟨gb376, 2, none⟩ = some (.int .i64 a1_2) := (blk_cell BK376.out 2).trans rfl; have hcz14_3 : w9.cell? ⟨gb376, 3, none⟩ = some (.int .i64 a1_3) := (blk_cell BK376.out 3).trans rfl; have hfz14_0 := blk_frozen BK376.out 0; have hfz14_1 := blk_frozen BK376.out 1; have hfz14_2 := blk_frozen BK376.out 2; have hfz14_3 := blk_frozen BK376.out 3) | ((with_reducible refine gate_callee (f := 45) rfl ?_); refine gol (some 7) Try.func45 #[.agg #[.int .i64 a0_0, .int .i64 a0_1, .int .i64 a0_2, .int .i64 a0_3], .agg #[.int .i64 a1_0, .int .i64 a1_1, .int .i64 a1_2, .int .i64 a1_3]] ?_; (with_reducible refine (span_both.calls k a0_0 a0_1 a0_2 a0_3 a1_0 a1_1 a1_2 a1_3 true _ A3.out).mono ?_); rintro e w15 ⟨rfl, hb⟩; refine ⟨_, rfl, ?_⟩; replace BK375 := bkb BK375 hb; replace BK376 := bkb BK376 hb; replace BK377 := bkb BK377 hb; replace HB := bst HB hb; (try clear hb); (try clear hb2); (try clear hk); (try clear hi)))
    replace BK375 := Aside0.mk (blk_drew BK375.out)
    replace BK376 := Aside0.mk (blk_drew BK376.out)
    replace BK377 := Aside0.mk (blk_drew BK377.out)
    replace HB := Aside0.mk (below_drew1 HB.out)
    refine start_ (n := 14) (S := fun w' => True) (ds := []) #[false, false, false, false, false, false, false, false, false, false, false, false, false, false] (by kernel_rfl) rfl rfl trivial (fun hHeld => ?_); refine with_tabW span_Hull.tab3 span_Hull.bits3 (fun HT_ HW_ => ?_)
    generalize w15.drew = w16 at BK375 BK376 BK377 HB hHeld ⊢
    refine pu 0 (some 10) #[true, false, false, false, false, false, false, false, false, false, false, false, false, false] (any_of HT_.out (by kernel_rfl)) ?_
    refine pu 2 (some 12) #[true, false, true, false, false, false, false, false, false, false, false, false, false, false] (any_of HT_.out (by kernel_rfl)) ?_
    refine pu 6 (some 16) #[true, false, true, false, false, false, true, false, false, false, false, false, false, false] (any_of HT_.out (by kernel_rfl)) ?_
    refine pu 8 (some 18) #[true, false, true, false, false, false, true, false, true, false, false, false, false, false] (any_of HT_.out (by kernel_rfl)) ?_
    refine inv_at [1, 3, 4, 5, 7, 9, 10, 11, 12, 13] (fun a0_ b a w' => ∃ (v380 : Value) (v385 : Value), a = putSel a0_ b [(1, 11, .agg #[.int .i64 a0_0, .int .i64 a0_1]), (3, 13, .agg #[.int .i64 a1_0, .int .i64 a1_1]), (4, 14, v380), (5, 15, .agg #[.int .i64 t382, .int .i64 t383]), (7, 17, .agg #[.int .i64 a0_2, .int .i64 a0_3]), (9, 19, .agg #[.int .i64 a1_2, .int .i64 a1_3]), (10, 20, v385), (11, 21, .agg #[.int .i64 t387, .int .i64 t388]), (12, 22, .agg #[.int .i64 t382, .int .i64 t383, .int .i64 t387, .int .i64 t388])] ∧ (w'.heap[gb375]? = some (.cells #[.int .i64 a0_0, .int .i64 a0_1, .int .i64 a0_2, .int .i64 a0_3] 25 (0, 0))) ∧ (w'.heap[gb376]? = some (.cells #[.int .i64 a1_0, .int .i64 a1_1, .int .i64 a1_2, .int .i64 a1_3] 25 (0, 0))) ∧ (b 13 = false → w'.heap[gb377]? = some (.cells #[.int .i64 0, .int .i64 0, .int .i64 0, .int .i64 0] 25 (0, 0))) ∧ (Below w.heap.size w w') ∧ (b 4 = true → Kd.R k23 23 w' w.heap.size (fun _ => True) v380 y379) ∧ (b 10 = true → Kd.R k23 23 w' w.heap.size (fun _ => True) v385 y384) ∧ (b 13 = true → w'.heap[gb377]? = some (.cells #[.int .i64 t382, .int .i64 t383, .int .i64 t387, .int .i64 t388] 25 (0, 0)))) HT_.out HW_.out (by kernel_rfl) (by kernel_rfl) ?_ ?_ ?_
    · exact ⟨.bool false, .bool false, by simp only [putSel, Bool.false_eq_true, if_false], BK375.out, BK376.out, fun _ => BK377.out, HB.out, fun h_ => absurd h_ (by decide), fun h_ => absurd h_ (by decide), fun h_ => absurd h_ (by decide)⟩
    · skip
      clear BK375 BK376 BK377 HB
      refine steps_cons ?_ ?_
      · rintro b a w' ⟨v380, v385, ha, Q_BK375, Q_BK376, Q_BK377, Q_HB, Q_HO381, Q_HO386, Q_BK377_e13⟩ hb_ hon hoff
        refine ⟨_, rfl, fun K hK => ?_⟩
        have e10 : a.tmps[10]? = some (.pointer (some ⟨gb375, 0, none⟩)) := by rw [ha]; exact (putSel_off rfl).trans rfl
        replace ha := Aside0.mk ha
        have BK375 := Aside0.mk Q_BK375
        have BK376 := Aside0.mk Q_BK376
        have BK377 := Aside0.mk (Q_BK377 (hoff 13 (by kernel_rfl)))
        have HB := Aside0.mk Q_HB
        have hc0_ : w'.cell? ⟨gb375, 0, none⟩ = some (.int .i64 a0_0) := (blk_cell BK375.out 0).trans rfl
        have hc1_ : w'.cell? ⟨gb375, 1, none⟩ = some (.int .i64 a0_1) := (blk_cell BK375.out 1).trans rfl
        have hc2_ : w'.cell? ⟨gb375, 2, none⟩ = some (.int .i64 a0_2) := (blk_cell BK375.out 2).trans rfl
        have hc3_ : w'.cell? ⟨gb375, 3, none⟩ = some (.int .i64 a0_3) := (blk_cell BK375.out 3).trans rfl
        refine value_ (w1 := w') (v := .agg #[.int .i64 a0_0, .int .i64 a0_1]) (by rfl) rfl ?_ ?_
        · go_simp
          (try simp only [i64_w])
          try rfl
        refine hK.out _ _ ⟨v380, v385, (by rw [ha.out]; exact putSel_upk 0 hb_ rfl rfl rfl), Q_BK375, Q_BK376, Q_BK377, Q_HB, fun h0_ => absurd ((hoff 4 (by kernel_rfl)).symm.trans h0_) (by decide), Q_HO386, fun h0_ => absurd ((hoff 13 (by kernel_rfl)).symm.trans h0_) (by decide)⟩
      refine steps_cons ?_ ?_
      · rintro b a w' ⟨v380, v385, ha, Q_BK375, Q_BK376, Q_BK377, Q_HB, Q_HO381, Q_HO386, Q_BK377_e13⟩ hb_ hon hoff
        refine ⟨_, rfl, fun K hK => ?_⟩
        have e12 : a.tmps[12]? = some (.pointer (some ⟨gb376, 0, none⟩)) := by rw [ha]; exact (putSel_off rfl).trans rfl
        replace ha := Aside0.mk ha
        have BK375 := Aside0.mk Q_BK375
        have BK376 := Aside0.mk Q_BK376
        have BK377 := Aside0.mk (Q_BK377 (hoff 13 (by kernel_rfl)))
        have HB := Aside0.mk Q_HB
        have hc0_ : w'.cell? ⟨gb376, 0, none⟩ = some (.int .i64 a1_0) := (blk_cell BK376.out 0).trans rfl
        have hc1_ : w'.cell? ⟨gb376, 1, none⟩ = some (.int .i64 a1_1) := (blk_cell BK376.out 1).trans rfl
        have hc2_ : w'.cell? ⟨gb376, 2, none⟩ = some (.int .i64 a1_2) := (blk_cell BK376.out 2).trans rfl
        have hc3_ : w'.cell? ⟨gb376, 3, none⟩ = some (.int .i64 a1_3) := (blk_cell BK376.out 3).trans rfl
        refine value_ (w1 := w') (v := .agg #[.int .i64 a1_0, .int .i64 a1_1]) (by rfl) rfl ?_ ?_
        · go_simp
          (try simp only [i64_w])
          try rfl
        refine hK.out _ _ ⟨v380, v385, (by rw [ha.out]; exact putSel_upk 1 hb_ rfl rfl rfl), Q_BK375, Q_BK376, Q_BK377, Q_HB, fun h0_ => absurd ((hoff 4 (by kernel_rfl)).symm.trans h0_) (by decide), Q_HO386, fun h0_ => absurd ((hoff 13 (by kernel_rfl)).symm.trans h0_) (by decide)⟩
      refine steps_cons ?_ ?_
      · rintro b a w' ⟨v380, v385, ha, Q_BK375, Q_BK376, Q_BK377, Q_HB, Q_HO381, Q_HO386, Q_BK377_e13⟩ hb_ hon hoff
        refine ⟨_, rfl, fun K hK => ?_⟩
        have e11 : a.tmps[11]? = some (.agg #[.int .i64 a0_0, .int .i64 a0_1]) := by rw [ha]; exact putSel_on (e := (1, 11, .agg #[.int .i64 a0_0, .int .i64 a0_1])) 0 rfl rfl (hon 1 (by kernel_rfl)) rfl
        have e13 : a.tmps[13]? = some (.agg #[.int .i64 a1_0, .int .i64 a1_1]) := by rw [ha]; exact putSel_on (e := (3, 13, .agg #[.int .i64 a1_0, .int .i64 a1_1])) 1 rfl rfl (hon 3 (by kernel_rfl)) rfl
        replace ha := Aside0.mk ha
        have BK375 := Aside0.mk Q_BK375
        have BK376 := Aside0.mk Q_BK376
        have BK377 := Aside0.mk (Q_BK377 (hoff 13 (by kernel_rfl)))
        have HB := Aside0.mk Q_HB
        refine Kd.R_lit_step k23 _ 23 ?hg (N := 14) ?hd (xs := ([(⟨a0_0, a0_1⟩ : S23), (⟨a1_0, a1_1⟩ : S23)] : List (S23))) (inner := [.int .i64 a0_0, .int .i64 a0_1, .int .i64 a1_0, .int .i64 a1_1]) (ok := fun _ => True) (okp := fun _ => True) ?hr ?hp (fun _ hk => hk) trivial (Below.refl _ _) (Nat.le_refl _) (by simp) ?_; (case hd => rfl); (case hg => rfl); (case hr => first | (go_simp; done) | (go_simp; rfl)); (case hp => exact (Reps.c2 (show Kd.M k23 _ _ _ (⟨a0_0, a0_1⟩ : S23) [.int .i64 a0_0, .int .i64 a0_1] from (k23_mkM _ _ _ (⟨a0_0, a0_1⟩ : S23) )) (Reps.c2 (show Kd.M k23 _ _ _ (⟨a1_0, a1_1⟩ : S23) [.int .i64 a1_0, .int .i64 a1_1] from (k23_mkM _ _ _ (⟨a1_0, a1_1⟩ : S23) )) (Reps.none _ _))))
        intro v380 w17 ho18 hb hg_ hnew_
        clear hg_ hnew_
        (first | rw [← Ny379.out] at ho18 | (simp only [Int.reduceToNat] at ho18; rw [← Ny379.out] at ho18))
        have n0_ := Aside0.mk (Kd.R_lower ho18 (below_size (bl HB)))
        have n1_ := bkb BK375 hb
        have n2_ := bkb BK376 hb
        have n3_ := bkb BK377 hb
        have n4_ := bst HB hb
        have z_HO386 := fun (h0_ : b 10 = true) => (show Kd.R k23 23 w17 w.heap.size (fun _ => True) v385 y384 from by first | exact (Kd.R_elder' (by (with_reducible repeat (first | apply Kd.R_alloc | apply Kd.R_drewN | apply Kd.R_drew)); exact (Q_HO386 h0_)) (Kd.R_base ho18) hb) | exact Kd.R_mono (Kd.R_elder' (by (with_reducible repeat (first | apply Kd.R_alloc | apply Kd.R_drewN | apply Kd.R_drew)); exact (Q_HO386 h0_)) (Kd.R_base ho18) hb) (fun _ h_ => by first | trivial | exact h_ | exact h_.1))
        clear BK375
        clear BK376
        clear BK377
        clear HB
        have HO381 := n0_
        have BK375 := n1_
        have BK376 := n2_
        have BK377 := n3_
        have HB := n4_
        clear n0_ n1_ n2_ n3_ n4_
        clear hb ho18
        refine hK.out _ _ ⟨v380, v385, (by rw [ha.out]; exact putSel_upk 2 hb_ rfl rfl rfl), (bk BK375), (bk BK376), fun _ => (bk BK377), (bl HB), fun _ => (kr HO381), z_HO386, fun h0_ => absurd ((hoff 13 (by kernel_rfl)).symm.trans h0_) (by decide)⟩
      refine steps_cons ?_ ?_
      · rintro b a w' ⟨v380, v385, ha, Q_BK375, Q_BK376, Q_BK377, Q_HB, Q_HO381, Q_HO386, Q_BK377_e13⟩ hb_ hon hoff
        refine ⟨_, rfl, fun K hK => ?_⟩
        have e14 : a.tmps[14]? = some (v380) := by rw [ha]; exact putSel_on (e := (4, 14, v380)) 2 rfl rfl (hon 4 (by kernel_rfl)) rfl
        replace ha := Aside0.mk ha
        have BK375 := Aside0.mk Q_BK375
        have BK376 := Aside0.mk Q_BK376
        have BK377 := Aside0.mk (Q_BK377 (hoff 13 (by kernel_rfl)))
        have HB := Aside0.mk Q_HB
        have HO381 := Aside0.mk (Q_HO381 (hon 4 (by kernel_rfl)))
        obtain ⟨Ao20, co20, eo20⟩ := Kd.R_slice HO381.out
        (first | subst eo20 | (injection eo20 with f1_ f2_ f3_; have f4_ := f1_.symm; have f5_ := f3_.symm; clear f1_ f2_ f3_; subst f4_; subst f5_))
        refine goes_ Try.func47 (by kernel_rfl) rfl #[.slice Ao20 y379.length co20] (by rfl) rfl rfl (by first | (simp only [List.map_toArray, List.map_cons, List.map_nil, Act.eval, Array.getD_eq_getD_getElem?, Option.getD_some, e14]; done) | (simp only [List.map_toArray, List.map_cons, List.map_nil, Act.eval, Array.getD_eq_getD_getElem?, Option.getD_some, e14]; rfl)) ?_
        with_reducible refine (cut_Least.calls k _ _ y379 t382 t383 _ ?side1 ?side2 A5.out).mono ?_
        (case side1 => repeat (first | exact (Kd.R_reads' HO381.out).2.2 | (with_reducible refine Kd.C_alloc ?_ _) | (with_reducible refine Kd.C_drewN ?_ _) | (with_reducible refine Kd.C_drew ?_)))
        (case side2 => exact (Kd.R_reads' HO381.out).2.1)
        rintro e w21 ⟨rfl, hb⟩
        refine ⟨_, rfl, ?_⟩
        have n0_ := krb HO381 hb
        have n1_ := bkb BK375 hb
        have n2_ := bkb BK376 hb
        have n3_ := bkb BK377 hb
        have n4_ := bst HB hb
        have z_HO386 := fun (h0_ : b 10 = true) => (show Kd.R k23 23 w21 w.heap.size (fun _ => True) v385 y384 from by first | exact (Kd.R_below (by (with_reducible repeat (first | apply Kd.R_alloc | apply Kd.R_drewN | apply Kd.R_drew)); exact (Q_HO386 h0_)) hb) | exact Kd.R_mono (Kd.R_below (by (with_reducible repeat (first | apply Kd.R_alloc | apply Kd.R_drewN | apply Kd.R_drew)); exact (Q_HO386 h0_)) hb) (fun _ h_ => by first | trivial | exact h_ | exact h_.1))
        clear HO381
        clear BK375
        clear BK376
        clear BK377
        clear HB
        have HO381 := n0_
        have BK375 := n1_
        have BK376 := n2_
        have BK377 := n3_
        have HB := n4_
        clear n0_ n1_ n2_ n3_ n4_
        (try clear hb)
        (try clear hb2)
        (try clear hk)
        (try clear hi)
        refine hK.out _ _ ⟨.slice Ao20 y379.length co20, v385, (by rw [ha.out]; exact putSel_upk 3 hb_ rfl rfl rfl), (bk BK375), (bk BK376), fun _ => (bk BK377), (bl HB), fun _ => (kr HO381), z_HO386, fun h0_ => absurd ((hoff 13 (by kernel_rfl)).symm.trans h0_) (by decide)⟩
      refine steps_cons ?_ ?_
      · rintro b a w' ⟨v380, v385, ha, Q_BK375, Q_BK376, Q_BK377, Q_HB, Q_HO381, Q_HO386, Q_BK377_e13⟩ hb_ hon hoff
        refine ⟨_, rfl, fun K hK => ?_⟩
        have e16 : a.tmps[16]? = some (.pointer (some ⟨gb375, 2, none⟩)) := by rw [ha]; exact (putSel_off rfl).trans rfl
        replace ha := Aside0.mk ha
        have BK375 := Aside0.mk Q_BK375
        have BK376 := Aside0.mk Q_BK376
        have BK377 := Aside0.mk (Q_BK377 (hoff 13 (by kernel_rfl)))
        have HB := Aside0.mk Q_HB
        have hc0_ : w'.cell? ⟨gb375, 0, none⟩ = some (.int .i64 a0_0) := (blk_cell BK375.out 0).trans rfl
        have hc1_ : w'.cell? ⟨gb375, 1, none⟩ = some (.int .i64 a0_1) := (blk_cell BK375.out 1).trans rfl
        have hc2_ : w'.cell? ⟨gb375, 2, none⟩ = some (.int .i64 a0_2) := (blk_cell BK375.out 2).trans rfl
        have hc3_ : w'.cell? ⟨gb375, 3, none⟩ = some (.int .i64 a0_3) := (blk_cell BK375.out 3).trans rfl
        refine value_ (w1 := w') (v := .agg #[.int .i64 a0_2, .int .i64 a0_3]) (by rfl) rfl ?_ ?_
        · go_simp
          (try simp only [i64_w])
          try rfl
        refine hK.out _ _ ⟨v380, v385, (by rw [ha.out]; exact putSel_upk 4 hb_ rfl rfl rfl), Q_BK375, Q_BK376, Q_BK377, Q_HB, Q_HO381, fun h0_ => absurd ((hoff 10 (by kernel_rfl)).symm.trans h0_) (by decide), fun h0_ => absurd ((hoff 13 (by kernel_rfl)).symm.trans h0_) (by decide)⟩
      refine steps_cons ?_ ?_
      · rintro b a w' ⟨v380, v385, ha, Q_BK375, Q_BK376, Q_BK377, Q_HB, Q_HO381, Q_HO386, Q_BK377_e13⟩ hb_ hon hoff
        refine ⟨_, rfl, fun K hK => ?_⟩
        have e18 : a.tmps[18]? = some (.pointer (some ⟨gb376, 2, none⟩)) := by rw [ha]; exact (putSel_off rfl).trans rfl
        replace ha := Aside0.mk ha
        have BK375 := Aside0.mk Q_BK375
        have BK376 := Aside0.mk Q_BK376
        have BK377 := Aside0.mk (Q_BK377 (hoff 13 (by kernel_rfl)))
        have HB := Aside0.mk Q_HB
        have hc0_ : w'.cell? ⟨gb376, 0, none⟩ = some (.int .i64 a1_0) := (blk_cell BK376.out 0).trans rfl
        have hc1_ : w'.cell? ⟨gb376, 1, none⟩ = some (.int .i64 a1_1) := (blk_cell BK376.out 1).trans rfl
        have hc2_ : w'.cell? ⟨gb376, 2, none⟩ = some (.int .i64 a1_2) := (blk_cell BK376.out 2).trans rfl
        have hc3_ : w'.cell? ⟨gb376, 3, none⟩ = some (.int .i64 a1_3) := (blk_cell BK376.out 3).trans rfl
        refine value_ (w1 := w') (v := .agg #[.int .i64 a1_2, .int .i64 a1_3]) (by rfl) rfl ?_ ?_
        · go_simp
          (try simp only [i64_w])
          try rfl
        refine hK.out _ _ ⟨v380, v385, (by rw [ha.out]; exact putSel_upk 5 hb_ rfl rfl rfl), Q_BK375, Q_BK376, Q_BK377, Q_HB, Q_HO381, fun h0_ => absurd ((hoff 10 (by kernel_rfl)).symm.trans h0_) (by decide), fun h0_ => absurd ((hoff 13 (by kernel_rfl)).symm.trans h0_) (by decide)⟩
      refine steps_cons ?_ ?_
      · rintro b a w' ⟨v380, v385, ha, Q_BK375, Q_BK376, Q_BK377, Q_HB, Q_HO381, Q_HO386, Q_BK377_e13⟩ hb_ hon hoff
        refine ⟨_, rfl, fun K hK => ?_⟩
        have e17 : a.tmps[17]? = some (.agg #[.int .i64 a0_2, .int .i64 a0_3]) := by rw [ha]; exact putSel_on (e := (7, 17, .agg #[.int .i64 a0_2, .int .i64 a0_3])) 4 rfl rfl (hon 7 (by kernel_rfl)) rfl
        have e19 : a.tmps[19]? = some (.agg #[.int .i64 a1_2, .int .i64 a1_3]) := by rw [ha]; exact putSel_on (e := (9, 19, .agg #[.int .i64 a1_2, .int .i64 a1_3])) 5 rfl rfl (hon 9 (by kernel_rfl)) rfl
        replace ha := Aside0.mk ha
        have BK375 := Aside0.mk Q_BK375
        have BK376 := Aside0.mk Q_BK376
        have BK377 := Aside0.mk (Q_BK377 (hoff 13 (by kernel_rfl)))
        have HB := Aside0.mk Q_HB
        refine Kd.R_lit_step k23 _ 23 ?hg (N := 20) ?hd (xs := ([(⟨a0_2, a0_3⟩ : S23), (⟨a1_2, a1_3⟩ : S23)] : List (S23))) (inner := [.int .i64 a0_2, .int .i64 a0_3, .int .i64 a1_2, .int .i64 a1_3]) (ok := fun _ => True) (okp := fun _ => True) ?hr ?hp (fun _ hk => hk) trivial (Below.refl _ _) (Nat.le_refl _) (by simp) ?_; (case hd => rfl); (case hg => rfl); (case hr => first | (go_simp; done) | (go_simp; rfl)); (case hp => exact (Reps.c2 (show Kd.M k23 _ _ _ (⟨a0_2, a0_3⟩ : S23) [.int .i64 a0_2, .int .i64 a0_3] from (k23_mkM _ _ _ (⟨a0_2, a0_3⟩ : S23) )) (Reps.c2 (show Kd.M k23 _ _ _ (⟨a1_2, a1_3⟩ : S23) [.int .i64 a1_2, .int .i64 a1_3] from (k23_mkM _ _ _ (⟨a1_2, a1_3⟩ : S23) )) (Reps.none _ _))))
        intro v385 w17 ho18 hb hg_ hnew_
        clear hg_ hnew_
        (first | rw [← Ny384.out] at ho18 | (simp only [Int.reduceToNat] at ho18; rw [← Ny384.out] at ho18))
        have n0_ := Aside0.mk (Kd.R_lower ho18 (below_size (bl HB)))
        have n1_ := bkb BK375 hb
        have n2_ := bkb BK376 hb
        have n3_ := bkb BK377 hb
        have n4_ := bst HB hb
        have z_HO381 := fun (h0_ : b 4 = true) => (show Kd.R k23 23 w17 w.heap.size (fun _ => True) v380 y379 from by first | exact (Kd.R_elder' (by (with_reducible repeat (first | apply Kd.R_alloc | apply Kd.R_drewN | apply Kd.R_drew)); exact (Q_HO381 h0_)) (Kd.R_base ho18) hb) | exact Kd.R_mono (Kd.R_elder' (by (with_reducible repeat (first | apply Kd.R_alloc | apply Kd.R_drewN | apply Kd.R_drew)); exact (Q_HO381 h0_)) (Kd.R_base ho18) hb) (fun _ h_ => by first | trivial | exact h_ | exact h_.1))
        clear BK375
        clear BK376
        clear BK377
        clear HB
        have HO386 := n0_
        have BK375 := n1_
        have BK376 := n2_
        have BK377 := n3_
        have HB := n4_
        clear n0_ n1_ n2_ n3_ n4_
        clear hb ho18
        refine hK.out _ _ ⟨v380, v385, (by rw [ha.out]; exact putSel_upk 6 hb_ rfl rfl rfl), (bk BK375), (bk BK376), fun _ => (bk BK377), (bl HB), z_HO381, fun _ => (kr HO386), fun h0_ => absurd ((hoff 13 (by kernel_rfl)).symm.trans h0_) (by decide)⟩
      refine steps_cons ?_ ?_
      · rintro b a w' ⟨v380, v385, ha, Q_BK375, Q_BK376, Q_BK377, Q_HB, Q_HO381, Q_HO386, Q_BK377_e13⟩ hb_ hon hoff
        refine ⟨_, rfl, fun K hK => ?_⟩
        have e20 : a.tmps[20]? = some (v385) := by rw [ha]; exact putSel_on (e := (10, 20, v385)) 6 rfl rfl (hon 10 (by kernel_rfl)) rfl
        replace ha := Aside0.mk ha
        have BK375 := Aside0.mk Q_BK375
        have BK376 := Aside0.mk Q_BK376
        have BK377 := Aside0.mk (Q_BK377 (hoff 13 (by kernel_rfl)))
        have HB := Aside0.mk Q_HB
        have HO381 := Aside0.mk (Q_HO381 (hon 4 (by kernel_rfl)))
        have HO386 := Aside0.mk (Q_HO386 (hon 10 (by kernel_rfl)))
        obtain ⟨Ao24, co24, eo24⟩ := Kd.R_slice HO386.out
        (first | subst eo24 | (injection eo24 with f1_ f2_ f3_; have f4_ := f1_.symm; have f5_ := f3_.symm; clear f1_ f2_ f3_; subst f4_; subst f5_))
        refine goes_ Try.func46 (by kernel_rfl) rfl #[.slice Ao24 y384.length co24] (by rfl) rfl rfl (by first | (simp only [List.map_toArray, List.map_cons, List.map_nil, Act.eval, Array.getD_eq_getD_getElem?, Option.getD_some, e20]; done) | (simp only [List.map_toArray, List.map_cons, List.map_nil, Act.eval, Array.getD_eq_getD_getElem?, Option.getD_some, e20]; rfl)) ?_
        with_reducible refine (cut_Greatest.calls k _ _ y384 t387 t388 _ ?side1 ?side2 A6.out).mono ?_
        (case side1 => repeat (first | exact (Kd.R_reads' HO386.out).2.2 | (with_reducible refine Kd.C_alloc ?_ _) | (with_reducible refine Kd.C_drewN ?_ _) | (with_reducible refine Kd.C_drew ?_)))
        (case side2 => exact (Kd.R_reads' HO386.out).2.1)
        rintro e w25 ⟨rfl, hb⟩
        refine ⟨_, rfl, ?_⟩
        replace HO381 := krb HO381 hb
        replace HO386 := krb HO386 hb
        replace BK375 := bkb BK375 hb
        replace BK376 := bkb BK376 hb
        replace BK377 := bkb BK377 hb
        replace HB := bst HB hb
        (try clear hb)
        (try clear hb2)
        (try clear hk)
        (try clear hi)
        refine hK.out _ _ ⟨v380, .slice Ao24 y384.length co24, (by rw [ha.out]; exact putSel_upk 7 hb_ rfl rfl rfl), (bk BK375), (bk BK376), fun _ => (bk BK377), (bl HB), fun _ => (kr HO381), fun _ => (kr HO386), fun h0_ => absurd ((hoff 13 (by kernel_rfl)).symm.trans h0_) (by decide)⟩
      refine steps_cons ?_ ?_
      · rintro b a w' ⟨v380, v385, ha, Q_BK375, Q_BK376, Q_BK377, Q_HB, Q_HO381, Q_HO386, Q_BK377_e13⟩ hb_ hon hoff
        refine ⟨_, rfl, fun K hK => ?_⟩
        have e15 : a.tmps[15]? = some (.agg #[.int .i64 t382, .int .i64 t383]) := by rw [ha]; exact putSel_on (e := (5, 15, .agg #[.int .i64 t382, .int .i64 t383])) 3 rfl rfl (hon 5 (by kernel_rfl)) rfl
        have e21 : a.tmps[21]? = some (.agg #[.int .i64 t387, .int .i64 t388]) := by rw [ha]; exact putSel_on (e := (11, 21, .agg #[.int .i64 t387, .int .i64 t388])) 7 rfl rfl (hon 11 (by kernel_rfl)) rfl
        replace ha := Aside0.mk ha
        have BK375 := Aside0.mk Q_BK375
        have BK376 := Aside0.mk Q_BK376
        have BK377 := Aside0.mk (Q_BK377 (hoff 13 (by kernel_rfl)))
        have HB := Aside0.mk Q_HB
        have HO381 := Aside0.mk (Q_HO381 (hon 4 (by kernel_rfl)))
        have HO386 := Aside0.mk (Q_HO386 (hon 10 (by kernel_rfl)))
        refine value_ (w1 := w') (v := .agg #[.int .i64 t382, .int .i64 t383, .int .i64 t387, .int .i64 t388]) (by rfl) rfl ?_ ?_
        · go_simp
          (try simp only [i64_w])
          try rfl
        refine hK.out _ _ ⟨v380, v385, (by rw [ha.out]; exact putSel_upk 8 hb_ rfl rfl rfl), Q_BK375, Q_BK376, Q_BK377, Q_HB, Q_HO381, Q_HO386, fun h0_ => absurd ((hoff 13 (by kernel_rfl)).symm.trans h0_) (by decide)⟩
      refine steps_cons ?_ ?_
      · rintro b a w' ⟨v380, v385, ha, Q_BK375, Q_BK376, Q_BK377, Q_HB, Q_HO381, Q_HO386, Q_BK377_e13⟩ hb_ hon hoff
        refine ⟨_, rfl, fun K hK => ?_⟩
        have e4 : a.tmps[4]? = some (.pointer (some ⟨gb377, 0, none⟩)) := by rw [ha]; exact (putSel_off rfl).trans rfl
        have e22 : a.tmps[22]? = some (.agg #[.int .i64 t382, .int .i64 t383, .int .i64 t387, .int .i64 t388]) := by rw [ha]; exact putSel_on (e := (12, 22, .agg #[.int .i64 t382, .int .i64 t383, .int .i64 t387, .int .i64 t388])) 8 rfl rfl (hon 12 (by kernel_rfl)) rfl
        replace ha := Aside0.mk ha
        have BK375 := Aside0.mk Q_BK375
        have BK376 := Aside0.mk Q_BK376
        have BK377 := Aside0.mk (Q_BK377 hb_)
        have HB := Aside0.mk Q_HB
        have HO381 := Aside0.mk (Q_HO381 (hon 4 (by kernel_rfl)))
        have HO386 := Aside0.mk (Q_HO386 (hon 10 (by kernel_rfl)))
        have hs26 : w'.cell? ⟨gb377, 0, none⟩ = some (.int .i64 0) := (blk_cell BK377.out 0).trans rfl
        have hfs26 := blk_frozen BK377.out 0
        have hns26_0 := NB375_377.out
        have hns26_1 := NB376_377.out
        have hms26_0 := NB377_375.out
        have hms26_1 := NB377_376.out
        have hs27 : w'.cell? ⟨gb377, 1, none⟩ = some (.int .i64 0) := (blk_cell BK377.out 1).trans rfl
        have hfs27 := blk_frozen BK377.out 1
        have hns27_0 := NB375_377.out
        have hns27_1 := NB376_377.out
        have hms27_0 := NB377_375.out
        have hms27_1 := NB377_376.out
        have hs28 : w'.cell? ⟨gb377, 2, none⟩ = some (.int .i64 0) := (blk_cell BK377.out 2).trans rfl
        have hfs28 := blk_frozen BK377.out 2
        have hns28_0 := NB375_377.out
        have hns28_1 := NB376_377.out
        have hms28_0 := NB377_375.out
        have hms28_1 := NB377_376.out
        have hs29 : w'.cell? ⟨gb377, 3, none⟩ = some (.int .i64 0) := (blk_cell BK377.out 3).trans rfl
        have hfs29 := blk_frozen BK377.out 3
        have hns29_0 := NB375_377.out
        have hns29_1 := NB376_377.out
        have hms29_0 := NB377_375.out
        have hms29_1 := NB377_376.out
        refine skip_ (w1 := ?_) (by rfl) rfl ?_ ?_
        rotate_left
        · go_simp
          rfl
        refine hK.out _ _ ⟨v380, v385, (by rw [ha.out]; exact putSel_none (v := undef) rfl), (bkf BK375 NB375_377), (bkf BK376 NB376_377), fun h0_ => absurd ((up_self b 13).symm.trans h0_) (by decide), (bl HB), fun _ => (by (with_reducible repeat (first | apply Kd.R_alloc | apply Kd.R_drewN | apply Kd.R_drew)); exact Kd.R_mono (Kd.R_far (p := ⟨gb377, 3, none⟩) (Kd.R_far (p := ⟨gb377, 2, none⟩) (Kd.R_far (p := ⟨gb377, 1, none⟩) (Kd.R_far (p := ⟨gb377, 0, none⟩) (Kd.R_types HO381.out BK377.out (by decide)) (fun _ hk => hk.2) (.int .i64 t382)) (fun _ hk => hk.2) (.int .i64 t383)) (fun _ hk => hk.2) (.int .i64 t387)) (fun _ hk => hk.2) (.int .i64 t388)) (fun _ hk => hk.1)), fun _ => (by (with_reducible repeat (first | apply Kd.R_alloc | apply Kd.R_drewN | apply Kd.R_drew)); exact Kd.R_mono (Kd.R_far (p := ⟨gb377, 3, none⟩) (Kd.R_far (p := ⟨gb377, 2, none⟩) (Kd.R_far (p := ⟨gb377, 1, none⟩) (Kd.R_far (p := ⟨gb377, 0, none⟩) (Kd.R_types HO386.out BK377.out (by decide)) (fun _ hk => hk.2) (.int .i64 t382)) (fun _ hk => hk.2) (.int .i64 t383)) (fun _ hk => hk.2) (.int .i64 t387)) (fun _ hk => hk.2) (.int .i64 t388)) (fun _ hk => hk.1)), fun _ => (by (with_reducible repeat (first | refine blk_drewN ?_ _ | refine blk_drew ?_ | refine blk_alloc ?_ _)); refine blk_put (cs := #[.int .i64 t382, .int .i64 t383, .int .i64 t387, .int .i64 0]) ?_ 3 _ rfl; (with_reducible repeat (first | refine blk_drewN ?_ _ | refine blk_drew ?_ | refine blk_alloc ?_ _)); refine blk_put (cs := #[.int .i64 t382, .int .i64 t383, .int .i64 0, .int .i64 0]) ?_ 2 _ rfl; (with_reducible repeat (first | refine blk_drewN ?_ _ | refine blk_drew ?_ | refine blk_alloc ?_ _)); refine blk_put (cs := #[.int .i64 t382, .int .i64 0, .int .i64 0, .int .i64 0]) ?_ 1 _ rfl; (with_reducible repeat (first | refine blk_drewN ?_ _ | refine blk_drew ?_ | refine blk_alloc ?_ _)); refine blk_put (cs := #[.int .i64 0, .int .i64 0, .int .i64 0, .int .i64 0]) ?_ 0 _ rfl; (with_reducible repeat (first | refine blk_drewN ?_ _ | refine blk_drew ?_ | refine blk_alloc ?_ _)); exact BK377.out)⟩
      exact steps_nil
    rintro b a w29 hall ⟨v380, v385, ha, Q_BK375, Q_BK376, Q_BK377, Q_HB, Q_HO381, Q_HO386, Q_BK377_e13⟩
    clear BK375 BK376 BK377 HB
    have hb1_ := hall 1 (by kernel_rfl)
    have hb3_ := hall 3 (by kernel_rfl)
    have hb4_ := hall 4 (by kernel_rfl)
    have hb5_ := hall 5 (by kernel_rfl)
    have hb7_ := hall 7 (by kernel_rfl)
    have hb9_ := hall 9 (by kernel_rfl)
    have hb10_ := hall 10 (by kernel_rfl)
    have hb11_ := hall 11 (by kernel_rfl)
    have hb12_ := hall 12 (by kernel_rfl)
    have hb13_ := hall 13 (by kernel_rfl)
    subst ha
    simp only [putSel, hb1_, hb3_, hb4_, hb5_, hb7_, hb9_, hb10_, hb11_, hb12_, hb13_, if_true, Act.put, List.setIfInBounds_toArray, List.set_cons_zero, List.set_cons_succ]
    have BK375 := Aside0.mk Q_BK375
    clear Q_BK375
    have BK376 := Aside0.mk Q_BK376
    clear Q_BK376
    clear Q_BK377
    have HB := Aside0.mk Q_HB
    clear Q_HB
    have HO381 := Aside0.mk (Q_HO381 hb4_)
    clear Q_HO381
    have HO386 := Aside0.mk (Q_HO386 hb10_)
    clear Q_HO386
    have BK377 := Aside0.mk (Q_BK377_e13 hb13_)
    clear Q_BK377_e13
    clear hall hb1_ hb3_ hb4_ hb5_ hb7_ hb9_ hb10_ hb11_ hb12_ hb13_
    try go_wp2
    refine bodyPost_ret (results_cell_row rfl _ _ gb377 25 #[.int .i64 t382, .int .i64 t383, .int .i64 t387, .int .i64 t388] (0, 0) _ rfl (bk BK377) Try.underlying25 rfl (by kernel_rfl)) rfl ?_
    exact ⟨by first | rfl | (simp [errW_none, errW_some] <;> rfl) | (simp [*, errW_none, errW_some] <;> rfl), by repeat (first | (with_reducible first | exact HB.out | apply below_alloc | apply pw_below_drewN | apply below_drew1 | refine below_set ?_ GE375.out | refine below_set ?_ GE376.out | refine below_set ?_ GE377.out) | exact HB.out)⟩
  · replace c4 := Bool.eq_false_iff.mpr c4
    subst c4
    have H1 : (some (0, 0, 0, 0)) = some (r1, r2, r3, r4) := by rw [if_neg (show ¬ (false = true) by decide)] at H; exact H
    clear H
    have H := H1
    clear H1
    simp only [Option.some.injEq, Prod.mk.injEq] at H
    obtain ⟨rfl, rfl, rfl, rfl⟩ := H
    go_enter Try.func21, Try.ntmps21
    go_wp2_with (first | ((with_reducible refine gate_dst (N := 2) rfl ?_); refine bxe (N := 2) (cs := #[.int .i64 a0_0, .int .i64 a0_1, .int .i64 a0_2, .int .i64 a0_3]) (t := 25) ?_; intro gb375 hg w30 hbox hb; have BK375 := Aside0.mk (hbox); have GW375 := lsz hg HB; have GE375 := lsz hg HB; replace HB := bst HB hb; clear hb hbox hg) | ((with_reducible refine gate_dst (N := 3) rfl ?_); refine bxe (N := 3) (cs := #[.int .i64 a1_0, .int .i64 a1_1, .int .i64 a1_2, .int .i64 a1_3]) (t := 25) ?_; intro gb376 hg w31 hbox hb; have BK376 := Aside0.mk (hbox); have GW376 := lsz hg HB; have GE376 := lsz hg HB; replace HB := bst HB hb; have NB375_376 := nlt hg BK375; have NB376_375 := ngt hg BK375; replace BK375 := bkb BK375 hb; clear hb hbox hg) | ((with_reducible refine gate_dst (N := 4) rfl ?_); refine bxe (N := 4) (cs := #[.int .i64 0, .int .i64 0, .int .i64 0, .int .i64 0]) (t := 25) ?_; intro gb377 hg w32 hbox hb; have BK377 := Aside0.mk (hbox); have GW377 := lsz hg HB; have GE377 := lsz hg HB; replace HB := bst HB hb; have NB375_377 := nlt hg BK375; have NB377_375 := ngt hg BK375; replace BK375 := bkb BK375 hb; have NB376_377 := nlt hg BK376; have NB377_376 := ngt hg BK376; replace BK376 := bkb BK376 hb; clear hb hbox hg; have hnb33 := NB375_376.out; have hnc33 := NB376_375.out; have hnb34 := NB375_377.out; have hnc34 := NB377_375.out; have hcz35_0 : w32.cell? ⟨gb375, 0, none⟩ = some (.int .i64 a0_0) := (blk_cell BK375.out 0).trans rfl; have hcz35_1 : w32.cell? ⟨gb375, 1, none⟩ = some (.int .i64 a0_1) := (blk_cell BK375.out 1).trans rfl; have hcz35_2 : w32.cell? ⟨gb375, 2, none⟩ = some (.int .i64 a0_2) := (blk_cell BK375.out 2).trans rfl; have hcz35_3 : w32.cell? ⟨gb375, 3, none⟩ = some (.int .i64 a0_3) := (blk_cell BK375.out 3).trans rfl; have hfz35_0 := blk_frozen BK375.out 0; have hfz35_1 := blk_frozen BK375.out 1; have hfz35_2 := blk_frozen BK375.out 2; have hfz35_3 := blk_frozen BK375.out 3; have hnb36 := NB376_377.out; have hnc36 := NB377_376.out; have hcz37_0 : w32.cell? ⟨gb376, 0, none⟩ = some (.int .i64 a1_0) := (blk_cell BK376.out 0).trans rfl; have hcz37_1 : w32.cell? ⟨gb376, 1, none⟩ = some (.int .i64 a1_1) := (blk_cell BK376.out 1).trans rfl; have hcz37_2 : w32.cell? ⟨gb376, 2, none⟩ = some (.int .i64 a1_2) := (blk_cell BK376.out 2).trans rfl; have hcz37_3 : w32.cell? ⟨gb376, 3, none⟩ = some (.int .i64 a1_3) := (blk_cell BK376.out 3).trans rfl; have hfz37_0 := blk_frozen BK376.out 0; have hfz37_1 := blk_frozen BK376.out 1; have hfz37_2 := blk_frozen BK376.out 2; have hfz37_3 := blk_frozen BK376.out 3) | ((with_reducible refine gate_callee (f := 45) rfl ?_); refine gol (some 7) Try.func45 #[.agg #[.int .i64 a0_0, .int .i64 a0_1, .int .i64 a0_2, .int .i64 a0_3], .agg #[.int .i64 a1_0, .int .i64 a1_1, .int .i64 a1_2, .int .i64 a1_3]] ?_; (with_reducible refine (span_both.calls k a0_0 a0_1 a0_2 a0_3 a1_0 a1_1 a1_2 a1_3 false _ A3.out).mono ?_); rintro e w38 ⟨rfl, hb⟩; refine ⟨_, rfl, ?_⟩; replace BK375 := bkb BK375 hb; replace BK376 := bkb BK376 hb; replace BK377 := bkb BK377 hb; replace HB := bst HB hb; (try clear hb); (try clear hb2); (try clear hk); (try clear hi); have hcz39_0 : w38.cell? ⟨gb377, 0, none⟩ = some (.int .i64 0) := (blk_cell BK377.out 0).trans rfl; have hcz39_1 : w38.cell? ⟨gb377, 1, none⟩ = some (.int .i64 0) := (blk_cell BK377.out 1).trans rfl; have hcz39_2 : w38.cell? ⟨gb377, 2, none⟩ = some (.int .i64 0) := (blk_cell BK377.out 2).trans rfl; have hcz39_3 : w38.cell? ⟨gb377, 3, none⟩ = some (.int .i64 0) := (blk_cell BK377.out 3).trans rfl; have hfz39_0 := blk_frozen BK377.out 0; have hfz39_1 := blk_frozen BK377.out 1; have hfz39_2 := blk_frozen BK377.out 2; have hfz39_3 := blk_frozen BK377.out 3))
    refine bodyPost_ret (results_cell_row rfl _ _ gb377 25 #[.int .i64 0, .int .i64 0, .int .i64 0, .int .i64 0] (0, 0) _ rfl (by (with_reducible repeat (first | refine blk_drewN ?_ _ | refine blk_drew ?_ | refine blk_alloc ?_ _)); refine blk_put (cs := #[.int .i64 0, .int .i64 0, .int .i64 0, .int .i64 0]) ?_ 3 _ rfl; (with_reducible repeat (first | refine blk_drewN ?_ _ | refine blk_drew ?_ | refine blk_alloc ?_ _)); refine blk_put (cs := #[.int .i64 0, .int .i64 0, .int .i64 0, .int .i64 0]) ?_ 2 _ rfl; (with_reducible repeat (first | refine blk_drewN ?_ _ | refine blk_drew ?_ | refine blk_alloc ?_ _)); refine blk_put (cs := #[.int .i64 0, .int .i64 0, .int .i64 0, .int .i64 0]) ?_ 1 _ rfl; (with_reducible repeat (first | refine blk_drewN ?_ _ | refine blk_drew ?_ | refine blk_alloc ?_ _)); refine blk_put (cs := #[.int .i64 0, .int .i64 0, .int .i64 0, .int .i64 0]) ?_ 0 _ rfl; (with_reducible repeat (first | refine blk_drewN ?_ _ | refine blk_drew ?_ | refine blk_alloc ?_ _)); exact BK377.out) Try.underlying25 rfl (by kernel_rfl)) rfl ?_
    exact ⟨by first | rfl | (simp [errW_none, errW_some] <;> rfl) | (simp [*, errW_none, errW_some] <;> rfl), by repeat (first | (with_reducible first | exact HB.out | apply below_alloc | apply pw_below_drewN | apply below_drew1 | refine below_set ?_ GE375.out | refine below_set ?_ GE376.out | refine below_set ?_ GE377.out) | exact HB.out)⟩
/-! ### span_Compare: function 38 -/
def span_Compare.f (k : Nat) (a0_0 : Int) (a0_1 : Int) (a0_2 : Int) (a0_3 : Int) (a1_0 : Int) (a1_1 : Int) (a1_2 : Int) (a1_3 : Int) : Option (Int) := (cut_Compare.f k a0_0 a0_1 a1_0 a1_1).bind fun t391 => ((cut_Compare.f k a0_2 a0_3 a1_2 a1_3).bind fun t392 => ((cmp_Or_int.f k (([t391, t392] : List Int))).bind fun t396 => (some t396)))
theorem span_Compare.mono : ∀ a0 a1 a2 a3 a4 a5 a6 a7 k, LeO (span_Compare.f k a0 a1 a2 a3 a4 a5 a6 a7) (span_Compare.f (k + 1) a0 a1 a2 a3 a4 a5 a6 a7) := by
  intro a0 a1 a2 a3 a4 a5 a6 a7 k
  unfold span_Compare.f
  repeat' first
      | (with_reducible exact cmp_Or_int.mono _ _)
      | (with_reducible exact cut_Compare.mono _ _ _ _ _)
      | (with_reducible exact LeO.refl _)
      | (with_reducible exact LeO.none _)
      | (with_reducible refine LeO.ite ?_ ?_)
      | (with_reducible refine LeO.bind ?_ (fun _ => ?_))
      | exact cmp_Or_int.mono _ _
      | exact cut_Compare.mono _ _ _ _ _
      | exact LeO.none _
      | refine LeO.ite ?_ ?_
      | refine LeO.bind ?_ (fun _ => ?_)
def span_Compare.T1 : Bool × List (List Nat × List Nat) := (true, [([], []), ([0], [0]), ([], []), ([2], [2]), ([1, 3], [1, 3]), ([], []), ([5], [5]), ([], []), ([7], [7]), ([6, 8, 4], [6, 8]), ([4, 9], [4, 9]), ([10, 9], [10]), ([11, 11, 0, 1, 2, 3, 4, 5, 6, 7, 8, 9, 10, 11], [11])])
def span_Compare.B1 : List Nat := [0, 1, 0, 4, 15, 0, 32, 0, 128, 511, 1023, 2047, 4095]
theorem span_Compare.tab1 : rtab .any (opsOf Try.f38 1) = span_Compare.T1 := by kernel_rfl
theorem span_Compare.bits1 : waitsOk span_Compare.T1.2 span_Compare.B1 = true := by kernel_rfl
set_option maxHeartbeats 8000000 in
set_option maxRecDepth 100000 in
theorem span_Compare.calls (k : Nat) (a0_0 : Int) (a0_1 : Int) (a0_2 : Int) (a0_3 : Int) (a1_0 : Int) (a1_1 : Int) (a1_2 : Int) (a1_3 : Int) (r : Int) (w : World) (h : span_Compare.f k a0_0 a0_1 a0_2 a0_3 a1_0 a1_1 a1_2 a1_3 = some r) :
    Calls Try.prog 38 #[.agg #[.int .i64 a0_0, .int .i64 a0_1, .int .i64 a0_2, .int .i64 a0_3], .agg #[.int .i64 a1_0, .int .i64 a1_1, .int .i64 a1_2, .int .i64 a1_3]] w fun e w' => e = .returned (.int .i64 r) ∧ Below w.heap.size w w' := by
  have hu25 := Try.underlying25
  have hu23 := Try.underlying23
  have HB := Aside0.mk (Below.refl w.heap.size w)
  have H : ((cut_Compare.f k a0_0 a0_1 a1_0 a1_1).bind fun t391 => ((cut_Compare.f k a0_2 a0_3 a1_2 a1_3).bind fun t392 => ((cmp_Or_int.f k (([t391, t392] : List Int))).bind fun t396 => (some t396)))) = some r := h
  clear h
  replace H := Option.bind_eq_some_iff.mp H
  obtain ⟨t391, A30, H⟩ := H
  replace H : ((cut_Compare.f k a0_2 a0_3 a1_2 a1_3).bind fun t392 => ((cmp_Or_int.f k (([t391, t392] : List Int))).bind fun t396 => (some t396))) = some r := H
  have A3 := Aside0.mk A30
  clear A30
  replace H := Option.bind_eq_some_iff.mp H
  obtain ⟨t392, A40, H⟩ := H
  replace H : ((cmp_Or_int.f k (([t391, t392] : List Int))).bind fun t396 => (some t396)) = some r := H
  have A4 := Aside0.mk A40
  clear A40
  obtain ⟨y393, hy393⟩ : ∃ y_ : List Int, y_ = (([t391, t392] : List Int)) := ⟨_, rfl⟩
  replace H : ((cmp_Or_int.f k y393).bind fun t396 => (some t396)) = some r := by first | (rw [hy393]; with_reducible exact H) | (have H2_ := (Option.bind_some _ _).symm.trans H; rw [hy393]; with_reducible exact H2_) | (have H2_ := (Option.bind_some _ _).symm.trans H; with_reducible exact H2_) | with_reducible exact H | (rw [hy393]; exact H) | exact H
  have Ny393 := Aside0.mk hy393
  clear hy393
  replace H := Option.bind_eq_some_iff.mp H
  obtain ⟨t396, A50, H⟩ := H
  replace H : (some t396) = some r := H
  have A5 := Aside0.mk A50
  clear A50
  obtain rfl := Option.some.inj H
  go_enter Try.func38, Try.ntmps38
  try go_wp2_with (first | ((with_reducible refine gate_dst (N := 2) rfl ?_); refine bxe (N := 2) (cs := #[.int .i64 a0_0, .int .i64 a0_1, .int .i64 a0_2, .int .i64 a0_3]) (t := 25) ?_; intro gb389 hg w6 hbox hb; have BK389 := Aside0.mk (hbox); have GW389 := lsz hg HB; have GE389 := lsz hg HB; replace HB := bst HB hb; clear hb hbox hg) | ((with_reducible refine gate_dst (N := 3) rfl ?_); refine bxe (N := 3) (cs := #[.int .i64 a1_0, .int .i64 a1_1, .int .i64 a1_2, .int .i64 a1_3]) (t := 25) ?_; intro gb390 hg w7 hbox hb; have BK390 := Aside0.mk (hbox); have GW390 := lsz hg HB; have GE390 := lsz hg HB; replace HB := bst HB hb; have NB389_390 := nlt hg BK389; have NB390_389 := ngt hg BK389; replace BK389 := bkb BK389 hb; clear hb hbox hg))
  replace BK389 := Aside0.mk (blk_drew BK389.out)
  replace BK390 := Aside0.mk (blk_drew BK390.out)
  replace HB := Aside0.mk (below_drew1 HB.out)
  refine start_ (n := 13) (S := fun w' => w'.cell? ⟨gb389, 0, none⟩ = some (.int .i64 a0_0) ∧ w'.cell? ⟨gb389, 1, none⟩ = some (.int .i64 a0_1) ∧ w'.cell? ⟨gb389, 2, none⟩ = some (.int .i64 a0_2) ∧ w'.cell? ⟨gb389, 3, none⟩ = some (.int .i64 a0_3) ∧ w'.cell? ⟨gb390, 0, none⟩ = some (.int .i64 a1_0) ∧ w'.cell? ⟨gb390, 1, none⟩ = some (.int .i64 a1_1) ∧ w'.cell? ⟨gb390, 2, none⟩ = some (.int .i64 a1_2) ∧ w'.cell? ⟨gb390, 3, none⟩ = some (.int .i64 a1_3)) (ds := []) #[false, false, false, false, false, false, false, false, false, false, false, false, false] (by kernel_rfl) rfl rfl (c4 BK389 (e4 BK390)) (fun hHeld => ?_); refine with_tabW span_Compare.tab1 span_Compare.bits1 (fun HT_ HW_ => ?_)
  generalize w7.drew = w8 at BK389 BK390 HB hHeld ⊢
  refine pu 0 (some 5) #[true, false, false, false, false, false, false, false, false, false, false, false, false] (any_of HT_.out (by kernel_rfl)) ?_
  refine pu 2 (some 7) #[true, false, true, false, false, false, false, false, false, false, false, false, false] (any_of HT_.out (by kernel_rfl)) ?_
  refine pu 5 (some 10) #[true, false, true, false, false, true, false, false, false, false, false, false, false] (any_of HT_.out (by kernel_rfl)) ?_
  refine pu 7 (some 12) #[true, false, true, false, false, true, false, true, false, false, false, false, false] (any_of HT_.out (by kernel_rfl)) ?_
  refine tk8 1 (some 6) #[true, true, true, false, false, true, false, true, false, false, false, false, false] (take_ofW HT_.out HW_.out (by kernel_rfl)) hHeld ?_
  refine tk8 3 (some 8) #[true, true, true, true, false, true, false, true, false, false, false, false, false] (take_ofW HT_.out HW_.out (by kernel_rfl)) hHeld ?_
  refine tk8 6 (some 11) #[true, true, true, true, false, true, true, true, false, false, false, false, false] (take_ofW HT_.out HW_.out (by kernel_rfl)) hHeld ?_
  refine tk8 8 (some 13) #[true, true, true, true, false, true, true, true, true, false, false, false, false] (take_ofW HT_.out HW_.out (by kernel_rfl)) hHeld ?_
  refine one_ (i := 4) (N := some 9) #[true, true, true, true, true, true, true, true, true, false, false, false, false] rfl rfl (one_of HT_.out (by kernel_rfl)) (by decide) (fun K hK => ?_)
  refine goes_ Try.func53 (by kernel_rfl) rfl #[.agg #[.int .i64 a0_0, .int .i64 a0_1], .agg #[.int .i64 a1_0, .int .i64 a1_1]] (by rfl) rfl rfl (by (try simp only [List.map_toArray, List.map_cons, List.map_nil]); first | done | rfl | (simp only [List.length_drop, List.length_take]; rfl)) ?_
  with_reducible refine (cut_Compare.calls k a0_0 a0_1 a1_0 a1_1 t391 _ A3.out).mono ?_
  rintro e w9 ⟨rfl, hb⟩
  refine ⟨_, rfl, ?_⟩
  replace BK389 := bkb BK389 hb
  replace BK390 := bkb BK390 hb
  replace HB := bst HB hb
  (try clear hb)
  (try clear hb2)
  (try clear hk)
  (try clear hi)
  refine hK.out _ _ (c4 BK389 (e4 BK390)) (fun hHeld => ?_)
  clear hK K
  refine nrp 9 ?_
  refine one_ (i := 9) (N := some 14) #[true, true, true, true, true, true, true, true, true, true, false, false, false] rfl rfl (one_of HT_.out (by kernel_rfl)) (by decide) (fun K hK => ?_)
  refine goes_ Try.func53 (by kernel_rfl) rfl #[.agg #[.int .i64 a0_2, .int .i64 a0_3], .agg #[.int .i64 a1_2, .int .i64 a1_3]] (by rfl) rfl rfl (by (try simp only [List.map_toArray, List.map_cons, List.map_nil]); first | done | rfl | (simp only [List.length_drop, List.length_take]; rfl)) ?_
  with_reducible refine (cut_Compare.calls k a0_2 a0_3 a1_2 a1_3 t392 _ A4.out).mono ?_
  rintro e w10 ⟨rfl, hb⟩
  refine ⟨_, rfl, ?_⟩
  replace BK389 := bkb BK389 hb
  replace BK390 := bkb BK390 hb
  replace HB := bst HB hb
  (try clear hb)
  (try clear hb2)
  (try clear hk)
  (try clear hi)
  refine hK.out _ _ (c4 BK389 (e4 BK390)) (fun hHeld => ?_)
  clear hK K
  refine nrp 14 ?_
  refine one_ (i := 10) (N := some 15) #[true, true, true, true, true, true, true, true, true, true, true, false, false] rfl rfl (one_of HT_.out (by kernel_rfl)) (by decide) (fun K hK => ?_)
  refine Kd.R_lit_step (Kd.int .i64) _ 3 ?hg (N := 15) ?hd (xs := ([t391, t392] : List Int)) (inner := [.int .i64 t391, .int .i64 t392]) (ok := fun _ => True) (okp := fun _ => True) ?hr ?hp (fun _ hk => hk) trivial (Below.refl _ _) (Nat.le_refl _) (by simp) ?_; (case hd => rfl); (case hg => rfl); (case hr => first | (go_simp; done) | (go_simp; rfl)); (case hp => exact (Reps.one (show Kd.M (Kd.int .i64) _ _ _ t391 [.int .i64 t391] from rfl) (Reps.one (show Kd.M (Kd.int .i64) _ _ _ t392 [.int .i64 t392] from rfl) (Reps.none _ _))))
  intro v394 w11 ho12 hb hg_ hnew_
  clear hg_ hnew_
  (first | rw [← Ny393.out] at ho12 | (simp only [Int.reduceToNat] at ho12; rw [← Ny393.out] at ho12))
  have HO395 := Aside0.mk (Kd.R_lower ho12 (below_size (bl HB)))
  replace BK389 := bkb BK389 hb
  replace BK390 := bkb BK390 hb
  replace HB := bst HB hb
  clear hb ho12
  obtain ⟨Ao13, co13, eo13⟩ := Kd.R_slice HO395.out
  (first | subst eo13 | (injection eo13 with f1_ f2_ f3_; have f4_ := f1_.symm; have f5_ := f3_.symm; clear f1_ f2_ f3_; subst f4_; subst f5_))
  refine hK.out _ _ (c4 BK389 (e4 BK390)) (fun hHeld => ?_)
  clear hK K
  refine nrp 15 ?_
  refine one_ (i := 11) (N := some 16) #[true, true, true, true, true, true, true, true, true, true, true, true, false] rfl rfl (one_of HT_.out (by kernel_rfl)) (by decide) (fun K hK => ?_)
  refine goes_ Try.func66 (by kernel_rfl) rfl #[.slice Ao13 y393.length co13] (by rfl) rfl rfl (by (try simp only [List.map_toArray, List.map_cons, List.map_nil]); first | done | rfl | (simp only [List.length_drop, List.length_take]; rfl)) ?_
  with_reducible refine (cmp_Or_int.calls k _ _ y393 t396 _ ?side1 ?side2 A5.out).mono ?_
  (case side1 => repeat (first | exact (Kd.R_reads' HO395.out).2.2 | (with_reducible refine Kd.C_alloc ?_ _) | (with_reducible refine Kd.C_drewN ?_ _) | (with_reducible refine Kd.C_drew ?_)))
  (case side2 => exact (Kd.R_reads' HO395.out).2.1)
  rintro e w' ⟨rfl, ⟨nd, rfl⟩⟩
  refine ⟨_, rfl, ?_⟩
  refine hK.out _ _ (c4 BK389 (e4 BK390)) (fun hHeld => ?_)
  clear hK K
  refine nrp 16 ?_
  refine pu 12 (some 4) #[true, true, true, true, true, true, true, true, true, true, true, true, true] (any_of HT_.out (by kernel_rfl)) ?_
  refine done_ (done_of HT_.out (by kernel_rfl)) ?_
  try go_wp2
  go_ret
  exact ⟨by first | rfl | (simp [errW_none, errW_some] <;> rfl) | (simp [*, errW_none, errW_some] <;> rfl), by repeat (first | (with_reducible first | exact HB.out | apply below_alloc | apply pw_below_drewN | apply below_drew1 | refine below_set ?_ GE389.out | refine below_set ?_ GE390.out) | exact HB.out)⟩
/-! ### bocagelaw03_to: function 51 -/
def bocagelaw03_to.f (a0 : Int) (a1 : Int) : Option (Int × Int × Int × Int) := some (0, a0, 0, a1)
set_option maxHeartbeats 8000000 in
set_option maxRecDepth 100000 in
theorem bocagelaw03_to.calls (a0 : Int) (a1 : Int) (r1 : Int) (r2 : Int) (r3 : Int) (r4 : Int) (w : World) (h : bocagelaw03_to.f a0 a1 = some (r1, r2, r3, r4)) :
    Calls Try.prog 51 #[.int .i64 a0, .int .i64 a1] w fun e w' => e = .returned (.agg #[.int .i64 r1, .int .i64 r2, .int .i64 r3, .int .i64 r4]) ∧ Below w.heap.size w w' := by
  have hu25 := Try.underlying25
  have hu23 := Try.underlying23
  have HB := Aside0.mk (Below.refl w.heap.size w)
  have H : (some (0, a0, 0, a1)) = some (r1, r2, r3, r4) := h
  clear h
  simp only [Option.some.injEq, Prod.mk.injEq] at H
  obtain ⟨rfl, rfl, rfl, rfl⟩ := H
  go_enter Try.func51, Try.ntmps51
  go_wp2_with (first | ((with_reducible refine gate_dst (N := 4) rfl ?_); refine bxe (N := 4) (cs := #[.int .i64 0, .int .i64 0, .int .i64 0, .int .i64 0]) (t := 25) ?_; intro gb397 hg w3 hbox hb; have BK397 := Aside0.mk (hbox); have GW397 := lsz hg HB; have GE397 := lsz hg HB; replace HB := bst HB hb; clear hb hbox hg; have hcz4_0 : w3.cell? ⟨gb397, 0, none⟩ = some (.int .i64 0) := (blk_cell BK397.out 0).trans rfl; have hcz4_1 : w3.cell? ⟨gb397, 1, none⟩ = some (.int .i64 0) := (blk_cell BK397.out 1).trans rfl; have hcz4_2 : w3.cell? ⟨gb397, 2, none⟩ = some (.int .i64 0) := (blk_cell BK397.out 2).trans rfl; have hcz4_3 : w3.cell? ⟨gb397, 3, none⟩ = some (.int .i64 0) := (blk_cell BK397.out 3).trans rfl; have hfz4_0 := blk_frozen BK397.out 0; have hfz4_1 := blk_frozen BK397.out 1; have hfz4_2 := blk_frozen BK397.out 2; have hfz4_3 := blk_frozen BK397.out 3))
  refine bodyPost_ret (results_cell_row rfl _ _ gb397 25 #[.int .i64 0, .int .i64 a0, .int .i64 0, .int .i64 a1] (0, 0) _ rfl (by (with_reducible repeat (first | refine blk_drewN ?_ _ | refine blk_drew ?_ | refine blk_alloc ?_ _)); refine blk_put (cs := #[.int .i64 0, .int .i64 a0, .int .i64 0, .int .i64 0]) ?_ 3 _ rfl; (with_reducible repeat (first | refine blk_drewN ?_ _ | refine blk_drew ?_ | refine blk_alloc ?_ _)); refine blk_put (cs := #[.int .i64 0, .int .i64 a0, .int .i64 0, .int .i64 0]) ?_ 2 _ rfl; (with_reducible repeat (first | refine blk_drewN ?_ _ | refine blk_drew ?_ | refine blk_alloc ?_ _)); refine blk_put (cs := #[.int .i64 0, .int .i64 0, .int .i64 0, .int .i64 0]) ?_ 1 _ rfl; (with_reducible repeat (first | refine blk_drewN ?_ _ | refine blk_drew ?_ | refine blk_alloc ?_ _)); refine blk_put (cs := #[.int .i64 0, .int .i64 0, .int .i64 0, .int .i64 0]) ?_ 0 _ rfl; (with_reducible repeat (first | refine blk_drewN ?_ _ | refine blk_drew ?_ | refine blk_alloc ?_ _)); exact BK397.out) Try.underlying25 rfl (by kernel_rfl)) rfl ?_
  exact ⟨by first | rfl | (simp [errW_none, errW_some] <;> rfl) | (simp [*, errW_none, errW_some] <;> rfl), by repeat (first | (with_reducible first | exact HB.out | apply below_alloc | apply pw_below_drewN | apply below_drew1 | refine below_set ?_ GE397.out) | exact HB.out)⟩
/-! ### span_All: function 52 -/
def span_All.f  : Option (Int × Int × Int × Int) := (cut_First.f).bind fun bt399 => ((cut_Last.f).bind fun bt401 => (some (bt399.1, bt399.2, bt401.1, bt401.2)))
set_option maxHeartbeats 8000000 in
set_option maxRecDepth 100000 in
theorem span_All.calls  (r1 : Int) (r2 : Int) (r3 : Int) (r4 : Int) (w : World) (h : span_All.f  = some (r1, r2, r3, r4)) :
    Calls Try.prog 52 #[] w fun e w' => e = .returned (.agg #[.int .i64 r1, .int .i64 r2, .int .i64 r3, .int .i64 r4]) ∧ Below w.heap.size w w' := by
  have hu25 := Try.underlying25
  have HB := Aside0.mk (Below.refl w.heap.size w)
  have H : ((cut_First.f).bind fun bt399 => ((cut_Last.f).bind fun bt401 => (some (bt399.1, bt399.2, bt401.1, bt401.2)))) = some (r1, r2, r3, r4) := h
  clear h
  replace H := Option.bind_eq_some_iff.mp H
  obtain ⟨⟨t399, t400⟩, A10, H⟩ := H
  replace H : ((cut_Last.f).bind fun bt401 => (some (t399, t400, bt401.1, bt401.2))) = some (r1, r2, r3, r4) := H
  have A1 := Aside0.mk A10
  clear A10
  replace H := Option.bind_eq_some_iff.mp H
  obtain ⟨⟨t401, t402⟩, A20, H⟩ := H
  replace H : (some (t399, t400, t401, t402)) = some (r1, r2, r3, r4) := H
  have A2 := Aside0.mk A20
  clear A20
  simp only [Option.some.injEq, Prod.mk.injEq] at H
  obtain ⟨rfl, rfl, rfl, rfl⟩ := H
  go_enter Try.func52, Try.ntmps52
  go_wp2_with (first | ((with_reducible refine gate_dst (N := 0) rfl ?_); refine bxe (N := 0) (cs := #[.int .i64 0, .int .i64 0, .int .i64 0, .int .i64 0]) (t := 25) ?_; intro gb398 hg w3 hbox hb; have BK398 := Aside0.mk (hbox); have GW398 := lsz hg HB; have GE398 := lsz hg HB; replace HB := bst HB hb; clear hb hbox hg) | ((with_reducible refine gate_callee (f := 69) rfl ?_); refine gol (some 1) Try.func69 #[] ?_; (with_reducible refine (cut_First.calls  t399 t400 _ A1.out).mono ?_); rintro e w4 ⟨rfl, hb⟩; refine ⟨_, rfl, ?_⟩; replace BK398 := bkb BK398 hb; replace HB := bst HB hb; (try clear hb); (try clear hb2); (try clear hk); (try clear hi)) | ((with_reducible refine gate_callee (f := 70) rfl ?_); refine gol (some 2) Try.func70 #[] ?_; (with_reducible refine (cut_Last.calls  t401 t402 _ A2.out).mono ?_); rintro e w5 ⟨rfl, hb⟩; refine ⟨_, rfl, ?_⟩; replace BK398 := bkb BK398 hb; replace HB := bst HB hb; (try clear hb); (try clear hb2); (try clear hk); (try clear hi); have hcz6_0 : w5.cell? ⟨gb398, 0, none⟩ = some (.int .i64 0) := (blk_cell BK398.out 0).trans rfl; have hcz6_1 : w5.cell? ⟨gb398, 1, none⟩ = some (.int .i64 0) := (blk_cell BK398.out 1).trans rfl; have hcz6_2 : w5.cell? ⟨gb398, 2, none⟩ = some (.int .i64 0) := (blk_cell BK398.out 2).trans rfl; have hcz6_3 : w5.cell? ⟨gb398, 3, none⟩ = some (.int .i64 0) := (blk_cell BK398.out 3).trans rfl; have hfz6_0 := blk_frozen BK398.out 0; have hfz6_1 := blk_frozen BK398.out 1; have hfz6_2 := blk_frozen BK398.out 2; have hfz6_3 := blk_frozen BK398.out 3))
  refine bodyPost_ret (results_cell_row rfl _ _ gb398 25 #[.int .i64 t399, .int .i64 t400, .int .i64 t401, .int .i64 t402] (0, 0) _ rfl (by (with_reducible repeat (first | refine blk_drewN ?_ _ | refine blk_drew ?_ | refine blk_alloc ?_ _)); refine blk_put (cs := #[.int .i64 t399, .int .i64 t400, .int .i64 t401, .int .i64 0]) ?_ 3 _ rfl; (with_reducible repeat (first | refine blk_drewN ?_ _ | refine blk_drew ?_ | refine blk_alloc ?_ _)); refine blk_put (cs := #[.int .i64 t399, .int .i64 t400, .int .i64 0, .int .i64 0]) ?_ 2 _ rfl; (with_reducible repeat (first | refine blk_drewN ?_ _ | refine blk_drew ?_ | refine blk_alloc ?_ _)); refine blk_put (cs := #[.int .i64 t399, .int .i64 0, .int .i64 0, .int .i64 0]) ?_ 1 _ rfl; (with_reducible repeat (first | refine blk_drewN ?_ _ | refine blk_drew ?_ | refine blk_alloc ?_ _)); refine blk_put (cs := #[.int .i64 0, .int .i64 0, .int .i64 0, .int .i64 0]) ?_ 0 _ rfl; (with_reducible repeat (first | refine blk_drewN ?_ _ | refine blk_drew ?_ | refine blk_alloc ?_ _)); exact BK398.out) Try.underlying25 rfl (by kernel_rfl)) rfl ?_
  exact ⟨by first | rfl | (simp [errW_none, errW_some] <;> rfl) | (simp [*, errW_none, errW_some] <;> rfl), by repeat (first | (with_reducible first | exact HB.out | apply below_alloc | apply pw_below_drewN | apply below_drew1 | refine below_set ?_ GE398.out) | exact HB.out)⟩
end Go.Proofs.Ytkkbmjfhpngalaa.Print
