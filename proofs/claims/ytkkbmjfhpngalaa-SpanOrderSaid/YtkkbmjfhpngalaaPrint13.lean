-- Laid by wip/print/bprint.py of this repo, over the kit's printer, with functions given by hand; not trusted: Lean checks it.
import Derived.Test.YtkkbmjfhpngalaaPrint0
import Derived.Test.YtkkbmjfhpngalaaPrint5
import Derived.Test.YtkkbmjfhpngalaaSh
namespace Go.Proofs.Ytkkbmjfhpngalaa.Print
open Go.RowKit Go.Proofs.YtkkbmjfhpngalaaW.PrintWords Go.Proofs.YtkkbmjfhpngalaaW.PrintLast Go.Proofs.YtkkbmjfhpngalaaW.PrintMore
attribute [local go_sem] max2_int min2_int max_two min_two max_three min_three max_four min_four   -- for this text's walks alone
set_option linter.unusedVariables false
set_option linter.unusedSimpArgs false
/-! ### bocageref02_Compare: function 39 -/
def bocageref02_Compare.f (k : Nat) (a0_0 : Int) (a0_1 : Int) (a1_0 : Int) (a1_1 : Int) : Option (Int) := (bocageref02_Less.f k a0_0 a0_1 a1_0 a1_1).bind fun t691 => (if t691 = true then (some (-1)) else ((bocageref02_Less.f k a1_0 a1_1 a0_0 a0_1).bind fun t692 => (if t692 = true then (some 1) else (some 0))))
theorem bocageref02_Compare.mono : ∀ a0 a1 a2 a3 k, LeO (bocageref02_Compare.f k a0 a1 a2 a3) (bocageref02_Compare.f (k + 1) a0 a1 a2 a3) := by
  intro a0 a1 a2 a3 k
  unfold bocageref02_Compare.f
  repeat' first
      | (with_reducible exact bocageref02_Less.mono _ _ _ _ _)
      | (with_reducible exact LeO.refl _)
      | (with_reducible exact LeO.none _)
      | (with_reducible refine LeO.ite ?_ ?_)
      | (with_reducible refine LeO.bind ?_ (fun _ => ?_))
      | exact bocageref02_Less.mono _ _ _ _ _
      | exact LeO.none _
      | refine LeO.ite ?_ ?_
      | refine LeO.bind ?_ (fun _ => ?_)
set_option maxHeartbeats 8000000 in
set_option maxRecDepth 100000 in
theorem bocageref02_Compare.calls (k : Nat) (a0_0 : Int) (a0_1 : Int) (a1_0 : Int) (a1_1 : Int) (r : Int) (w : World) (h : bocageref02_Compare.f k a0_0 a0_1 a1_0 a1_1 = some r) :
    Calls Try.prog 39 #[.agg #[.int .i64 a0_0, .int .i64 a0_1], .agg #[.int .i64 a1_0, .int .i64 a1_1]] w fun e w' => e = .returned (.int .i64 r) ∧ Below w.heap.size w w' := by
  have hu23 := Try.underlying23
  have HB := Aside0.mk (Below.refl w.heap.size w)
  have H : ((bocageref02_Less.f k a0_0 a0_1 a1_0 a1_1).bind fun t691 => (if t691 = true then (some (-1)) else ((bocageref02_Less.f k a1_0 a1_1 a0_0 a0_1).bind fun t692 => (if t692 = true then (some 1) else (some 0))))) = some r := h
  clear h
  replace H := Option.bind_eq_some_iff.mp H
  obtain ⟨t691, A30, H⟩ := H
  replace H : (if t691 = true then (some (-1)) else ((bocageref02_Less.f k a1_0 a1_1 a0_0 a0_1).bind fun t692 => (if t692 = true then (some 1) else (some 0)))) = some r := H
  have A3 := Aside0.mk A30
  clear A30
  by_cases c4 : t691 = true
  · subst c4
    have H1 : (some (-1)) = some r := by rw [if_pos rfl] at H; exact H
    clear H
    have H := H1
    clear H1
    obtain rfl := Option.some.inj H
    go_enter Try.func39, Try.ntmps39
    go_wp2_with (first | ((with_reducible refine gate_dst (N := 2) rfl ?_); refine bxe (N := 2) (cs := #[.int .i64 a0_0, .int .i64 a0_1]) (t := 23) ?_; intro gb689 hg w5 hbox hb; have BK689 := Aside0.mk (hbox); have GW689 := lsz hg HB; have GE689 := lsz hg HB; replace HB := bst HB hb; clear hb hbox hg) | ((with_reducible refine gate_dst (N := 3) rfl ?_); refine bxe (N := 3) (cs := #[.int .i64 a1_0, .int .i64 a1_1]) (t := 23) ?_; intro gb690 hg w6 hbox hb; have BK690 := Aside0.mk (hbox); have GW690 := lsz hg HB; have GE690 := lsz hg HB; replace HB := bst HB hb; have NB689_690 := nlt hg BK689; have NB690_689 := ngt hg BK689; replace BK689 := bkb BK689 hb; clear hb hbox hg; have hnb7 := NB689_690.out; have hnc7 := NB690_689.out; have hcz8_0 : w6.cell? ⟨gb689, 0, none⟩ = some (.int .i64 a0_0) := (blk_cell BK689.out 0).trans rfl; have hcz8_1 : w6.cell? ⟨gb689, 1, none⟩ = some (.int .i64 a0_1) := (blk_cell BK689.out 1).trans rfl; have hfz8_0 := blk_frozen BK689.out 0; have hfz8_1 := blk_frozen BK689.out 1; have hcz9_0 : w6.cell? ⟨gb690, 0, none⟩ = some (.int .i64 a1_0) := (blk_cell BK690.out 0).trans rfl; have hcz9_1 : w6.cell? ⟨gb690, 1, none⟩ = some (.int .i64 a1_1) := (blk_cell BK690.out 1).trans rfl; have hfz9_0 := blk_frozen BK690.out 0; have hfz9_1 := blk_frozen BK690.out 1) | ((with_reducible refine gate_callee (f := 49) rfl ?_); refine gol (some 7) Try.func49 #[.agg #[.int .i64 a0_0, .int .i64 a0_1], .agg #[.int .i64 a1_0, .int .i64 a1_1]] ?_; (with_reducible refine (bocageref02_Less.calls k a0_0 a0_1 a1_0 a1_1 true _ A3.out).mono ?_); rintro e w10 ⟨rfl, hb⟩; refine ⟨_, rfl, ?_⟩; replace BK689 := bkb BK689 hb; replace BK690 := bkb BK690 hb; replace HB := bst HB hb; (try clear hb); (try clear hb2); (try clear hk); (try clear hi)))
    go_ret
    exact ⟨by first | rfl | (simp [errW_none, errW_some] <;> rfl) | (simp [*, errW_none, errW_some] <;> rfl), by repeat (first | (with_reducible first | exact HB.out | apply below_alloc | apply pw_below_drewN | apply below_drew1 | refine below_set ?_ GE689.out | refine below_set ?_ GE690.out) | exact HB.out)⟩
  · replace c4 := Bool.eq_false_iff.mpr c4
    subst c4
    have H1 : ((bocageref02_Less.f k a1_0 a1_1 a0_0 a0_1).bind fun t692 => (if t692 = true then (some 1) else (some 0))) = some r := by rw [if_neg (show ¬ (false = true) by decide)] at H; exact H
    clear H
    have H := H1
    clear H1
    replace H := Option.bind_eq_some_iff.mp H
    obtain ⟨t692, A110, H⟩ := H
    replace H : (if t692 = true then (some 1) else (some 0)) = some r := H
    have A11 := Aside0.mk A110
    clear A110
    by_cases c12 : t692 = true
    · subst c12
      have H1 : (some 1) = some r := by rw [if_pos rfl] at H; exact H
      clear H
      have H := H1
      clear H1
      obtain rfl := Option.some.inj H
      go_enter Try.func39, Try.ntmps39
      go_wp2_with (first | ((with_reducible refine gate_dst (N := 2) rfl ?_); refine bxe (N := 2) (cs := #[.int .i64 a0_0, .int .i64 a0_1]) (t := 23) ?_; intro gb689 hg w13 hbox hb; have BK689 := Aside0.mk (hbox); have GW689 := lsz hg HB; have GE689 := lsz hg HB; replace HB := bst HB hb; clear hb hbox hg) | ((with_reducible refine gate_dst (N := 3) rfl ?_); refine bxe (N := 3) (cs := #[.int .i64 a1_0, .int .i64 a1_1]) (t := 23) ?_; intro gb690 hg w14 hbox hb; have BK690 := Aside0.mk (hbox); have GW690 := lsz hg HB; have GE690 := lsz hg HB; replace HB := bst HB hb; have NB689_690 := nlt hg BK689; have NB690_689 := ngt hg BK689; replace BK689 := bkb BK689 hb; clear hb hbox hg; have hnb15 := NB689_690.out; have hnc15 := NB690_689.out; have hcz16_0 : w14.cell? ⟨gb689, 0, none⟩ = some (.int .i64 a0_0) := (blk_cell BK689.out 0).trans rfl; have hcz16_1 : w14.cell? ⟨gb689, 1, none⟩ = some (.int .i64 a0_1) := (blk_cell BK689.out 1).trans rfl; have hfz16_0 := blk_frozen BK689.out 0; have hfz16_1 := blk_frozen BK689.out 1; have hcz17_0 : w14.cell? ⟨gb690, 0, none⟩ = some (.int .i64 a1_0) := (blk_cell BK690.out 0).trans rfl; have hcz17_1 : w14.cell? ⟨gb690, 1, none⟩ = some (.int .i64 a1_1) := (blk_cell BK690.out 1).trans rfl; have hfz17_0 := blk_frozen BK690.out 0; have hfz17_1 := blk_frozen BK690.out 1) | ((with_reducible refine gate_callee (f := 49) rfl ?_); refine gol (some 7) Try.func49 #[.agg #[.int .i64 a0_0, .int .i64 a0_1], .agg #[.int .i64 a1_0, .int .i64 a1_1]] ?_; (with_reducible refine (bocageref02_Less.calls k a0_0 a0_1 a1_0 a1_1 false _ A3.out).mono ?_); rintro e w18 ⟨rfl, hb⟩; refine ⟨_, rfl, ?_⟩; replace BK689 := bkb BK689 hb; replace BK690 := bkb BK690 hb; replace HB := bst HB hb; (try clear hb); (try clear hb2); (try clear hk); (try clear hi); have hcz19_0 : w18.cell? ⟨gb690, 0, none⟩ = some (.int .i64 a1_0) := (blk_cell BK690.out 0).trans rfl; have hcz19_1 : w18.cell? ⟨gb690, 1, none⟩ = some (.int .i64 a1_1) := (blk_cell BK690.out 1).trans rfl; have hfz19_0 := blk_frozen BK690.out 0; have hfz19_1 := blk_frozen BK690.out 1; have hcz20_0 : w18.cell? ⟨gb689, 0, none⟩ = some (.int .i64 a0_0) := (blk_cell BK689.out 0).trans rfl; have hcz20_1 : w18.cell? ⟨gb689, 1, none⟩ = some (.int .i64 a0_1) := (blk_cell BK689.out 1).trans rfl; have hfz20_0 := blk_frozen BK689.out 0; have hfz20_1 := blk_frozen BK689.out 1) | ((with_reducible refine gate_callee (f := 49) rfl ?_); refine gol (some 10) Try.func49 #[.agg #[.int .i64 a1_0, .int .i64 a1_1], .agg #[.int .i64 a0_0, .int .i64 a0_1]] ?_; (with_reducible refine (bocageref02_Less.calls k a1_0 a1_1 a0_0 a0_1 true _ A11.out).mono ?_); rintro e w21 ⟨rfl, hb⟩; refine ⟨_, rfl, ?_⟩; replace BK689 := bkb BK689 hb; replace BK690 := bkb BK690 hb; replace HB := bst HB hb; (try clear hb); (try clear hb2); (try clear hk); (try clear hi)))
      go_ret
      exact ⟨by first | rfl | (simp [errW_none, errW_some] <;> rfl) | (simp [*, errW_none, errW_some] <;> rfl), by repeat (first | (with_reducible first | exact HB.out | apply below_alloc | apply pw_below_drewN | apply below_drew1 | refine below_set ?_ GE689.out | refine below_set ?_ GE690.out) | exact HB.out)⟩
    · replace c12 := Bool.eq_false_iff.mpr c12
      subst c12
      have H1 : (some 0) = some r := by rw [if_neg (show ¬ (false = true) by decide)] at H; exact H
      clear H
      have H := H1
      clear H1
      obtain rfl := Option.some.inj H
      go_enter Try.func39, Try.ntmps39
      go_wp2_with (first | ((with_reducible refine gate_dst (N := 2) rfl ?_); refine bxe (N := 2) (cs := #[.int .i64 a0_0, .int .i64 a0_1]) (t := 23) ?_; intro gb689 hg w22 hbox hb; have BK689 := Aside0.mk (hbox); have GW689 := lsz hg HB; have GE689 := lsz hg HB; replace HB := bst HB hb; clear hb hbox hg) | ((with_reducible refine gate_dst (N := 3) rfl ?_); refine bxe (N := 3) (cs := #[.int .i64 a1_0, .int .i64 a1_1]) (t := 23) ?_; intro gb690 hg w23 hbox hb; have BK690 := Aside0.mk (hbox); have GW690 := lsz hg HB; have GE690 := lsz hg HB; replace HB := bst HB hb; have NB689_690 := nlt hg BK689; have NB690_689 := ngt hg BK689; replace BK689 := bkb BK689 hb; clear hb hbox hg; have hnb24 := NB689_690.out; have hnc24 := NB690_689.out; have hcz25_0 : w23.cell? ⟨gb689, 0, none⟩ = some (.int .i64 a0_0) := (blk_cell BK689.out 0).trans rfl; have hcz25_1 : w23.cell? ⟨gb689, 1, none⟩ = some (.int .i64 a0_1) := (blk_cell BK689.out 1).trans rfl; have hfz25_0 := blk_frozen BK689.out 0; have hfz25_1 := blk_frozen BK689.out 1; have hcz26_0 : w23.cell? ⟨gb690, 0, none⟩ = some (.int .i64 a1_0) := (blk_cell BK690.out 0).trans rfl; have hcz26_1 : w23.cell? ⟨gb690, 1, none⟩ = some (.int .i64 a1_1) := (blk_cell BK690.out 1).trans rfl; have hfz26_0 := blk_frozen BK690.out 0; have hfz26_1 := blk_frozen BK690.out 1) | ((with_reducible refine gate_callee (f := 49) rfl ?_); refine gol (some 7) Try.func49 #[.agg #[.int .i64 a0_0, .int .i64 a0_1], .agg #[.int .i64 a1_0, .int .i64 a1_1]] ?_; (with_reducible refine (bocageref02_Less.calls k a0_0 a0_1 a1_0 a1_1 false _ A3.out).mono ?_); rintro e w27 ⟨rfl, hb⟩; refine ⟨_, rfl, ?_⟩; replace BK689 := bkb BK689 hb; replace BK690 := bkb BK690 hb; replace HB := bst HB hb; (try clear hb); (try clear hb2); (try clear hk); (try clear hi); have hcz28_0 : w27.cell? ⟨gb690, 0, none⟩ = some (.int .i64 a1_0) := (blk_cell BK690.out 0).trans rfl; have hcz28_1 : w27.cell? ⟨gb690, 1, none⟩ = some (.int .i64 a1_1) := (blk_cell BK690.out 1).trans rfl; have hfz28_0 := blk_frozen BK690.out 0; have hfz28_1 := blk_frozen BK690.out 1; have hcz29_0 : w27.cell? ⟨gb689, 0, none⟩ = some (.int .i64 a0_0) := (blk_cell BK689.out 0).trans rfl; have hcz29_1 : w27.cell? ⟨gb689, 1, none⟩ = some (.int .i64 a0_1) := (blk_cell BK689.out 1).trans rfl; have hfz29_0 := blk_frozen BK689.out 0; have hfz29_1 := blk_frozen BK689.out 1) | ((with_reducible refine gate_callee (f := 49) rfl ?_); refine gol (some 10) Try.func49 #[.agg #[.int .i64 a1_0, .int .i64 a1_1], .agg #[.int .i64 a0_0, .int .i64 a0_1]] ?_; (with_reducible refine (bocageref02_Less.calls k a1_0 a1_1 a0_0 a0_1 false _ A11.out).mono ?_); rintro e w30 ⟨rfl, hb⟩; refine ⟨_, rfl, ?_⟩; replace BK689 := bkb BK689 hb; replace BK690 := bkb BK690 hb; replace HB := bst HB hb; (try clear hb); (try clear hb2); (try clear hk); (try clear hi)))
      go_ret
      exact ⟨by first | rfl | (simp [errW_none, errW_some] <;> rfl) | (simp [*, errW_none, errW_some] <;> rfl), by repeat (first | (with_reducible first | exact HB.out | apply below_alloc | apply pw_below_drewN | apply below_drew1 | refine below_set ?_ GE689.out | refine below_set ?_ GE690.out) | exact HB.out)⟩
end Go.Proofs.Ytkkbmjfhpngalaa.Print
