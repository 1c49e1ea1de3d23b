import Derived.Test.YtagcloidicnhhaaPrint1
import Derived.Test.YtagcloidicnhhaaPrint2
import Derived.Test.YtagcloidicnhhaaPrint5
namespace Go.Proofs.Ytagcloidicnhhaa.Print
open Go.RowKit Go.Proofs.YtagcloidicnhhaaW.PrintWords Go.Proofs.YtagcloidicnhhaaW.PrintLast Go.Proofs.YtagcloidicnhhaaW.PrintMore
set_option linter.unusedVariables false
set_option linter.unusedSimpArgs false
set_option maxHeartbeats 8000000 in
set_option maxRecDepth 100000 in
theorem bocagelaw13_CombRises.calls (k : Nat) (a0 a1_0 a1_1 a2 x y : Int) (w : World) (ha : bocagelaw13_alive.f k = some true) (e1 : comb_Do.f a0 a1_0 a2 = some x) (e2 : comb_Do.f a0 a1_1 a2 = some y) (hr : a1_0 ≤ a1_1 → x ≤ y ∧ (a0 = 3 → x ≤ a2) ∧ (a0 = 4 → a2 ≤ x)) :
    Calls Try.prog 6 #[.int .i64 a0, .agg #[.int .i64 a1_0, .int .i64 a1_1], .int .i64 a2] w fun e w' => e = .returned (.bool true) ∧ Below w.heap.size w w' := by
  have HA := Aside0.mk ha
  clear ha
  have E1 := Aside0.mk e1
  have E2 := Aside0.mk e2
  have HR := Aside0.mk hr
  clear e1 e2 hr
  by_cases h1 : a0 < 1
  · have d1 : decide (a0 < 1) = true := decide_eq_true h1
    have H1 := Aside0.mk h1
    clear h1
    go_enter Try.func6, Try.ntmps6
    go_wp2_with (first | ((with_reducible refine gate_dst (N := 4) rfl ?_); refine box_event ?hg (N := 4) ?hd (cs := #[.int .i64 a1_0, .int .i64 a1_1]) (t := 33) ?hr ?_; (case hd => rfl); (case hg => rfl); (case hr => first | (go_simp; done) | (go_simp; rfl)); intro gb hg w1 hbox hb; have BK := Aside0.mk hbox; have HB := Aside0.mk (below_step (Below.refl w.heap.size w) hb); have GE := Aside0.mk (show w.heap.size ≤ gb by rw [hg]; exact Nat.le_refl _); have c0 := (blk_cell hbox 0).trans rfl; have c1 := (blk_cell hbox 1).trans rfl; clear hb hbox hg) | (go_at_call 10; (with_reducible refine (bocagelaw13_alive.calls k true _ HA.out).mono ?_); rintro e w9 ⟨rfl, hb9⟩; have HB9 := Aside0.mk (below_step (by repeat (first | (with_reducible first | exact HB2.out | exact HB.out | apply below_alloc | apply pw_below_drewN | apply below_drew1) | exact HB2.out | exact HB.out)) hb9); clear hb9))
    go_ret
    exact ⟨rfl, HB9.out⟩
  · have d1 : decide (a0 < 1) = false := decide_eq_false h1
    have H1 := Aside0.mk h1
    clear h1
    by_cases h2 : 4 < a0
    · have d2 : decide (4 < a0) = true := decide_eq_true h2
      have H2 := Aside0.mk h2
      clear h2
      go_enter Try.func6, Try.ntmps6
      go_wp2_with (first | ((with_reducible refine gate_dst (N := 4) rfl ?_); refine box_event ?hg (N := 4) ?hd (cs := #[.int .i64 a1_0, .int .i64 a1_1]) (t := 33) ?hr ?_; (case hd => rfl); (case hg => rfl); (case hr => first | (go_simp; done) | (go_simp; rfl)); intro gb hg w1 hbox hb; have BK := Aside0.mk hbox; have HB := Aside0.mk (below_step (Below.refl w.heap.size w) hb); have GE := Aside0.mk (show w.heap.size ≤ gb by rw [hg]; exact Nat.le_refl _); have c0 := (blk_cell hbox 0).trans rfl; have c1 := (blk_cell hbox 1).trans rfl; clear hb hbox hg) | (go_at_call 10; (with_reducible refine (bocagelaw13_alive.calls k true _ HA.out).mono ?_); rintro e w9 ⟨rfl, hb9⟩; have HB9 := Aside0.mk (below_step (by repeat (first | (with_reducible first | exact HB2.out | exact HB.out | apply below_alloc | apply pw_below_drewN | apply below_drew1) | exact HB2.out | exact HB.out)) hb9); clear hb9))
      go_ret
      exact ⟨rfl, HB9.out⟩
    · have d2 : decide (4 < a0) = false := decide_eq_false h2
      have H2 := Aside0.mk h2
      clear h2
      by_cases h3 : a1_1 < a1_0
      · have d3 : decide (a1_1 < a1_0) = true := decide_eq_true h3
        have H3 := Aside0.mk h3
        clear h3
        go_enter Try.func6, Try.ntmps6
        go_wp2_with (first | ((with_reducible refine gate_dst (N := 4) rfl ?_); refine box_event ?hg (N := 4) ?hd (cs := #[.int .i64 a1_0, .int .i64 a1_1]) (t := 33) ?hr ?_; (case hd => rfl); (case hg => rfl); (case hr => first | (go_simp; done) | (go_simp; rfl)); intro gb hg w1 hbox hb; have BK := Aside0.mk hbox; have HB := Aside0.mk (below_step (Below.refl w.heap.size w) hb); have GE := Aside0.mk (show w.heap.size ≤ gb by rw [hg]; exact Nat.le_refl _); have c0 := (blk_cell hbox 0).trans rfl; have c1 := (blk_cell hbox 1).trans rfl; clear hb hbox hg) | (go_at_call 10; (with_reducible refine (bocagelaw13_alive.calls k true _ HA.out).mono ?_); rintro e w9 ⟨rfl, hb9⟩; have HB9 := Aside0.mk (below_step (by repeat (first | (with_reducible first | exact HB2.out | exact HB.out | apply below_alloc | apply pw_below_drewN | apply below_drew1) | exact HB2.out | exact HB.out)) hb9); clear hb9))
        go_ret
        exact ⟨rfl, HB9.out⟩
      · have d3 : decide (a1_1 < a1_0) = false := decide_eq_false h3
        have H3 := Aside0.mk h3
        clear h3
        go_enter Try.func6, Try.ntmps6
        go_wp2_with ((with_reducible refine gate_dst (N := 4) rfl ?_); refine box_event ?hg (N := 4) ?hd (cs := #[.int .i64 a1_0, .int .i64 a1_1]) (t := 33) ?hr ?_; (case hd => rfl); (case hg => rfl); (case hr => first | (go_simp; done) | (go_simp; rfl)); intro gb hg w1 hbox hb; have BK := Aside0.mk hbox; have HB := Aside0.mk (below_step (Below.refl w.heap.size w) hb); have GE := Aside0.mk (show w.heap.size ≤ gb by rw [hg]; exact Nat.le_refl _); have c0 := (blk_cell hbox 0).trans rfl; have c1 := (blk_cell hbox 1).trans rfl; clear hb hbox hg)
        obtain ⟨q1, q2, q3⟩ := HR.out (by have := H3.out; omega)
        clear HR
        have d4 : decide (x ≤ y) = true := decide_eq_true q1
        clear q1
        go_region_held3 (fun w' => w'.cell? ⟨gb, 0, none⟩ = some (.int .i64 a1_0) ∧ w'.cell? ⟨gb, 1, none⟩ = some (.int .i64 a1_1))
          (first | exact ⟨c0, c1⟩)
          ((first | (go_at_call 14; (with_reducible refine (comb_Do.calls a0 a1_0 a2 x _ E1.out).mono ?_); rintro e w2 ⟨rfl, hb2⟩; have BK' := Aside0.mk (blk_below (by (with_reducible repeat (first | refine blk_drewN ?_ _ | refine blk_drew ?_ | refine blk_alloc ?_ _)); exact BK.out) hb2); have HB' := Aside0.mk (below_step (by repeat (first | (with_reducible first | exact HB.out | apply below_alloc | apply pw_below_drewN | apply below_drew1) | exact HB.out)) hb2); have c0 := (blk_cell BK'.out 0).trans rfl; have c1 := (blk_cell BK'.out 1).trans rfl; clear hb2) | (go_at_call 14; (with_reducible refine (comb_Do.calls a0 a1_1 a2 y _ E2.out).mono ?_); rintro e w3 ⟨rfl, hb3⟩; have BK'' := Aside0.mk (blk_below (by (with_reducible repeat (first | refine blk_drewN ?_ _ | refine blk_drew ?_ | refine blk_alloc ?_ _)); exact BK'.out) hb3); have HB2 := Aside0.mk (below_step (by repeat (first | (with_reducible first | exact HB'.out | apply below_alloc | apply pw_below_drewN | apply below_drew1) | exact HB'.out)) hb3); have c0 := (blk_cell BK''.out 0).trans rfl; have c1 := (blk_cell BK''.out 1).trans rfl; clear hb3)))
        all_goals
          by_cases h5 : a0 = 3
          · have d5 : (a0 != 3) = false := bne_eq_false_iff_eq.mpr h5
            have d6 : decide (x ≤ a2) = true := decide_eq_true (q2 h5)
            have d7 : (a0 != 4) = true := bne_iff_ne.mpr (by omega)
            clear h5 q2 q3
            go_wp2_with (go_at_call 10; (with_reducible refine (bocagelaw13_alive.calls k true _ HA.out).mono ?_); rintro e w9 ⟨rfl, hb9⟩; have HB9 := Aside0.mk (below_step (by repeat (first | (with_reducible first | exact HB2.out | exact HB.out | apply below_alloc | apply pw_below_drewN | apply below_drew1) | exact HB2.out | exact HB.out)) hb9); clear hb9)
            go_ret
            exact ⟨rfl, HB9.out⟩
          · have d5 : (a0 != 3) = true := bne_iff_ne.mpr h5
            by_cases h6 : a0 = 4
            · have d6 : (a0 != 4) = false := bne_eq_false_iff_eq.mpr h6
              have d7 : decide (a2 ≤ x) = true := decide_eq_true (q3 h6)
              clear h5 h6 q2 q3
              go_wp2_with (go_at_call 10; (with_reducible refine (bocagelaw13_alive.calls k true _ HA.out).mono ?_); rintro e w9 ⟨rfl, hb9⟩; have HB9 := Aside0.mk (below_step (by repeat (first | (with_reducible first | exact HB2.out | exact HB.out | apply below_alloc | apply pw_below_drewN | apply below_drew1) | exact HB2.out | exact HB.out)) hb9); clear hb9)
              go_ret
              exact ⟨rfl, HB9.out⟩
            · have d6 : (a0 != 4) = true := bne_iff_ne.mpr h6
              clear h5 h6 q2 q3
              go_wp2_with (go_at_call 10; (with_reducible refine (bocagelaw13_alive.calls k true _ HA.out).mono ?_); rintro e w9 ⟨rfl, hb9⟩; have HB9 := Aside0.mk (below_step (by repeat (first | (with_reducible first | exact HB2.out | exact HB.out | apply below_alloc | apply pw_below_drewN | apply below_drew1) | exact HB2.out | exact HB.out)) hb9); clear hb9)
              go_ret
              exact ⟨rfl, HB9.out⟩
def bocagelaw13_CombRises.Pure : Prop := ∀ (a0 a1_0 a1_1 a2 : Int), (Lit.int .i64 a0).wf = true → (Lit.int .i64 a1_0).wf = true → (Lit.int .i64 a1_1).wf = true → (Lit.int .i64 a2).wf = true →
  ∃ k x y, bocagelaw13_alive.f k = some true ∧ comb_Do.f a0 a1_0 a2 = some x ∧ comb_Do.f a0 a1_1 a2 = some y ∧ (a1_0 ≤ a1_1 → x ≤ y ∧ (a0 = 3 → x ≤ a2) ∧ (a0 = 4 → a2 ≤ x))
theorem bocagelaw13_CombRises.walk (P : bocagelaw13_CombRises.Pure) (a0 a1_0 a1_1 a2 : Int) (w : World) (w0 : (Lit.int .i64 a0).wf = true) (w1 : (Lit.int .i64 a1_0).wf = true) (w2 : (Lit.int .i64 a1_1).wf = true) (w3 : (Lit.int .i64 a2).wf = true) :
    Calls Try.prog 6 #[.int .i64 a0, .agg #[.int .i64 a1_0, .int .i64 a1_1], .int .i64 a2] w fun e w' => e = .returned (.bool true) ∧ Below w.heap.size w w' := by
  obtain ⟨k, x, y, h0, h1, h2, h3⟩ := P a0 a1_0 a1_1 a2 w0 w1 w2 w3
  exact bocagelaw13_CombRises.calls k a0 a1_0 a1_1 a2 x y w h0 h1 h2 h3
end Go.Proofs.Ytagcloidicnhhaa.Print
