-- Laid by wip/print/bprint.py of this repo, over the kit's printer, with functions given by hand; not trusted: Lean checks it.
import Derived.Test.YtcgpgbhhlepefaaPrint0
import Derived.Test.YtcgpgbhhlepefaaPrint1
import Derived.Test.YtcgpgbhhlepefaaPrint2
import Derived.Test.YtcgpgbhhlepefaaPrint3
import Derived.Test.YtcgpgbhhlepefaaPrint4
namespace Go.Proofs.Ytcgpgbhhlepefaa.Print
open Go.RowKit Go.Proofs.YtcgpgbhhlepefaaW.PrintWords Go.Proofs.YtcgpgbhhlepefaaW.PrintLast Go.Proofs.YtcgpgbhhlepefaaW.PrintMore
attribute [local go_sem] max2_int min2_int max_two min_two max_three min_three max_four min_four   -- for this text's walks alone
set_option linter.unusedVariables false
set_option linter.unusedSimpArgs false

/-! ### bocageref01_Ceil: function 19 -/
def bocageref01_Ceil.j0 : Nat → Int → List Int → Option (Int × Bool)
  | 0, _, _ => none
  | k + 1, x194000, x194001 => (bocageref01_Is.f k x194000 x194001).bind fun t202 => (if t202 = true then ((bocageref01_End.f k x194000 x194001).bind fun t203 => (some (t203, true))) else (some (0, false)))
def bocageref01_Ceil.f (k : Nat) (a0 : Int) (a1 : Int) : Option (Int × Bool) := if a1 < 1 then (some (0, false)) else (if a1 = 0 then (none) else ((bocageref01_Of.f k a0).bind fun bt177 => ((bocageref01_Of.f k (Int.tmod a0 a1)).bind fun bt181 => ((bocageref01_Minus.f bt181.1 bt181.2).bind fun bt185 => ((bocageref01_Plus.f k bt177.1 bt177.2 bt185.1 bt185.2).bind fun bt189 => (if (Int.tmod a0 a1) > 0 then ((bocageref01_Of.f k a1).bind fun bt194 => ((bocageref01_Plus.f k bt189.1 bt189.2 bt194.1 bt194.2).bind fun bt198 => (bocageref01_Ceil.j0 k bt198.1 bt198.2))) else (bocageref01_Ceil.j0 k bt189.1 bt189.2)))))))
theorem bocageref01_Ceil.mono_l : ∀ k, (∀ y0 y1, LeO (bocageref01_Ceil.j0 k y0 y1) (bocageref01_Ceil.j0 (k + 1) y0 y1))
  | 0 => fun _ _ r h => by simp [bocageref01_Ceil.j0] at h
  | k + 1 => by
    have ih0 := bocageref01_Ceil.mono_l k
    · intro y0 y1
      unfold bocageref01_Ceil.j0
      repeat' first
      | (with_reducible exact ih0 _ _)
      | (with_reducible exact bocageref01_End.mono _ _ _)
      | (with_reducible exact bocageref01_Is.mono _ _ _)
      | (with_reducible exact bocageref01_Of.mono _ _)
      | (with_reducible exact bocageref01_Plus.mono _ _ _ _ _)
      | (with_reducible exact LeO.refl _)
      | (with_reducible exact LeO.none _)
      | (with_reducible refine LeO.ite ?_ ?_)
      | (with_reducible refine LeO.bind ?_ (fun _ => ?_))
      | exact ih0 _ _
      | exact bocageref01_End.mono _ _ _
      | exact bocageref01_Is.mono _ _ _
      | exact bocageref01_Of.mono _ _
      | exact bocageref01_Plus.mono _ _ _ _ _
      | exact LeO.none _
      | refine LeO.ite ?_ ?_
      | refine LeO.bind ?_ (fun _ => ?_)
theorem bocageref01_Ceil.mono : ∀ a0 a1 k, LeO (bocageref01_Ceil.f k a0 a1) (bocageref01_Ceil.f (k + 1) a0 a1) := by
  intro a0 a1 k
  have ih0 := bocageref01_Ceil.mono_l k
  unfold bocageref01_Ceil.f
  repeat' first
      | (with_reducible exact ih0 _ _)
      | (with_reducible exact bocageref01_End.mono _ _ _)
      | (with_reducible exact bocageref01_Is.mono _ _ _)
      | (with_reducible exact bocageref01_Of.mono _ _)
      | (with_reducible exact bocageref01_Plus.mono _ _ _ _ _)
      | (with_reducible exact LeO.refl _)
      | (with_reducible exact LeO.none _)
      | (with_reducible refine LeO.ite ?_ ?_)
      | (with_reducible refine LeO.bind ?_ (fun _ => ?_))
      | exact ih0 _ _
      | exact bocageref01_End.mono _ _ _
      | exact bocageref01_Is.mono _ _ _
      | exact bocageref01_Of.mono _ _
      | exact bocageref01_Plus.mono _ _ _ _ _
      | exact LeO.none _
      | refine LeO.ite ?_ ?_
      | refine LeO.bind ?_ (fun _ => ?_)
set_option maxHeartbeats 8000000 in
set_option maxRecDepth 100000 in
theorem bocageref01_Ceil.calls (k : Nat) (a0 : Int) (a1 : Int) (r1 : Int) (r2 : Bool) (w : World) (h : bocageref01_Ceil.f k a0 a1 = some (r1, r2)) :
    Calls Try.prog 19 #[.int .i64 a0, .int .i64 a1] w fun e w' => e = .returned (.tuple #[.int .i64 r1, .bool r2]) ∧ Below w.heap.size w w' := by
  have hu24 := Try.underlying24
  have HB := Aside0.mk (Below.refl w.heap.size w)
  have H : (if a1 < 1 then (some (0, false)) else (if a1 = 0 then (none) else ((bocageref01_Of.f k a0).bind fun bt177 => ((bocageref01_Of.f k (Int.tmod a0 a1)).bind fun bt181 => ((bocageref01_Minus.f bt181.1 bt181.2).bind fun bt185 => ((bocageref01_Plus.f k bt177.1 bt177.2 bt185.1 bt185.2).bind fun bt189 => (if (Int.tmod a0 a1) > 0 then ((bocageref01_Of.f k a1).bind fun bt194 => ((bocageref01_Plus.f k bt189.1 bt189.2 bt194.1 bt194.2).bind fun bt198 => (bocageref01_Ceil.j0 k bt198.1 bt198.2))) else (bocageref01_Ceil.j0 k bt189.1 bt189.2)))))))) = some (r1, r2) := h
  clear h
  by_cases c3 : a1 < 1
  · rw [if_pos c3] at H
    have c3b0 : decide (a1 < 1) = true := decide_eq_true c3
    clear c3
    simp only [Option.some.injEq, Prod.mk.injEq] at H
    obtain ⟨rfl, rfl⟩ := H
    go_enter Try.func19, Try.ntmps19
    go_wp2
    go_ret2
    exact ⟨by first | rfl | (simp [errW_none, errW_some] <;> rfl) | (simp [*, errW_none, errW_some] <;> rfl), by repeat (first | (with_reducible first | exact HB.out | apply below_alloc | apply pw_below_drewN | apply below_drew1) | exact HB.out)⟩
  · rw [if_neg c3] at H
    have c3b0 : decide (a1 < 1) = false := decide_eq_false c3
    clear c3
    by_cases c4 : a1 = 0
    · rw [if_pos c4] at H
      exact absurd H (by simp)
    · rw [if_neg c4] at H
      have c4b0 : (a1 == 0) = false := beq_eq_false_iff_ne.mpr c4
      have c4b1 : (a1 != 0) = true := bne_iff_ne.mpr c4
      replace H := Option.bind_eq_some_iff.mp H
      obtain ⟨⟨t177, t178⟩, A50, H⟩ := H
      replace H : ((bocageref01_Of.f k (Int.tmod a0 a1)).bind fun bt181 => ((bocageref01_Minus.f bt181.1 bt181.2).bind fun bt185 => ((bocageref01_Plus.f k t177 t178 bt185.1 bt185.2).bind fun bt189 => (if (Int.tmod a0 a1) > 0 then ((bocageref01_Of.f k a1).bind fun bt194 => ((bocageref01_Plus.f k bt189.1 bt189.2 bt194.1 bt194.2).bind fun bt198 => (bocageref01_Ceil.j0 k bt198.1 bt198.2))) else (bocageref01_Ceil.j0 k bt189.1 bt189.2))))) = some (r1, r2) := H
      have A5 := Aside0.mk A50
      clear A50
      replace H := Option.bind_eq_some_iff.mp H
      obtain ⟨⟨t181, t182⟩, A60, H⟩ := H
      replace H : ((bocageref01_Minus.f t181 t182).bind fun bt185 => ((bocageref01_Plus.f k t177 t178 bt185.1 bt185.2).bind fun bt189 => (if (Int.tmod a0 a1) > 0 then ((bocageref01_Of.f k a1).bind fun bt194 => ((bocageref01_Plus.f k bt189.1 bt189.2 bt194.1 bt194.2).bind fun bt198 => (bocageref01_Ceil.j0 k bt198.1 bt198.2))) else (bocageref01_Ceil.j0 k bt189.1 bt189.2)))) = some (r1, r2) := H
      have A6 := Aside0.mk A60
      clear A60
      replace H := Option.bind_eq_some_iff.mp H
      obtain ⟨⟨t185, t186⟩, A70, H⟩ := H
      replace H : ((bocageref01_Plus.f k t177 t178 t185 t186).bind fun bt189 => (if (Int.tmod a0 a1) > 0 then ((bocageref01_Of.f k a1).bind fun bt194 => ((bocageref01_Plus.f k bt189.1 bt189.2 bt194.1 bt194.2).bind fun bt198 => (bocageref01_Ceil.j0 k bt198.1 bt198.2))) else (bocageref01_Ceil.j0 k bt189.1 bt189.2))) = some (r1, r2) := H
      have A7 := Aside0.mk A70
      clear A70
      replace H := Option.bind_eq_some_iff.mp H
      obtain ⟨⟨t189, t190⟩, A80, H⟩ := H
      replace H : (if (Int.tmod a0 a1) > 0 then ((bocageref01_Of.f k a1).bind fun bt194 => ((bocageref01_Plus.f k t189 t190 bt194.1 bt194.2).bind fun bt198 => (bocageref01_Ceil.j0 k bt198.1 bt198.2))) else (bocageref01_Ceil.j0 k t189 t190)) = some (r1, r2) := H
      have A8 := Aside0.mk A80
      clear A80
      have HC9 := Aside0.mk H
      clear H
      go_enter Try.func19, Try.ntmps19
      go_upto_if 20 with (first | ((with_reducible refine gate_callee (f := 10) rfl ?_); refine goesL_ (some 14) rfl rfl Try.func10 (by kernel_rfl) rfl #[.int .i64 a0] rfl (by (try simp only [List.map_toArray, List.map_cons, List.map_nil]); first | done | rfl | (simp only [List.length_drop, List.length_take]; rfl)) ?_; (with_reducible refine (bocageref01_Of.calls k a0 t177 t178 _ A5.out).mono ?_); rintro e w10 ⟨v179, rfl, ho0, hb⟩; refine ⟨_, rfl, ?_⟩; have n0_ := Aside0.mk (Kd.R_lower ho0 (below_size (by repeat (first | (with_reducible first | exact HB.out | apply below_alloc | apply pw_below_drewN | apply below_drew1) | exact HB.out)))); have n1_ := Aside0.mk (below_step (by repeat (first | (with_reducible first | exact HB.out | apply below_alloc | apply pw_below_drewN | apply below_drew1) | exact HB.out)) hb); clear HB; have HO180 := n0_; have HB := n1_; clear n0_ n1_; (try clear hb); (try clear hb2); (try clear hk); (try clear hi); (try clear ho0)) | ((with_reducible refine gate_callee (f := 10) rfl ?_); refine goesL_ (some 16) rfl rfl Try.func10 (by kernel_rfl) rfl #[.int .i64 (Int.tmod a0 a1)] rfl (by (try simp only [List.map_toArray, List.map_cons, List.map_nil]); first | done | rfl | (simp only [List.length_drop, List.length_take]; rfl)) ?_; (with_reducible refine (bocageref01_Of.calls k (Int.tmod a0 a1) t181 t182 _ A6.out).mono ?_); rintro e w11 ⟨v183, rfl, ho0, hb⟩; refine ⟨_, rfl, ?_⟩; have n0_ := Aside0.mk (Kd.R_elder' (by (with_reducible repeat (first | apply Kd.R_alloc | apply Kd.R_drewN | apply Kd.R_drew)); exact HO180.out) (Kd.R_base ho0) hb); have n1_ := Aside0.mk (Kd.R_lower (Kd.R_new' ho0 (Kd.R_lt (by (with_reducible repeat (first | apply Kd.R_alloc | apply Kd.R_drewN | apply Kd.R_drew)); exact HO180.out))) (below_size (by repeat (first | (with_reducible first | exact HB.out | apply below_alloc | apply pw_below_drewN | apply below_drew1) | exact HB.out)))); have n2_ := Aside0.mk (below_step (by repeat (first | (with_reducible first | exact HB.out | apply below_alloc | apply pw_below_drewN | apply below_drew1) | exact HB.out)) hb); clear HO180; clear HB; have HO180 := n0_; have HO184 := n1_; have HB := n2_; clear n0_ n1_ n2_; (try clear hb); (try clear hb2); (try clear hk); (try clear hi); (try clear ho0); obtain ⟨Ao12, co12, eo12⟩ := Kd.R_slice HO184.out; subst eo12) | ((with_reducible refine gate_callee (f := 16) rfl ?_); refine goesL_ (some 17) rfl rfl Try.func16 (by kernel_rfl) rfl #[.agg #[.int .i64 t181, .slice Ao12 t182.length co12]] rfl (by (try simp only [List.map_toArray, List.map_cons, List.map_nil]); first | done | rfl | (simp only [List.length_drop, List.length_take]; rfl)) ?_; (with_reducible refine (bocageref01_Minus.calls t181 (fun k_ => some k_ = (.slice Ao12 t182.length co12 : Value).ownBlock) _ _ t182 t185 t186 _ ?side1 A7.out).mono ?_); (case side1 => exact Kd.R_V (Kd.R_tight rfl (HO184.out))); rintro e w13 ⟨v187, rfl, ho0, hb⟩; refine ⟨_, rfl, ?_⟩; have n0_ := Aside0.mk (Kd.R_below (by (with_reducible repeat (first | apply Kd.R_alloc | apply Kd.R_drewN | apply Kd.R_drew)); exact HO180.out) hb); have n1_ := Aside0.mk (Kd.R_below (by (with_reducible repeat (first | apply Kd.R_alloc | apply Kd.R_drewN | apply Kd.R_drew)); exact HO184.out) hb); have n2_ := Aside0.mk (Kd.V_lower (Kd.V_mono (ok' := fun k_ => some k_ ≠ (v179 : Value).ownBlock) ho0 (fun k_ hk_ => Or.elim hk_ (fun hs_ => ((HO184.out).1 k_ hs_.symm).2) (fun hn_ => (Kd.fresh' (Kd.R_lt (by (with_reducible repeat (first | apply Kd.R_alloc | apply Kd.R_drewN | apply Kd.R_drew)); exact HO180.out)) k_ hn_)))) (below_size (by repeat (first | (with_reducible first | exact HB.out | apply below_alloc | apply pw_below_drewN | apply below_drew1) | exact HB.out)))); have n3_ := Aside0.mk (below_step (by repeat (first | (with_reducible first | exact HB.out | apply below_alloc | apply pw_below_drewN | apply below_drew1) | exact HB.out)) hb); clear HO180; clear HO184; clear HB; have HO180 := n0_; have HO184 := n1_; have HO188 := n2_; have HB := n3_; clear n0_ n1_ n2_ n3_; (try clear hb); (try clear hb2); (try clear hk); (try clear hi); (try clear ho0); obtain ⟨Ao14, co14, eo14⟩ := Kd.R_slice HO180.out; subst eo14; obtain ⟨Ao15, co15, eo15⟩ := Kd.V_slice HO188.out; subst eo15) | ((with_reducible refine gate_callee (f := 14) rfl ?_); refine goesL_ (some 18) rfl rfl Try.func14 (by kernel_rfl) rfl #[.agg #[.int .i64 t177, .slice Ao14 t178.length co14], .agg #[.int .i64 t185, .slice Ao15 t186.length co15]] rfl (by (try simp only [List.map_toArray, List.map_cons, List.map_nil]); first | done | rfl | (simp only [List.length_drop, List.length_take]; rfl)) ?_; (with_reducible refine (bocageref01_Plus.calls k t177 (fun k_ => some k_ = (.slice Ao14 t178.length co14 : Value).ownBlock) _ _ t178 t185 (fun k_ => some k_ ≠ (.slice Ao14 t178.length co14 : Value).ownBlock) _ _ t186 t189 t190 _ ?side1 ?side2 A8.out).mono ?_); (case side1 => exact Kd.R_V (Kd.R_tight rfl (HO180.out))); (case side2 => exact HO188.out); rintro e w16 ⟨v191, rfl, ho0, hb⟩; refine ⟨_, rfl, ?_⟩; have n0_ := Aside0.mk (Kd.R_below (by (with_reducible repeat (first | apply Kd.R_alloc | apply Kd.R_drewN | apply Kd.R_drew)); exact HO180.out) hb); have n1_ := Aside0.mk (Kd.R_below (by (with_reducible repeat (first | apply Kd.R_alloc | apply Kd.R_drewN | apply Kd.R_drew)); exact HO184.out) hb); have n2_ := Aside0.mk (Kd.V_below (by (with_reducible repeat (first | apply Kd.V_alloc | apply Kd.V_drewN | apply Kd.V_drew)); exact HO188.out) hb); have n3_ := Aside0.mk (Kd.V_lower (Kd.V_mono (ok' := fun k_ => True) ho0 (fun k_ hk_ => trivial)) (below_size (by repeat (first | (with_reducible first | exact HB.out | apply below_alloc | apply pw_below_drewN | apply below_drew1) | exact HB.out)))); have n4_ := Aside0.mk (below_step (by repeat (first | (with_reducible first | exact HB.out | apply below_alloc | apply pw_below_drewN | apply below_drew1) | exact HB.out)) hb); clear HO180; clear HO184; clear HO188; clear HB; have HO180 := n0_; have HO184 := n1_; have HO188 := n2_; have HO192 := n3_; have HB := n4_; clear n0_ n1_ n2_ n3_ n4_; (try clear hb); (try clear hb2); (try clear hk); (try clear hi); (try clear ho0)) | ((with_reducible refine gate_dst (N := 7) rfl ?_); refine box_event ?hg (N := 7) ?hd (cs := #[.int .i64 0, .slice none 0 0]) (t := 24) ?hr ?_; (case hd => rfl); (case hg => rfl); (case hr => first | (go_simp; done) | (go_simp; rfl)); intro gb193 hg w17 hbox hb; have n0_ := Aside0.mk (Kd.R_below (by (with_reducible repeat (first | apply Kd.R_alloc | apply Kd.R_drewN | apply Kd.R_drew)); exact HO180.out) hb); have n1_ := Aside0.mk (Kd.R_below (by (with_reducible repeat (first | apply Kd.R_alloc | apply Kd.R_drewN | apply Kd.R_drew)); exact HO184.out) hb); have n2_ := Aside0.mk (Kd.V_below (Kd.V_elderB (by (with_reducible repeat (first | apply Kd.V_alloc | apply Kd.V_drewN | apply Kd.V_drew)); exact HO188.out) gb193 (Nat.le_of_eq hg.symm)) hb); have n3_ := Aside0.mk (Kd.V_below (Kd.V_elderB (by (with_reducible repeat (first | apply Kd.V_alloc | apply Kd.V_drewN | apply Kd.V_drew)); exact HO192.out) gb193 (Nat.le_of_eq hg.symm)) hb); have n4_ := Aside0.mk (below_step (by repeat (first | (with_reducible first | exact HB.out | apply below_alloc | apply pw_below_drewN | apply below_drew1) | exact HB.out)) hb); have n5_ := Aside0.mk (hbox); have n6_ := Aside0.mk ((by rw [hg]; exact (below_size (by repeat (first | (with_reducible first | exact HB.out | apply below_alloc | apply pw_below_drewN | apply below_drew1) | exact HB.out))) : w.heap.size ≤ gb193)); have n7_ := Aside0.mk ((by rw [hg]; exact (below_size (by repeat (first | (with_reducible first | exact HB.out | apply below_alloc | apply pw_below_drewN | apply below_drew1) | exact HB.out))) : w.heap.size ≤ gb193)); clear HO180; clear HO184; clear HO188; clear HO192; clear HB; have HO180 := n0_; have HO184 := n1_; have HO188 := n2_; have HO192 := n3_; have HB := n4_; have BK193 := n5_; have GW193 := n6_; have GE193 := n7_; clear n0_ n1_ n2_ n3_ n4_ n5_ n6_ n7_; clear hb hbox hg; have hcz18_0 : w17.cell? ⟨gb193, 0, none⟩ = some (.int .i64 0) := (blk_cell BK193.out 0).trans rfl; have hcz18_1 : w17.cell? ⟨gb193, 1, none⟩ = some (.slice none 0 0) := (blk_cell BK193.out 1).trans rfl; have hfz18_0 := blk_frozen BK193.out 0; have hfz18_1 := blk_frozen BK193.out 1; obtain ⟨Ao19, co19, eo19⟩ := Kd.V_slice HO192.out; subst eo19))
      (try simp only [Act.put, List.setIfInBounds_toArray, List.set_cons_zero, List.set_cons_succ])
      go_cut [] (fun wc => ∃ (kq : Nat) (x194000_8 : Int) (x194001_8 : List Int) (u194001 : Value), Aside0 (bocageref01_Ceil.j0 kq x194000_8 x194001_8 = some (r1, r2)) ∧ Aside0 (kq ≤ k) ∧ Aside0 (Kd.V (Kd.int .i64) 3 wc w.heap.size (fun k_ => k_ ≠ gb193) u194001 x194001_8) ∧ Aside0 (wc.heap[gb193]? = some (.cells #[.int .i64 x194000_8, u194001] 24 (0, 0))) ∧ Aside0 (Below w.heap.size w wc))
      case first =>
        have H := HC9.out
        clear HC9
        by_cases c20 : (Int.tmod a0 a1) > 0
        · rw [if_pos c20] at H
          have c20b0 : decide (0 < (Int.tmod a0 a1)) = true := decide_eq_true c20
          clear c20
          (first | rw [c20b0] | (simp only [i64_w, i32_w]; rw [c20b0]) | skip)
          replace H := Option.bind_eq_some_iff.mp H
          obtain ⟨⟨t194, t195⟩, A210, H⟩ := H
          replace H : ((bocageref01_Plus.f k t189 t190 t194 t195).bind fun bt198 => (bocageref01_Ceil.j0 k bt198.1 bt198.2)) = some (r1, r2) := H
          have A21 := Aside0.mk A210
          clear A210
          replace H := Option.bind_eq_some_iff.mp H
          obtain ⟨⟨t198, t199⟩, A220, H⟩ := H
          replace H : (bocageref01_Ceil.j0 k t198 t199) = some (r1, r2) := H
          have A22 := Aside0.mk A220
          clear A220
          have H' := Aside0.mk H
          clear H
          try go_wp2
          have n0_ : Aside0 (Kd.R (Kd.int .i64) 3 ((w17.setCell ⟨gb193, 0, none⟩ (.int .i64 t189)).setCell ⟨gb193, 1, none⟩ (.slice Ao19 t190.length co19)) w.heap.size (fun k_ => some k_ ≠ (.slice Ao12 t182.length co12 : Value).ownBlock) (.slice Ao14 t178.length co14) t178) := ⟨by (with_reducible repeat (first | apply Kd.R_alloc | apply Kd.R_drewN | apply Kd.R_drew)); exact Kd.R_mono (Kd.R_far (p := ⟨gb193, 1, none⟩) (Kd.R_far (p := ⟨gb193, 0, none⟩) (Kd.R_types HO180.out BK193.out (by decide)) (fun _ hk => hk.2) (.int .i64 t189)) (fun _ hk => hk.2) (.slice Ao19 t190.length co19)) (fun _ hk => hk.1.2)⟩
          have n1_ : Aside0 (Kd.R (Kd.int .i64) 3 ((w17.setCell ⟨gb193, 0, none⟩ (.int .i64 t189)).setCell ⟨gb193, 1, none⟩ (.slice Ao19 t190.length co19)) w.heap.size (fun k_ => some k_ ≠ (.slice Ao14 t178.length co14 : Value).ownBlock) (.slice Ao12 t182.length co12) t182) := ⟨by (with_reducible repeat (first | apply Kd.R_alloc | apply Kd.R_drewN | apply Kd.R_drew)); exact Kd.R_mono (Kd.R_far (p := ⟨gb193, 1, none⟩) (Kd.R_far (p := ⟨gb193, 0, none⟩) (Kd.R_types HO184.out BK193.out (by decide)) (fun _ hk => hk.2) (.int .i64 t189)) (fun _ hk => hk.2) (.slice Ao19 t190.length co19)) (fun _ hk => hk.1.2)⟩
          have n2_ : Aside0 (Kd.V (Kd.int .i64) 3 ((w17.setCell ⟨gb193, 0, none⟩ (.int .i64 t189)).setCell ⟨gb193, 1, none⟩ (.slice Ao19 t190.length co19)) w.heap.size (fun k_ => some k_ ≠ (.slice Ao14 t178.length co14 : Value).ownBlock ∧ k_ ≠ gb193) (.slice Ao15 t186.length co15) t186) := ⟨by (with_reducible repeat (first | apply Kd.V_alloc | apply Kd.V_drewN | apply Kd.V_drew)); exact Kd.V_mono (Kd.V_far (p := ⟨gb193, 1, none⟩) (Kd.V_far (p := ⟨gb193, 0, none⟩) (Kd.V_mono HO188.out (fun k_ hk => (⟨hk, hk.2⟩ : _ ∧ k_ ≠ gb193))) (fun _ hk => hk.2) (.int .i64 t189)) (fun _ hk => hk.2) (.slice Ao19 t190.length co19)) (fun _ hk => ⟨hk.1.1, hk.1.2⟩)⟩
          have n3_ : Aside0 (Kd.V (Kd.int .i64) 3 ((w17.setCell ⟨gb193, 0, none⟩ (.int .i64 t189)).setCell ⟨gb193, 1, none⟩ (.slice Ao19 t190.length co19)) w.heap.size (fun k_ => k_ ≠ gb193) (.slice Ao19 t190.length co19) t190) := ⟨by (with_reducible repeat (first | apply Kd.V_alloc | apply Kd.V_drewN | apply Kd.V_drew)); exact Kd.V_mono (Kd.V_far (p := ⟨gb193, 1, none⟩) (Kd.V_far (p := ⟨gb193, 0, none⟩) (Kd.V_mono HO192.out (fun k_ hk => (⟨hk, hk.2⟩ : _ ∧ k_ ≠ gb193))) (fun _ hk => hk.2) (.int .i64 t189)) (fun _ hk => hk.2) (.slice Ao19 t190.length co19)) (fun _ hk => hk.1.2)⟩
          have n4_ : Aside0 (((w17.setCell ⟨gb193, 0, none⟩ (.int .i64 t189)).setCell ⟨gb193, 1, none⟩ (.slice Ao19 t190.length co19)).heap[gb193]? = some (.cells #[.int .i64 t189, .slice Ao19 t190.length co19] 24 (0, 0))) := ⟨by (with_reducible repeat (first | refine blk_drewN ?_ _ | refine blk_drew ?_ | refine blk_alloc ?_ _)); refine blk_put (cs := #[.int .i64 t189, .slice none 0 0]) ?_ 1 _ rfl; (with_reducible repeat (first | refine blk_drewN ?_ _ | refine blk_drew ?_ | refine blk_alloc ?_ _)); refine blk_put (cs := #[.int .i64 0, .slice none 0 0]) ?_ 0 _ rfl; (with_reducible repeat (first | refine blk_drewN ?_ _ | refine blk_drew ?_ | refine blk_alloc ?_ _)); exact BK193.out⟩
          have n5_ : Aside0 (Below w.heap.size w ((w17.setCell ⟨gb193, 0, none⟩ (.int .i64 t189)).setCell ⟨gb193, 1, none⟩ (.slice Ao19 t190.length co19))) := ⟨by repeat (first | (with_reducible first | exact HB.out | apply below_alloc | apply pw_below_drewN | apply below_drew1 | refine below_set ?_ GE193.out) | exact HB.out)⟩
          (try clear HO180)
          (try clear HO184)
          (try clear HO188)
          (try clear HO192)
          (try clear BK193)
          (try clear HB)
          generalize ((w17.setCell ⟨gb193, 0, none⟩ (.int .i64 t189)).setCell ⟨gb193, 1, none⟩ (.slice Ao19 t190.length co19)) = w23 at n0_ n1_ n2_ n3_ n4_ n5_ ⊢
          have HO180 := n0_
          have HO184 := n1_
          have HO188 := n2_
          have HO192 := n3_
          have BK193 := n4_
          have HB := n5_
          clear n0_ n1_ n2_ n3_ n4_ n5_
          have n0_ := Aside0.mk (Kd.R_drew HO180.out)
          have n1_ := Aside0.mk (Kd.R_drew HO184.out)
          have n2_ := Aside0.mk (Kd.V_drew HO188.out)
          have n3_ := Aside0.mk (Kd.V_drew HO192.out)
          have n4_ := Aside0.mk (blk_drew BK193.out)
          have n5_ := Aside0.mk (below_drew1 HB.out)
          clear HO180
          clear HO184
          clear HO188
          clear HO192
          clear BK193
          clear HB
          have HO180 := n0_
          have HO184 := n1_
          have HO188 := n2_
          have HO192 := n3_
          have BK193 := n4_
          have HB := n5_
          clear n0_ n1_ n2_ n3_ n4_ n5_
          refine start_ (n := 5) (S := fun w' => w'.cell? ⟨gb193, 0, none⟩ = some (.int .i64 t189) ∧ w'.cell? ⟨gb193, 1, none⟩ = some (.slice Ao19 t190.length co19)) (ds := [4]) #[false, false, false, false, false] (by kernel_rfl) rfl rfl ⟨(blk_cell BK193.out 0).trans rfl, (blk_cell BK193.out 1).trans rfl⟩ (fun hHeld => ?_)
          generalize w23.drew = w24 at HO180 HO184 HO188 HO192 BK193 HB hHeld ⊢
          refine pure_ (i := 1) (N := some 22) (v := ?_) (a' := ?_) #[false, true, false, false, false] rfl rfl (by kernel_rfl) (fun _ _ _ h => h) (Or.inl ⟨by rfl, ?_⟩) ?_ ?_
          rotate_left
          · intro w'
            go_simp
            with_reducible rfl
          rotate_left
          · simp only [Act.put, List.setIfInBounds_toArray, List.set_cons_zero, List.set_cons_succ, i64_w, i32_w]
            rfl
          refine take_ (i := 0) (N := some 21) (v := ?_) (a' := ?_) #[true, true, false, false, false] rfl rfl (by kernel_rfl) (fun _ _ _ h => h) (Or.inl ⟨by rfl, ?_⟩) hHeld ?_ ?_
          rotate_left
          · rintro w' ⟨s0, s1⟩
            go_simp
            with_reducible rfl
          rotate_left
          · simp only [Act.put, List.setIfInBounds_toArray, List.set_cons_zero, List.set_cons_succ, i64_w, i32_w]
            rfl
          refine one_ (i := 2) (N := some 23) #[true, true, true, false, false] rfl rfl (by kernel_rfl) (by decide) (fun K hK => ?_)
          refine goes_ Try.func10 (by kernel_rfl) rfl #[.int .i64 a1] (by rfl) rfl rfl (by (try simp only [List.map_toArray, List.map_cons, List.map_nil]); first | done | rfl | (simp only [List.length_drop, List.length_take]; rfl)) ?_
          with_reducible refine (bocageref01_Of.calls k a1 t194 t195 _ A21.out).mono ?_
          rintro e w25 ⟨v196, rfl, ho0, hb⟩
          refine ⟨_, rfl, ?_⟩
          have n0_ := Aside0.mk (Kd.R_elder' (by (with_reducible repeat (first | apply Kd.R_alloc | apply Kd.R_drewN | apply Kd.R_drew)); exact HO180.out) (Kd.R_base ho0) hb)
          have n1_ := Aside0.mk (Kd.R_elder' (by (with_reducible repeat (first | apply Kd.R_alloc | apply Kd.R_drewN | apply Kd.R_drew)); exact HO184.out) (Kd.R_base ho0) hb)
          have n2_ := Aside0.mk (Kd.V_elder' (by (with_reducible repeat (first | apply Kd.V_alloc | apply Kd.V_drewN | apply Kd.V_drew)); exact HO188.out) (Kd.R_base ho0) hb)
          have n3_ := Aside0.mk (Kd.V_elder' (by (with_reducible repeat (first | apply Kd.V_alloc | apply Kd.V_drewN | apply Kd.V_drew)); exact HO192.out) (Kd.R_base ho0) hb)
          have n4_ := Aside0.mk (Kd.R_lower (Kd.R_new' (Kd.R_new' ho0 (Kd.R_lt (by (with_reducible repeat (first | apply Kd.R_alloc | apply Kd.R_drewN | apply Kd.R_drew)); exact HO180.out))) (Kd.R_lt (by (with_reducible repeat (first | apply Kd.R_alloc | apply Kd.R_drewN | apply Kd.R_drew)); exact HO184.out))) (below_size (by repeat (first | (with_reducible first | exact HB.out | apply below_alloc | apply pw_below_drewN | apply below_drew1 | refine below_set ?_ GE193.out) | exact HB.out))))
          have n5_ := Aside0.mk (blk_below (g := gb193) (o := .cells #[.int .i64 t189, .slice Ao19 t190.length co19] 24 (0, 0)) (by (with_reducible repeat (first | refine blk_drewN ?_ _ | refine blk_drew ?_ | refine blk_alloc ?_ _)); exact BK193.out) hb)
          have n6_ := Aside0.mk (below_step (by repeat (first | (with_reducible first | exact HB.out | apply below_alloc | apply pw_below_drewN | apply below_drew1 | refine below_set ?_ GE193.out) | exact HB.out)) hb)
          clear HO180
          clear HO184
          clear HO188
          clear HO192
          clear BK193
          clear HB
          have HO180 := n0_
          have HO184 := n1_
          have HO188 := n2_
          have HO192 := n3_
          have HO197 := n4_
          have BK193 := n5_
          have HB := n6_
          clear n0_ n1_ n2_ n3_ n4_ n5_ n6_
          (try clear hb)
          (try clear hb2)
          (try clear hk)
          (try clear hi)
          (try clear ho0)
          obtain ⟨Ao26, co26, eo26⟩ := Kd.R_slice HO197.out
          (first | subst eo26 | (injection eo26 with f1_ f2_ f3_; have f4_ := f1_.symm; have f5_ := f3_.symm; clear f1_ f2_ f3_; subst f4_; subst f5_))
          refine hK.out _ _ ⟨(blk_cell BK193.out 0).trans rfl, (blk_cell BK193.out 1).trans rfl⟩ (fun hHeld => ?_)
          clear hK K
          refine norm_ (a' := ?_) ?_ ?_
          rotate_left
          · show Act.put _ (some 23) _ = _
            simp only [Act.put, List.setIfInBounds_toArray, List.set_cons_zero, List.set_cons_succ, i64_w, i32_w]
            rfl
          refine one_ (i := 3) (N := some 24) #[true, true, true, true, false] rfl rfl (by kernel_rfl) (by decide) (fun K hK => ?_)
          refine goes_ Try.func14 (by kernel_rfl) rfl #[.agg #[.int .i64 t189, .slice Ao19 t190.length co19], .agg #[.int .i64 t194, .slice Ao26 t195.length co26]] (by rfl) rfl rfl (by (try simp only [List.map_toArray, List.map_cons, List.map_nil]); first | done | rfl | (simp only [List.length_drop, List.length_take]; rfl)) ?_
          with_reducible refine (bocageref01_Plus.calls k t189 (fun k_ => (k_ ≠ gb193 ∧ some k_ ≠ (.slice Ao26 t195.length co26 : Value).ownBlock)) _ _ t190 t194 (fun k_ => some k_ = (.slice Ao26 t195.length co26 : Value).ownBlock) _ _ t195 t198 t199 _ ?side1 ?side2 A22.out).mono ?_
          (case side1 => exact HO192.out)
          (case side2 => exact Kd.R_V (Kd.R_tight rfl (Kd.R_types (HO197.out) BK193.out (by decide))))
          rintro e w27 ⟨v200, rfl, ho0, hb⟩
          refine ⟨_, rfl, ?_⟩
          have n0_ := Aside0.mk (Kd.R_below (by (with_reducible repeat (first | apply Kd.R_alloc | apply Kd.R_drewN | apply Kd.R_drew)); exact HO180.out) hb)
          have n1_ := Aside0.mk (Kd.R_below (by (with_reducible repeat (first | apply Kd.R_alloc | apply Kd.R_drewN | apply Kd.R_drew)); exact HO184.out) hb)
          have n2_ := Aside0.mk (Kd.V_below (by (with_reducible repeat (first | apply Kd.V_alloc | apply Kd.V_drewN | apply Kd.V_drew)); exact HO188.out) hb)
          have n3_ := Aside0.mk (Kd.V_below (by (with_reducible repeat (first | apply Kd.V_alloc | apply Kd.V_drewN | apply Kd.V_drew)); exact HO192.out) hb)
          have n4_ := Aside0.mk (Kd.R_below (by (with_reducible repeat (first | apply Kd.R_alloc | apply Kd.R_drewN | apply Kd.R_drew)); exact HO197.out) hb)
          have n5_ := Aside0.mk (Kd.V_lower (Kd.V_mono (ok' := fun k_ => k_ ≠ gb193) ho0 (fun k_ hk_ => Or.elim hk_ (fun hs_ => Or.elim hs_ (fun hs_ => hs_.1) (fun hs_ => ((Kd.R_types (HO197.out) BK193.out (by decide)).1 k_ hs_.symm).2)) (fun hn_ => (Kd.freshB (g := gb193) (o := .cells #[.int .i64 t189, .slice Ao19 t190.length co19] 24 (0, 0)) (by (with_reducible repeat (first | refine blk_drewN ?_ _ | refine blk_drew ?_ | refine blk_alloc ?_ _)); exact BK193.out) k_ hn_)))) (below_size (by repeat (first | (with_reducible first | exact HB.out | apply below_alloc | apply pw_below_drewN | apply below_drew1 | refine below_set ?_ GE193.out) | exact HB.out))))
          have n6_ := Aside0.mk (blk_below (g := gb193) (o := .cells #[.int .i64 t189, .slice Ao19 t190.length co19] 24 (0, 0)) (by (with_reducible repeat (first | refine blk_drewN ?_ _ | refine blk_drew ?_ | refine blk_alloc ?_ _)); exact BK193.out) hb)
          have n7_ := Aside0.mk (below_step (by repeat (first | (with_reducible first | exact HB.out | apply below_alloc | apply pw_below_drewN | apply below_drew1 | refine below_set ?_ GE193.out) | exact HB.out)) hb)
          clear HO180
          clear HO184
          clear HO188
          clear HO192
          clear HO197
          clear BK193
          clear HB
          have HO180 := n0_
          have HO184 := n1_
          have HO188 := n2_
          have HO192 := n3_
          have HO197 := n4_
          have HO201 := n5_
          have BK193 := n6_
          have HB := n7_
          clear n0_ n1_ n2_ n3_ n4_ n5_ n6_ n7_
          (try clear hb)
          (try clear hb2)
          (try clear hk)
          (try clear hi)
          (try clear ho0)
          obtain ⟨Ao29, co29, eo29⟩ := Kd.V_slice HO201.out
          (first | subst eo29 | (injection eo29 with f1_ f2_ f3_; have f4_ := f1_.symm; have f5_ := f3_.symm; clear f1_ f2_ f3_; subst f4_; subst f5_))
          refine hK.out _ _ ⟨(blk_cell BK193.out 0).trans rfl, (blk_cell BK193.out 1).trans rfl⟩ (fun hHeld => ?_)
          clear hK K
          refine norm_ (a' := ?_) ?_ ?_
          rotate_left
          · show Act.put _ (some 24) _ = _
            simp only [Act.put, List.setIfInBounds_toArray, List.set_cons_zero, List.set_cons_succ, i64_w, i32_w]
            rfl
          refine last_ (i := 4) (N := none) #[true, true, true, true, true] rfl rfl (by kernel_rfl) (by decide) (fun K hK => ?_)
          have hs28 : w27.cell? ⟨gb193, 0, none⟩ = some (.int .i64 t189) := (blk_cell BK193.out 0).trans rfl
          have hfs28 := blk_frozen BK193.out 0
          have hs30 : w27.cell? ⟨gb193, 1, none⟩ = some (.slice Ao19 t190.length co19) := (blk_cell BK193.out 1).trans rfl
          have hfs30 := blk_frozen BK193.out 1
          refine skip_ (w1 := ?_) (by rfl) rfl ?_ ?_
          rotate_left
          · go_simp
            rfl
          refine hK.out _ _ ?_
          clear hK K
          refine done_ (by kernel_rfl) ?_
          try go_wp2
          go_meet
          case rel => exact ⟨_, (t198), (t199), (.slice Ao29 t199.length co29), H', ⟨by first | omega | exact Nat.le_refl _⟩, ⟨by (with_reducible repeat (first | apply Kd.V_alloc | apply Kd.V_drewN | apply Kd.V_drew)); exact Kd.V_mono (Kd.V_far (p := ⟨gb193, 1, none⟩) (Kd.V_far (p := ⟨gb193, 0, none⟩) (Kd.V_mono HO201.out (fun k_ hk => (⟨hk, hk⟩ : _ ∧ k_ ≠ gb193))) (fun _ hk => hk.2) (.int .i64 t198)) (fun _ hk => hk.2) (.slice Ao29 t199.length co29)) (fun _ hk => hk.1)⟩, ⟨by (with_reducible repeat (first | refine blk_drewN ?_ _ | refine blk_drew ?_ | refine blk_alloc ?_ _)); refine blk_put (cs := #[.int .i64 t198, .slice Ao19 t190.length co19]) ?_ 1 _ rfl; (with_reducible repeat (first | refine blk_drewN ?_ _ | refine blk_drew ?_ | refine blk_alloc ?_ _)); refine blk_put (cs := #[.int .i64 t189, .slice Ao19 t190.length co19]) ?_ 0 _ rfl; (with_reducible repeat (first | refine blk_drewN ?_ _ | refine blk_drew ?_ | refine blk_alloc ?_ _)); exact BK193.out⟩, ⟨by repeat (first | (with_reducible first | exact HB.out | apply below_alloc | apply pw_below_drewN | apply below_drew1 | refine below_set ?_ GE193.out) | exact HB.out)⟩⟩
        · rw [if_neg c20] at H
          have c20b0 : decide (0 < (Int.tmod a0 a1)) = false := decide_eq_false c20
          clear c20
          (first | rw [c20b0] | (simp only [i64_w, i32_w]; rw [c20b0]) | skip)
          have H' := Aside0.mk H
          clear H
          go_wp2
          go_meet
          case rel => exact ⟨_, (t189), (t190), (.slice Ao19 t190.length co19), H', ⟨by first | omega | exact Nat.le_refl _⟩, ⟨by (with_reducible repeat (first | apply Kd.V_alloc | apply Kd.V_drewN | apply Kd.V_drew)); exact Kd.V_mono (Kd.V_far (p := ⟨gb193, 1, none⟩) (Kd.V_far (p := ⟨gb193, 0, none⟩) (Kd.V_mono HO192.out (fun k_ hk => (⟨hk, hk.2⟩ : _ ∧ k_ ≠ gb193))) (fun _ hk => hk.2) (.int .i64 t189)) (fun _ hk => hk.2) (.slice Ao19 t190.length co19)) (fun _ hk => hk.1.2)⟩, ⟨by (with_reducible repeat (first | refine blk_drewN ?_ _ | refine blk_drew ?_ | refine blk_alloc ?_ _)); refine blk_put (cs := #[.int .i64 t189, .slice none 0 0]) ?_ 1 _ rfl; (with_reducible repeat (first | refine blk_drewN ?_ _ | refine blk_drew ?_ | refine blk_alloc ?_ _)); refine blk_put (cs := #[.int .i64 0, .slice none 0 0]) ?_ 0 _ rfl; (with_reducible repeat (first | refine blk_drewN ?_ _ | refine blk_drew ?_ | refine blk_alloc ?_ _)); exact BK193.out⟩, ⟨by repeat (first | (with_reducible first | exact HB.out | apply below_alloc | apply pw_below_drewN | apply below_drew1 | refine below_set ?_ GE193.out) | exact HB.out)⟩⟩
      case rest =>
        clear HC9
        try clear c1
        try clear c2
        try clear p2
        try clear c3
        try clear c3b0
        try clear c4
        try clear c4b0
        try clear c4b1
        try clear c10
        try clear c14
        try clear c16
        try clear c19
        try clear c20
        try clear c20b0
        try clear hcz18_0
        try clear hcz18_1
        try clear hfz18_0
        try clear hfz18_1
        obtain ⟨kq, x194000_8, x194001_8, u194001, HA, HJ8, HO_194001, BK193, HB⟩ := hcut
        cases kq with
        | zero => exact absurd HA.out (by simp [bocageref01_Ceil.j0])
        | succ kj8 =>
          have H := HA.out
          clear HA
          simp only [bocageref01_Ceil.j0] at H
          replace H := Option.bind_eq_some_iff.mp H
          obtain ⟨t202, A310, H⟩ := H
          replace H : (if t202 = true then ((bocageref01_End.f kj8 x194000_8 x194001_8).bind fun t203 => (some (t203, true))) else (some (0, false))) = some (r1, r2) := H
          have A31 := Aside0.mk A310
          clear A310
          by_cases c32 : t202 = true
          · subst c32
            have H1 : ((bocageref01_End.f kj8 x194000_8 x194001_8).bind fun t203 => (some (t203, true))) = some (r1, r2) := by rw [if_pos rfl] at H; exact H
            clear H
            have H := H1
            clear H1
            replace H := Option.bind_eq_some_iff.mp H
            obtain ⟨t203, A330, H⟩ := H
            replace H : (some (t203, true)) = some (r1, r2) := H
            have A33 := Aside0.mk A330
            clear A330
            simp only [Option.some.injEq, Prod.mk.injEq] at H
            obtain ⟨rfl, rfl⟩ := H
            have hcz34_0 : wc.cell? ⟨gb193, 0, none⟩ = some (.int .i64 x194000_8) := (blk_cell BK193.out 0).trans rfl
            have hcz34_1 : wc.cell? ⟨gb193, 1, none⟩ = some (u194001) := (blk_cell BK193.out 1).trans rfl
            have hfz34_0 := blk_frozen BK193.out 0
            have hfz34_1 := blk_frozen BK193.out 1
            obtain ⟨Ao35, co35, eo35⟩ := Kd.V_slice HO_194001.out
            subst eo35
            go_wp2_with (first | ((with_reducible refine gate_callee (f := 28) rfl ?_); refine goesL_ (some 26) rfl rfl Try.func28 (by kernel_rfl) rfl #[.agg #[.int .i64 x194000_8, .slice Ao35 x194001_8.length co35]] rfl (by (try simp only [List.map_toArray, List.map_cons, List.map_nil]); first | done | rfl | (simp only [List.length_drop, List.length_take]; rfl)) ?_; (with_reducible refine (bocageref01_Is.calls kj8 x194000_8 _ _ x194001_8 true _ ?side1 ?side2 A31.out).mono ?_); (case side1 => repeat (first | exact (Kd.V_reads' HO_194001.out).2.2 | (with_reducible refine Kd.C_alloc ?_ _) | (with_reducible refine Kd.C_drewN ?_ _) | (with_reducible refine Kd.C_drew ?_))); (case side2 => exact (Kd.V_reads' HO_194001.out).2.1); rintro e w36 ⟨rfl, hb⟩; refine ⟨_, rfl, ?_⟩; have n0_ := Aside0.mk (Kd.V_below (by (with_reducible repeat (first | apply Kd.V_alloc | apply Kd.V_drewN | apply Kd.V_drew)); exact HO_194001.out) hb); have n1_ := Aside0.mk (blk_below (g := gb193) (o := .cells #[.int .i64 x194000_8, .slice Ao35 x194001_8.length co35] 24 (0, 0)) (by (with_reducible repeat (first | refine blk_drewN ?_ _ | refine blk_drew ?_ | refine blk_alloc ?_ _)); exact BK193.out) hb); have n2_ := Aside0.mk (below_step (by repeat (first | (with_reducible first | exact HB.out | apply below_alloc | apply pw_below_drewN | apply below_drew1 | refine below_set ?_ GE193.out) | exact HB.out)) hb); clear HO_194001; clear BK193; clear HB; have HO_194001 := n0_; have BK193 := n1_; have HB := n2_; clear n0_ n1_ n2_; (try clear hb); (try clear hb2); (try clear hk); (try clear hi); have hcz37_0 : w36.cell? ⟨gb193, 0, none⟩ = some (.int .i64 x194000_8) := (blk_cell BK193.out 0).trans rfl; have hcz37_1 : w36.cell? ⟨gb193, 1, none⟩ = some (.slice Ao35 x194001_8.length co35) := (blk_cell BK193.out 1).trans rfl; have hfz37_0 := blk_frozen BK193.out 0; have hfz37_1 := blk_frozen BK193.out 1) | ((with_reducible refine gate_callee (f := 13) rfl ?_); refine goesL_ (some 29) rfl rfl Try.func13 (by kernel_rfl) rfl #[.agg #[.int .i64 x194000_8, .slice Ao35 x194001_8.length co35]] rfl (by (try simp only [List.map_toArray, List.map_cons, List.map_nil]); first | done | rfl | (simp only [List.length_drop, List.length_take]; rfl)) ?_; (with_reducible refine (bocageref01_End.calls kj8 x194000_8 _ _ x194001_8 t203 _ ?side1 ?side2 A33.out).mono ?_); (case side1 => repeat (first | exact (Kd.V_reads' HO_194001.out).2.2 | (with_reducible refine Kd.C_alloc ?_ _) | (with_reducible refine Kd.C_drewN ?_ _) | (with_reducible refine Kd.C_drew ?_))); (case side2 => exact (Kd.V_reads' HO_194001.out).2.1); rintro e w38 ⟨rfl, hb⟩; refine ⟨_, rfl, ?_⟩; have n0_ := Aside0.mk (Kd.V_below (by (with_reducible repeat (first | apply Kd.V_alloc | apply Kd.V_drewN | apply Kd.V_drew)); exact HO_194001.out) hb); have n1_ := Aside0.mk (blk_below (g := gb193) (o := .cells #[.int .i64 x194000_8, .slice Ao35 x194001_8.length co35] 24 (0, 0)) (by (with_reducible repeat (first | refine blk_drewN ?_ _ | refine blk_drew ?_ | refine blk_alloc ?_ _)); exact BK193.out) hb); have n2_ := Aside0.mk (below_step (by repeat (first | (with_reducible first | exact HB.out | apply below_alloc | apply pw_below_drewN | apply below_drew1 | refine below_set ?_ GE193.out) | exact HB.out)) hb); clear HO_194001; clear BK193; clear HB; have HO_194001 := n0_; have BK193 := n1_; have HB := n2_; clear n0_ n1_ n2_; (try clear hb); (try clear hb2); (try clear hk); (try clear hi)))
            go_ret2
            exact ⟨by first | rfl | (simp [errW_none, errW_some] <;> rfl) | (simp [*, errW_none, errW_some] <;> rfl), by repeat (first | (with_reducible first | exact HB.out | apply below_alloc | apply pw_below_drewN | apply below_drew1 | refine below_set ?_ GE193.out) | exact HB.out)⟩
          · replace c32 := Bool.eq_false_iff.mpr c32
            subst c32
            have H1 : (some (0, false)) = some (r1, r2) := by rw [if_neg (show ¬ (false = true) by decide)] at H; exact H
            clear H
            have H := H1
            clear H1
            simp only [Option.some.injEq, Prod.mk.injEq] at H
            obtain ⟨rfl, rfl⟩ := H
            have hcz39_0 : wc.cell? ⟨gb193, 0, none⟩ = some (.int .i64 x194000_8) := (blk_cell BK193.out 0).trans rfl
            have hcz39_1 : wc.cell? ⟨gb193, 1, none⟩ = some (u194001) := (blk_cell BK193.out 1).trans rfl
            have hfz39_0 := blk_frozen BK193.out 0
            have hfz39_1 := blk_frozen BK193.out 1
            obtain ⟨Ao40, co40, eo40⟩ := Kd.V_slice HO_194001.out
            subst eo40
            go_wp2_with (first | ((with_reducible refine gate_callee (f := 28) rfl ?_); refine goesL_ (some 26) rfl rfl Try.func28 (by kernel_rfl) rfl #[.agg #[.int .i64 x194000_8, .slice Ao40 x194001_8.length co40]] rfl (by (try simp only [List.map_toArray, List.map_cons, List.map_nil]); first | done | rfl | (simp only [List.length_drop, List.length_take]; rfl)) ?_; (with_reducible refine (bocageref01_Is.calls kj8 x194000_8 _ _ x194001_8 false _ ?side1 ?side2 A31.out).mono ?_); (case side1 => repeat (first | exact (Kd.V_reads' HO_194001.out).2.2 | (with_reducible refine Kd.C_alloc ?_ _) | (with_reducible refine Kd.C_drewN ?_ _) | (with_reducible refine Kd.C_drew ?_))); (case side2 => exact (Kd.V_reads' HO_194001.out).2.1); rintro e w41 ⟨rfl, hb⟩; refine ⟨_, rfl, ?_⟩; have n0_ := Aside0.mk (Kd.V_below (by (with_reducible repeat (first | apply Kd.V_alloc | apply Kd.V_drewN | apply Kd.V_drew)); exact HO_194001.out) hb); have n1_ := Aside0.mk (blk_below (g := gb193) (o := .cells #[.int .i64 x194000_8, .slice Ao40 x194001_8.length co40] 24 (0, 0)) (by (with_reducible repeat (first | refine blk_drewN ?_ _ | refine blk_drew ?_ | refine blk_alloc ?_ _)); exact BK193.out) hb); have n2_ := Aside0.mk (below_step (by repeat (first | (with_reducible first | exact HB.out | apply below_alloc | apply pw_below_drewN | apply below_drew1 | refine below_set ?_ GE193.out) | exact HB.out)) hb); clear HO_194001; clear BK193; clear HB; have HO_194001 := n0_; have BK193 := n1_; have HB := n2_; clear n0_ n1_ n2_; (try clear hb); (try clear hb2); (try clear hk); (try clear hi)))
            go_ret2
            exact ⟨by first | rfl | (simp [errW_none, errW_some] <;> rfl) | (simp [*, errW_none, errW_some] <;> rfl), by repeat (first | (with_reducible first | exact HB.out | apply below_alloc | apply pw_below_drewN | apply below_drew1 | refine below_set ?_ GE193.out) | exact HB.out)⟩

/-! ### bocagelaw01_SatCeils: function 4 -/
def bocagelaw01_SatCeils.j0 : Nat → Int → Int → Int → Bool → Bool → Option (Bool)
  | 0, _, _, _, _, _ => none
  | k + 1, x0, x1, x5, x6, x28 => if x28 = true then (some false) else ((bocagelaw01_alive.f k).bind fun t208 => (if t208 = true then (if x6 = true then (if x1 = 0 then (none) else (if (Int.tmod x5 x1) = 0 then (if x5 ≥ x0 then ((sat_Sub.f x5 x0).bind fun t209 => (some (decide (t209 < x1)))) else (some false)) else (some false))) else (some true)) else (some false)))
def bocagelaw01_SatCeils.f (k : Nat) (a0 : Int) (a1 : Int) : Option (Bool) := (sat_Ceil.f a0 a1).bind fun bt204 => ((bocageref01_Ceil.f k a0 a1).bind fun bt206 => (if bt204.1 = bt206.1 then (bocagelaw01_SatCeils.j0 k a0 a1 bt204.1 bt204.2 (bt204.2 != bt206.2)) else (bocagelaw01_SatCeils.j0 k a0 a1 bt204.1 bt204.2 true)))
theorem bocagelaw01_SatCeils.mono_l : ∀ k, (∀ y0 y1 y2 y3 y4, LeO (bocagelaw01_SatCeils.j0 k y0 y1 y2 y3 y4) (bocagelaw01_SatCeils.j0 (k + 1) y0 y1 y2 y3 y4))
  | 0 => fun _ _ _ _ _ r h => by simp [bocagelaw01_SatCeils.j0] at h
  | k + 1 => by
    have ih0 := bocagelaw01_SatCeils.mono_l k
    · intro y0 y1 y2 y3 y4
      unfold bocagelaw01_SatCeils.j0
      repeat' first
      | (with_reducible exact ih0 _ _ _ _ _)
      | (with_reducible exact bocagelaw01_alive.mono _)
      | (with_reducible exact bocageref01_Ceil.mono _ _ _)
      | (with_reducible exact LeO.refl _)
      | (with_reducible exact LeO.none _)
      | (with_reducible refine LeO.ite ?_ ?_)
      | (with_reducible refine LeO.bind ?_ (fun _ => ?_))
      | exact ih0 _ _ _ _ _
      | exact bocagelaw01_alive.mono _
      | exact bocageref01_Ceil.mono _ _ _
      | exact LeO.none _
      | refine LeO.ite ?_ ?_
      | refine LeO.bind ?_ (fun _ => ?_)
theorem bocagelaw01_SatCeils.mono : ∀ a0 a1 k, LeO (bocagelaw01_SatCeils.f k a0 a1) (bocagelaw01_SatCeils.f (k + 1) a0 a1) := by
  intro a0 a1 k
  have ih0 := bocagelaw01_SatCeils.mono_l k
  unfold bocagelaw01_SatCeils.f
  repeat' first
      | (with_reducible exact ih0 _ _ _ _ _)
      | (with_reducible exact bocagelaw01_alive.mono _)
      | (with_reducible exact bocageref01_Ceil.mono _ _ _)
      | (with_reducible exact LeO.refl _)
      | (with_reducible exact LeO.none _)
      | (with_reducible refine LeO.ite ?_ ?_)
      | (with_reducible refine LeO.bind ?_ (fun _ => ?_))
      | exact ih0 _ _ _ _ _
      | exact bocagelaw01_alive.mono _
      | exact bocageref01_Ceil.mono _ _ _
      | exact LeO.none _
      | refine LeO.ite ?_ ?_
      | refine LeO.bind ?_ (fun _ => ?_)
set_option maxHeartbeats 8000000 in
set_option maxRecDepth 100000 in
theorem bocagelaw01_SatCeils.calls (k : Nat) (a0 : Int) (a1 : Int) (r : Bool) (w : World) (h : bocagelaw01_SatCeils.f k a0 a1 = some r) :
    Calls Try.prog 4 #[.int .i64 a0, .int .i64 a1] w fun e w' => e = .returned (.bool r) ∧ Below w.heap.size w w' := by
  have HB := Aside0.mk (Below.refl w.heap.size w)
  have H : ((sat_Ceil.f a0 a1).bind fun bt204 => ((bocageref01_Ceil.f k a0 a1).bind fun bt206 => (if bt204.1 = bt206.1 then (bocagelaw01_SatCeils.j0 k a0 a1 bt204.1 bt204.2 (bt204.2 != bt206.2)) else (bocagelaw01_SatCeils.j0 k a0 a1 bt204.1 bt204.2 true)))) = some r := h
  clear h
  replace H := Option.bind_eq_some_iff.mp H
  obtain ⟨⟨t204, t205⟩, A30, H⟩ := H
  replace H : ((bocageref01_Ceil.f k a0 a1).bind fun bt206 => (if t204 = bt206.1 then (bocagelaw01_SatCeils.j0 k a0 a1 t204 t205 (t205 != bt206.2)) else (bocagelaw01_SatCeils.j0 k a0 a1 t204 t205 true))) = some r := H
  have A3 := Aside0.mk A30
  clear A30
  replace H := Option.bind_eq_some_iff.mp H
  obtain ⟨⟨t206, t207⟩, A40, H⟩ := H
  replace H : (if t204 = t206 then (bocagelaw01_SatCeils.j0 k a0 a1 t204 t205 (t205 != t207)) else (bocagelaw01_SatCeils.j0 k a0 a1 t204 t205 true)) = some r := H
  have A4 := Aside0.mk A40
  clear A40
  have HC5 := Aside0.mk H
  clear H
  go_enter Try.func4, Try.ntmps4
  go_upto_region 3 with (first | ((with_reducible refine gate_callee (f := 18) rfl ?_); refine goesL_ (some 12) rfl rfl Try.func18 (by kernel_rfl) rfl #[.int .i64 a0, .int .i64 a1] rfl (by (try simp only [List.map_toArray, List.map_cons, List.map_nil]); first | done | rfl | (simp only [List.length_drop, List.length_take]; rfl)) ?_; (with_reducible refine (sat_Ceil.calls a0 a1 t204 t205 _ A3.out).mono ?_); rintro e w' ⟨rfl, ⟨nd, rfl⟩⟩; refine ⟨_, rfl, ?_⟩) | ((with_reducible refine gate_callee (f := 19) rfl ?_); refine goesL_ (some 18) rfl rfl Try.func19 (by kernel_rfl) rfl #[.int .i64 a0, .int .i64 a1] rfl (by (try simp only [List.map_toArray, List.map_cons, List.map_nil]); first | done | rfl | (simp only [List.length_drop, List.length_take]; rfl)) ?_; (with_reducible refine (bocageref01_Ceil.calls k a0 a1 t206 t207 _ A4.out).mono ?_); rintro e w6 ⟨rfl, hb⟩; refine ⟨_, rfl, ?_⟩; have n0_ := Aside0.mk (below_step (by repeat (first | (with_reducible first | exact HB.out | apply below_alloc | apply pw_below_drewN | apply below_drew1) | exact HB.out)) hb); clear HB; have HB := n0_; clear n0_; (try clear hb); (try clear hb2); (try clear hk); (try clear hi)))
  (try simp only [Act.put, List.setIfInBounds_toArray, List.set_cons_zero, List.set_cons_succ])
  go_cut [28] (fun v28 wc => ∃ (kq : Nat) (x28_4 : Bool), v28 = .bool x28_4 ∧ Aside0 (bocagelaw01_SatCeils.j0 kq a0 a1 t204 t205 x28_4 = some r) ∧ Aside0 (kq ≤ k) ∧ Aside0 (Below w.heap.size w wc))
  case first =>
    have H := HC5.out
    clear HC5
    by_cases c7 : t204 = t206
    · rw [if_pos c7] at H
      have c7b0 : (t204 == t206) = true := beq_iff_eq.mpr c7
      have c7b1 : (t204 != t206) = false := bne_eq_false_iff_eq.mpr c7
      clear c7
      (first | rw [c7b0] | (simp only [i64_w, i32_w]; rw [c7b0]) | skip)
      have H' := Aside0.mk H
      clear H
      go_wp2
      go_meet
      case rel => exact ⟨_, ((t205 != t207)), (by first | rfl | (simp; done) | (simp [*]; done)), H', ⟨by first | omega | exact Nat.le_refl _⟩, ⟨by repeat (first | (with_reducible first | exact HB.out | apply below_alloc | apply pw_below_drewN | apply below_drew1) | exact HB.out)⟩⟩
    · rw [if_neg c7] at H
      have c7b0 : (t204 == t206) = false := beq_eq_false_iff_ne.mpr c7
      have c7b1 : (t204 != t206) = true := bne_iff_ne.mpr c7
      (first | rw [c7b0] | (simp only [i64_w, i32_w]; rw [c7b0]) | skip)
      have H' := Aside0.mk H
      clear H
      go_wp2
      go_meet
      case rel => exact ⟨_, (true), (by first | rfl | (simp; done) | (simp [*]; done)), H', ⟨by first | omega | exact Nat.le_refl _⟩, ⟨by repeat (first | (with_reducible first | exact HB.out | apply below_alloc | apply pw_below_drewN | apply below_drew1) | exact HB.out)⟩⟩
  case rest =>
    clear HC5
    try clear c1
    try clear p2
    try clear c4
    try clear c7
    try clear c7b0
    try clear c7b1
    obtain ⟨kq, x28_4, rfl, HA, HJ4, HB⟩ := hcut
    cases kq with
    | zero => exact absurd HA.out (by simp [bocagelaw01_SatCeils.j0])
    | succ kj4 =>
      have H := HA.out
      clear HA
      simp only [bocagelaw01_SatCeils.j0] at H
      by_cases c8 : x28_4 = true
      · subst c8
        have H1 : (some false) = some r := by rw [if_pos rfl] at H; exact H
        clear H
        have H := H1
        clear H1
        obtain rfl := Option.some.inj H
        go_wp2
        go_ret
        exact ⟨by first | rfl | (simp [errW_none, errW_some] <;> rfl) | (simp [*, errW_none, errW_some] <;> rfl), by repeat (first | (with_reducible first | exact HB.out | apply below_alloc | apply pw_below_drewN | apply below_drew1) | exact HB.out)⟩
      · replace c8 := Bool.eq_false_iff.mpr c8
        subst c8
        have H1 : ((bocagelaw01_alive.f kj4).bind fun t208 => (if t208 = true then (if t205 = true then (if a1 = 0 then (none) else (if (Int.tmod t204 a1) = 0 then (if t204 ≥ a0 then ((sat_Sub.f t204 a0).bind fun t209 => (some (decide (t209 < a1)))) else (some false)) else (some false))) else (some true)) else (some false))) = some r := by rw [if_neg (show ¬ (false = true) by decide)] at H; exact H
        clear H
        have H := H1
        clear H1
        replace H := Option.bind_eq_some_iff.mp H
        obtain ⟨t208, A90, H⟩ := H
        replace H : (if t208 = true then (if t205 = true then (if a1 = 0 then (none) else (if (Int.tmod t204 a1) = 0 then (if t204 ≥ a0 then ((sat_Sub.f t204 a0).bind fun t209 => (some (decide (t209 < a1)))) else (some false)) else (some false))) else (some true)) else (some false)) = some r := H
        have A9 := Aside0.mk A90
        clear A90
        by_cases c10 : t208 = true
        · subst c10
          have H1 : (if t205 = true then (if a1 = 0 then (none) else (if (Int.tmod t204 a1) = 0 then (if t204 ≥ a0 then ((sat_Sub.f t204 a0).bind fun t209 => (some (decide (t209 < a1)))) else (some false)) else (some false))) else (some true)) = some r := by rw [if_pos rfl] at H; exact H
          clear H
          have H := H1
          clear H1
          by_cases c11 : t205 = true
          · subst c11
            have H1 : (if a1 = 0 then (none) else (if (Int.tmod t204 a1) = 0 then (if t204 ≥ a0 then ((sat_Sub.f t204 a0).bind fun t209 => (some (decide (t209 < a1)))) else (some false)) else (some false))) = some r := by rw [if_pos rfl] at H; exact H
            clear H
            have H := H1
            clear H1
            by_cases c12 : a1 = 0
            · rw [if_pos c12] at H
              exact absurd H (by simp)
            · rw [if_neg c12] at H
              have c12b0 : (a1 == 0) = false := beq_eq_false_iff_ne.mpr c12
              have c12b1 : (a1 != 0) = true := bne_iff_ne.mpr c12
              by_cases c13 : (Int.tmod t204 a1) = 0
              · rw [if_pos c13] at H
                have c13b0 : ((Int.tmod t204 a1) == 0) = true := beq_iff_eq.mpr c13
                have c13b1 : ((Int.tmod t204 a1) != 0) = false := bne_eq_false_iff_eq.mpr c13
                clear c13
                by_cases c14 : t204 ≥ a0
                · rw [if_pos c14] at H
                  have c14b0 : decide (a0 ≤ t204) = true := decide_eq_true c14
                  clear c14
                  replace H := Option.bind_eq_some_iff.mp H
                  obtain ⟨t209, A150, H⟩ := H
                  replace H : (some (decide (t209 < a1))) = some r := H
                  have A15 := Aside0.mk A150
                  clear A150
                  obtain rfl := Option.some.inj H
                  go_wp2_with (first | ((with_reducible refine gate_callee (f := 11) rfl ?_); refine goesL_ (some 29) rfl rfl Try.func11 (by kernel_rfl) rfl #[] rfl (by (try simp only [List.map_toArray, List.map_cons, List.map_nil]); first | done | rfl | (simp only [List.length_drop, List.length_take]; rfl)) ?_; (with_reducible refine (bocagelaw01_alive.calls kj4  true _ A9.out).mono ?_); rintro e w16 ⟨rfl, hb⟩; refine ⟨_, rfl, ?_⟩; have n0_ := Aside0.mk (below_step (by repeat (first | (with_reducible first | exact HB.out | apply below_alloc | apply pw_below_drewN | apply below_drew1) | exact HB.out)) hb); clear HB; have HB := n0_; clear n0_; (try clear hb); (try clear hb2); (try clear hk); (try clear hi)) | (go_at_call 15; (with_reducible refine (sat_Sub.calls t204 a0 t209 _ A15.out).mono ?_); rintro e w' ⟨rfl, ⟨nd, rfl⟩⟩))
                  go_ret
                  exact ⟨by first | rfl | (simp [errW_none, errW_some] <;> rfl) | (simp [*, errW_none, errW_some] <;> rfl), by repeat (first | (with_reducible first | exact HB.out | apply below_alloc | apply pw_below_drewN | apply below_drew1) | exact HB.out)⟩
                · rw [if_neg c14] at H
                  have c14b0 : decide (a0 ≤ t204) = false := decide_eq_false c14
                  clear c14
                  obtain rfl := Option.some.inj H
                  go_wp2_with (first | ((with_reducible refine gate_callee (f := 11) rfl ?_); refine goesL_ (some 29) rfl rfl Try.func11 (by kernel_rfl) rfl #[] rfl (by (try simp only [List.map_toArray, List.map_cons, List.map_nil]); first | done | rfl | (simp only [List.length_drop, List.length_take]; rfl)) ?_; (with_reducible refine (bocagelaw01_alive.calls kj4  true _ A9.out).mono ?_); rintro e w17 ⟨rfl, hb⟩; refine ⟨_, rfl, ?_⟩; have n0_ := Aside0.mk (below_step (by repeat (first | (with_reducible first | exact HB.out | apply below_alloc | apply pw_below_drewN | apply below_drew1) | exact HB.out)) hb); clear HB; have HB := n0_; clear n0_; (try clear hb); (try clear hb2); (try clear hk); (try clear hi)))
                  go_ret
                  exact ⟨by first | rfl | (simp [errW_none, errW_some] <;> rfl) | (simp [*, errW_none, errW_some] <;> rfl), by repeat (first | (with_reducible first | exact HB.out | apply below_alloc | apply pw_below_drewN | apply below_drew1) | exact HB.out)⟩
              · rw [if_neg c13] at H
                have c13b0 : ((Int.tmod t204 a1) == 0) = false := beq_eq_false_iff_ne.mpr c13
                have c13b1 : ((Int.tmod t204 a1) != 0) = true := bne_iff_ne.mpr c13
                obtain rfl := Option.some.inj H
                go_wp2_with (first | ((with_reducible refine gate_callee (f := 11) rfl ?_); refine goesL_ (some 29) rfl rfl Try.func11 (by kernel_rfl) rfl #[] rfl (by (try simp only [List.map_toArray, List.map_cons, List.map_nil]); first | done | rfl | (simp only [List.length_drop, List.length_take]; rfl)) ?_; (with_reducible refine (bocagelaw01_alive.calls kj4  true _ A9.out).mono ?_); rintro e w18 ⟨rfl, hb⟩; refine ⟨_, rfl, ?_⟩; have n0_ := Aside0.mk (below_step (by repeat (first | (with_reducible first | exact HB.out | apply below_alloc | apply pw_below_drewN | apply below_drew1) | exact HB.out)) hb); clear HB; have HB := n0_; clear n0_; (try clear hb); (try clear hb2); (try clear hk); (try clear hi)))
                go_ret
                exact ⟨by first | rfl | (simp [errW_none, errW_some] <;> rfl) | (simp [*, errW_none, errW_some] <;> rfl), by repeat (first | (with_reducible first | exact HB.out | apply below_alloc | apply pw_below_drewN | apply below_drew1) | exact HB.out)⟩
          · replace c11 := Bool.eq_false_iff.mpr c11
            subst c11
            have H1 : (some true) = some r := by rw [if_neg (show ¬ (false = true) by decide)] at H; exact H
            clear H
            have H := H1
            clear H1
            obtain rfl := Option.some.inj H
            go_wp2_with (first | ((with_reducible refine gate_callee (f := 11) rfl ?_); refine goesL_ (some 29) rfl rfl Try.func11 (by kernel_rfl) rfl #[] rfl (by (try simp only [List.map_toArray, List.map_cons, List.map_nil]); first | done | rfl | (simp only [List.length_drop, List.length_take]; rfl)) ?_; (with_reducible refine (bocagelaw01_alive.calls kj4  true _ A9.out).mono ?_); rintro e w19 ⟨rfl, hb⟩; refine ⟨_, rfl, ?_⟩; have n0_ := Aside0.mk (below_step (by repeat (first | (with_reducible first | exact HB.out | apply below_alloc | apply pw_below_drewN | apply below_drew1) | exact HB.out)) hb); clear HB; have HB := n0_; clear n0_; (try clear hb); (try clear hb2); (try clear hk); (try clear hi)))
            go_ret
            exact ⟨by first | rfl | (simp [errW_none, errW_some] <;> rfl) | (simp [*, errW_none, errW_some] <;> rfl), by repeat (first | (with_reducible first | exact HB.out | apply below_alloc | apply pw_below_drewN | apply below_drew1) | exact HB.out)⟩
        · replace c10 := Bool.eq_false_iff.mpr c10
          subst c10
          have H1 : (some false) = some r := by rw [if_neg (show ¬ (false = true) by decide)] at H; exact H
          clear H
          have H := H1
          clear H1
          obtain rfl := Option.some.inj H
          go_wp2_with (first | ((with_reducible refine gate_callee (f := 11) rfl ?_); refine goesL_ (some 29) rfl rfl Try.func11 (by kernel_rfl) rfl #[] rfl (by (try simp only [List.map_toArray, List.map_cons, List.map_nil]); first | done | rfl | (simp only [List.length_drop, List.length_take]; rfl)) ?_; (with_reducible refine (bocagelaw01_alive.calls kj4  false _ A9.out).mono ?_); rintro e w20 ⟨rfl, hb⟩; refine ⟨_, rfl, ?_⟩; have n0_ := Aside0.mk (below_step (by repeat (first | (with_reducible first | exact HB.out | apply below_alloc | apply pw_below_drewN | apply below_drew1) | exact HB.out)) hb); clear HB; have HB := n0_; clear n0_; (try clear hb); (try clear hb2); (try clear hk); (try clear hi)))
          go_ret
          exact ⟨by first | rfl | (simp [errW_none, errW_some] <;> rfl) | (simp [*, errW_none, errW_some] <;> rfl), by repeat (first | (with_reducible first | exact HB.out | apply below_alloc | apply pw_below_drewN | apply below_drew1) | exact HB.out)⟩

/-- THE ONE PURE STATEMENT of bocagelaw01_SatCeils: yours. -/
def bocagelaw01_SatCeils.Pure : Prop := ∀ (a0 : Int) (a1 : Int), (Lit.int .i64 a0).wf = true → (Lit.int .i64 a1).wf = true → ∃ k, bocagelaw01_SatCeils.f k a0 a1 = some true
theorem bocagelaw01_SatCeils.walk (P : bocagelaw01_SatCeils.Pure) (a0 : Int) (a1 : Int) (w : World) (w0 : (Lit.int .i64 a0).wf = true) (w1 : (Lit.int .i64 a1).wf = true) :
    Calls Try.prog 4 #[.int .i64 a0, .int .i64 a1] w fun e w' => e = .returned (.bool true) ∧ Below w.heap.size w w' := by
  obtain ⟨k, h⟩ := P a0 a1 w0 w1
  refine (bocagelaw01_SatCeils.calls k a0 a1 true w h).mono ?_
  rintro e w' ⟨rfl, hd⟩
  exact ⟨rfl, hd⟩

/-! ### bocagelaw01_SatOrder: function 5 -/
def bocagelaw01_SatOrder.f (k : Nat) (a0 : Int) (a1 : Int) (a2 : Int) : Option (Bool) := if a0 > a1 then ((bocagelaw01_alive.f k).bind fun t210 => (some t210)) else ((bocagelaw01_alive.f k).bind fun t211 => (if t211 = true then ((sat_Add.f a0 a2).bind fun t212 => ((sat_Add.f a1 a2).bind fun t213 => (if t212 ≤ t213 then ((sat_Sub.f a0 a2).bind fun t214 => ((sat_Sub.f a1 a2).bind fun t215 => (if t214 ≤ t215 then ((sat_Sub.f a2 a0).bind fun t216 => ((sat_Sub.f a2 a1).bind fun t217 => (if t216 ≥ t217 then (if a2 < 0 then (if a2 > 0 then (some true) else ((sat_Add.f (-9223372036854775808) a2).bind fun t218 => (some (t218 == (-9223372036854775808))))) else ((sat_Add.f 9223372036854775807 a2).bind fun t219 => (if t219 = 9223372036854775807 then (if a2 > 0 then (some true) else ((sat_Add.f (-9223372036854775808) a2).bind fun t220 => (some (t220 == (-9223372036854775808))))) else (some false)))) else (some false)))) else (some false)))) else (some false)))) else (some false)))
theorem bocagelaw01_SatOrder.mono : ∀ a0 a1 a2 k, LeO (bocagelaw01_SatOrder.f k a0 a1 a2) (bocagelaw01_SatOrder.f (k + 1) a0 a1 a2) := by
  intro a0 a1 a2 k
  unfold bocagelaw01_SatOrder.f
  repeat' first
      | (with_reducible exact bocagelaw01_alive.mono _)
      | (with_reducible exact LeO.refl _)
      | (with_reducible exact LeO.none _)
      | (with_reducible refine LeO.ite ?_ ?_)
      | (with_reducible refine LeO.bind ?_ (fun _ => ?_))
      | exact bocagelaw01_alive.mono _
      | exact LeO.none _
      | refine LeO.ite ?_ ?_
      | refine LeO.bind ?_ (fun _ => ?_)
set_option maxHeartbeats 8000000 in
set_option maxRecDepth 100000 in
theorem bocagelaw01_SatOrder.calls (k : Nat) (a0 : Int) (a1 : Int) (a2 : Int) (r : Bool) (w : World) (h : bocagelaw01_SatOrder.f k a0 a1 a2 = some r) :
    Calls Try.prog 5 #[.int .i64 a0, .int .i64 a1, .int .i64 a2] w fun e w' => e = .returned (.bool r) ∧ Below w.heap.size w w' := by
  have HB := Aside0.mk (Below.refl w.heap.size w)
  have H : (if a0 > a1 then ((bocagelaw01_alive.f k).bind fun t210 => (some t210)) else ((bocagelaw01_alive.f k).bind fun t211 => (if t211 = true then ((sat_Add.f a0 a2).bind fun t212 => ((sat_Add.f a1 a2).bind fun t213 => (if t212 ≤ t213 then ((sat_Sub.f a0 a2).bind fun t214 => ((sat_Sub.f a1 a2).bind fun t215 => (if t214 ≤ t215 then ((sat_Sub.f a2 a0).bind fun t216 => ((sat_Sub.f a2 a1).bind fun t217 => (if t216 ≥ t217 then (if a2 < 0 then (if a2 > 0 then (some true) else ((sat_Add.f (-9223372036854775808) a2).bind fun t218 => (some (t218 == (-9223372036854775808))))) else ((sat_Add.f 9223372036854775807 a2).bind fun t219 => (if t219 = 9223372036854775807 then (if a2 > 0 then (some true) else ((sat_Add.f (-9223372036854775808) a2).bind fun t220 => (some (t220 == (-9223372036854775808))))) else (some false)))) else (some false)))) else (some false)))) else (some false)))) else (some false)))) = some r := h
  clear h
  by_cases c4 : a0 > a1
  · rw [if_pos c4] at H
    have c4b0 : decide (a1 < a0) = true := decide_eq_true c4
    clear c4
    replace H := Option.bind_eq_some_iff.mp H
    obtain ⟨t210, A50, H⟩ := H
    replace H : (some t210) = some r := H
    have A5 := Aside0.mk A50
    clear A50
    obtain rfl := Option.some.inj H
    go_enter Try.func5, Try.ntmps5
    go_wp2_with (first | ((with_reducible refine gate_callee (f := 11) rfl ?_); refine goesL_ (some 10) rfl rfl Try.func11 (by kernel_rfl) rfl #[] rfl (by (try simp only [List.map_toArray, List.map_cons, List.map_nil]); first | done | rfl | (simp only [List.length_drop, List.length_take]; rfl)) ?_; (with_reducible refine (bocagelaw01_alive.calls k  t210 _ A5.out).mono ?_); rintro e w6 ⟨rfl, hb⟩; refine ⟨_, rfl, ?_⟩; have n0_ := Aside0.mk (below_step (by repeat (first | (with_reducible first | exact HB.out | apply below_alloc | apply pw_below_drewN | apply below_drew1) | exact HB.out)) hb); clear HB; have HB := n0_; clear n0_; (try clear hb); (try clear hb2); (try clear hk); (try clear hi)))
    go_ret
    exact ⟨by first | rfl | (simp [errW_none, errW_some] <;> rfl) | (simp [*, errW_none, errW_some] <;> rfl), by repeat (first | (with_reducible first | exact HB.out | apply below_alloc | apply pw_below_drewN | apply below_drew1) | exact HB.out)⟩
  · rw [if_neg c4] at H
    have c4b0 : decide (a1 < a0) = false := decide_eq_false c4
    clear c4
    replace H := Option.bind_eq_some_iff.mp H
    obtain ⟨t211, A70, H⟩ := H
    replace H : (if t211 = true then ((sat_Add.f a0 a2).bind fun t212 => ((sat_Add.f a1 a2).bind fun t213 => (if t212 ≤ t213 then ((sat_Sub.f a0 a2).bind fun t214 => ((sat_Sub.f a1 a2).bind fun t215 => (if t214 ≤ t215 then ((sat_Sub.f a2 a0).bind fun t216 => ((sat_Sub.f a2 a1).bind fun t217 => (if t216 ≥ t217 then (if a2 < 0 then (if a2 > 0 then (some true) else ((sat_Add.f (-9223372036854775808) a2).bind fun t218 => (some (t218 == (-9223372036854775808))))) else ((sat_Add.f 9223372036854775807 a2).bind fun t219 => (if t219 = 9223372036854775807 then (if a2 > 0 then (some true) else ((sat_Add.f (-9223372036854775808) a2).bind fun t220 => (some (t220 == (-9223372036854775808))))) else (some false)))) else (some false)))) else (some false)))) else (some false)))) else (some false)) = some r := H
    have A7 := Aside0.mk A70
    clear A70
    by_cases c8 : t211 = true
    · subst c8
      have H1 : ((sat_Add.f a0 a2).bind fun t212 => ((sat_Add.f a1 a2).bind fun t213 => (if t212 ≤ t213 then ((sat_Sub.f a0 a2).bind fun t214 => ((sat_Sub.f a1 a2).bind fun t215 => (if t214 ≤ t215 then ((sat_Sub.f a2 a0).bind fun t216 => ((sat_Sub.f a2 a1).bind fun t217 => (if t216 ≥ t217 then (if a2 < 0 then (if a2 > 0 then (some true) else ((sat_Add.f (-9223372036854775808) a2).bind fun t218 => (some (t218 == (-9223372036854775808))))) else ((sat_Add.f 9223372036854775807 a2).bind fun t219 => (if t219 = 9223372036854775807 then (if a2 > 0 then (some true) else ((sat_Add.f (-9223372036854775808) a2).bind fun t220 => (some (t220 == (-9223372036854775808))))) else (some false)))) else (some false)))) else (some false)))) else (some false)))) = some r := by rw [if_pos rfl] at H; exact H
      clear H
      have H := H1
      clear H1
      replace H := Option.bind_eq_some_iff.mp H
      obtain ⟨t212, A90, H⟩ := H
      replace H : ((sat_Add.f a1 a2).bind fun t213 => (if t212 ≤ t213 then ((sat_Sub.f a0 a2).bind fun t214 => ((sat_Sub.f a1 a2).bind fun t215 => (if t214 ≤ t215 then ((sat_Sub.f a2 a0).bind fun t216 => ((sat_Sub.f a2 a1).bind fun t217 => (if t216 ≥ t217 then (if a2 < 0 then (if a2 > 0 then (some true) else ((sat_Add.f (-9223372036854775808) a2).bind fun t218 => (some (t218 == (-9223372036854775808))))) else ((sat_Add.f 9223372036854775807 a2).bind fun t219 => (if t219 = 9223372036854775807 then (if a2 > 0 then (some true) else ((sat_Add.f (-9223372036854775808) a2).bind fun t220 => (some (t220 == (-9223372036854775808))))) else (some false)))) else (some false)))) else (some false)))) else (some false))) = some r := H
      have A9 := Aside0.mk A90
      clear A90
      replace H := Option.bind_eq_some_iff.mp H
      obtain ⟨t213, A100, H⟩ := H
      replace H : (if t212 ≤ t213 then ((sat_Sub.f a0 a2).bind fun t214 => ((sat_Sub.f a1 a2).bind fun t215 => (if t214 ≤ t215 then ((sat_Sub.f a2 a0).bind fun t216 => ((sat_Sub.f a2 a1).bind fun t217 => (if t216 ≥ t217 then (if a2 < 0 then (if a2 > 0 then (some true) else ((sat_Add.f (-9223372036854775808) a2).bind fun t218 => (some (t218 == (-9223372036854775808))))) else ((sat_Add.f 9223372036854775807 a2).bind fun t219 => (if t219 = 9223372036854775807 then (if a2 > 0 then (some true) else ((sat_Add.f (-9223372036854775808) a2).bind fun t220 => (some (t220 == (-9223372036854775808))))) else (some false)))) else (some false)))) else (some false)))) else (some false)) = some r := H
      have A10 := Aside0.mk A100
      clear A100
      by_cases c11 : t212 ≤ t213
      · rw [if_pos c11] at H
        have c11b0 : decide (t212 ≤ t213) = true := decide_eq_true c11
        clear c11
        replace H := Option.bind_eq_some_iff.mp H
        obtain ⟨t214, A120, H⟩ := H
        replace H : ((sat_Sub.f a1 a2).bind fun t215 => (if t214 ≤ t215 then ((sat_Sub.f a2 a0).bind fun t216 => ((sat_Sub.f a2 a1).bind fun t217 => (if t216 ≥ t217 then (if a2 < 0 then (if a2 > 0 then (some true) else ((sat_Add.f (-9223372036854775808) a2).bind fun t218 => (some (t218 == (-9223372036854775808))))) else ((sat_Add.f 9223372036854775807 a2).bind fun t219 => (if t219 = 9223372036854775807 then (if a2 > 0 then (some true) else ((sat_Add.f (-9223372036854775808) a2).bind fun t220 => (some (t220 == (-9223372036854775808))))) else (some false)))) else (some false)))) else (some false))) = some r := H
        have A12 := Aside0.mk A120
        clear A120
        replace H := Option.bind_eq_some_iff.mp H
        obtain ⟨t215, A130, H⟩ := H
        replace H : (if t214 ≤ t215 then ((sat_Sub.f a2 a0).bind fun t216 => ((sat_Sub.f a2 a1).bind fun t217 => (if t216 ≥ t217 then (if a2 < 0 then (if a2 > 0 then (some true) else ((sat_Add.f (-9223372036854775808) a2).bind fun t218 => (some (t218 == (-9223372036854775808))))) else ((sat_Add.f 9223372036854775807 a2).bind fun t219 => (if t219 = 9223372036854775807 then (if a2 > 0 then (some true) else ((sat_Add.f (-9223372036854775808) a2).bind fun t220 => (some (t220 == (-9223372036854775808))))) else (some false)))) else (some false)))) else (some false)) = some r := H
        have A13 := Aside0.mk A130
        clear A130
        by_cases c14 : t214 ≤ t215
        · rw [if_pos c14] at H
          have c14b0 : decide (t214 ≤ t215) = true := decide_eq_true c14
          clear c14
          replace H := Option.bind_eq_some_iff.mp H
          obtain ⟨t216, A150, H⟩ := H
          replace H : ((sat_Sub.f a2 a1).bind fun t217 => (if t216 ≥ t217 then (if a2 < 0 then (if a2 > 0 then (some true) else ((sat_Add.f (-9223372036854775808) a2).bind fun t218 => (some (t218 == (-9223372036854775808))))) else ((sat_Add.f 9223372036854775807 a2).bind fun t219 => (if t219 = 9223372036854775807 then (if a2 > 0 then (some true) else ((sat_Add.f (-9223372036854775808) a2).bind fun t220 => (some (t220 == (-9223372036854775808))))) else (some false)))) else (some false))) = some r := H
          have A15 := Aside0.mk A150
          clear A150
          replace H := Option.bind_eq_some_iff.mp H
          obtain ⟨t217, A160, H⟩ := H
          replace H : (if t216 ≥ t217 then (if a2 < 0 then (if a2 > 0 then (some true) else ((sat_Add.f (-9223372036854775808) a2).bind fun t218 => (some (t218 == (-9223372036854775808))))) else ((sat_Add.f 9223372036854775807 a2).bind fun t219 => (if t219 = 9223372036854775807 then (if a2 > 0 then (some true) else ((sat_Add.f (-9223372036854775808) a2).bind fun t220 => (some (t220 == (-9223372036854775808))))) else (some false)))) else (some false)) = some r := H
          have A16 := Aside0.mk A160
          clear A160
          by_cases c17 : t216 ≥ t217
          · rw [if_pos c17] at H
            have c17b0 : decide (t217 ≤ t216) = true := decide_eq_true c17
            clear c17
            by_cases c18 : a2 < 0
            · rw [if_pos c18] at H
              have c18b0 : decide (a2 < 0) = true := decide_eq_true c18
              clear c18
              by_cases c19 : a2 > 0
              · rw [if_pos c19] at H
                have c19b0 : decide (0 < a2) = true := decide_eq_true c19
                clear c19
                obtain rfl := Option.some.inj H
                go_enter Try.func5, Try.ntmps5
                go_wp2_with (first | ((with_reducible refine gate_callee (f := 11) rfl ?_); refine goesL_ (some 11) rfl rfl Try.func11 (by kernel_rfl) rfl #[] rfl (by (try simp only [List.map_toArray, List.map_cons, List.map_nil]); first | done | rfl | (simp only [List.length_drop, List.length_take]; rfl)) ?_; (with_reducible refine (bocagelaw01_alive.calls k  true _ A7.out).mono ?_); rintro e w20 ⟨rfl, hb⟩; refine ⟨_, rfl, ?_⟩; have n0_ := Aside0.mk (below_step (by repeat (first | (with_reducible first | exact HB.out | apply below_alloc | apply pw_below_drewN | apply below_drew1) | exact HB.out)) hb); clear HB; have HB := n0_; clear n0_; (try clear hb); (try clear hb2); (try clear hk); (try clear hi)) | (go_at_call 12; (with_reducible refine (sat_Add.calls a0 a2 t212 _ A9.out).mono ?_); rintro e w' ⟨rfl, ⟨nd, rfl⟩⟩) | (go_at_call 12; (with_reducible refine (sat_Add.calls a1 a2 t213 _ A10.out).mono ?_); rintro e w' ⟨rfl, ⟨nd, rfl⟩⟩) | (go_at_call 15; (with_reducible refine (sat_Sub.calls a0 a2 t214 _ A12.out).mono ?_); rintro e w' ⟨rfl, ⟨nd, rfl⟩⟩) | (go_at_call 15; (with_reducible refine (sat_Sub.calls a1 a2 t215 _ A13.out).mono ?_); rintro e w' ⟨rfl, ⟨nd, rfl⟩⟩) | (go_at_call 15; (with_reducible refine (sat_Sub.calls a2 a0 t216 _ A15.out).mono ?_); rintro e w' ⟨rfl, ⟨nd, rfl⟩⟩) | (go_at_call 15; (with_reducible refine (sat_Sub.calls a2 a1 t217 _ A16.out).mono ?_); rintro e w' ⟨rfl, ⟨nd, rfl⟩⟩))
                go_ret
                exact ⟨by first | rfl | (simp [errW_none, errW_some] <;> rfl) | (simp [*, errW_none, errW_some] <;> rfl), by repeat (first | (with_reducible first | exact HB.out | apply below_alloc | apply pw_below_drewN | apply below_drew1) | exact HB.out)⟩
              · rw [if_neg c19] at H
                have c19b0 : decide (0 < a2) = false := decide_eq_false c19
                clear c19
                replace H := Option.bind_eq_some_iff.mp H
                obtain ⟨t218, A210, H⟩ := H
                replace H : (some (t218 == (-9223372036854775808))) = some r := H
                have A21 := Aside0.mk A210
                clear A210
                obtain rfl := Option.some.inj H
                go_enter Try.func5, Try.ntmps5
                go_wp2_with (first | ((with_reducible refine gate_callee (f := 11) rfl ?_); refine goesL_ (some 11) rfl rfl Try.func11 (by kernel_rfl) rfl #[] rfl (by (try simp only [List.map_toArray, List.map_cons, List.map_nil]); first | done | rfl | (simp only [List.length_drop, List.length_take]; rfl)) ?_; (with_reducible refine (bocagelaw01_alive.calls k  true _ A7.out).mono ?_); rintro e w22 ⟨rfl, hb⟩; refine ⟨_, rfl, ?_⟩; have n0_ := Aside0.mk (below_step (by repeat (first | (with_reducible first | exact HB.out | apply below_alloc | apply pw_below_drewN | apply below_drew1) | exact HB.out)) hb); clear HB; have HB := n0_; clear n0_; (try clear hb); (try clear hb2); (try clear hk); (try clear hi)) | (go_at_call 12; (with_reducible refine (sat_Add.calls a0 a2 t212 _ A9.out).mono ?_); rintro e w' ⟨rfl, ⟨nd, rfl⟩⟩) | (go_at_call 12; (with_reducible refine (sat_Add.calls a1 a2 t213 _ A10.out).mono ?_); rintro e w' ⟨rfl, ⟨nd, rfl⟩⟩) | (go_at_call 15; (with_reducible refine (sat_Sub.calls a0 a2 t214 _ A12.out).mono ?_); rintro e w' ⟨rfl, ⟨nd, rfl⟩⟩) | (go_at_call 15; (with_reducible refine (sat_Sub.calls a1 a2 t215 _ A13.out).mono ?_); rintro e w' ⟨rfl, ⟨nd, rfl⟩⟩) | (go_at_call 15; (with_reducible refine (sat_Sub.calls a2 a0 t216 _ A15.out).mono ?_); rintro e w' ⟨rfl, ⟨nd, rfl⟩⟩) | (go_at_call 15; (with_reducible refine (sat_Sub.calls a2 a1 t217 _ A16.out).mono ?_); rintro e w' ⟨rfl, ⟨nd, rfl⟩⟩) | (go_at_call 12; (with_reducible refine (sat_Add.calls (-9223372036854775808) a2 t218 _ A21.out).mono ?_); rintro e w' ⟨rfl, ⟨nd, rfl⟩⟩))
                go_ret
                exact ⟨by first | rfl | (simp [errW_none, errW_some] <;> rfl) | (simp [*, errW_none, errW_some] <;> rfl), by repeat (first | (with_reducible first | exact HB.out | apply below_alloc | apply pw_below_drewN | apply below_drew1) | exact HB.out)⟩
            · rw [if_neg c18] at H
              have c18b0 : decide (a2 < 0) = false := decide_eq_false c18
              clear c18
              replace H := Option.bind_eq_some_iff.mp H
              obtain ⟨t219, A230, H⟩ := H
              replace H : (if t219 = 9223372036854775807 then (if a2 > 0 then (some true) else ((sat_Add.f (-9223372036854775808) a2).bind fun t220 => (some (t220 == (-9223372036854775808))))) else (some false)) = some r := H
              have A23 := Aside0.mk A230
              clear A230
              by_cases c24 : t219 = 9223372036854775807
              · rw [if_pos c24] at H
                have c24b0 : (t219 == 9223372036854775807) = true := beq_iff_eq.mpr c24
                have c24b1 : (t219 != 9223372036854775807) = false := bne_eq_false_iff_eq.mpr c24
                clear c24
                by_cases c25 : a2 > 0
                · rw [if_pos c25] at H
                  have c25b0 : decide (0 < a2) = true := decide_eq_true c25
                  clear c25
                  obtain rfl := Option.some.inj H
                  go_enter Try.func5, Try.ntmps5
                  go_wp2_with (first | ((with_reducible refine gate_callee (f := 11) rfl ?_); refine goesL_ (some 11) rfl rfl Try.func11 (by kernel_rfl) rfl #[] rfl (by (try simp only [List.map_toArray, List.map_cons, List.map_nil]); first | done | rfl | (simp only [List.length_drop, List.length_take]; rfl)) ?_; (with_reducible refine (bocagelaw01_alive.calls k  true _ A7.out).mono ?_); rintro e w26 ⟨rfl, hb⟩; refine ⟨_, rfl, ?_⟩; have n0_ := Aside0.mk (below_step (by repeat (first | (with_reducible first | exact HB.out | apply below_alloc | apply pw_below_drewN | apply below_drew1) | exact HB.out)) hb); clear HB; have HB := n0_; clear n0_; (try clear hb); (try clear hb2); (try clear hk); (try clear hi)) | (go_at_call 12; (with_reducible refine (sat_Add.calls a0 a2 t212 _ A9.out).mono ?_); rintro e w' ⟨rfl, ⟨nd, rfl⟩⟩) | (go_at_call 12; (with_reducible refine (sat_Add.calls a1 a2 t213 _ A10.out).mono ?_); rintro e w' ⟨rfl, ⟨nd, rfl⟩⟩) | (go_at_call 15; (with_reducible refine (sat_Sub.calls a0 a2 t214 _ A12.out).mono ?_); rintro e w' ⟨rfl, ⟨nd, rfl⟩⟩) | (go_at_call 15; (with_reducible refine (sat_Sub.calls a1 a2 t215 _ A13.out).mono ?_); rintro e w' ⟨rfl, ⟨nd, rfl⟩⟩) | (go_at_call 15; (with_reducible refine (sat_Sub.calls a2 a0 t216 _ A15.out).mono ?_); rintro e w' ⟨rfl, ⟨nd, rfl⟩⟩) | (go_at_call 15; (with_reducible refine (sat_Sub.calls a2 a1 t217 _ A16.out).mono ?_); rintro e w' ⟨rfl, ⟨nd, rfl⟩⟩) | (go_at_call 12; (with_reducible refine (sat_Add.calls 9223372036854775807 a2 t219 _ A23.out).mono ?_); rintro e w' ⟨rfl, ⟨nd, rfl⟩⟩))
                  go_ret
                  exact ⟨by first | rfl | (simp [errW_none, errW_some] <;> rfl) | (simp [*, errW_none, errW_some] <;> rfl), by repeat (first | (with_reducible first | exact HB.out | apply below_alloc | apply pw_below_drewN | apply below_drew1) | exact HB.out)⟩
                · rw [if_neg c25] at H
                  have c25b0 : decide (0 < a2) = false := decide_eq_false c25
                  clear c25
                  replace H := Option.bind_eq_some_iff.mp H
                  obtain ⟨t220, A270, H⟩ := H
                  replace H : (some (t220 == (-9223372036854775808))) = some r := H
                  have A27 := Aside0.mk A270
                  clear A270
                  obtain rfl := Option.some.inj H
                  go_enter Try.func5, Try.ntmps5
                  go_wp2_with (first | ((with_reducible refine gate_callee (f := 11) rfl ?_); refine goesL_ (some 11) rfl rfl Try.func11 (by kernel_rfl) rfl #[] rfl (by (try simp only [List.map_toArray, List.map_cons, List.map_nil]); first | done | rfl | (simp only [List.length_drop, List.length_take]; rfl)) ?_; (with_reducible refine (bocagelaw01_alive.calls k  true _ A7.out).mono ?_); rintro e w28 ⟨rfl, hb⟩; refine ⟨_, rfl, ?_⟩; have n0_ := Aside0.mk (below_step (by repeat (first | (with_reducible first | exact HB.out | apply below_alloc | apply pw_below_drewN | apply below_drew1) | exact HB.out)) hb); clear HB; have HB := n0_; clear n0_; (try clear hb); (try clear hb2); (try clear hk); (try clear hi)) | (go_at_call 12; (with_reducible refine (sat_Add.calls a0 a2 t212 _ A9.out).mono ?_); rintro e w' ⟨rfl, ⟨nd, rfl⟩⟩) | (go_at_call 12; (with_reducible refine (sat_Add.calls a1 a2 t213 _ A10.out).mono ?_); rintro e w' ⟨rfl, ⟨nd, rfl⟩⟩) | (go_at_call 15; (with_reducible refine (sat_Sub.calls a0 a2 t214 _ A12.out).mono ?_); rintro e w' ⟨rfl, ⟨nd, rfl⟩⟩) | (go_at_call 15; (with_reducible refine (sat_Sub.calls a1 a2 t215 _ A13.out).mono ?_); rintro e w' ⟨rfl, ⟨nd, rfl⟩⟩) | (go_at_call 15; (with_reducible refine (sat_Sub.calls a2 a0 t216 _ A15.out).mono ?_); rintro e w' ⟨rfl, ⟨nd, rfl⟩⟩) | (go_at_call 15; (with_reducible refine (sat_Sub.calls a2 a1 t217 _ A16.out).mono ?_); rintro e w' ⟨rfl, ⟨nd, rfl⟩⟩) | (go_at_call 12; (with_reducible refine (sat_Add.calls 9223372036854775807 a2 t219 _ A23.out).mono ?_); rintro e w' ⟨rfl, ⟨nd, rfl⟩⟩) | (go_at_call 12; (with_reducible refine (sat_Add.calls (-9223372036854775808) a2 t220 _ A27.out).mono ?_); rintro e w' ⟨rfl, ⟨nd, rfl⟩⟩))
                  go_ret
                  exact ⟨by first | rfl | (simp [errW_none, errW_some] <;> rfl) | (simp [*, errW_none, errW_some] <;> rfl), by repeat (first | (with_reducible first | exact HB.out | apply below_alloc | apply pw_below_drewN | apply below_drew1) | exact HB.out)⟩
              · rw [if_neg c24] at H
                have c24b0 : (t219 == 9223372036854775807) = false := beq_eq_false_iff_ne.mpr c24
                have c24b1 : (t219 != 9223372036854775807) = true := bne_iff_ne.mpr c24
                obtain rfl := Option.some.inj H
                go_enter Try.func5, Try.ntmps5
                go_wp2_with (first | ((with_reducible refine gate_callee (f := 11) rfl ?_); refine goesL_ (some 11) rfl rfl Try.func11 (by kernel_rfl) rfl #[] rfl (by (try simp only [List.map_toArray, List.map_cons, List.map_nil]); first | done | rfl | (simp only [List.length_drop, List.length_take]; rfl)) ?_; (with_reducible refine (bocagelaw01_alive.calls k  true _ A7.out).mono ?_); rintro e w29 ⟨rfl, hb⟩; refine ⟨_, rfl, ?_⟩; have n0_ := Aside0.mk (below_step (by repeat (first | (with_reducible first | exact HB.out | apply below_alloc | apply pw_below_drewN | apply below_drew1) | exact HB.out)) hb); clear HB; have HB := n0_; clear n0_; (try clear hb); (try clear hb2); (try clear hk); (try clear hi)) | (go_at_call 12; (with_reducible refine (sat_Add.calls a0 a2 t212 _ A9.out).mono ?_); rintro e w' ⟨rfl, ⟨nd, rfl⟩⟩) | (go_at_call 12; (with_reducible refine (sat_Add.calls a1 a2 t213 _ A10.out).mono ?_); rintro e w' ⟨rfl, ⟨nd, rfl⟩⟩) | (go_at_call 15; (with_reducible refine (sat_Sub.calls a0 a2 t214 _ A12.out).mono ?_); rintro e w' ⟨rfl, ⟨nd, rfl⟩⟩) | (go_at_call 15; (with_reducible refine (sat_Sub.calls a1 a2 t215 _ A13.out).mono ?_); rintro e w' ⟨rfl, ⟨nd, rfl⟩⟩) | (go_at_call 15; (with_reducible refine (sat_Sub.calls a2 a0 t216 _ A15.out).mono ?_); rintro e w' ⟨rfl, ⟨nd, rfl⟩⟩) | (go_at_call 15; (with_reducible refine (sat_Sub.calls a2 a1 t217 _ A16.out).mono ?_); rintro e w' ⟨rfl, ⟨nd, rfl⟩⟩) | (go_at_call 12; (with_reducible refine (sat_Add.calls 9223372036854775807 a2 t219 _ A23.out).mono ?_); rintro e w' ⟨rfl, ⟨nd, rfl⟩⟩))
                go_ret
                exact ⟨by first | rfl | (simp [errW_none, errW_some] <;> rfl) | (simp [*, errW_none, errW_some] <;> rfl), by repeat (first | (with_reducible first | exact HB.out | apply below_alloc | apply pw_below_drewN | apply below_drew1) | exact HB.out)⟩
          · rw [if_neg c17] at H
            have c17b0 : decide (t217 ≤ t216) = false := decide_eq_false c17
            clear c17
            obtain rfl := Option.some.inj H
            go_enter Try.func5, Try.ntmps5
            go_wp2_with (first | ((with_reducible refine gate_callee (f := 11) rfl ?_); refine goesL_ (some 11) rfl rfl Try.func11 (by kernel_rfl) rfl #[] rfl (by (try simp only [List.map_toArray, List.map_cons, List.map_nil]); first | done | rfl | (simp only [List.length_drop, List.length_take]; rfl)) ?_; (with_reducible refine (bocagelaw01_alive.calls k  true _ A7.out).mono ?_); rintro e w30 ⟨rfl, hb⟩; refine ⟨_, rfl, ?_⟩; have n0_ := Aside0.mk (below_step (by repeat (first | (with_reducible first | exact HB.out | apply below_alloc | apply pw_below_drewN | apply below_drew1) | exact HB.out)) hb); clear HB; have HB := n0_; clear n0_; (try clear hb); (try clear hb2); (try clear hk); (try clear hi)) | (go_at_call 12; (with_reducible refine (sat_Add.calls a0 a2 t212 _ A9.out).mono ?_); rintro e w' ⟨rfl, ⟨nd, rfl⟩⟩) | (go_at_call 12; (with_reducible refine (sat_Add.calls a1 a2 t213 _ A10.out).mono ?_); rintro e w' ⟨rfl, ⟨nd, rfl⟩⟩) | (go_at_call 15; (with_reducible refine (sat_Sub.calls a0 a2 t214 _ A12.out).mono ?_); rintro e w' ⟨rfl, ⟨nd, rfl⟩⟩) | (go_at_call 15; (with_reducible refine (sat_Sub.calls a1 a2 t215 _ A13.out).mono ?_); rintro e w' ⟨rfl, ⟨nd, rfl⟩⟩) | (go_at_call 15; (with_reducible refine (sat_Sub.calls a2 a0 t216 _ A15.out).mono ?_); rintro e w' ⟨rfl, ⟨nd, rfl⟩⟩) | (go_at_call 15; (with_reducible refine (sat_Sub.calls a2 a1 t217 _ A16.out).mono ?_); rintro e w' ⟨rfl, ⟨nd, rfl⟩⟩))
            go_ret
            exact ⟨by first | rfl | (simp [errW_none, errW_some] <;> rfl) | (simp [*, errW_none, errW_some] <;> rfl), by repeat (first | (with_reducible first | exact HB.out | apply below_alloc | apply pw_below_drewN | apply below_drew1) | exact HB.out)⟩
        · rw [if_neg c14] at H
          have c14b0 : decide (t214 ≤ t215) = false := decide_eq_false c14
          clear c14
          obtain rfl := Option.some.inj H
          go_enter Try.func5, Try.ntmps5
          go_wp2_with (first | ((with_reducible refine gate_callee (f := 11) rfl ?_); refine goesL_ (some 11) rfl rfl Try.func11 (by kernel_rfl) rfl #[] rfl (by (try simp only [List.map_toArray, List.map_cons, List.map_nil]); first | done | rfl | (simp only [List.length_drop, List.length_take]; rfl)) ?_; (with_reducible refine (bocagelaw01_alive.calls k  true _ A7.out).mono ?_); rintro e w31 ⟨rfl, hb⟩; refine ⟨_, rfl, ?_⟩; have n0_ := Aside0.mk (below_step (by repeat (first | (with_reducible first | exact HB.out | apply below_alloc | apply pw_below_drewN | apply below_drew1) | exact HB.out)) hb); clear HB; have HB := n0_; clear n0_; (try clear hb); (try clear hb2); (try clear hk); (try clear hi)) | (go_at_call 12; (with_reducible refine (sat_Add.calls a0 a2 t212 _ A9.out).mono ?_); rintro e w' ⟨rfl, ⟨nd, rfl⟩⟩) | (go_at_call 12; (with_reducible refine (sat_Add.calls a1 a2 t213 _ A10.out).mono ?_); rintro e w' ⟨rfl, ⟨nd, rfl⟩⟩) | (go_at_call 15; (with_reducible refine (sat_Sub.calls a0 a2 t214 _ A12.out).mono ?_); rintro e w' ⟨rfl, ⟨nd, rfl⟩⟩) | (go_at_call 15; (with_reducible refine (sat_Sub.calls a1 a2 t215 _ A13.out).mono ?_); rintro e w' ⟨rfl, ⟨nd, rfl⟩⟩))
          go_ret
          exact ⟨by first | rfl | (simp [errW_none, errW_some] <;> rfl) | (simp [*, errW_none, errW_some] <;> rfl), by repeat (first | (with_reducible first | exact HB.out | apply below_alloc | apply pw_below_drewN | apply below_drew1) | exact HB.out)⟩
      · rw [if_neg c11] at H
        have c11b0 : decide (t212 ≤ t213) = false := decide_eq_false c11
        clear c11
        obtain rfl := Option.some.inj H
        go_enter Try.func5, Try.ntmps5
        go_wp2_with (first | ((with_reducible refine gate_callee (f := 11) rfl ?_); refine goesL_ (some 11) rfl rfl Try.func11 (by kernel_rfl) rfl #[] rfl (by (try simp only [List.map_toArray, List.map_cons, List.map_nil]); first | done | rfl | (simp only [List.length_drop, List.length_take]; rfl)) ?_; (with_reducible refine (bocagelaw01_alive.calls k  true _ A7.out).mono ?_); rintro e w32 ⟨rfl, hb⟩; refine ⟨_, rfl, ?_⟩; have n0_ := Aside0.mk (below_step (by repeat (first | (with_reducible first | exact HB.out | apply below_alloc | apply pw_below_drewN | apply below_drew1) | exact HB.out)) hb); clear HB; have HB := n0_; clear n0_; (try clear hb); (try clear hb2); (try clear hk); (try clear hi)) | (go_at_call 12; (with_reducible refine (sat_Add.calls a0 a2 t212 _ A9.out).mono ?_); rintro e w' ⟨rfl, ⟨nd, rfl⟩⟩) | (go_at_call 12; (with_reducible refine (sat_Add.calls a1 a2 t213 _ A10.out).mono ?_); rintro e w' ⟨rfl, ⟨nd, rfl⟩⟩))
        go_ret
        exact ⟨by first | rfl | (simp [errW_none, errW_some] <;> rfl) | (simp [*, errW_none, errW_some] <;> rfl), by repeat (first | (with_reducible first | exact HB.out | apply below_alloc | apply pw_below_drewN | apply below_drew1) | exact HB.out)⟩
    · replace c8 := Bool.eq_false_iff.mpr c8
      subst c8
      have H1 : (some false) = some r := by rw [if_neg (show ¬ (false = true) by decide)] at H; exact H
      clear H
      have H := H1
      clear H1
      obtain rfl := Option.some.inj H
      go_enter Try.func5, Try.ntmps5
      go_wp2_with (first | ((with_reducible refine gate_callee (f := 11) rfl ?_); refine goesL_ (some 11) rfl rfl Try.func11 (by kernel_rfl) rfl #[] rfl (by (try simp only [List.map_toArray, List.map_cons, List.map_nil]); first | done | rfl | (simp only [List.length_drop, List.length_take]; rfl)) ?_; (with_reducible refine (bocagelaw01_alive.calls k  false _ A7.out).mono ?_); rintro e w33 ⟨rfl, hb⟩; refine ⟨_, rfl, ?_⟩; have n0_ := Aside0.mk (below_step (by repeat (first | (with_reducible first | exact HB.out | apply below_alloc | apply pw_below_drewN | apply below_drew1) | exact HB.out)) hb); clear HB; have HB := n0_; clear n0_; (try clear hb); (try clear hb2); (try clear hk); (try clear hi)))
      go_ret
      exact ⟨by first | rfl | (simp [errW_none, errW_some] <;> rfl) | (simp [*, errW_none, errW_some] <;> rfl), by repeat (first | (with_reducible first | exact HB.out | apply below_alloc | apply pw_below_drewN | apply below_drew1) | exact HB.out)⟩

/-- THE ONE PURE STATEMENT of bocagelaw01_SatOrder: yours. -/
def bocagelaw01_SatOrder.Pure : Prop := ∀ (a0 : Int) (a1 : Int) (a2 : Int), (Lit.int .i64 a0).wf = true → (Lit.int .i64 a1).wf = true → (Lit.int .i64 a2).wf = true → ∃ k, bocagelaw01_SatOrder.f k a0 a1 a2 = some true
theorem bocagelaw01_SatOrder.walk (P : bocagelaw01_SatOrder.Pure) (a0 : Int) (a1 : Int) (a2 : Int) (w : World) (w0 : (Lit.int .i64 a0).wf = true) (w1 : (Lit.int .i64 a1).wf = true) (w2 : (Lit.int .i64 a2).wf = true) :
    Calls Try.prog 5 #[.int .i64 a0, .int .i64 a1, .int .i64 a2] w fun e w' => e = .returned (.bool true) ∧ Below w.heap.size w w' := by
  obtain ⟨k, h⟩ := P a0 a1 a2 w0 w1 w2
  refine (bocagelaw01_SatOrder.calls k a0 a1 a2 true w h).mono ?_
  rintro e w' ⟨rfl, hd⟩
  exact ⟨rfl, hd⟩

-- NOT PRINTED: function 6 (bocagelaw01_SatDigits)

/-! ### sat_Parse: function 21 -/
def sat_Parse.f (k : Nat) (a0 : ByteArray) : Option (Int × Int) := (sat_Read.f k a0).bind fun bt222 => (if bt222.2 = 0 then (some (0, 10)) else (if bt222.2 < (a0.size : Int) then (some (0, 10)) else (some (bt222.1, 0))))
theorem sat_Parse.mono : ∀ a0 k, LeO (sat_Parse.f k a0) (sat_Parse.f (k + 1) a0) := by
  intro a0 k
  unfold sat_Parse.f
  repeat' first
      | (with_reducible exact sat_Read.mono _ _)
      | (with_reducible exact LeO.refl _)
      | (with_reducible exact LeO.none _)
      | (with_reducible refine LeO.ite ?_ ?_)
      | (with_reducible refine LeO.bind ?_ (fun _ => ?_))
      | exact sat_Read.mono _ _
      | exact LeO.none _
      | refine LeO.ite ?_ ?_
      | refine LeO.bind ?_ (fun _ => ?_)
set_option maxHeartbeats 8000000 in
set_option maxRecDepth 100000 in
theorem sat_Parse.calls (k : Nat) (a0 : ByteArray) (r1 : Int) (r2 : Int) (w : World) (h : sat_Parse.f k a0 = some (r1, r2)) :
    Calls Try.prog 21 #[.string a0] w fun e w' => e = .returned (.tuple #[.int .i64 r1, .int .i64 r2]) ∧ Drawn0 w w' := by
  have H : ((sat_Read.f k a0).bind fun bt222 => (if bt222.2 = 0 then (some (0, 10)) else (if bt222.2 < (a0.size : Int) then (some (0, 10)) else (some (bt222.1, 0))))) = some (r1, r2) := h
  clear h
  replace H := Option.bind_eq_some_iff.mp H
  obtain ⟨⟨t222, t223⟩, A20, H⟩ := H
  replace H : (if t223 = 0 then (some (0, 10)) else (if t223 < (a0.size : Int) then (some (0, 10)) else (some (t222, 0)))) = some (r1, r2) := H
  have A2 := Aside0.mk A20
  clear A20
  by_cases c3 : t223 = 0
  · rw [if_pos c3] at H
    have c3b0 : (t223 == 0) = true := beq_iff_eq.mpr c3
    have c3b1 : (t223 != 0) = false := bne_eq_false_iff_eq.mpr c3
    clear c3
    simp only [Option.some.injEq, Prod.mk.injEq] at H
    obtain ⟨rfl, rfl⟩ := H
    go_enter Try.func21, Try.ntmps21
    go_wp2_with (first | ((with_reducible refine gate_callee (f := 23) rfl ?_); refine goesL_ (some 8) rfl rfl Try.func23 (by kernel_rfl) rfl #[.string a0] rfl (by (try simp only [List.map_toArray, List.map_cons, List.map_nil]); first | done | rfl | (simp only [List.length_drop, List.length_take]; rfl)) ?_; (with_reducible refine (sat_Read.calls k a0 t222 t223 _ A2.out).mono ?_); rintro e w' ⟨rfl, ⟨nd, rfl⟩⟩; refine ⟨_, rfl, ?_⟩))
    go_ret2
    exact ⟨by first | rfl | (simp; done) | (simp [*]; done), by repeat (first | exact Drawn0.refl _ | apply Drawn0.step)⟩
  · rw [if_neg c3] at H
    have c3b0 : (t223 == 0) = false := beq_eq_false_iff_ne.mpr c3
    have c3b1 : (t223 != 0) = true := bne_iff_ne.mpr c3
    by_cases c4 : t223 < (a0.size : Int)
    · rw [if_pos c4] at H
      have c4b0 : decide (t223 < (a0.size : Int)) = true := decide_eq_true c4
      clear c4
      simp only [Option.some.injEq, Prod.mk.injEq] at H
      obtain ⟨rfl, rfl⟩ := H
      go_enter Try.func21, Try.ntmps21
      go_wp2_with (first | ((with_reducible refine gate_callee (f := 23) rfl ?_); refine goesL_ (some 8) rfl rfl Try.func23 (by kernel_rfl) rfl #[.string a0] rfl (by (try simp only [List.map_toArray, List.map_cons, List.map_nil]); first | done | rfl | (simp only [List.length_drop, List.length_take]; rfl)) ?_; (with_reducible refine (sat_Read.calls k a0 t222 t223 _ A2.out).mono ?_); rintro e w' ⟨rfl, ⟨nd, rfl⟩⟩; refine ⟨_, rfl, ?_⟩))
      go_ret2
      exact ⟨by first | rfl | (simp; done) | (simp [*]; done), by repeat (first | exact Drawn0.refl _ | apply Drawn0.step)⟩
    · rw [if_neg c4] at H
      have c4b0 : decide (t223 < (a0.size : Int)) = false := decide_eq_false c4
      clear c4
      simp only [Option.some.injEq, Prod.mk.injEq] at H
      obtain ⟨rfl, rfl⟩ := H
      go_enter Try.func21, Try.ntmps21
      go_wp2_with (first | ((with_reducible refine gate_callee (f := 23) rfl ?_); refine goesL_ (some 8) rfl rfl Try.func23 (by kernel_rfl) rfl #[.string a0] rfl (by (try simp only [List.map_toArray, List.map_cons, List.map_nil]); first | done | rfl | (simp only [List.length_drop, List.length_take]; rfl)) ?_; (with_reducible refine (sat_Read.calls k a0 t222 t223 _ A2.out).mono ?_); rintro e w' ⟨rfl, ⟨nd, rfl⟩⟩; refine ⟨_, rfl, ?_⟩))
      go_ret2
      exact ⟨by first | rfl | (simp; done) | (simp [*]; done), by repeat (first | exact Drawn0.refl _ | apply Drawn0.step)⟩

end Go.Proofs.Ytcgpgbhhlepefaa.Print
