-- Laid by wip/print/bprint.py of this repo, over the kit's printer, with functions given by hand; not trusted: Lean checks it.
import Derived.Test.YtagcloidicnhhaaPrint0
import Derived.Test.YtagcloidicnhhaaPrint1
import Derived.Test.YtagcloidicnhhaaPrint2
import Derived.Test.YtagcloidicnhhaaPrint5
namespace Go.Proofs.Ytagcloidicnhhaa.Print
open Go.RowKit Go.Proofs.YtagcloidicnhhaaW.PrintWords Go.Proofs.YtagcloidicnhhaaW.PrintLast Go.Proofs.YtagcloidicnhhaaW.PrintMore
attribute [local go_sem] max2_int min2_int max_two min_two max_three min_three max_four min_four   -- for this text's walks alone
set_option linter.unusedVariables false
set_option linter.unusedSimpArgs false

/-! ### bocagelaw13_CombAll: function 7 -/
def bocagelaw13_CombAll.j0 : Nat → Int → Bool → Option (Bool)
  | 0, _, _ => none
  | k + 1, x0, x48 => if x48 = true then (some false) else ((bocagelaw13_alive.f k).bind fun t173 => (if t173 = true then ((comb_Name.f x0).bind fun t174 => ((bocageref13_Name.f x0).bind fun t175 => (if t174.toList = t175.toList then ((comb_Right.f x0).bind fun t176 => (if x0 ≥ 1 then (if (t176 == (decide (x0 ≤ 6))) = true then ((comb_Name.f x0).bind fun t177 => ((comb_Find.f t177).bind fun t178 => ((bocageref13_Name.f x0).bind fun t179 => ((bocageref13_Find.f k t179).bind fun t180 => (if t178 = t180 then ((comb_Commutes.f x0).bind fun t181 => (if x0 = 3 then (some (t181 == true)) else (some (t181 == (x0 == 4))))) else (some false)))))) else (some false)) else (if (t176 == false) = true then ((comb_Name.f x0).bind fun t182 => ((comb_Find.f t182).bind fun t183 => ((bocageref13_Name.f x0).bind fun t184 => ((bocageref13_Find.f k t184).bind fun t185 => (if t183 = t185 then ((comb_Commutes.f x0).bind fun t186 => (if x0 = 3 then (some (t186 == true)) else (some (t186 == (x0 == 4))))) else (some false)))))) else (some false)))) else (some false)))) else (some false)))
def bocagelaw13_CombAll.f (k : Nat) (a0 : Int) (a1 : Int) (a2 : Int) : Option (Bool) := (comb_Same.f k a0).bind fun bt165 => ((bocageref13_Same.f a0).bind fun bt167 => ((comb_Do.f a0 a1 a2).bind fun t169 => ((bocageref13_Do.f k a0 a1 a2).bind fun t170 => (if t169 = t170 then ((comb_First.f a0 a2).bind fun t171 => ((bocageref13_First.f k a0 a2).bind fun t172 => (if t171 = t172 then (if bt165.1 = bt167.1 then (bocagelaw13_CombAll.j0 k a0 (bt165.2 != bt167.2)) else (bocagelaw13_CombAll.j0 k a0 true)) else (bocagelaw13_CombAll.j0 k a0 true)))) else (bocagelaw13_CombAll.j0 k a0 true)))))
theorem bocagelaw13_CombAll.mono_l : ∀ k, (∀ y0 y1, LeO (bocagelaw13_CombAll.j0 k y0 y1) (bocagelaw13_CombAll.j0 (k + 1) y0 y1))
  | 0 => fun _ _ r h => by simp [bocagelaw13_CombAll.j0] at h
  | k + 1 => by
    have ih0 := bocagelaw13_CombAll.mono_l k
    · intro y0 y1
      unfold bocagelaw13_CombAll.j0
      repeat' first
      | (with_reducible exact ih0 _ _)
      | (with_reducible exact bocagelaw13_alive.mono _)
      | (with_reducible exact bocageref13_Do.mono _ _ _ _)
      | (with_reducible exact bocageref13_Find.mono _ _)
      | (with_reducible exact bocageref13_First.mono _ _ _)
      | (with_reducible exact comb_Same.mono _ _)
      | (with_reducible exact LeO.refl _)
      | (with_reducible exact LeO.none _)
      | (with_reducible refine LeO.ite ?_ ?_)
      | (with_reducible refine LeO.bind ?_ (fun _ => ?_))
      | exact ih0 _ _
      | exact bocagelaw13_alive.mono _
      | exact bocageref13_Do.mono _ _ _ _
      | exact bocageref13_Find.mono _ _
      | exact bocageref13_First.mono _ _ _
      | exact comb_Same.mono _ _
      | exact LeO.none _
      | refine LeO.ite ?_ ?_
      | refine LeO.bind ?_ (fun _ => ?_)
theorem bocagelaw13_CombAll.mono : ∀ a0 a1 a2 k, LeO (bocagelaw13_CombAll.f k a0 a1 a2) (bocagelaw13_CombAll.f (k + 1) a0 a1 a2) := by
  intro a0 a1 a2 k
  have ih0 := bocagelaw13_CombAll.mono_l k
  unfold bocagelaw13_CombAll.f
  repeat' first
      | (with_reducible exact ih0 _ _)
      | (with_reducible exact bocagelaw13_alive.mono _)
      | (with_reducible exact bocageref13_Do.mono _ _ _ _)
      | (with_reducible exact bocageref13_Find.mono _ _)
      | (with_reducible exact bocageref13_First.mono _ _ _)
      | (with_reducible exact comb_Same.mono _ _)
      | (with_reducible exact LeO.refl _)
      | (with_reducible exact LeO.none _)
      | (with_reducible refine LeO.ite ?_ ?_)
      | (with_reducible refine LeO.bind ?_ (fun _ => ?_))
      | exact ih0 _ _
      | exact bocagelaw13_alive.mono _
      | exact bocageref13_Do.mono _ _ _ _
      | exact bocageref13_Find.mono _ _
      | exact bocageref13_First.mono _ _ _
      | exact comb_Same.mono _ _
      | exact LeO.none _
      | refine LeO.ite ?_ ?_
      | refine LeO.bind ?_ (fun _ => ?_)
set_option maxHeartbeats 8000000 in
set_option maxRecDepth 100000 in
theorem bocagelaw13_CombAll.calls (k : Nat) (a0 : Int) (a1 : Int) (a2 : Int) (r : Bool) (w : World) (h : bocagelaw13_CombAll.f k a0 a1 a2 = some r) :
    Calls Try.prog 7 #[.int .i64 a0, .int .i64 a1, .int .i64 a2] w fun e w' => e = .returned (.bool r) ∧ Below w.heap.size w w' := by
  have HB := Aside0.mk (Below.refl w.heap.size w)
  have H : ((comb_Same.f k a0).bind fun bt165 => ((bocageref13_Same.f a0).bind fun bt167 => ((comb_Do.f a0 a1 a2).bind fun t169 => ((bocageref13_Do.f k a0 a1 a2).bind fun t170 => (if t169 = t170 then ((comb_First.f a0 a2).bind fun t171 => ((bocageref13_First.f k a0 a2).bind fun t172 => (if t171 = t172 then (if bt165.1 = bt167.1 then (bocagelaw13_CombAll.j0 k a0 (bt165.2 != bt167.2)) else (bocagelaw13_CombAll.j0 k a0 true)) else (bocagelaw13_CombAll.j0 k a0 true)))) else (bocagelaw13_CombAll.j0 k a0 true)))))) = some r := h
  clear h
  replace H := Option.bind_eq_some_iff.mp H
  obtain ⟨⟨t165, t166⟩, A40, H⟩ := H
  replace H : ((bocageref13_Same.f a0).bind fun bt167 => ((comb_Do.f a0 a1 a2).bind fun t169 => ((bocageref13_Do.f k a0 a1 a2).bind fun t170 => (if t169 = t170 then ((comb_First.f a0 a2).bind fun t171 => ((bocageref13_First.f k a0 a2).bind fun t172 => (if t171 = t172 then (if t165 = bt167.1 then (bocagelaw13_CombAll.j0 k a0 (t166 != bt167.2)) else (bocagelaw13_CombAll.j0 k a0 true)) else (bocagelaw13_CombAll.j0 k a0 true)))) else (bocagelaw13_CombAll.j0 k a0 true))))) = some r := H
  have A4 := Aside0.mk A40
  clear A40
  replace H := Option.bind_eq_some_iff.mp H
  obtain ⟨⟨t167, t168⟩, A50, H⟩ := H
  replace H : ((comb_Do.f a0 a1 a2).bind fun t169 => ((bocageref13_Do.f k a0 a1 a2).bind fun t170 => (if t169 = t170 then ((comb_First.f a0 a2).bind fun t171 => ((bocageref13_First.f k a0 a2).bind fun t172 => (if t171 = t172 then (if t165 = t167 then (bocagelaw13_CombAll.j0 k a0 (t166 != t168)) else (bocagelaw13_CombAll.j0 k a0 true)) else (bocagelaw13_CombAll.j0 k a0 true)))) else (bocagelaw13_CombAll.j0 k a0 true)))) = some r := H
  have A5 := Aside0.mk A50
  clear A50
  have HC6 := Aside0.mk H
  clear H
  go_enter Try.func7, Try.ntmps7
  go_upto_region 3 with (first | ((with_reducible refine gate_callee (f := 13) rfl ?_); refine goesL_ (some 13) rfl rfl Try.func13 (by kernel_rfl) rfl #[.int .i64 a0] rfl (by (try simp only [List.map_toArray, List.map_cons, List.map_nil]); first | done | rfl | (simp only [List.length_drop, List.length_take]; rfl)) ?_; (with_reducible refine (comb_Same.calls k a0 t165 t166 _ A4.out).mono ?_); rintro e w' ⟨rfl, ⟨nd, rfl⟩⟩; refine ⟨_, rfl, ?_⟩) | ((with_reducible refine gate_callee (f := 17) rfl ?_); refine goesL_ (some 18) rfl rfl Try.func17 (by kernel_rfl) rfl #[.int .i64 a0] rfl (by (try simp only [List.map_toArray, List.map_cons, List.map_nil]); first | done | rfl | (simp only [List.length_drop, List.length_take]; rfl)) ?_; (with_reducible refine (bocageref13_Same.calls a0 t167 t168 _ A5.out).mono ?_); rintro e w' ⟨rfl, ⟨nd, rfl⟩⟩; refine ⟨_, rfl, ?_⟩))
  (try simp only [Act.put, List.setIfInBounds_toArray, List.set_cons_zero, List.set_cons_succ])
  go_cut [48] (fun v48 wc => ∃ (kq : Nat) (x48_5 : Bool), v48 = .bool x48_5 ∧ Aside0 (bocagelaw13_CombAll.j0 kq a0 x48_5 = some r) ∧ Aside0 (kq ≤ k) ∧ Aside0 (Below w.heap.size w wc))
  case first =>
    have H := HC6.out
    clear HC6
    replace H := Option.bind_eq_some_iff.mp H
    obtain ⟨t169, A70, H⟩ := H
    replace H : ((bocageref13_Do.f k a0 a1 a2).bind fun t170 => (if t169 = t170 then ((comb_First.f a0 a2).bind fun t171 => ((bocageref13_First.f k a0 a2).bind fun t172 => (if t171 = t172 then (if t165 = t167 then (bocagelaw13_CombAll.j0 k a0 (t166 != t168)) else (bocagelaw13_CombAll.j0 k a0 true)) else (bocagelaw13_CombAll.j0 k a0 true)))) else (bocagelaw13_CombAll.j0 k a0 true))) = some r := H
    have A7 := Aside0.mk A70
    clear A70
    replace H := Option.bind_eq_some_iff.mp H
    obtain ⟨t170, A80, H⟩ := H
    replace H : (if t169 = t170 then ((comb_First.f a0 a2).bind fun t171 => ((bocageref13_First.f k a0 a2).bind fun t172 => (if t171 = t172 then (if t165 = t167 then (bocagelaw13_CombAll.j0 k a0 (t166 != t168)) else (bocagelaw13_CombAll.j0 k a0 true)) else (bocagelaw13_CombAll.j0 k a0 true)))) else (bocagelaw13_CombAll.j0 k a0 true)) = some r := H
    have A8 := Aside0.mk A80
    clear A80
    by_cases c9 : t169 = t170
    · rw [if_pos c9] at H
      have c9b0 : (t169 == t170) = true := beq_iff_eq.mpr c9
      have c9b1 : (t169 != t170) = false := bne_eq_false_iff_eq.mpr c9
      clear c9
      (first | rw [c9b0] | (simp only [i64_w, i32_w]; rw [c9b0]) | skip)
      replace H := Option.bind_eq_some_iff.mp H
      obtain ⟨t171, A100, H⟩ := H
      replace H : ((bocageref13_First.f k a0 a2).bind fun t172 => (if t171 = t172 then (if t165 = t167 then (bocagelaw13_CombAll.j0 k a0 (t166 != t168)) else (bocagelaw13_CombAll.j0 k a0 true)) else (bocagelaw13_CombAll.j0 k a0 true))) = some r := H
      have A10 := Aside0.mk A100
      clear A100
      replace H := Option.bind_eq_some_iff.mp H
      obtain ⟨t172, A110, H⟩ := H
      replace H : (if t171 = t172 then (if t165 = t167 then (bocagelaw13_CombAll.j0 k a0 (t166 != t168)) else (bocagelaw13_CombAll.j0 k a0 true)) else (bocagelaw13_CombAll.j0 k a0 true)) = some r := H
      have A11 := Aside0.mk A110
      clear A110
      by_cases c12 : t171 = t172
      · rw [if_pos c12] at H
        have c12b0 : (t171 == t172) = true := beq_iff_eq.mpr c12
        have c12b1 : (t171 != t172) = false := bne_eq_false_iff_eq.mpr c12
        clear c12
        by_cases c13 : t165 = t167
        · rw [if_pos c13] at H
          have c13b0 : (t165 == t167) = true := beq_iff_eq.mpr c13
          have c13b1 : (t165 != t167) = false := bne_eq_false_iff_eq.mpr c13
          clear c13
          have H' := Aside0.mk H
          clear H
          go_wp2_with (first | ((with_reducible refine gate_callee (f := 14) rfl ?_); refine goesL_ (some 24) rfl rfl Try.func14 (by kernel_rfl) rfl #[.int .i64 a0, .int .i64 a1, .int .i64 a2] rfl (by (try simp only [List.map_toArray, List.map_cons, List.map_nil]); first | done | rfl | (simp only [List.length_drop, List.length_take]; rfl)) ?_; (with_reducible refine (comb_Do.calls a0 a1 a2 t169 _ A7.out).mono ?_); rintro e w14 ⟨rfl, hb⟩; refine ⟨_, rfl, ?_⟩; have n0_ := Aside0.mk (below_step (by repeat (first | (with_reducible first | exact HB.out | apply below_alloc | apply pw_below_drewN | apply below_drew1) | exact HB.out)) hb); clear HB; have HB := n0_; clear n0_; (try clear hb); (try clear hb2); (try clear hk); (try clear hi)) | ((with_reducible refine gate_callee (f := 15) rfl ?_); refine goesL_ (some 28) rfl rfl Try.func15 (by kernel_rfl) rfl #[.int .i64 a0, .int .i64 a1, .int .i64 a2] rfl (by (try simp only [List.map_toArray, List.map_cons, List.map_nil]); first | done | rfl | (simp only [List.length_drop, List.length_take]; rfl)) ?_; (with_reducible refine (bocageref13_Do.calls k a0 a1 a2 t170 _ A8.out).mono ?_); rintro e w15 ⟨rfl, hb⟩; refine ⟨_, rfl, ?_⟩; have n0_ := Aside0.mk (below_step (by repeat (first | (with_reducible first | exact HB.out | apply below_alloc | apply pw_below_drewN | apply below_drew1) | exact HB.out)) hb); clear HB; have HB := n0_; clear n0_; (try clear hb); (try clear hb2); (try clear hk); (try clear hi)) | (go_at_call 18; (with_reducible refine (comb_First.calls a0 a2 t171 _ A10.out).mono ?_); rintro e w' ⟨rfl, ⟨nd, rfl⟩⟩) | (go_at_call 19; (with_reducible refine (bocageref13_First.calls k a0 a2 t172 _ A11.out).mono ?_); rintro e w16 ⟨rfl, hb⟩; have n0_ := Aside0.mk (below_step (by repeat (first | (with_reducible first | exact HB.out | apply below_alloc | apply pw_below_drewN | apply below_drew1) | exact HB.out)) hb); clear HB; have HB := n0_; clear n0_; (try clear hb); (try clear hb2); (try clear hk); (try clear hi)))
          go_meet
          case rel => exact ⟨_, ((t166 != t168)), (by first | rfl | (simp; done) | (simp [*]; done)), H', ⟨by first | omega | exact Nat.le_refl _⟩, ⟨by repeat (first | (with_reducible first | exact HB.out | apply below_alloc | apply pw_below_drewN | apply below_drew1) | exact HB.out)⟩⟩
        · rw [if_neg c13] at H
          have c13b0 : (t165 == t167) = false := beq_eq_false_iff_ne.mpr c13
          have c13b1 : (t165 != t167) = true := bne_iff_ne.mpr c13
          have H' := Aside0.mk H
          clear H
          go_wp2_with (first | ((with_reducible refine gate_callee (f := 14) rfl ?_); refine goesL_ (some 24) rfl rfl Try.func14 (by kernel_rfl) rfl #[.int .i64 a0, .int .i64 a1, .int .i64 a2] rfl (by (try simp only [List.map_toArray, List.map_cons, List.map_nil]); first | done | rfl | (simp only [List.length_drop, List.length_take]; rfl)) ?_; (with_reducible refine (comb_Do.calls a0 a1 a2 t169 _ A7.out).mono ?_); rintro e w17 ⟨rfl, hb⟩; refine ⟨_, rfl, ?_⟩; have n0_ := Aside0.mk (below_step (by repeat (first | (with_reducible first | exact HB.out | apply below_alloc | apply pw_below_drewN | apply below_drew1) | exact HB.out)) hb); clear HB; have HB := n0_; clear n0_; (try clear hb); (try clear hb2); (try clear hk); (try clear hi)) | ((with_reducible refine gate_callee (f := 15) rfl ?_); refine goesL_ (some 28) rfl rfl Try.func15 (by kernel_rfl) rfl #[.int .i64 a0, .int .i64 a1, .int .i64 a2] rfl (by (try simp only [List.map_toArray, List.map_cons, List.map_nil]); first | done | rfl | (simp only [List.length_drop, List.length_take]; rfl)) ?_; (with_reducible refine (bocageref13_Do.calls k a0 a1 a2 t170 _ A8.out).mono ?_); rintro e w18 ⟨rfl, hb⟩; refine ⟨_, rfl, ?_⟩; have n0_ := Aside0.mk (below_step (by repeat (first | (with_reducible first | exact HB.out | apply below_alloc | apply pw_below_drewN | apply below_drew1) | exact HB.out)) hb); clear HB; have HB := n0_; clear n0_; (try clear hb); (try clear hb2); (try clear hk); (try clear hi)) | (go_at_call 18; (with_reducible refine (comb_First.calls a0 a2 t171 _ A10.out).mono ?_); rintro e w' ⟨rfl, ⟨nd, rfl⟩⟩) | (go_at_call 19; (with_reducible refine (bocageref13_First.calls k a0 a2 t172 _ A11.out).mono ?_); rintro e w19 ⟨rfl, hb⟩; have n0_ := Aside0.mk (below_step (by repeat (first | (with_reducible first | exact HB.out | apply below_alloc | apply pw_below_drewN | apply below_drew1) | exact HB.out)) hb); clear HB; have HB := n0_; clear n0_; (try clear hb); (try clear hb2); (try clear hk); (try clear hi)))
          go_meet
          case rel => exact ⟨_, (true), (by first | rfl | (simp; done) | (simp [*]; done)), H', ⟨by first | omega | exact Nat.le_refl _⟩, ⟨by repeat (first | (with_reducible first | exact HB.out | apply below_alloc | apply pw_below_drewN | apply below_drew1) | exact HB.out)⟩⟩
      · rw [if_neg c12] at H
        have c12b0 : (t171 == t172) = false := beq_eq_false_iff_ne.mpr c12
        have c12b1 : (t171 != t172) = true := bne_iff_ne.mpr c12
        have H' := Aside0.mk H
        clear H
        go_wp2_with (first | ((with_reducible refine gate_callee (f := 14) rfl ?_); refine goesL_ (some 24) rfl rfl Try.func14 (by kernel_rfl) rfl #[.int .i64 a0, .int .i64 a1, .int .i64 a2] rfl (by (try simp only [List.map_toArray, List.map_cons, List.map_nil]); first | done | rfl | (simp only [List.length_drop, List.length_take]; rfl)) ?_; (with_reducible refine (comb_Do.calls a0 a1 a2 t169 _ A7.out).mono ?_); rintro e w20 ⟨rfl, hb⟩; refine ⟨_, rfl, ?_⟩; have n0_ := Aside0.mk (below_step (by repeat (first | (with_reducible first | exact HB.out | apply below_alloc | apply pw_below_drewN | apply below_drew1) | exact HB.out)) hb); clear HB; have HB := n0_; clear n0_; (try clear hb); (try clear hb2); (try clear hk); (try clear hi)) | ((with_reducible refine gate_callee (f := 15) rfl ?_); refine goesL_ (some 28) rfl rfl Try.func15 (by kernel_rfl) rfl #[.int .i64 a0, .int .i64 a1, .int .i64 a2] rfl (by (try simp only [List.map_toArray, List.map_cons, List.map_nil]); first | done | rfl | (simp only [List.length_drop, List.length_take]; rfl)) ?_; (with_reducible refine (bocageref13_Do.calls k a0 a1 a2 t170 _ A8.out).mono ?_); rintro e w21 ⟨rfl, hb⟩; refine ⟨_, rfl, ?_⟩; have n0_ := Aside0.mk (below_step (by repeat (first | (with_reducible first | exact HB.out | apply below_alloc | apply pw_below_drewN | apply below_drew1) | exact HB.out)) hb); clear HB; have HB := n0_; clear n0_; (try clear hb); (try clear hb2); (try clear hk); (try clear hi)) | (go_at_call 18; (with_reducible refine (comb_First.calls a0 a2 t171 _ A10.out).mono ?_); rintro e w' ⟨rfl, ⟨nd, rfl⟩⟩) | (go_at_call 19; (with_reducible refine (bocageref13_First.calls k a0 a2 t172 _ A11.out).mono ?_); rintro e w22 ⟨rfl, hb⟩; have n0_ := Aside0.mk (below_step (by repeat (first | (with_reducible first | exact HB.out | apply below_alloc | apply pw_below_drewN | apply below_drew1) | exact HB.out)) hb); clear HB; have HB := n0_; clear n0_; (try clear hb); (try clear hb2); (try clear hk); (try clear hi)))
        go_meet
        case rel => exact ⟨_, (true), (by first | rfl | (simp; done) | (simp [*]; done)), H', ⟨by first | omega | exact Nat.le_refl _⟩, ⟨by repeat (first | (with_reducible first | exact HB.out | apply below_alloc | apply pw_below_drewN | apply below_drew1) | exact HB.out)⟩⟩
    · rw [if_neg c9] at H
      have c9b0 : (t169 == t170) = false := beq_eq_false_iff_ne.mpr c9
      have c9b1 : (t169 != t170) = true := bne_iff_ne.mpr c9
      (first | rw [c9b0] | (simp only [i64_w, i32_w]; rw [c9b0]) | skip)
      have H' := Aside0.mk H
      clear H
      go_wp2_with (first | ((with_reducible refine gate_callee (f := 14) rfl ?_); refine goesL_ (some 24) rfl rfl Try.func14 (by kernel_rfl) rfl #[.int .i64 a0, .int .i64 a1, .int .i64 a2] rfl (by (try simp only [List.map_toArray, List.map_cons, List.map_nil]); first | done | rfl | (simp only [List.length_drop, List.length_take]; rfl)) ?_; (with_reducible refine (comb_Do.calls a0 a1 a2 t169 _ A7.out).mono ?_); rintro e w23 ⟨rfl, hb⟩; refine ⟨_, rfl, ?_⟩; have n0_ := Aside0.mk (below_step (by repeat (first | (with_reducible first | exact HB.out | apply below_alloc | apply pw_below_drewN | apply below_drew1) | exact HB.out)) hb); clear HB; have HB := n0_; clear n0_; (try clear hb); (try clear hb2); (try clear hk); (try clear hi)) | ((with_reducible refine gate_callee (f := 15) rfl ?_); refine goesL_ (some 28) rfl rfl Try.func15 (by kernel_rfl) rfl #[.int .i64 a0, .int .i64 a1, .int .i64 a2] rfl (by (try simp only [List.map_toArray, List.map_cons, List.map_nil]); first | done | rfl | (simp only [List.length_drop, List.length_take]; rfl)) ?_; (with_reducible refine (bocageref13_Do.calls k a0 a1 a2 t170 _ A8.out).mono ?_); rintro e w24 ⟨rfl, hb⟩; refine ⟨_, rfl, ?_⟩; have n0_ := Aside0.mk (below_step (by repeat (first | (with_reducible first | exact HB.out | apply below_alloc | apply pw_below_drewN | apply below_drew1) | exact HB.out)) hb); clear HB; have HB := n0_; clear n0_; (try clear hb); (try clear hb2); (try clear hk); (try clear hi)))
      go_meet
      case rel => exact ⟨_, (true), (by first | rfl | (simp; done) | (simp [*]; done)), H', ⟨by first | omega | exact Nat.le_refl _⟩, ⟨by repeat (first | (with_reducible first | exact HB.out | apply below_alloc | apply pw_below_drewN | apply below_drew1) | exact HB.out)⟩⟩
  case rest =>
    clear HC6
    try clear c1
    try clear p2
    try clear c7
    try clear c9
    try clear c9b0
    try clear c9b1
    try clear c12
    try clear c12b0
    try clear c12b1
    try clear c13
    try clear c13b0
    try clear c13b1
    try clear c14
    try clear c15
    try clear c17
    obtain ⟨kq, x48_5, rfl, HA, HJ5, HB⟩ := hcut
    cases kq with
    | zero => exact absurd HA.out (by simp [bocagelaw13_CombAll.j0])
    | succ kj5 =>
      have H := HA.out
      clear HA
      simp only [bocagelaw13_CombAll.j0] at H
      by_cases c25 : x48_5 = true
      · subst c25
        have H1 : (some false) = some r := by rw [if_pos rfl] at H; exact H
        clear H
        have H := H1
        clear H1
        obtain rfl := Option.some.inj H
        go_wp2
        go_ret
        exact ⟨by first | rfl | (simp [errW_none, errW_some] <;> rfl) | (simp [*, errW_none, errW_some] <;> rfl), by repeat (first | (with_reducible first | exact HB.out | apply below_alloc | apply pw_below_drewN | apply below_drew1) | exact HB.out)⟩
      · replace c25 := Bool.eq_false_iff.mpr c25
        subst c25
        have H1 : ((bocagelaw13_alive.f kj5).bind fun t173 => (if t173 = true then ((comb_Name.f a0).bind fun t174 => ((bocageref13_Name.f a0).bind fun t175 => (if t174.toList = t175.toList then ((comb_Right.f a0).bind fun t176 => (if a0 ≥ 1 then (if (t176 == (decide (a0 ≤ 6))) = true then ((comb_Name.f a0).bind fun t177 => ((comb_Find.f t177).bind fun t178 => ((bocageref13_Name.f a0).bind fun t179 => ((bocageref13_Find.f kj5 t179).bind fun t180 => (if t178 = t180 then ((comb_Commutes.f a0).bind fun t181 => (if a0 = 3 then (some (t181 == true)) else (some (t181 == (a0 == 4))))) else (some false)))))) else (some false)) else (if (t176 == false) = true then ((comb_Name.f a0).bind fun t182 => ((comb_Find.f t182).bind fun t183 => ((bocageref13_Name.f a0).bind fun t184 => ((bocageref13_Find.f kj5 t184).bind fun t185 => (if t183 = t185 then ((comb_Commutes.f a0).bind fun t186 => (if a0 = 3 then (some (t186 == true)) else (some (t186 == (a0 == 4))))) else (some false)))))) else (some false)))) else (some false)))) else (some false))) = some r := by rw [if_neg (show ¬ (false = true) by decide)] at H; exact H
        clear H
        have H := H1
        clear H1
        replace H := Option.bind_eq_some_iff.mp H
        obtain ⟨t173, A260, H⟩ := H
        replace H : (if t173 = true then ((comb_Name.f a0).bind fun t174 => ((bocageref13_Name.f a0).bind fun t175 => (if t174.toList = t175.toList then ((comb_Right.f a0).bind fun t176 => (if a0 ≥ 1 then (if (t176 == (decide (a0 ≤ 6))) = true then ((comb_Name.f a0).bind fun t177 => ((comb_Find.f t177).bind fun t178 => ((bocageref13_Name.f a0).bind fun t179 => ((bocageref13_Find.f kj5 t179).bind fun t180 => (if t178 = t180 then ((comb_Commutes.f a0).bind fun t181 => (if a0 = 3 then (some (t181 == true)) else (some (t181 == (a0 == 4))))) else (some false)))))) else (some false)) else (if (t176 == false) = true then ((comb_Name.f a0).bind fun t182 => ((comb_Find.f t182).bind fun t183 => ((bocageref13_Name.f a0).bind fun t184 => ((bocageref13_Find.f kj5 t184).bind fun t185 => (if t183 = t185 then ((comb_Commutes.f a0).bind fun t186 => (if a0 = 3 then (some (t186 == true)) else (some (t186 == (a0 == 4))))) else (some false)))))) else (some false)))) else (some false)))) else (some false)) = some r := H
        have A26 := Aside0.mk A260
        clear A260
        by_cases c27 : t173 = true
        · subst c27
          have H1 : ((comb_Name.f a0).bind fun t174 => ((bocageref13_Name.f a0).bind fun t175 => (if t174.toList = t175.toList then ((comb_Right.f a0).bind fun t176 => (if a0 ≥ 1 then (if (t176 == (decide (a0 ≤ 6))) = true then ((comb_Name.f a0).bind fun t177 => ((comb_Find.f t177).bind fun t178 => ((bocageref13_Name.f a0).bind fun t179 => ((bocageref13_Find.f kj5 t179).bind fun t180 => (if t178 = t180 then ((comb_Commutes.f a0).bind fun t181 => (if a0 = 3 then (some (t181 == true)) else (some (t181 == (a0 == 4))))) else (some false)))))) else (some false)) else (if (t176 == false) = true then ((comb_Name.f a0).bind fun t182 => ((comb_Find.f t182).bind fun t183 => ((bocageref13_Name.f a0).bind fun t184 => ((bocageref13_Find.f kj5 t184).bind fun t185 => (if t183 = t185 then ((comb_Commutes.f a0).bind fun t186 => (if a0 = 3 then (some (t186 == true)) else (some (t186 == (a0 == 4))))) else (some false)))))) else (some false)))) else (some false)))) = some r := by rw [if_pos rfl] at H; exact H
          clear H
          have H := H1
          clear H1
          replace H := Option.bind_eq_some_iff.mp H
          obtain ⟨t174, A280, H⟩ := H
          replace H : ((bocageref13_Name.f a0).bind fun t175 => (if t174.toList = t175.toList then ((comb_Right.f a0).bind fun t176 => (if a0 ≥ 1 then (if (t176 == (decide (a0 ≤ 6))) = true then ((comb_Name.f a0).bind fun t177 => ((comb_Find.f t177).bind fun t178 => ((bocageref13_Name.f a0).bind fun t179 => ((bocageref13_Find.f kj5 t179).bind fun t180 => (if t178 = t180 then ((comb_Commutes.f a0).bind fun t181 => (if a0 = 3 then (some (t181 == true)) else (some (t181 == (a0 == 4))))) else (some false)))))) else (some false)) else (if (t176 == false) = true then ((comb_Name.f a0).bind fun t182 => ((comb_Find.f t182).bind fun t183 => ((bocageref13_Name.f a0).bind fun t184 => ((bocageref13_Find.f kj5 t184).bind fun t185 => (if t183 = t185 then ((comb_Commutes.f a0).bind fun t186 => (if a0 = 3 then (some (t186 == true)) else (some (t186 == (a0 == 4))))) else (some false)))))) else (some false)))) else (some false))) = some r := H
          have A28 := Aside0.mk A280
          clear A280
          replace H := Option.bind_eq_some_iff.mp H
          obtain ⟨t175, A290, H⟩ := H
          replace H : (if t174.toList = t175.toList then ((comb_Right.f a0).bind fun t176 => (if a0 ≥ 1 then (if (t176 == (decide (a0 ≤ 6))) = true then ((comb_Name.f a0).bind fun t177 => ((comb_Find.f t177).bind fun t178 => ((bocageref13_Name.f a0).bind fun t179 => ((bocageref13_Find.f kj5 t179).bind fun t180 => (if t178 = t180 then ((comb_Commutes.f a0).bind fun t181 => (if a0 = 3 then (some (t181 == true)) else (some (t181 == (a0 == 4))))) else (some false)))))) else (some false)) else (if (t176 == false) = true then ((comb_Name.f a0).bind fun t182 => ((comb_Find.f t182).bind fun t183 => ((bocageref13_Name.f a0).bind fun t184 => ((bocageref13_Find.f kj5 t184).bind fun t185 => (if t183 = t185 then ((comb_Commutes.f a0).bind fun t186 => (if a0 = 3 then (some (t186 == true)) else (some (t186 == (a0 == 4))))) else (some false)))))) else (some false)))) else (some false)) = some r := H
          have A29 := Aside0.mk A290
          clear A290
          by_cases c30 : t174.toList = t175.toList
          · rw [if_pos c30] at H
            have c30b0 : (t174.toList == t175.toList) = true := beq_iff_eq.mpr c30
            have c30b1 : (t174.toList != t175.toList) = false := bne_eq_false_iff_eq.mpr c30
            clear c30
            replace H := Option.bind_eq_some_iff.mp H
            obtain ⟨t176, A310, H⟩ := H
            replace H : (if a0 ≥ 1 then (if (t176 == (decide (a0 ≤ 6))) = true then ((comb_Name.f a0).bind fun t177 => ((comb_Find.f t177).bind fun t178 => ((bocageref13_Name.f a0).bind fun t179 => ((bocageref13_Find.f kj5 t179).bind fun t180 => (if t178 = t180 then ((comb_Commutes.f a0).bind fun t181 => (if a0 = 3 then (some (t181 == true)) else (some (t181 == (a0 == 4))))) else (some false)))))) else (some false)) else (if (t176 == false) = true then ((comb_Name.f a0).bind fun t182 => ((comb_Find.f t182).bind fun t183 => ((bocageref13_Name.f a0).bind fun t184 => ((bocageref13_Find.f kj5 t184).bind fun t185 => (if t183 = t185 then ((comb_Commutes.f a0).bind fun t186 => (if a0 = 3 then (some (t186 == true)) else (some (t186 == (a0 == 4))))) else (some false)))))) else (some false))) = some r := H
            have A31 := Aside0.mk A310
            clear A310
            by_cases c32 : a0 ≥ 1
            · rw [if_pos c32] at H
              have c32b0 : decide (1 ≤ a0) = true := decide_eq_true c32
              clear c32
              by_cases c33 : (t176 == (decide (a0 ≤ 6))) = true
              · rw [if_pos c33] at H
                have c33b0 : (t176 == (decide (a0 ≤ 6))) = true := c33
                (try (have c33b1 : decide (t176 = (decide (a0 ≤ 6))) = true := by simpa using c33))
                (try (have c33b2 : (t176 == (decide (a0 ≤ 6))) = true := by simpa using c33))
                clear c33
                replace H := Option.bind_eq_some_iff.mp H
                obtain ⟨t177, A340, H⟩ := H
                replace H : ((comb_Find.f t177).bind fun t178 => ((bocageref13_Name.f a0).bind fun t179 => ((bocageref13_Find.f kj5 t179).bind fun t180 => (if t178 = t180 then ((comb_Commutes.f a0).bind fun t181 => (if a0 = 3 then (some (t181 == true)) else (some (t181 == (a0 == 4))))) else (some false))))) = some r := H
                have A34 := Aside0.mk A340
                clear A340
                obtain rfl : t174 = t177 := Option.some.inj (A28.out.symm.trans A34.out)
                replace H := Option.bind_eq_some_iff.mp H
                obtain ⟨t178, A350, H⟩ := H
                replace H : ((bocageref13_Name.f a0).bind fun t179 => ((bocageref13_Find.f kj5 t179).bind fun t180 => (if t178 = t180 then ((comb_Commutes.f a0).bind fun t181 => (if a0 = 3 then (some (t181 == true)) else (some (t181 == (a0 == 4))))) else (some false)))) = some r := H
                have A35 := Aside0.mk A350
                clear A350
                replace H := Option.bind_eq_some_iff.mp H
                obtain ⟨t179, A360, H⟩ := H
                replace H : ((bocageref13_Find.f kj5 t179).bind fun t180 => (if t178 = t180 then ((comb_Commutes.f a0).bind fun t181 => (if a0 = 3 then (some (t181 == true)) else (some (t181 == (a0 == 4))))) else (some false))) = some r := H
                have A36 := Aside0.mk A360
                clear A360
                obtain rfl : t175 = t179 := Option.some.inj (A29.out.symm.trans A36.out)
                replace H := Option.bind_eq_some_iff.mp H
                obtain ⟨t180, A370, H⟩ := H
                replace H : (if t178 = t180 then ((comb_Commutes.f a0).bind fun t181 => (if a0 = 3 then (some (t181 == true)) else (some (t181 == (a0 == 4))))) else (some false)) = some r := H
                have A37 := Aside0.mk A370
                clear A370
                by_cases c38 : t178 = t180
                · rw [if_pos c38] at H
                  have c38b0 : (t178 == t180) = true := beq_iff_eq.mpr c38
                  have c38b1 : (t178 != t180) = false := bne_eq_false_iff_eq.mpr c38
                  clear c38
                  replace H := Option.bind_eq_some_iff.mp H
                  obtain ⟨t181, A390, H⟩ := H
                  replace H : (if a0 = 3 then (some (t181 == true)) else (some (t181 == (a0 == 4)))) = some r := H
                  have A39 := Aside0.mk A390
                  clear A390
                  by_cases c40 : a0 = 3
                  · rw [if_pos c40] at H
                    have c40b0 : (a0 == 3) = true := beq_iff_eq.mpr c40
                    have c40b1 : (a0 != 3) = false := bne_eq_false_iff_eq.mpr c40
                    clear c40
                    obtain rfl := Option.some.inj H
                    go_wp2_with (first | ((with_reducible refine gate_callee (f := 10) rfl ?_); refine goesL_ (some 49) rfl rfl Try.func10 (by kernel_rfl) rfl #[] rfl (by (try simp only [List.map_toArray, List.map_cons, List.map_nil]); first | done | rfl | (simp only [List.length_drop, List.length_take]; rfl)) ?_; (with_reducible refine (bocagelaw13_alive.calls kj5  true _ A26.out).mono ?_); rintro e w41 ⟨rfl, hb⟩; refine ⟨_, rfl, ?_⟩; have n0_ := Aside0.mk (below_step (by repeat (first | (with_reducible first | exact HB.out | apply below_alloc | apply pw_below_drewN | apply below_drew1) | exact HB.out)) hb); clear HB; have HB := n0_; clear n0_; (try clear hb); (try clear hb2); (try clear hk); (try clear hi)) | (go_at_call 12; (with_reducible refine (comb_Name.calls a0 t174 _ A28.out).mono ?_); rintro e w42 ⟨rfl, hb⟩; have n0_ := Aside0.mk (below_step (by repeat (first | (with_reducible first | exact HB.out | apply below_alloc | apply pw_below_drewN | apply below_drew1) | exact HB.out)) hb); clear HB; have HB := n0_; clear n0_; (try clear hb); (try clear hb2); (try clear hk); (try clear hi)) | (go_at_call 20; (with_reducible refine (bocageref13_Name.calls a0 t175 _ A29.out).mono ?_); rintro e w' ⟨rfl, ⟨nd, rfl⟩⟩) | (go_at_call 21; (with_reducible refine (comb_Right.calls a0 t176 _ A31.out).mono ?_); rintro e w' ⟨rfl, ⟨nd, rfl⟩⟩) | (go_at_call 12; (with_reducible refine (comb_Name.calls a0 t174 _ A34.out).mono ?_); rintro e w43 ⟨rfl, hb⟩; have n0_ := Aside0.mk (below_step (by repeat (first | (with_reducible first | exact HB.out | apply below_alloc | apply pw_below_drewN | apply below_drew1) | exact HB.out)) hb); clear HB; have HB := n0_; clear n0_; (try clear hb); (try clear hb2); (try clear hk); (try clear hi)) | (go_at_call 9; (with_reducible refine (comb_Find.calls t174 t178 _ A35.out).mono ?_); rintro e w44 ⟨rfl, hb⟩; have n0_ := Aside0.mk (below_step (by repeat (first | (with_reducible first | exact HB.out | apply below_alloc | apply pw_below_drewN | apply below_drew1) | exact HB.out)) hb); clear HB; have HB := n0_; clear n0_; (try clear hb); (try clear hb2); (try clear hk); (try clear hi)) | (go_at_call 20; (with_reducible refine (bocageref13_Name.calls a0 t175 _ A36.out).mono ?_); rintro e w' ⟨rfl, ⟨nd, rfl⟩⟩) | (go_at_call 11; (with_reducible refine (bocageref13_Find.calls kj5 t175 t180 _ A37.out).mono ?_); rintro e w' ⟨rfl, ⟨nd, rfl⟩⟩) | (go_at_call 22; (with_reducible refine (comb_Commutes.calls a0 t181 _ A39.out).mono ?_); rintro e w' ⟨rfl, ⟨nd, rfl⟩⟩))
                    go_ret
                    exact ⟨by first | rfl | (simp [errW_none, errW_some] <;> rfl) | (simp [*, errW_none, errW_some] <;> rfl), by repeat (first | (with_reducible first | exact HB.out | apply below_alloc | apply pw_below_drewN | apply below_drew1) | exact HB.out)⟩
                  · rw [if_neg c40] at H
                    have c40b0 : (a0 == 3) = false := beq_eq_false_iff_ne.mpr c40
                    have c40b1 : (a0 != 3) = true := bne_iff_ne.mpr c40
                    obtain rfl := Option.some.inj H
                    go_wp2_with (first | ((with_reducible refine gate_callee (f := 10) rfl ?_); refine goesL_ (some 49) rfl rfl Try.func10 (by kernel_rfl) rfl #[] rfl (by (try simp only [List.map_toArray, List.map_cons, List.map_nil]); first | done | rfl | (simp only [List.length_drop, List.length_take]; rfl)) ?_; (with_reducible refine (bocagelaw13_alive.calls kj5  true _ A26.out).mono ?_); rintro e w45 ⟨rfl, hb⟩; refine ⟨_, rfl, ?_⟩; have n0_ := Aside0.mk (below_step (by repeat (first | (with_reducible first | exact HB.out | apply below_alloc | apply pw_below_drewN | apply below_drew1) | exact HB.out)) hb); clear HB; have HB := n0_; clear n0_; (try clear hb); (try clear hb2); (try clear hk); (try clear hi)) | (go_at_call 12; (with_reducible refine (comb_Name.calls a0 t174 _ A28.out).mono ?_); rintro e w46 ⟨rfl, hb⟩; have n0_ := Aside0.mk (below_step (by repeat (first | (with_reducible first | exact HB.out | apply below_alloc | apply pw_below_drewN | apply below_drew1) | exact HB.out)) hb); clear HB; have HB := n0_; clear n0_; (try clear hb); (try clear hb2); (try clear hk); (try clear hi)) | (go_at_call 20; (with_reducible refine (bocageref13_Name.calls a0 t175 _ A29.out).mono ?_); rintro e w' ⟨rfl, ⟨nd, rfl⟩⟩) | (go_at_call 21; (with_reducible refine (comb_Right.calls a0 t176 _ A31.out).mono ?_); rintro e w' ⟨rfl, ⟨nd, rfl⟩⟩) | (go_at_call 12; (with_reducible refine (comb_Name.calls a0 t174 _ A34.out).mono ?_); rintro e w47 ⟨rfl, hb⟩; have n0_ := Aside0.mk (below_step (by repeat (first | (with_reducible first | exact HB.out | apply below_alloc | apply pw_below_drewN | apply below_drew1) | exact HB.out)) hb); clear HB; have HB := n0_; clear n0_; (try clear hb); (try clear hb2); (try clear hk); (try clear hi)) | (go_at_call 9; (with_reducible refine (comb_Find.calls t174 t178 _ A35.out).mono ?_); rintro e w48 ⟨rfl, hb⟩; have n0_ := Aside0.mk (below_step (by repeat (first | (with_reducible first | exact HB.out | apply below_alloc | apply pw_below_drewN | apply below_drew1) | exact HB.out)) hb); clear HB; have HB := n0_; clear n0_; (try clear hb); (try clear hb2); (try clear hk); (try clear hi)) | (go_at_call 20; (with_reducible refine (bocageref13_Name.calls a0 t175 _ A36.out).mono ?_); rintro e w' ⟨rfl, ⟨nd, rfl⟩⟩) | (go_at_call 11; (with_reducible refine (bocageref13_Find.calls kj5 t175 t180 _ A37.out).mono ?_); rintro e w' ⟨rfl, ⟨nd, rfl⟩⟩) | (go_at_call 22; (with_reducible refine (comb_Commutes.calls a0 t181 _ A39.out).mono ?_); rintro e w' ⟨rfl, ⟨nd, rfl⟩⟩))
                    go_ret
                    exact ⟨by first | rfl | (simp [errW_none, errW_some] <;> rfl) | (simp [*, errW_none, errW_some] <;> rfl), by repeat (first | (with_reducible first | exact HB.out | apply below_alloc | apply pw_below_drewN | apply below_drew1) | exact HB.out)⟩
                · rw [if_neg c38] at H
                  have c38b0 : (t178 == t180) = false := beq_eq_false_iff_ne.mpr c38
                  have c38b1 : (t178 != t180) = true := bne_iff_ne.mpr c38
                  obtain rfl := Option.some.inj H
                  go_wp2_with (first | ((with_reducible refine gate_callee (f := 10) rfl ?_); refine goesL_ (some 49) rfl rfl Try.func10 (by kernel_rfl) rfl #[] rfl (by (try simp only [List.map_toArray, List.map_cons, List.map_nil]); first | done | rfl | (simp only [List.length_drop, List.length_take]; rfl)) ?_; (with_reducible refine (bocagelaw13_alive.calls kj5  true _ A26.out).mono ?_); rintro e w49 ⟨rfl, hb⟩; refine ⟨_, rfl, ?_⟩; have n0_ := Aside0.mk (below_step (by repeat (first | (with_reducible first | exact HB.out | apply below_alloc | apply pw_below_drewN | apply below_drew1) | exact HB.out)) hb); clear HB; have HB := n0_; clear n0_; (try clear hb); (try clear hb2); (try clear hk); (try clear hi)) | (go_at_call 12; (with_reducible refine (comb_Name.calls a0 t174 _ A28.out).mono ?_); rintro e w50 ⟨rfl, hb⟩; have n0_ := Aside0.mk (below_step (by repeat (first | (with_reducible first | exact HB.out | apply below_alloc | apply pw_below_drewN | apply below_drew1) | exact HB.out)) hb); clear HB; have HB := n0_; clear n0_; (try clear hb); (try clear hb2); (try clear hk); (try clear hi)) | (go_at_call 20; (with_reducible refine (bocageref13_Name.calls a0 t175 _ A29.out).mono ?_); rintro e w' ⟨rfl, ⟨nd, rfl⟩⟩) | (go_at_call 21; (with_reducible refine (comb_Right.calls a0 t176 _ A31.out).mono ?_); rintro e w' ⟨rfl, ⟨nd, rfl⟩⟩) | (go_at_call 12; (with_reducible refine (comb_Name.calls a0 t174 _ A34.out).mono ?_); rintro e w51 ⟨rfl, hb⟩; have n0_ := Aside0.mk (below_step (by repeat (first | (with_reducible first | exact HB.out | apply below_alloc | apply pw_below_drewN | apply below_drew1) | exact HB.out)) hb); clear HB; have HB := n0_; clear n0_; (try clear hb); (try clear hb2); (try clear hk); (try clear hi)) | (go_at_call 9; (with_reducible refine (comb_Find.calls t174 t178 _ A35.out).mono ?_); rintro e w52 ⟨rfl, hb⟩; have n0_ := Aside0.mk (below_step (by repeat (first | (with_reducible first | exact HB.out | apply below_alloc | apply pw_below_drewN | apply below_drew1) | exact HB.out)) hb); clear HB; have HB := n0_; clear n0_; (try clear hb); (try clear hb2); (try clear hk); (try clear hi)) | (go_at_call 20; (with_reducible refine (bocageref13_Name.calls a0 t175 _ A36.out).mono ?_); rintro e w' ⟨rfl, ⟨nd, rfl⟩⟩) | (go_at_call 11; (with_reducible refine (bocageref13_Find.calls kj5 t175 t180 _ A37.out).mono ?_); rintro e w' ⟨rfl, ⟨nd, rfl⟩⟩))
                  go_ret
                  exact ⟨by first | rfl | (simp [errW_none, errW_some] <;> rfl) | (simp [*, errW_none, errW_some] <;> rfl), by repeat (first | (with_reducible first | exact HB.out | apply below_alloc | apply pw_below_drewN | apply below_drew1) | exact HB.out)⟩
              · rw [if_neg c33] at H
                have c33b0 : (t176 == (decide (a0 ≤ 6))) = false := by simpa using c33
                (try (have c33b1 : decide (t176 = (decide (a0 ≤ 6))) = false := by simpa using c33))
                (try (have c33b2 : (t176 == (decide (a0 ≤ 6))) = false := by simpa using c33))
                (try (have c33b3 : ¬ (t176 = (decide (a0 ≤ 6))) := by simpa using c33))
                clear c33
                obtain rfl := Option.some.inj H
                go_wp2_with (first | ((with_reducible refine gate_callee (f := 10) rfl ?_); refine goesL_ (some 49) rfl rfl Try.func10 (by kernel_rfl) rfl #[] rfl (by (try simp only [List.map_toArray, List.map_cons, List.map_nil]); first | done | rfl | (simp only [List.length_drop, List.length_take]; rfl)) ?_; (with_reducible refine (bocagelaw13_alive.calls kj5  true _ A26.out).mono ?_); rintro e w53 ⟨rfl, hb⟩; refine ⟨_, rfl, ?_⟩; have n0_ := Aside0.mk (below_step (by repeat (first | (with_reducible first | exact HB.out | apply below_alloc | apply pw_below_drewN | apply below_drew1) | exact HB.out)) hb); clear HB; have HB := n0_; clear n0_; (try clear hb); (try clear hb2); (try clear hk); (try clear hi)) | (go_at_call 12; (with_reducible refine (comb_Name.calls a0 t174 _ A28.out).mono ?_); rintro e w54 ⟨rfl, hb⟩; have n0_ := Aside0.mk (below_step (by repeat (first | (with_reducible first | exact HB.out | apply below_alloc | apply pw_below_drewN | apply below_drew1) | exact HB.out)) hb); clear HB; have HB := n0_; clear n0_; (try clear hb); (try clear hb2); (try clear hk); (try clear hi)) | (go_at_call 20; (with_reducible refine (bocageref13_Name.calls a0 t175 _ A29.out).mono ?_); rintro e w' ⟨rfl, ⟨nd, rfl⟩⟩) | (go_at_call 21; (with_reducible refine (comb_Right.calls a0 t176 _ A31.out).mono ?_); rintro e w' ⟨rfl, ⟨nd, rfl⟩⟩))
                go_ret
                exact ⟨by first | rfl | (simp [errW_none, errW_some] <;> rfl) | (simp [*, errW_none, errW_some] <;> rfl), by repeat (first | (with_reducible first | exact HB.out | apply below_alloc | apply pw_below_drewN | apply below_drew1) | exact HB.out)⟩
            · rw [if_neg c32] at H
              have c32b0 : decide (1 ≤ a0) = false := decide_eq_false c32
              clear c32
              by_cases c55 : (t176 == false) = true
              · rw [if_pos c55] at H
                have c55b0 : (t176 == false) = true := c55
                (try (have c55b1 : decide (t176 = false) = true := by simpa using c55))
                (try (have c55b2 : (t176 == false) = true := by simpa using c55))
                clear c55
                replace H := Option.bind_eq_some_iff.mp H
                obtain ⟨t182, A560, H⟩ := H
                replace H : ((comb_Find.f t182).bind fun t183 => ((bocageref13_Name.f a0).bind fun t184 => ((bocageref13_Find.f kj5 t184).bind fun t185 => (if t183 = t185 then ((comb_Commutes.f a0).bind fun t186 => (if a0 = 3 then (some (t186 == true)) else (some (t186 == (a0 == 4))))) else (some false))))) = some r := H
                have A56 := Aside0.mk A560
                clear A560
                obtain rfl : t174 = t182 := Option.some.inj (A28.out.symm.trans A56.out)
                replace H := Option.bind_eq_some_iff.mp H
                obtain ⟨t183, A570, H⟩ := H
                replace H : ((bocageref13_Name.f a0).bind fun t184 => ((bocageref13_Find.f kj5 t184).bind fun t185 => (if t183 = t185 then ((comb_Commutes.f a0).bind fun t186 => (if a0 = 3 then (some (t186 == true)) else (some (t186 == (a0 == 4))))) else (some false)))) = some r := H
                have A57 := Aside0.mk A570
                clear A570
                replace H := Option.bind_eq_some_iff.mp H
                obtain ⟨t184, A580, H⟩ := H
                replace H : ((bocageref13_Find.f kj5 t184).bind fun t185 => (if t183 = t185 then ((comb_Commutes.f a0).bind fun t186 => (if a0 = 3 then (some (t186 == true)) else (some (t186 == (a0 == 4))))) else (some false))) = some r := H
                have A58 := Aside0.mk A580
                clear A580
                obtain rfl : t175 = t184 := Option.some.inj (A29.out.symm.trans A58.out)
                replace H := Option.bind_eq_some_iff.mp H
                obtain ⟨t185, A590, H⟩ := H
                replace H : (if t183 = t185 then ((comb_Commutes.f a0).bind fun t186 => (if a0 = 3 then (some (t186 == true)) else (some (t186 == (a0 == 4))))) else (some false)) = some r := H
                have A59 := Aside0.mk A590
                clear A590
                by_cases c60 : t183 = t185
                · rw [if_pos c60] at H
                  have c60b0 : (t183 == t185) = true := beq_iff_eq.mpr c60
                  have c60b1 : (t183 != t185) = false := bne_eq_false_iff_eq.mpr c60
                  clear c60
                  replace H := Option.bind_eq_some_iff.mp H
                  obtain ⟨t186, A610, H⟩ := H
                  replace H : (if a0 = 3 then (some (t186 == true)) else (some (t186 == (a0 == 4)))) = some r := H
                  have A61 := Aside0.mk A610
                  clear A610
                  by_cases c62 : a0 = 3
                  · rw [if_pos c62] at H
                    have c62b0 : (a0 == 3) = true := beq_iff_eq.mpr c62
                    have c62b1 : (a0 != 3) = false := bne_eq_false_iff_eq.mpr c62
                    clear c62
                    obtain rfl := Option.some.inj H
                    go_wp2_with (first | ((with_reducible refine gate_callee (f := 10) rfl ?_); refine goesL_ (some 49) rfl rfl Try.func10 (by kernel_rfl) rfl #[] rfl (by (try simp only [List.map_toArray, List.map_cons, List.map_nil]); first | done | rfl | (simp only [List.length_drop, List.length_take]; rfl)) ?_; (with_reducible refine (bocagelaw13_alive.calls kj5  true _ A26.out).mono ?_); rintro e w63 ⟨rfl, hb⟩; refine ⟨_, rfl, ?_⟩; have n0_ := Aside0.mk (below_step (by repeat (first | (with_reducible first | exact HB.out | apply below_alloc | apply pw_below_drewN | apply below_drew1) | exact HB.out)) hb); clear HB; have HB := n0_; clear n0_; (try clear hb); (try clear hb2); (try clear hk); (try clear hi)) | (go_at_call 12; (with_reducible refine (comb_Name.calls a0 t174 _ A28.out).mono ?_); rintro e w64 ⟨rfl, hb⟩; have n0_ := Aside0.mk (below_step (by repeat (first | (with_reducible first | exact HB.out | apply below_alloc | apply pw_below_drewN | apply below_drew1) | exact HB.out)) hb); clear HB; have HB := n0_; clear n0_; (try clear hb); (try clear hb2); (try clear hk); (try clear hi)) | (go_at_call 20; (with_reducible refine (bocageref13_Name.calls a0 t175 _ A29.out).mono ?_); rintro e w' ⟨rfl, ⟨nd, rfl⟩⟩) | (go_at_call 21; (with_reducible refine (comb_Right.calls a0 t176 _ A31.out).mono ?_); rintro e w' ⟨rfl, ⟨nd, rfl⟩⟩) | (go_at_call 12; (with_reducible refine (comb_Name.calls a0 t174 _ A56.out).mono ?_); rintro e w65 ⟨rfl, hb⟩; have n0_ := Aside0.mk (below_step (by repeat (first | (with_reducible first | exact HB.out | apply below_alloc | apply pw_below_drewN | apply below_drew1) | exact HB.out)) hb); clear HB; have HB := n0_; clear n0_; (try clear hb); (try clear hb2); (try clear hk); (try clear hi)) | (go_at_call 9; (with_reducible refine (comb_Find.calls t174 t183 _ A57.out).mono ?_); rintro e w66 ⟨rfl, hb⟩; have n0_ := Aside0.mk (below_step (by repeat (first | (with_reducible first | exact HB.out | apply below_alloc | apply pw_below_drewN | apply below_drew1) | exact HB.out)) hb); clear HB; have HB := n0_; clear n0_; (try clear hb); (try clear hb2); (try clear hk); (try clear hi)) | (go_at_call 20; (with_reducible refine (bocageref13_Name.calls a0 t175 _ A58.out).mono ?_); rintro e w' ⟨rfl, ⟨nd, rfl⟩⟩) | (go_at_call 11; (with_reducible refine (bocageref13_Find.calls kj5 t175 t185 _ A59.out).mono ?_); rintro e w' ⟨rfl, ⟨nd, rfl⟩⟩) | (go_at_call 22; (with_reducible refine (comb_Commutes.calls a0 t186 _ A61.out).mono ?_); rintro e w' ⟨rfl, ⟨nd, rfl⟩⟩))
                    go_ret
                    exact ⟨by first | rfl | (simp [errW_none, errW_some] <;> rfl) | (simp [*, errW_none, errW_some] <;> rfl), by repeat (first | (with_reducible first | exact HB.out | apply below_alloc | apply pw_below_drewN | apply below_drew1) | exact HB.out)⟩
                  · rw [if_neg c62] at H
                    have c62b0 : (a0 == 3) = false := beq_eq_false_iff_ne.mpr c62
                    have c62b1 : (a0 != 3) = true := bne_iff_ne.mpr c62
                    obtain rfl := Option.some.inj H
                    go_wp2_with (first | ((with_reducible refine gate_callee (f := 10) rfl ?_); refine goesL_ (some 49) rfl rfl Try.func10 (by kernel_rfl) rfl #[] rfl (by (try simp only [List.map_toArray, List.map_cons, List.map_nil]); first | done | rfl | (simp only [List.length_drop, List.length_take]; rfl)) ?_; (with_reducible refine (bocagelaw13_alive.calls kj5  true _ A26.out).mono ?_); rintro e w67 ⟨rfl, hb⟩; refine ⟨_, rfl, ?_⟩; have n0_ := Aside0.mk (below_step (by repeat (first | (with_reducible first | exact HB.out | apply below_alloc | apply pw_below_drewN | apply below_drew1) | exact HB.out)) hb); clear HB; have HB := n0_; clear n0_; (try clear hb); (try clear hb2); (try clear hk); (try clear hi)) | (go_at_call 12; (with_reducible refine (comb_Name.calls a0 t174 _ A28.out).mono ?_); rintro e w68 ⟨rfl, hb⟩; have n0_ := Aside0.mk (below_step (by repeat (first | (with_reducible first | exact HB.out | apply below_alloc | apply pw_below_drewN | apply below_drew1) | exact HB.out)) hb); clear HB; have HB := n0_; clear n0_; (try clear hb); (try clear hb2); (try clear hk); (try clear hi)) | (go_at_call 20; (with_reducible refine (bocageref13_Name.calls a0 t175 _ A29.out).mono ?_); rintro e w' ⟨rfl, ⟨nd, rfl⟩⟩) | (go_at_call 21; (with_reducible refine (comb_Right.calls a0 t176 _ A31.out).mono ?_); rintro e w' ⟨rfl, ⟨nd, rfl⟩⟩) | (go_at_call 12; (with_reducible refine (comb_Name.calls a0 t174 _ A56.out).mono ?_); rintro e w69 ⟨rfl, hb⟩; have n0_ := Aside0.mk (below_step (by repeat (first | (with_reducible first | exact HB.out | apply below_alloc | apply pw_below_drewN | apply below_drew1) | exact HB.out)) hb); clear HB; have HB := n0_; clear n0_; (try clear hb); (try clear hb2); (try clear hk); (try clear hi)) | (go_at_call 9; (with_reducible refine (comb_Find.calls t174 t183 _ A57.out).mono ?_); rintro e w70 ⟨rfl, hb⟩; have n0_ := Aside0.mk (below_step (by repeat (first | (with_reducible first | exact HB.out | apply below_alloc | apply pw_below_drewN | apply below_drew1) | exact HB.out)) hb); clear HB; have HB := n0_; clear n0_; (try clear hb); (try clear hb2); (try clear hk); (try clear hi)) | (go_at_call 20; (with_reducible refine (bocageref13_Name.calls a0 t175 _ A58.out).mono ?_); rintro e w' ⟨rfl, ⟨nd, rfl⟩⟩) | (go_at_call 11; (with_reducible refine (bocageref13_Find.calls kj5 t175 t185 _ A59.out).mono ?_); rintro e w' ⟨rfl, ⟨nd, rfl⟩⟩) | (go_at_call 22; (with_reducible refine (comb_Commutes.calls a0 t186 _ A61.out).mono ?_); rintro e w' ⟨rfl, ⟨nd, rfl⟩⟩))
                    go_ret
                    exact ⟨by first | rfl | (simp [errW_none, errW_some] <;> rfl) | (simp [*, errW_none, errW_some] <;> rfl), by repeat (first | (with_reducible first | exact HB.out | apply below_alloc | apply pw_below_drewN | apply below_drew1) | exact HB.out)⟩
                · rw [if_neg c60] at H
                  have c60b0 : (t183 == t185) = false := beq_eq_false_iff_ne.mpr c60
                  have c60b1 : (t183 != t185) = true := bne_iff_ne.mpr c60
                  obtain rfl := Option.some.inj H
                  go_wp2_with (first | ((with_reducible refine gate_callee (f := 10) rfl ?_); refine goesL_ (some 49) rfl rfl Try.func10 (by kernel_rfl) rfl #[] rfl (by (try simp only [List.map_toArray, List.map_cons, List.map_nil]); first | done | rfl | (simp only [List.length_drop, List.length_take]; rfl)) ?_; (with_reducible refine (bocagelaw13_alive.calls kj5  true _ A26.out).mono ?_); rintro e w71 ⟨rfl, hb⟩; refine ⟨_, rfl, ?_⟩; have n0_ := Aside0.mk (below_step (by repeat (first | (with_reducible first | exact HB.out | apply below_alloc | apply pw_below_drewN | apply below_drew1) | exact HB.out)) hb); clear HB; have HB := n0_; clear n0_; (try clear hb); (try clear hb2); (try clear hk); (try clear hi)) | (go_at_call 12; (with_reducible refine (comb_Name.calls a0 t174 _ A28.out).mono ?_); rintro e w72 ⟨rfl, hb⟩; have n0_ := Aside0.mk (below_step (by repeat (first | (with_reducible first | exact HB.out | apply below_alloc | apply pw_below_drewN | apply below_drew1) | exact HB.out)) hb); clear HB; have HB := n0_; clear n0_; (try clear hb); (try clear hb2); (try clear hk); (try clear hi)) | (go_at_call 20; (with_reducible refine (bocageref13_Name.calls a0 t175 _ A29.out).mono ?_); rintro e w' ⟨rfl, ⟨nd, rfl⟩⟩) | (go_at_call 21; (with_reducible refine (comb_Right.calls a0 t176 _ A31.out).mono ?_); rintro e w' ⟨rfl, ⟨nd, rfl⟩⟩) | (go_at_call 12; (with_reducible refine (comb_Name.calls a0 t174 _ A56.out).mono ?_); rintro e w73 ⟨rfl, hb⟩; have n0_ := Aside0.mk (below_step (by repeat (first | (with_reducible first | exact HB.out | apply below_alloc | apply pw_below_drewN | apply below_drew1) | exact HB.out)) hb); clear HB; have HB := n0_; clear n0_; (try clear hb); (try clear hb2); (try clear hk); (try clear hi)) | (go_at_call 9; (with_reducible refine (comb_Find.calls t174 t183 _ A57.out).mono ?_); rintro e w74 ⟨rfl, hb⟩; have n0_ := Aside0.mk (below_step (by repeat (first | (with_reducible first | exact HB.out | apply below_alloc | apply pw_below_drewN | apply below_drew1) | exact HB.out)) hb); clear HB; have HB := n0_; clear n0_; (try clear hb); (try clear hb2); (try clear hk); (try clear hi)) | (go_at_call 20; (with_reducible refine (bocageref13_Name.calls a0 t175 _ A58.out).mono ?_); rintro e w' ⟨rfl, ⟨nd, rfl⟩⟩) | (go_at_call 11; (with_reducible refine (bocageref13_Find.calls kj5 t175 t185 _ A59.out).mono ?_); rintro e w' ⟨rfl, ⟨nd, rfl⟩⟩))
                  go_ret
                  exact ⟨by first | rfl | (simp [errW_none, errW_some] <;> rfl) | (simp [*, errW_none, errW_some] <;> rfl), by repeat (first | (with_reducible first | exact HB.out | apply below_alloc | apply pw_below_drewN | apply below_drew1) | exact HB.out)⟩
              · rw [if_neg c55] at H
                have c55b0 : (t176 == false) = false := by simpa using c55
                (try (have c55b1 : decide (t176 = false) = false := by simpa using c55))
                (try (have c55b2 : (t176 == false) = false := by simpa using c55))
                (try (have c55b3 : ¬ (t176 = false) := by simpa using c55))
                clear c55
                obtain rfl := Option.some.inj H
                go_wp2_with (first | ((with_reducible refine gate_callee (f := 10) rfl ?_); refine goesL_ (some 49) rfl rfl Try.func10 (by kernel_rfl) rfl #[] rfl (by (try simp only [List.map_toArray, List.map_cons, List.map_nil]); first | done | rfl | (simp only [List.length_drop, List.length_take]; rfl)) ?_; (with_reducible refine (bocagelaw13_alive.calls kj5  true _ A26.out).mono ?_); rintro e w75 ⟨rfl, hb⟩; refine ⟨_, rfl, ?_⟩; have n0_ := Aside0.mk (below_step (by repeat (first | (with_reducible first | exact HB.out | apply below_alloc | apply pw_below_drewN | apply below_drew1) | exact HB.out)) hb); clear HB; have HB := n0_; clear n0_; (try clear hb); (try clear hb2); (try clear hk); (try clear hi)) | (go_at_call 12; (with_reducible refine (comb_Name.calls a0 t174 _ A28.out).mono ?_); rintro e w76 ⟨rfl, hb⟩; have n0_ := Aside0.mk (below_step (by repeat (first | (with_reducible first | exact HB.out | apply below_alloc | apply pw_below_drewN | apply below_drew1) | exact HB.out)) hb); clear HB; have HB := n0_; clear n0_; (try clear hb); (try clear hb2); (try clear hk); (try clear hi)) | (go_at_call 20; (with_reducible refine (bocageref13_Name.calls a0 t175 _ A29.out).mono ?_); rintro e w' ⟨rfl, ⟨nd, rfl⟩⟩) | (go_at_call 21; (with_reducible refine (comb_Right.calls a0 t176 _ A31.out).mono ?_); rintro e w' ⟨rfl, ⟨nd, rfl⟩⟩))
                go_ret
                exact ⟨by first | rfl | (simp [errW_none, errW_some] <;> rfl) | (simp [*, errW_none, errW_some] <;> rfl), by repeat (first | (with_reducible first | exact HB.out | apply below_alloc | apply pw_below_drewN | apply below_drew1) | exact HB.out)⟩
          · rw [if_neg c30] at H
            have c30b0 : (t174.toList == t175.toList) = false := beq_eq_false_iff_ne.mpr c30
            have c30b1 : (t174.toList != t175.toList) = true := bne_iff_ne.mpr c30
            obtain rfl := Option.some.inj H
            go_wp2_with (first | ((with_reducible refine gate_callee (f := 10) rfl ?_); refine goesL_ (some 49) rfl rfl Try.func10 (by kernel_rfl) rfl #[] rfl (by (try simp only [List.map_toArray, List.map_cons, List.map_nil]); first | done | rfl | (simp only [List.length_drop, List.length_take]; rfl)) ?_; (with_reducible refine (bocagelaw13_alive.calls kj5  true _ A26.out).mono ?_); rintro e w77 ⟨rfl, hb⟩; refine ⟨_, rfl, ?_⟩; have n0_ := Aside0.mk (below_step (by repeat (first | (with_reducible first | exact HB.out | apply below_alloc | apply pw_below_drewN | apply below_drew1) | exact HB.out)) hb); clear HB; have HB := n0_; clear n0_; (try clear hb); (try clear hb2); (try clear hk); (try clear hi)) | (go_at_call 12; (with_reducible refine (comb_Name.calls a0 t174 _ A28.out).mono ?_); rintro e w78 ⟨rfl, hb⟩; have n0_ := Aside0.mk (below_step (by repeat (first | (with_reducible first | exact HB.out | apply below_alloc | apply pw_below_drewN | apply below_drew1) | exact HB.out)) hb); clear HB; have HB := n0_; clear n0_; (try clear hb); (try clear hb2); (try clear hk); (try clear hi)) | (go_at_call 20; (with_reducible refine (bocageref13_Name.calls a0 t175 _ A29.out).mono ?_); rintro e w' ⟨rfl, ⟨nd, rfl⟩⟩))
            go_ret
            exact ⟨by first | rfl | (simp [errW_none, errW_some] <;> rfl) | (simp [*, errW_none, errW_some] <;> rfl), by repeat (first | (with_reducible first | exact HB.out | apply below_alloc | apply pw_below_drewN | apply below_drew1) | exact HB.out)⟩
        · replace c27 := Bool.eq_false_iff.mpr c27
          subst c27
          have H1 : (some false) = some r := by rw [if_neg (show ¬ (false = true) by decide)] at H; exact H
          clear H
          have H := H1
          clear H1
          obtain rfl := Option.some.inj H
          go_wp2_with (first | ((with_reducible refine gate_callee (f := 10) rfl ?_); refine goesL_ (some 49) rfl rfl Try.func10 (by kernel_rfl) rfl #[] rfl (by (try simp only [List.map_toArray, List.map_cons, List.map_nil]); first | done | rfl | (simp only [List.length_drop, List.length_take]; rfl)) ?_; (with_reducible refine (bocagelaw13_alive.calls kj5  false _ A26.out).mono ?_); rintro e w79 ⟨rfl, hb⟩; refine ⟨_, rfl, ?_⟩; have n0_ := Aside0.mk (below_step (by repeat (first | (with_reducible first | exact HB.out | apply below_alloc | apply pw_below_drewN | apply below_drew1) | exact HB.out)) hb); clear HB; have HB := n0_; clear n0_; (try clear hb); (try clear hb2); (try clear hk); (try clear hi)))
          go_ret
          exact ⟨by first | rfl | (simp [errW_none, errW_some] <;> rfl) | (simp [*, errW_none, errW_some] <;> rfl), by repeat (first | (with_reducible first | exact HB.out | apply below_alloc | apply pw_below_drewN | apply below_drew1) | exact HB.out)⟩

/-- THE ONE PURE STATEMENT of bocagelaw13_CombAll: yours. -/
def bocagelaw13_CombAll.Pure : Prop := ∀ (a0 : Int) (a1 : Int) (a2 : Int), (Lit.int .i64 a0).wf = true → (Lit.int .i64 a1).wf = true → (Lit.int .i64 a2).wf = true → ∃ k, bocagelaw13_CombAll.f k a0 a1 a2 = some true
theorem bocagelaw13_CombAll.walk (P : bocagelaw13_CombAll.Pure) (a0 : Int) (a1 : Int) (a2 : Int) (w : World) (w0 : (Lit.int .i64 a0).wf = true) (w1 : (Lit.int .i64 a1).wf = true) (w2 : (Lit.int .i64 a2).wf = true) :
    Calls Try.prog 7 #[.int .i64 a0, .int .i64 a1, .int .i64 a2] w fun e w' => e = .returned (.bool true) ∧ Below w.heap.size w w' := by
  obtain ⟨k, h⟩ := P a0 a1 a2 w0 w1 w2
  refine (bocagelaw13_CombAll.calls k a0 a1 a2 true w h).mono ?_
  rintro e w' ⟨rfl, hd⟩
  exact ⟨rfl, hd⟩

/-! ### bocagelaw13_CombRows: function 5 -/
def bocagelaw13_CombRows.l0 : Nat → Int → Int → List Int → Int → List Int → Int → Int → Option (Bool)
  | 0, _, _, _, _, _, _, _ => none
  | k + 1, x0, x1, x2, x7, x15, x16, x17 => if x17 < x16 then (if 0 ≤ x17 then (if x17 < (x15.length : Int) then ((bocageref13_Do.f k x0 x7 (rd x15 x17)).bind fun t189 => (bocagelaw13_CombRows.l0 k x0 x1 x2 t189 x15 x16 (wrap64 (x17 + 1)))) else (none)) else (none)) else ((bocagelaw13_alive.f k).bind fun t190 => (if t190 = true then ((comb_All.f k x0 x1 x2).bind fun t191 => (if t191 = x7 then ((comb_All.f k x0 x1 ([] : List Int)).bind fun t192 => (some (t192 == x1))) else (some false))) else (some false)))
def bocagelaw13_CombRows.f (k : Nat) (a0 : Int) (a1 : Int) (l2 : List Int) : Option (Bool) := if (l2.length : Int) > 1000 then ((bocagelaw13_alive.f k).bind fun t187 => (some t187)) else (bocagelaw13_CombRows.l0 k a0 a1 l2 a1 l2 (l2.length : Int) 0)
theorem bocagelaw13_CombRows.mono_l : ∀ k, (∀ y0 y1 y2 y3 y4 y5 y6, LeO (bocagelaw13_CombRows.l0 k y0 y1 y2 y3 y4 y5 y6) (bocagelaw13_CombRows.l0 (k + 1) y0 y1 y2 y3 y4 y5 y6))
  | 0 => fun _ _ _ _ _ _ _ r h => by simp [bocagelaw13_CombRows.l0] at h
  | k + 1 => by
    have ih0 := bocagelaw13_CombRows.mono_l k
    · intro y0 y1 y2 y3 y4 y5 y6
      unfold bocagelaw13_CombRows.l0
      repeat' first
      | (with_reducible exact ih0 _ _ _ _ _ _ _)
      | (with_reducible exact bocagelaw13_alive.mono _)
      | (with_reducible exact bocageref13_Do.mono _ _ _ _)
      | (with_reducible exact comb_All.mono _ _ _ _)
      | (with_reducible exact LeO.refl _)
      | (with_reducible exact LeO.none _)
      | (with_reducible refine LeO.ite ?_ ?_)
      | (with_reducible refine LeO.bind ?_ (fun _ => ?_))
      | exact ih0 _ _ _ _ _ _ _
      | exact bocagelaw13_alive.mono _
      | exact bocageref13_Do.mono _ _ _ _
      | exact comb_All.mono _ _ _ _
      | exact LeO.none _
      | refine LeO.ite ?_ ?_
      | refine LeO.bind ?_ (fun _ => ?_)
theorem bocagelaw13_CombRows.mono : ∀ a0 a1 a2 k, LeO (bocagelaw13_CombRows.f k a0 a1 a2) (bocagelaw13_CombRows.f (k + 1) a0 a1 a2) := by
  intro a0 a1 a2 k
  have ih0 := bocagelaw13_CombRows.mono_l k
  unfold bocagelaw13_CombRows.f
  repeat' first
      | (with_reducible exact ih0 _ _ _ _ _ _ _)
      | (with_reducible exact bocagelaw13_alive.mono _)
      | (with_reducible exact bocageref13_Do.mono _ _ _ _)
      | (with_reducible exact comb_All.mono _ _ _ _)
      | (with_reducible exact LeO.refl _)
      | (with_reducible exact LeO.none _)
      | (with_reducible refine LeO.ite ?_ ?_)
      | (with_reducible refine LeO.bind ?_ (fun _ => ?_))
      | exact ih0 _ _ _ _ _ _ _
      | exact bocagelaw13_alive.mono _
      | exact bocageref13_Do.mono _ _ _ _
      | exact comb_All.mono _ _ _ _
      | exact LeO.none _
      | refine LeO.ite ?_ ?_
      | refine LeO.bind ?_ (fun _ => ?_)
set_option maxHeartbeats 8000000 in
set_option maxRecDepth 100000 in
theorem bocagelaw13_CombRows.calls (k : Nat) (a0 : Int) (a1 : Int) (A2 : Option Addr) (c2 : Nat) (l2 : List Int) (r : Bool) (w : World) (hr2 : Kd.C (Kd.int .i64) w A2 l2.length l2) (hc2 : l2.length ≤ c2) (h : bocagelaw13_CombRows.f k a0 a1 l2 = some r) :
    Calls Try.prog 5 #[.int .i64 a0, .int .i64 a1, .slice A2 l2.length c2] w fun e w' => e = .returned (.bool r) ∧ Below w.heap.size w w' := by
  have HR2 := Aside0.mk hr2
  have HC2 := Aside0.mk hc2
  clear hr2 hc2
  have HB := Aside0.mk (Below.refl w.heap.size w)
  have H : (if (l2.length : Int) > 1000 then ((bocagelaw13_alive.f k).bind fun t187 => (some t187)) else (bocagelaw13_CombRows.l0 k a0 a1 l2 a1 l2 (l2.length : Int) 0)) = some r := h
  clear h
  by_cases c4 : (l2.length : Int) > 1000
  · rw [if_pos c4] at H
    have c4b0 : decide (1000 < (l2.length : Int)) = true := decide_eq_true c4
    have c4b1 : decide (1000 < l2.length) = true := decide_eq_true (by omega)
    clear c4
    replace H := Option.bind_eq_some_iff.mp H
    obtain ⟨t187, A50, H⟩ := H
    replace H : (some t187) = some r := H
    have A5 := Aside0.mk A50
    clear A50
    obtain rfl := Option.some.inj H
    go_enter Try.func5, Try.ntmps5
    go_wp2_with (first | ((with_reducible refine gate_callee (f := 10) rfl ?_); refine goesL_ (some 13) rfl rfl Try.func10 (by kernel_rfl) rfl #[] rfl (by (try simp only [List.map_toArray, List.map_cons, List.map_nil]); first | done | rfl | (simp only [List.length_drop, List.length_take]; rfl)) ?_; (with_reducible refine (bocagelaw13_alive.calls k  t187 _ A5.out).mono ?_); rintro e w6 ⟨rfl, hb⟩; refine ⟨_, rfl, ?_⟩; have n0_ := Aside0.mk (below_step (by repeat (first | (with_reducible first | exact HB.out | apply below_alloc | apply pw_below_drewN | apply below_drew1) | exact HB.out)) hb); clear HB; have HB := n0_; clear n0_; (try clear hb); (try clear hb2); (try clear hk); (try clear hi)))
    go_ret
    exact ⟨by first | rfl | (simp [errW_none, errW_some] <;> rfl) | (simp [*, errW_none, errW_some] <;> rfl), by repeat (first | (with_reducible first | exact HB.out | apply below_alloc | apply pw_below_drewN | apply below_drew1) | exact HB.out)⟩
  · rw [if_neg c4] at H
    have c4b0 : decide (1000 < (l2.length : Int)) = false := decide_eq_false c4
    have c4b1 : decide (1000 < l2.length) = false := decide_eq_false (by omega)
    clear c4
    have H' := Aside0.mk H
    clear H
    go_enter Try.func5, Try.ntmps5
    go_wp2
    go_loopg [7, 17] k (fun kq v7 v17 w' => ∃ (x7_1 : Int) (x17_1 : Int), v7 = .int .i64 x7_1 ∧ v17 = .int .i64 x17_1 ∧ Aside0 (bocagelaw13_CombRows.l0 kq a0 a1 l2 x7_1 l2 (l2.length : Int) x17_1 = some r) ∧ Aside0 (kq ≤ k) ∧ Aside0 (Below w.heap.size w w'))
    case atStart => exact ⟨(a1), (0), (by first | rfl | (simp; done) | (simp [*]; done)), (by first | rfl | (simp; done) | (simp [*]; done)), H', ⟨Nat.le_refl _⟩, ⟨by repeat (first | (with_reducible first | exact HB.out | apply below_alloc | apply pw_below_drewN | apply below_drew1) | exact HB.out)⟩⟩
    case round =>
      clear H'
      try clear c1
      try clear c2
      try clear p2
      try clear c4
      try clear c4b0
      try clear c4b1
      try clear c5
      obtain ⟨x7_1, x17_1, rfl, rfl, HA, HK1, HB⟩ := hrel
      cases gk with
      | zero => exact absurd HA.out (by simp [bocagelaw13_CombRows.l0])
      | succ k1 =>
        have H := HA.out
        clear HA
        simp only [bocagelaw13_CombRows.l0] at H
        by_cases c7 : x17_1 < (l2.length : Int)
        · rw [if_pos c7] at H
          have c7b0 : decide (x17_1 < (l2.length : Int)) = true := decide_eq_true c7
          clear c7
          by_cases c8 : 0 ≤ x17_1
          · rw [if_pos c8] at H
            have c8b0 : decide (0 ≤ x17_1) = true := decide_eq_true c8
            clear c8
            by_cases c9 : x17_1 < (l2.length : Int)
            · rw [if_pos c9] at H
              have c9b0 : decide (x17_1 < (l2.length : Int)) = true := decide_eq_true c9
              clear c9
              replace H := Option.bind_eq_some_iff.mp H
              obtain ⟨t189, A100, H⟩ := H
              replace H : (bocagelaw13_CombRows.l0 k1 a0 a1 l2 t189 l2 (l2.length : Int) (wrap64 (x17_1 + 1))) = some r := H
              have A10 := Aside0.mk A100
              clear A100
              have H' := Aside0.mk H
              clear H
              have p188 : 0 ≤ (x17_1 : Int) := of_decide_eq_true (by first | (with_reducible assumption) | assumption)
              have q188 : x17_1 < (l2.length : Int) := of_decide_eq_true (by first | (with_reducible assumption) | assumption)
              obtain ⟨ad188, e188, hx188_0⟩ := Kd.at_int HR2.out x17_1 p188 q188
              cases e188
              replace hx188_0 := (HB.out.cell (World.block_lt_of_cell? w _ hx188_0)).trans hx188_0
              replace p188 := eq_true p188
              replace q188 := eq_true q188
              go_wp2_with (first | ((with_reducible refine gate_callee (f := 15) rfl ?_); refine goesL_ (some 24) rfl rfl Try.func15 (by kernel_rfl) rfl #[.int .i64 a0, .int .i64 x7_1, .int .i64 (rd l2 x17_1)] rfl (by (try simp only [List.map_toArray, List.map_cons, List.map_nil]); first | done | rfl | (simp only [List.length_drop, List.length_take]; rfl)) ?_; (with_reducible refine (bocageref13_Do.calls k1 a0 x7_1 (rd l2 x17_1) t189 _ A10.out).mono ?_); rintro e w11 ⟨rfl, hb⟩; refine ⟨_, rfl, ?_⟩; have n0_ := Aside0.mk (below_step (by repeat (first | (with_reducible first | exact HB.out | apply below_alloc | apply pw_below_drewN | apply below_drew1) | exact HB.out)) hb); clear HB; have HB := n0_; clear n0_; (try clear hb); (try clear hb2); (try clear hk); (try clear hi)))
              go_roundg k1
              case measure => have := HK1.out; omega
              case rel => exact ⟨(t189), (wrap64 (x17_1 + 1)), (by first | rfl | (simp; done) | (simp [*]; done)), (by first | rfl | (simp; done) | (simp [*]; done)), H', ⟨by have := HK1.out; omega⟩, ⟨by repeat (first | (with_reducible first | exact HB.out | apply below_alloc | apply pw_below_drewN | apply below_drew1) | exact HB.out)⟩⟩
            · rw [if_neg c9] at H
              exact absurd H (by simp)
          · rw [if_neg c8] at H
            exact absurd H (by simp)
        · rw [if_neg c7] at H
          have c7b0 : decide (x17_1 < (l2.length : Int)) = false := decide_eq_false c7
          clear c7
          replace H := Option.bind_eq_some_iff.mp H
          obtain ⟨t190, A120, H⟩ := H
          replace H : (if t190 = true then ((comb_All.f k1 a0 a1 l2).bind fun t191 => (if t191 = x7_1 then ((comb_All.f k1 a0 a1 ([] : List Int)).bind fun t192 => (some (t192 == a1))) else (some false))) else (some false)) = some r := H
          have A12 := Aside0.mk A120
          clear A120
          by_cases c13 : t190 = true
          · subst c13
            have H1 : ((comb_All.f k1 a0 a1 l2).bind fun t191 => (if t191 = x7_1 then ((comb_All.f k1 a0 a1 ([] : List Int)).bind fun t192 => (some (t192 == a1))) else (some false))) = some r := by rw [if_pos rfl] at H; exact H
            clear H
            have H := H1
            clear H1
            replace H := Option.bind_eq_some_iff.mp H
            obtain ⟨t191, A140, H⟩ := H
            replace H : (if t191 = x7_1 then ((comb_All.f k1 a0 a1 ([] : List Int)).bind fun t192 => (some (t192 == a1))) else (some false)) = some r := H
            have A14 := Aside0.mk A140
            clear A140
            by_cases c15 : t191 = x7_1
            · rw [if_pos c15] at H
              have c15b0 : (t191 == x7_1) = true := beq_iff_eq.mpr c15
              have c15b1 : (t191 != x7_1) = false := bne_eq_false_iff_eq.mpr c15
              clear c15
              replace H := Option.bind_eq_some_iff.mp H
              obtain ⟨t192, A160, H⟩ := H
              replace H : (some (t192 == a1)) = some r := H
              have A16 := Aside0.mk A160
              clear A160
              obtain rfl := Option.some.inj H
              go_wp2_with (first | ((with_reducible refine gate_callee (f := 10) rfl ?_); refine goesL_ (some 26) rfl rfl Try.func10 (by kernel_rfl) rfl #[] rfl (by (try simp only [List.map_toArray, List.map_cons, List.map_nil]); first | done | rfl | (simp only [List.length_drop, List.length_take]; rfl)) ?_; (with_reducible refine (bocagelaw13_alive.calls k1  true _ A12.out).mono ?_); rintro e w17 ⟨rfl, hb⟩; refine ⟨_, rfl, ?_⟩; have n0_ := Aside0.mk (below_step (by repeat (first | (with_reducible first | exact HB.out | apply below_alloc | apply pw_below_drewN | apply below_drew1) | exact HB.out)) hb); clear HB; have HB := n0_; clear n0_; (try clear hb); (try clear hb2); (try clear hk); (try clear hi)) | (go_at_call 16; (with_reducible refine (comb_All.calls k1 a0 a1 _ _ l2 t191 _ ?side1 ?side2 A14.out).mono ?_); (case side1 => repeat (first | exact (Kd.C_below HR2.out HB.out) | (with_reducible refine Kd.C_alloc ?_ _) | (with_reducible refine Kd.C_drewN ?_ _) | (with_reducible refine Kd.C_drew ?_))); (case side2 => exact HC2.out); rintro e w18 ⟨rfl, hb⟩; have n0_ := Aside0.mk (below_step (by repeat (first | (with_reducible first | exact HB.out | apply below_alloc | apply pw_below_drewN | apply below_drew1) | exact HB.out)) hb); clear HB; have HB := n0_; clear n0_; (try clear hb); (try clear hb2); (try clear hk); (try clear hi)) | (go_at_call 16; (refine (comb_All.calls k1 a0 a1 _ _ ([] : List Int) t192 _ ?side1 ?side2 A16.out).mono ?_); (case side1 => exact Kd.C_nil _ _); (case side2 => exact Nat.le_refl _); rintro e w19 ⟨rfl, hb⟩; have n0_ := Aside0.mk (below_step (by repeat (first | (with_reducible first | exact HB.out | apply below_alloc | apply pw_below_drewN | apply below_drew1) | exact HB.out)) hb); clear HB; have HB := n0_; clear n0_; (try clear hb); (try clear hb2); (try clear hk); (try clear hi)))
              go_ret
              exact ⟨by first | rfl | (simp [errW_none, errW_some] <;> rfl) | (simp [*, errW_none, errW_some] <;> rfl), by repeat (first | (with_reducible first | exact HB.out | apply below_alloc | apply pw_below_drewN | apply below_drew1) | exact HB.out)⟩
            · rw [if_neg c15] at H
              have c15b0 : (t191 == x7_1) = false := beq_eq_false_iff_ne.mpr c15
              have c15b1 : (t191 != x7_1) = true := bne_iff_ne.mpr c15
              obtain rfl := Option.some.inj H
              go_wp2_with (first | ((with_reducible refine gate_callee (f := 10) rfl ?_); refine goesL_ (some 26) rfl rfl Try.func10 (by kernel_rfl) rfl #[] rfl (by (try simp only [List.map_toArray, List.map_cons, List.map_nil]); first | done | rfl | (simp only [List.length_drop, List.length_take]; rfl)) ?_; (with_reducible refine (bocagelaw13_alive.calls k1  true _ A12.out).mono ?_); rintro e w20 ⟨rfl, hb⟩; refine ⟨_, rfl, ?_⟩; have n0_ := Aside0.mk (below_step (by repeat (first | (with_reducible first | exact HB.out | apply below_alloc | apply pw_below_drewN | apply below_drew1) | exact HB.out)) hb); clear HB; have HB := n0_; clear n0_; (try clear hb); (try clear hb2); (try clear hk); (try clear hi)) | (go_at_call 16; (with_reducible refine (comb_All.calls k1 a0 a1 _ _ l2 t191 _ ?side1 ?side2 A14.out).mono ?_); (case side1 => repeat (first | exact (Kd.C_below HR2.out HB.out) | (with_reducible refine Kd.C_alloc ?_ _) | (with_reducible refine Kd.C_drewN ?_ _) | (with_reducible refine Kd.C_drew ?_))); (case side2 => exact HC2.out); rintro e w21 ⟨rfl, hb⟩; have n0_ := Aside0.mk (below_step (by repeat (first | (with_reducible first | exact HB.out | apply below_alloc | apply pw_below_drewN | apply below_drew1) | exact HB.out)) hb); clear HB; have HB := n0_; clear n0_; (try clear hb); (try clear hb2); (try clear hk); (try clear hi)))
              go_ret
              exact ⟨by first | rfl | (simp [errW_none, errW_some] <;> rfl) | (simp [*, errW_none, errW_some] <;> rfl), by repeat (first | (with_reducible first | exact HB.out | apply below_alloc | apply pw_below_drewN | apply below_drew1) | exact HB.out)⟩
          · replace c13 := Bool.eq_false_iff.mpr c13
            subst c13
            have H1 : (some false) = some r := by rw [if_neg (show ¬ (false = true) by decide)] at H; exact H
            clear H
            have H := H1
            clear H1
            obtain rfl := Option.some.inj H
            go_wp2_with (first | ((with_reducible refine gate_callee (f := 10) rfl ?_); refine goesL_ (some 26) rfl rfl Try.func10 (by kernel_rfl) rfl #[] rfl (by (try simp only [List.map_toArray, List.map_cons, List.map_nil]); first | done | rfl | (simp only [List.length_drop, List.length_take]; rfl)) ?_; (with_reducible refine (bocagelaw13_alive.calls k1  false _ A12.out).mono ?_); rintro e w22 ⟨rfl, hb⟩; refine ⟨_, rfl, ?_⟩; have n0_ := Aside0.mk (below_step (by repeat (first | (with_reducible first | exact HB.out | apply below_alloc | apply pw_below_drewN | apply below_drew1) | exact HB.out)) hb); clear HB; have HB := n0_; clear n0_; (try clear hb); (try clear hb2); (try clear hk); (try clear hi)))
            go_ret
            exact ⟨by first | rfl | (simp [errW_none, errW_some] <;> rfl) | (simp [*, errW_none, errW_some] <;> rfl), by repeat (first | (with_reducible first | exact HB.out | apply below_alloc | apply pw_below_drewN | apply below_drew1) | exact HB.out)⟩

/-- THE ONE PURE STATEMENT of bocagelaw13_CombRows: yours. -/
def bocagelaw13_CombRows.Pure : Prop := ∀ (a0 : Int) (a1 : Int) (l2 : List Int), (Lit.int .i64 a0).wf = true → (Lit.int .i64 a1).wf = true → l2.length ≤ maxLen → l2.length * 8 ≤ 140737488351232 → (∀ x ∈ l2, (Lit.int .i64 x).wf = true) → ∃ k, bocagelaw13_CombRows.f k a0 a1 l2 = some true
theorem bocagelaw13_CombRows.walk (P : bocagelaw13_CombRows.Pure) (a0 : Int) (a1 : Int) (a2 : Option Addr) (len2 cap2 : Nat) (z2 : List Int) (w : World) (w0 : (Lit.int .i64 a0).wf = true) (w1 : (Lit.int .i64 a1).wf = true) (w2 : (a2 = none ∧ len2 = 0 ∧ cap2 = 0 ∧ z2 = []) ∨ ∃ x, a2 = some x ∧ len2 ≤ cap2 ∧ cap2 ≤ maxLen ∧ z2.length = cap2 ∧ (∀ i, i < z2.length → w.cell? (x.add i) = some (.int .i64 (z2.getD i 0))) ∧ ∀ n ∈ z2, (Lit.int .i64 n).wf = true) (y2 : len2 * 8 ≤ 140737488351232) :
    Calls Try.prog 5 #[.int .i64 a0, .int .i64 a1, .slice a2 len2 cap2] w fun e w' => e = .returned (.bool true) ∧ Below w.heap.size w w' := by
  obtain ⟨l2, rfl, hr2, hm2, hw2, hc2⟩ := ReadsInt.ofRowC w2
  obtain ⟨k, h⟩ := P a0 a1 l2 w0 w1 hm2 y2 hw2
  refine (bocagelaw13_CombRows.calls k a0 a1 _ _ l2 true w (Kd.C_of_reads (d := (0 : Int)) (h1 := fun _ => rfl) hr2) hc2 h).mono ?_
  rintro e w' ⟨rfl, hd⟩
  exact ⟨rfl, hd⟩

end Go.Proofs.Ytagcloidicnhhaa.Print
