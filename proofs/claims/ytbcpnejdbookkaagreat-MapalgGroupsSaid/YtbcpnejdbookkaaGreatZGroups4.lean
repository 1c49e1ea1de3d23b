-- The texts of this repo that the claim reaches, in one (wip/print/bundle.py): only what is reached; not trusted: Lean checks it.
import Derived.Test.YtbcpnejdbookkaaGreatZGroups3
import Derived.BigRegion
import Derived.Shelf.Spec.BitsCarry
set_option maxHeartbeats 8000000
set_option maxRecDepth 100000
set_option linter.unusedVariables false
set_option linter.unusedSimpArgs false
namespace Go.Proofs.YtbcpnejdbookkaaGreat.Print
open Go.RowKit Go.Proofs.YtbcpnejdbookkaaGreatW.PrintWords Go.Proofs.YtbcpnejdbookkaaGreatW.PrintLast Go.Proofs.YtbcpnejdbookkaaGreatW.PrintMore
attribute [local go_sem] max2_int min2_int max_two min_two max_three min_three max_four min_four
theorem sat_Add.calls (a0 : Int) (a1 : Int) (r : Int) (w : World) (h : sat_Add.f a0 a1 = some r) :
 Calls Tryz.prog 111 #[.int .i64 a0, .int .i64 a1] w fun e w' => e = .returned (.int .i64 r) ∧ Drawn0 w w' := by
 unfold sat_Add.f at h; have H := h; clear h
 by_cases c3 : ((decide (a0 < 0)) == (decide (a1 < 0))) = true
 ·rw [if_pos c3] at H
  have c3b0 : ((decide (a0 < 0)) == (decide (a1 < 0))) = true := c3
  (try (have c3b1 : decide ((decide (a0 < 0)) = (decide (a1 < 0))) = true := by simpa using c3))
  (try (have c3b2 : ((decide (a0 < 0)) == (decide (a1 < 0))) = true := by simpa using c3))
  clear c3
  by_cases c4 : ((decide ((wrap64 (a0 + a1)) < 0)) != (decide (a0 < 0))) = true
  ·rw [if_pos c4] at H
   have c4b0 : ((decide ((wrap64 (a0 + a1)) < 0)) != (decide (a0 < 0))) = true := c4
   (try (have c4b1 : decide ((decide ((wrap64 (a0 + a1)) < 0)) = (decide (a0 < 0))) = false := by simpa using c4))
   (try (have c4b2 : ((decide ((wrap64 (a0 + a1)) < 0)) == (decide (a0 < 0))) = false := by simpa using c4))
   (try (have c4b3 : ¬ ((decide ((wrap64 (a0 + a1)) < 0)) = (decide (a0 < 0))) := by simpa using c4))
   clear c4; revert H; refine bnd fun t546 A5 H => ?_
   obtain rfl := Option.some.inj H; go_enter Tryz.func111, Tryz.ntmps111
   go_wp2_with (first | ((with_reducible refine gate_callee (f := 133) rfl ?_); refine god Tryz.func133 (sat_end.calls _ _ _ A5.out) fun nd => ?_))
   go_ret
   exact ⟨rs, dn⟩
  ·rw [if_neg c4] at H
   have c4b0 : ((decide ((wrap64 (a0 + a1)) < 0)) != (decide (a0 < 0))) = false := by simpa using c4
   (try (have c4b1 : decide ((decide ((wrap64 (a0 + a1)) < 0)) = (decide (a0 < 0))) = true := by simpa using c4))
   (try (have c4b2 : ((decide ((wrap64 (a0 + a1)) < 0)) == (decide (a0 < 0))) = true := by simpa using c4))
   clear c4; obtain rfl := Option.some.inj H; go_enter Tryz.func111, Tryz.ntmps111; go_wp2; go_ret
   exact ⟨rs, dn⟩
 ·rw [if_neg c3] at H
  have c3b0 : ((decide (a0 < 0)) == (decide (a1 < 0))) = false := by simpa using c3
  (try (have c3b1 : decide ((decide (a0 < 0)) = (decide (a1 < 0))) = false := by simpa using c3))
  (try (have c3b2 : ((decide (a0 < 0)) == (decide (a1 < 0))) = false := by simpa using c3))
  (try (have c3b3 : ¬ ((decide (a0 < 0)) = (decide (a1 < 0))) := by simpa using c3))
  clear c3; obtain rfl := Option.some.inj H; go_enter Tryz.func111, Tryz.ntmps111; go_wp2; go_ret
  exact ⟨rs, dn⟩
def sat_Sub.f (a0 : Int) (a1 : Int) : Option (Int) := if ((decide (a0 < 0)) != (decide (a1 < 0))) = true then (if ((decide ((wrap64 (a0 - a1)) < 0)) != (decide (a0 < 0))) = true then ((sat_end.f (decide (a0 < 0))).bind fun t547 => (some t547)) else (some (wrap64 (a0 - a1)))) else (some (wrap64 (a0 - a1)))
theorem sat_Sub.calls (a0 : Int) (a1 : Int) (r : Int) (w : World) (h : sat_Sub.f a0 a1 = some r) :
 Calls Tryz.prog 112 #[.int .i64 a0, .int .i64 a1] w fun e w' => e = .returned (.int .i64 r) ∧ Drawn0 w w' := by
 unfold sat_Sub.f at h; have H := h; clear h
 by_cases c3 : ((decide (a0 < 0)) != (decide (a1 < 0))) = true
 ·rw [if_pos c3] at H
  have c3b0 : ((decide (a0 < 0)) != (decide (a1 < 0))) = true := c3
  (try (have c3b1 : decide ((decide (a0 < 0)) = (decide (a1 < 0))) = false := by simpa using c3))
  (try (have c3b2 : ((decide (a0 < 0)) == (decide (a1 < 0))) = false := by simpa using c3))
  (try (have c3b3 : ¬ ((decide (a0 < 0)) = (decide (a1 < 0))) := by simpa using c3))
  clear c3
  by_cases c4 : ((decide ((wrap64 (a0 - a1)) < 0)) != (decide (a0 < 0))) = true
  ·rw [if_pos c4] at H
   have c4b0 : ((decide ((wrap64 (a0 - a1)) < 0)) != (decide (a0 < 0))) = true := c4
   (try (have c4b1 : decide ((decide ((wrap64 (a0 - a1)) < 0)) = (decide (a0 < 0))) = false := by simpa using c4))
   (try (have c4b2 : ((decide ((wrap64 (a0 - a1)) < 0)) == (decide (a0 < 0))) = false := by simpa using c4))
   (try (have c4b3 : ¬ ((decide ((wrap64 (a0 - a1)) < 0)) = (decide (a0 < 0))) := by simpa using c4))
   clear c4; revert H; refine bnd fun t547 A5 H => ?_
   obtain rfl := Option.some.inj H; go_enter Tryz.func112, Tryz.ntmps112
   go_wp2_with (first | ((with_reducible refine gate_callee (f := 133) rfl ?_); refine god Tryz.func133 (sat_end.calls _ _ _ A5.out) fun nd => ?_))
   go_ret
   exact ⟨rs, dn⟩
  ·rw [if_neg c4] at H
   have c4b0 : ((decide ((wrap64 (a0 - a1)) < 0)) != (decide (a0 < 0))) = false := by simpa using c4
   (try (have c4b1 : decide ((decide ((wrap64 (a0 - a1)) < 0)) = (decide (a0 < 0))) = true := by simpa using c4))
   (try (have c4b2 : ((decide ((wrap64 (a0 - a1)) < 0)) == (decide (a0 < 0))) = true := by simpa using c4))
   clear c4; obtain rfl := Option.some.inj H; go_enter Tryz.func112, Tryz.ntmps112; go_wp2; go_ret
   exact ⟨rs, dn⟩
 ·rw [if_neg c3] at H
  have c3b0 : ((decide (a0 < 0)) != (decide (a1 < 0))) = false := by simpa using c3
  (try (have c3b1 : decide ((decide (a0 < 0)) = (decide (a1 < 0))) = true := by simpa using c3))
  (try (have c3b2 : ((decide (a0 < 0)) == (decide (a1 < 0))) = true := by simpa using c3))
  clear c3; obtain rfl := Option.some.inj H; go_enter Tryz.func112, Tryz.ntmps112; go_wp2; go_ret
  exact ⟨rs, dn⟩
def comb_least.f (a0 : Int) (a1 : Int) : Option (Int) := some (mn a0 a1)
theorem comb_least.calls (a0 : Int) (a1 : Int) (r : Int) (w : World) (h : comb_least.f a0 a1 = some r) :
 Calls Tryz.prog 113 #[.int .i64 a0, .int .i64 a1] w fun e w' => e = .returned (.int .i64 r) ∧ Below w.heap.size w w' := by
 have HB := am (Below.refl w.heap.size w)
 unfold comb_least.f at h; have H := h; clear h
 obtain ⟨ji3, hji3⟩ : ∃ j_ : Int, (mn a0 a1) = j_ := ⟨_, rfl⟩
 (first | rw [hji3] at H | simp only [hji3] at H)
 have hji3_ : (if a1 < a0 then a1 else a0) = ji3 := hji3
 obtain rfl := Option.some.inj H; go_enter Tryz.func113, Tryz.ntmps113; go_wp2; go_ret
 exact ⟨by first | rfl | (simp [errW_none, errW_some] <;> rfl) | (simp only [← hji3]; first | rfl | (simp [errW_none, errW_some] <;> rfl)) | (simp [*, errW_none, errW_some] <;> rfl), by repeat (first | (with_reducible first | exact HB.out | apply below_alloc | apply pw_below_drewN | apply below_drew1) | exact HB.out)⟩
def comb_greatest.f (a0 : Int) (a1 : Int) : Option (Int) := some (mx a0 a1)
theorem comb_greatest.calls (a0 : Int) (a1 : Int) (r : Int) (w : World) (h : comb_greatest.f a0 a1 = some r) :
 Calls Tryz.prog 114 #[.int .i64 a0, .int .i64 a1] w fun e w' => e = .returned (.int .i64 r) ∧ Below w.heap.size w w' := by
 have HB := am (Below.refl w.heap.size w)
 unfold comb_greatest.f at h; have H := h; clear h
 obtain ⟨ji3, hji3⟩ : ∃ j_ : Int, (mx a0 a1) = j_ := ⟨_, rfl⟩
 (first | rw [hji3] at H | simp only [hji3] at H)
 have hji3_ : (if a0 < a1 then a1 else a0) = ji3 := hji3
 obtain rfl := Option.some.inj H; go_enter Tryz.func114, Tryz.ntmps114; go_wp2; go_ret
 exact ⟨by first | rfl | (simp [errW_none, errW_some] <;> rfl) | (simp only [← hji3]; first | rfl | (simp [errW_none, errW_some] <;> rfl)) | (simp [*, errW_none, errW_some] <;> rfl), by repeat (first | (with_reducible first | exact HB.out | apply below_alloc | apply pw_below_drewN | apply below_drew1) | exact HB.out)⟩
def comb_Do.f (a0 a1 a2 : Int) : Option Int :=
  if a0 = 1 then sat_Add.f a1 a2 else if a0 = 2 then sat_Sub.f a1 a2 else if a0 = 3 then comb_least.f a1 a2 else if a0 = 4 then comb_greatest.f a1 a2 else if a0 = 5 then some a2 else some a1
def comb_Do.cs : Array Value := #[Value.func (Fn.func 110) #[] #[], Value.func (Fn.func 111) #[] #[], Value.func (Fn.func 112) #[] #[], Value.func (Fn.func 113) #[] #[], Value.func (Fn.func 114) #[] #[], Value.func (Fn.func 115) #[] #[], Value.func (Fn.func 110) #[] #[]]
theorem comb_Do.ways (w : World) : Calls Tryz.prog 75 #[] w fun e w' => e = .returned (.agg #[Value.func (Fn.func 110) #[] #[], Value.func (Fn.func 111) #[] #[], Value.func (Fn.func 112) #[] #[], Value.func (Fn.func 113) #[] #[], Value.func (Fn.func 114) #[] #[], Value.func (Fn.func 115) #[] #[], Value.func (Fn.func 110) #[] #[]]) ∧ w' = w.alloc (.cells comb_Do.cs 105) := by
 go_enter Tryz.func75, Tryz.ntmps75; go_wp2
 exact bodyPost_ret (results_cell_row rfl _ _ w.heap.size 105 comb_Do.cs (0, 0) _ rfl (blk_new w _) Tryz.underlying105 rfl (by kernel_rfl)) rfl ⟨rfl, rfl⟩
theorem comb_Do.low (w : World) (o : Obj) (n : Nat) : Below w.heap.size w ((w.alloc o).drewN n) := pw_below_drewN ((Below.refl _ w).alloc (Nat.le_refl _) _) n
theorem comb_Do.calls (a0 a1 a2 r : Int) (w : World) (h : comb_Do.f a0 a1 a2 = some r) :
 Calls Tryz.prog 46 #[.int .i64 a0, .int .i64 a1, .int .i64 a2] w fun e w' => e = .returned (.int .i64 r) ∧ Below w.heap.size w w' := by
 unfold comb_Do.f at h
 by_cases h1 : a0 = 1
 ·rw [if_pos h1] at h
  have H := am h; clear h
  subst h1
  have hix : ∀ w, (Instr.index 105 (.agg #[Value.func (Fn.func 110) #[] #[], Value.func (Fn.func 111) #[] #[], Value.func (Fn.func 112) #[] #[], Value.func (Fn.func 113) #[] #[], Value.func (Fn.func 114) #[] #[], Value.func (Fn.func 115) #[] #[], Value.func (Fn.func 110) #[] #[]]) (.int .i64 1)).run Tryz.prog w = .ok (.func (.func 111) #[] #[]) w := fun _ => by kernel_rfl
  go_enter Tryz.func46, Tryz.ntmps46
  go_wp2_with (first | (go_at_call 75; refine (comb_Do.ways _).mono ?_; rintro e w' ⟨rfl, rfl⟩) | (go_at_call 111; refine (sat_Add.calls a1 a2 r _ H.out).mono ?_; rintro e w' ⟨rfl, ⟨nd, rfl⟩⟩) | go_in); go_ret
  exact ⟨rfl, comb_Do.low w _ nd⟩
 ·rw [if_neg h1] at h
  by_cases h2 : a0 = 2
  ·rw [if_pos h2] at h
   have H := am h; clear h
   subst h2
   have hix : ∀ w, (Instr.index 105 (.agg #[Value.func (Fn.func 110) #[] #[], Value.func (Fn.func 111) #[] #[], Value.func (Fn.func 112) #[] #[], Value.func (Fn.func 113) #[] #[], Value.func (Fn.func 114) #[] #[], Value.func (Fn.func 115) #[] #[], Value.func (Fn.func 110) #[] #[]]) (.int .i64 2)).run Tryz.prog w = .ok (.func (.func 112) #[] #[]) w := fun _ => by kernel_rfl
   go_enter Tryz.func46, Tryz.ntmps46
   go_wp2_with (first | (go_at_call 75; refine (comb_Do.ways _).mono ?_; rintro e w' ⟨rfl, rfl⟩) | (go_at_call 112; refine (sat_Sub.calls a1 a2 r _ H.out).mono ?_; rintro e w' ⟨rfl, ⟨nd, rfl⟩⟩) | go_in); go_ret
   exact ⟨rfl, comb_Do.low w _ nd⟩
  ·rw [if_neg h2] at h
   by_cases h3 : a0 = 3
   ·rw [if_pos h3] at h
    have H := am h; clear h
    subst h3
    have hix : ∀ w, (Instr.index 105 (.agg #[Value.func (Fn.func 110) #[] #[], Value.func (Fn.func 111) #[] #[], Value.func (Fn.func 112) #[] #[], Value.func (Fn.func 113) #[] #[], Value.func (Fn.func 114) #[] #[], Value.func (Fn.func 115) #[] #[], Value.func (Fn.func 110) #[] #[]]) (.int .i64 3)).run Tryz.prog w = .ok (.func (.func 113) #[] #[]) w := fun _ => by kernel_rfl
    go_enter Tryz.func46, Tryz.ntmps46
    go_wp2_with (first | (go_at_call 75; refine (comb_Do.ways _).mono ?_; rintro e w' ⟨rfl, rfl⟩) | (go_at_call 113; refine (comb_least.calls a1 a2 r _ H.out).mono ?_; rintro e w' ⟨rfl, hb⟩) | go_in); go_ret
    exact ⟨rfl, ((Below.refl _ w).alloc (Nat.le_refl _) _).trans (hb.mono (by simp))⟩
   ·rw [if_neg h3] at h
    by_cases h4 : a0 = 4
    ·rw [if_pos h4] at h
     have H := am h; clear h
     subst h4
     have hix : ∀ w, (Instr.index 105 (.agg #[Value.func (Fn.func 110) #[] #[], Value.func (Fn.func 111) #[] #[], Value.func (Fn.func 112) #[] #[], Value.func (Fn.func 113) #[] #[], Value.func (Fn.func 114) #[] #[], Value.func (Fn.func 115) #[] #[], Value.func (Fn.func 110) #[] #[]]) (.int .i64 4)).run Tryz.prog w = .ok (.func (.func 114) #[] #[]) w := fun _ => by kernel_rfl
     go_enter Tryz.func46, Tryz.ntmps46
     go_wp2_with (first | (go_at_call 75; refine (comb_Do.ways _).mono ?_; rintro e w' ⟨rfl, rfl⟩) | (go_at_call 114; refine (comb_greatest.calls a1 a2 r _ H.out).mono ?_; rintro e w' ⟨rfl, hb⟩) | go_in); go_ret
     exact ⟨rfl, ((Below.refl _ w).alloc (Nat.le_refl _) _).trans (hb.mono (by simp))⟩
    ·rw [if_neg h4] at h
     by_cases h5 : a0 = 5
     ·rw [if_pos h5] at h
      obtain rfl := Option.some.inj h
      subst h5
      have hix : ∀ w, (Instr.index 105 (.agg #[Value.func (Fn.func 110) #[] #[], Value.func (Fn.func 111) #[] #[], Value.func (Fn.func 112) #[] #[], Value.func (Fn.func 113) #[] #[], Value.func (Fn.func 114) #[] #[], Value.func (Fn.func 115) #[] #[], Value.func (Fn.func 110) #[] #[]]) (.int .i64 5)).run Tryz.prog w = .ok (.func (.func 115) #[] #[]) w := fun _ => by kernel_rfl
      go_enter Tryz.func46, Tryz.ntmps46
      go_wp2_with (first | (go_at_call 75; refine (comb_Do.ways _).mono ?_; rintro e w' ⟨rfl, rfl⟩) | go_in); go_ret
      exact ⟨rfl, comb_Do.low w _ 0⟩
     ·rw [if_neg h5] at h
      by_cases h6 : a0 = 6
      ·obtain rfl := Option.some.inj h
       subst h6
       have hix : ∀ w, (Instr.index 105 (.agg #[Value.func (Fn.func 110) #[] #[], Value.func (Fn.func 111) #[] #[], Value.func (Fn.func 112) #[] #[], Value.func (Fn.func 113) #[] #[], Value.func (Fn.func 114) #[] #[], Value.func (Fn.func 115) #[] #[], Value.func (Fn.func 110) #[] #[]]) (.int .i64 6)).run Tryz.prog w = .ok (.func (.func 110) #[] #[]) w := fun _ => by kernel_rfl
       go_enter Tryz.func46, Tryz.ntmps46
       go_wp2_with (first | (go_at_call 75; refine (comb_Do.ways _).mono ?_; rintro e w' ⟨rfl, rfl⟩) | go_in); go_ret
       exact ⟨rfl, comb_Do.low w _ 0⟩
      ·obtain rfl := Option.some.inj h
       have hb : a0 < 1 ∨ 6 < a0 := by omega
       clear h1 h2 h3 h4 h5 h6
       rcases hb with hb | hb
       ·have e1 : decide (1 ≤ a0) = false := decide_eq_false (by omega)
        have hix : ∀ w, (Instr.index 105 (.agg #[Value.func (Fn.func 110) #[] #[], Value.func (Fn.func 111) #[] #[], Value.func (Fn.func 112) #[] #[], Value.func (Fn.func 113) #[] #[], Value.func (Fn.func 114) #[] #[], Value.func (Fn.func 115) #[] #[], Value.func (Fn.func 110) #[] #[]]) (.int .i64 0)).run Tryz.prog w = .ok (.func (.func 110) #[] #[]) w := fun _ => by kernel_rfl
        go_enter Tryz.func46, Tryz.ntmps46
        go_wp2_with (first | (go_at_call 75; refine (comb_Do.ways _).mono ?_; rintro e w' ⟨rfl, rfl⟩) | go_in); go_ret
        exact ⟨rfl, comb_Do.low w _ 0⟩
       ·have e1 : decide (1 ≤ a0) = true := decide_eq_true (by omega)
        have e2 : decide (a0 ≤ 6) = false := decide_eq_false (by omega)
        have hix : ∀ w, (Instr.index 105 (.agg #[Value.func (Fn.func 110) #[] #[], Value.func (Fn.func 111) #[] #[], Value.func (Fn.func 112) #[] #[], Value.func (Fn.func 113) #[] #[], Value.func (Fn.func 114) #[] #[], Value.func (Fn.func 115) #[] #[], Value.func (Fn.func 110) #[] #[]]) (.int .i64 0)).run Tryz.prog w = .ok (.func (.func 110) #[] #[]) w := fun _ => by kernel_rfl
        go_enter Tryz.func46, Tryz.ntmps46
        go_wp2_with (first | (go_at_call 75; refine (comb_Do.ways _).mono ?_; rintro e w' ⟨rfl, rfl⟩) | go_in); go_ret
        exact ⟨rfl, comb_Do.low w _ 0⟩
def sat_Neg.f (a0 : Int) : Option (Int) := (sat_Sub.f 0 a0).bind fun t548 => (some t548)
theorem sat_Neg.calls (a0 : Int) (r : Int) (w : World) (h : sat_Neg.f a0 = some r) :
 Calls Tryz.prog 76 #[.int .i64 a0] w fun e w' => e = .returned (.int .i64 r) ∧ Drawn0 w w' := by
 unfold sat_Neg.f at h; have H := h; clear h; revert H; refine bnd fun t548 A2 H => ?_
 obtain rfl := Option.some.inj H; go_enter Tryz.func76, Tryz.ntmps76
 go_wp2_with (first | ((with_reducible refine gate_callee (f := 112) rfl ?_); refine god Tryz.func112 (sat_Sub.calls _ _ _ _ A2.out) fun nd => ?_))
 go_ret
 exact ⟨rs, dn⟩
def comb_First.f (a0 : Int) (a1 : Int) : Option (Int) := if a0 = 2 then ((sat_Neg.f a1).bind fun t549 => (some t549)) else (some a1)
theorem comb_First.calls (a0 : Int) (a1 : Int) (r : Int) (w : World) (h : comb_First.f a0 a1 = some r) :
 Calls Tryz.prog 47 #[.int .i64 a0, .int .i64 a1] w fun e w' => e = .returned (.int .i64 r) ∧ Drawn0 w w' := by
 unfold comb_First.f at h; have H := h; clear h
 by_cases c3 : a0 = 2
 ·rw [if_pos c3] at H
  have c3b0 : (a0 == 2) = true := beq_iff_eq.mpr c3
  have c3b1 : (a0 != 2) = false := bne_eq_false_iff_eq.mpr c3
  clear c3; revert H; refine bnd fun t549 A4 H => ?_
  obtain rfl := Option.some.inj H; go_enter Tryz.func47, Tryz.ntmps47
  go_wp2_with (first | ((with_reducible refine gate_callee (f := 76) rfl ?_); refine god Tryz.func76 (sat_Neg.calls _ _ _ A4.out) fun nd => ?_))
  go_ret
  exact ⟨rs, dn⟩
 ·rw [if_neg c3] at H
  have c3b0 : (a0 == 2) = false := beq_eq_false_iff_ne.mpr c3
  have c3b1 : (a0 != 2) = true := bne_iff_ne.mpr c3
  obtain rfl := Option.some.inj H; go_enter Tryz.func47, Tryz.ntmps47; go_wp2; go_ret
  exact ⟨rs, dn⟩
theorem restrict_cl (xv : Int) (xh : Bool) (yv : Int) (yh : Bool) (w : World) :
 Calls Tryz.prog 67 (#[.agg #[.int .i64 xv, .bool xh], .agg #[.int .i64 yv, .bool yh]] ++ #[]) w fun e w' => e = .returned (.agg #[.int .i64 xv, .bool (xh && yh)]) ∧ Below w.heap.size w w' := by
 have hu67 := Tryz.underlying67
 have HB := am (Below.refl w.heap.size w)
 go_enter Tryz.func67, Tryz.ntmps67; cases xh
 ·go_upto_region 1 with (first | ((with_reducible refine gate_dst (N := 2) rfl ?_); refine bxf #[.int .i64 xv, .bool false] 67 HB fun gx w1 B_x GE_x_HB HB hgb hb => ?_; clear hb hgb) | ((with_reducible refine gate_dst (N := 3) rfl ?_); refine bxf #[.int .i64 yv, .bool yh] 67 HB fun gy w2 B_y GE_y_HB HB hgb hb => ?_; have NE_x_y := nlt hgb B_x; replace B_x := bkb B_x hb; clear hb hgb) | ((with_reducible refine gate_dst (N := 4) rfl ?_); refine bxf #[.int .i64 0, .bool false] 67 HB fun gr w3 B_r GE_r_HB HB hgb hb => ?_; have NE_x_r := nlt hgb B_x; have NE_y_r := nlt hgb B_y; replace B_x := bkb B_x hb; replace B_y := bkb B_y hb; clear hb hgb))
  obtain ⟨c_x_0, c_x_1⟩ := e2 B_x; obtain ⟨c_y_0, c_y_1⟩ := e2 B_y; obtain ⟨c_r_0, c_r_1, f_r_0, f_r_1⟩ := s2 B_r; go_wp2
  refine bodyPost_ret (results_cell_row rfl _ _ gr 67 #[.int .i64 xv, .bool false] (0, 0) _ rfl (blk_put (blk_put B_r.out 0 _ rfl) 1 _ rfl) Tryz.underlying67 rfl (by kernel_rfl)) rfl ?_
  exact ⟨rfl, below_set (below_set HB.out GE_r_HB.out) GE_r_HB.out⟩
 ·go_upto_region 1 with (first | ((with_reducible refine gate_dst (N := 2) rfl ?_); refine bxf #[.int .i64 xv, .bool true] 67 HB fun gx w1 B_x GE_x_HB HB hgb hb => ?_; clear hb hgb) | ((with_reducible refine gate_dst (N := 3) rfl ?_); refine bxf #[.int .i64 yv, .bool yh] 67 HB fun gy w2 B_y GE_y_HB HB hgb hb => ?_; have NE_x_y := nlt hgb B_x; replace B_x := bkb B_x hb; clear hb hgb) | ((with_reducible refine gate_dst (N := 4) rfl ?_); refine bxf #[.int .i64 0, .bool false] 67 HB fun gr w3 B_r GE_r_HB HB hgb hb => ?_; have NE_x_r := nlt hgb B_x; have NE_y_r := nlt hgb B_y; replace B_x := bkb B_x hb; replace B_y := bkb B_y hb; clear hb hgb))
  obtain ⟨c_x_0, c_x_1⟩ := e2 B_x; obtain ⟨c_y_0, c_y_1⟩ := e2 B_y; obtain ⟨c_r_0, c_r_1, f_r_0, f_r_1⟩ := s2 B_r; go_wp2
  refine bodyPost_ret (results_cell_row rfl _ _ gr 67 #[.int .i64 xv, .bool yh] (0, 0) _ rfl (blk_put (blk_put B_r.out 0 _ rfl) 1 _ rfl) Tryz.underlying67 rfl (by kernel_rfl)) rfl ?_
  exact ⟨rfl, below_set (below_set HB.out GE_r_HB.out) GE_r_HB.out⟩
theorem diff_cl (xv : Int) (xh : Bool) (yv : Int) (yh : Bool) (w : World) :
 Calls Tryz.prog 54 (#[.agg #[.int .i64 xv, .bool xh], .agg #[.int .i64 yv, .bool yh]] ++ #[]) w fun e w' => e = .returned (.agg #[.int .i64 0, .bool (decide ¬ (xv = yv ∧ xh = yh))]) ∧ Below w.heap.size w w' := by
 have hu67 := Tryz.underlying67
 have HB := am (Below.refl w.heap.size w)
 go_enter Tryz.func54, Tryz.ntmps54
 go_upto_region 1 with (first | ((with_reducible refine gate_dst (N := 2) rfl ?_); refine bxf #[.int .i64 xv, .bool xh] 67 HB fun gx w1 B_x GE_x_HB HB hgb hb => ?_; clear hb hgb) | ((with_reducible refine gate_dst (N := 3) rfl ?_); refine bxf #[.int .i64 yv, .bool yh] 67 HB fun gy w2 B_y GE_y_HB HB hgb hb => ?_; have NE_x_y := nlt hgb B_x; replace B_x := bkb B_x hb; clear hb hgb) | ((with_reducible refine gate_dst (N := 4) rfl ?_); refine bxf #[.int .i64 0, .bool false] 67 HB fun gr w3 B_r GE_r_HB HB hgb hb => ?_; have NE_x_r := nlt hgb B_x; have NE_y_r := nlt hgb B_y; replace B_x := bkb B_x hb; replace B_y := bkb B_y hb; clear hb hgb))
 obtain ⟨_, _⟩ := e2 B_x; obtain ⟨_, _⟩ := e2 B_y; obtain ⟨_, _, _, _⟩ := s2 B_r; go_wp2
 all_goals (refine bodyPost_ret (results_cell_row rfl _ _ gr 67 #[.int .i64 0, .bool _] (0, 0) _ rfl (blk_put (blk_put B_r.out 0 _ rfl) 1 _ rfl) Tryz.underlying67 rfl (by kernel_rfl)) rfl ?_; refine ⟨by simp [*], below_set (below_set HB.out GE_r_HB.out) GE_r_HB.out⟩)
def both_phi (kind : Int) (xv : Int) (xh : Bool) (yv : Int) (yh : Bool) : Option (Int × Bool) :=
  if yh = true then (if xh = true then (comb_Do.f kind xv yv).map (fun r => (r, true)) else (comb_First.f kind yv).map (fun r => (r, true))) else some (xv, xh)
theorem both_cl_tt (kind xv yv : Int) (r : Int) (gk : Nat) (w : World) (hk : w.heap[gk]? = some (.cells #[.int .i64 kind] 3 (0, 0))) (hc : comb_Do.f kind xv yv = some r) :
 Calls Tryz.prog 45 (#[.agg #[.int .i64 xv, .bool true], .agg #[.int .i64 yv, .bool true]] ++ #[.pointer (some ⟨gk, 0, none⟩)]) w fun e w' => e = .returned (.agg #[.int .i64 r, .bool true]) ∧ Below w.heap.size w w' := by
 have hu67 := Tryz.underlying67
 have HB := am (Below.refl w.heap.size w)
 have B_k := am hk; clear hk; have EC := am hc; clear hc; go_enter Tryz.func45, Tryz.ntmps45
 go_upto_region 1 with (first | ((with_reducible refine gate_dst (N := 3) rfl ?_); refine bxf #[.int .i64 xv, .bool true] 67 HB fun gx w1 B_x GE_x_HB HB hgb hb => ?_; have NE_k_x := nlt hgb B_k; replace B_k := bkb B_k hb; clear hb hgb) | ((with_reducible refine gate_dst (N := 4) rfl ?_); refine bxf #[.int .i64 yv, .bool true] 67 HB fun gy w2 B_y GE_y_HB HB hgb hb => ?_; have NE_k_y := nlt hgb B_k; have NE_x_y := nlt hgb B_x; replace B_k := bkb B_k hb; replace B_x := bkb B_x hb; clear hb hgb) | ((with_reducible refine gate_dst (N := 5) rfl ?_); refine bxf #[.int .i64 0, .bool false] 67 HB fun gr w3 B_r GE_r_HB HB hgb hb => ?_; have NE_k_r := nlt hgb B_k; have NE_x_r := nlt hgb B_x; have NE_y_r := nlt hgb B_y; replace B_k := bkb B_k hb; replace B_x := bkb B_x hb; replace B_y := bkb B_y hb; clear hb hgb))
 obtain ⟨_, _⟩ := e2 B_x; obtain ⟨_, _⟩ := e2 B_y; obtain ⟨c_r_0, c_r_1, f_r_0, f_r_1⟩ := s2 B_r
 have c_k_0 : w3.cell? ⟨gk, 0, none⟩ = some (.int .i64 kind) := (blk_cell B_k.out 0).trans rfl
 have c_r_0' := c_r_0
 clear c_r_0 f_r_0 c_r_1 f_r_1 c_r_0'
 go_wp2_with (first | (go_at_call 46; (with_reducible refine (comb_Do.calls kind xv yv r _ EC.out).mono ?_); rintro e w4 ⟨rfl, hb⟩; replace B_k := bkb B_k hb; replace B_x := bkb B_x hb; replace B_y := bkb B_y hb; replace B_r := bkb B_r hb; replace HB := bst HB hb; have c_r_0 : w4.cell? ⟨gr, 0, none⟩ = some (.int .i64 0) := (blk_cell B_r.out 0).trans rfl; have f_r_0 := blk_frozen B_r.out 0; have c_r_1 : w4.cell? ⟨gr, 1, none⟩ = some (.bool false) := (blk_cell B_r.out 1).trans rfl; have f_r_1 := blk_frozen B_r.out 1))
 refine bodyPost_ret (results_cell_row rfl _ _ gr 67 #[.int .i64 r, .bool true] (0, 0) _ rfl (blk_put (blk_put B_r.out 0 _ rfl) 1 _ rfl) Tryz.underlying67 rfl (by kernel_rfl)) rfl ?_
 exact ⟨rfl, below_set (below_set HB.out GE_r_HB.out) GE_r_HB.out⟩
theorem both_cl_ft (kind xv yv : Int) (r : Int) (gk : Nat) (w : World) (hk : w.heap[gk]? = some (.cells #[.int .i64 kind] 3 (0, 0))) (hc : comb_First.f kind yv = some r) :
 Calls Tryz.prog 45 (#[.agg #[.int .i64 xv, .bool false], .agg #[.int .i64 yv, .bool true]] ++ #[.pointer (some ⟨gk, 0, none⟩)]) w fun e w' => e = .returned (.agg #[.int .i64 r, .bool true]) ∧ Below w.heap.size w w' := by
 have hu67 := Tryz.underlying67
 have HB := am (Below.refl w.heap.size w)
 have B_k := am hk; clear hk; have EC := am hc; clear hc; go_enter Tryz.func45, Tryz.ntmps45
 go_upto_region 1 with (first | ((with_reducible refine gate_dst (N := 3) rfl ?_); refine bxf #[.int .i64 xv, .bool false] 67 HB fun gx w1 B_x GE_x_HB HB hgb hb => ?_; have NE_k_x := nlt hgb B_k; replace B_k := bkb B_k hb; clear hb hgb) | ((with_reducible refine gate_dst (N := 4) rfl ?_); refine bxf #[.int .i64 yv, .bool true] 67 HB fun gy w2 B_y GE_y_HB HB hgb hb => ?_; have NE_k_y := nlt hgb B_k; have NE_x_y := nlt hgb B_x; replace B_k := bkb B_k hb; replace B_x := bkb B_x hb; clear hb hgb) | ((with_reducible refine gate_dst (N := 5) rfl ?_); refine bxf #[.int .i64 0, .bool false] 67 HB fun gr w3 B_r GE_r_HB HB hgb hb => ?_; have NE_k_r := nlt hgb B_k; have NE_x_r := nlt hgb B_x; have NE_y_r := nlt hgb B_y; replace B_k := bkb B_k hb; replace B_x := bkb B_x hb; replace B_y := bkb B_y hb; clear hb hgb))
 obtain ⟨_, _⟩ := e2 B_x; obtain ⟨_, _⟩ := e2 B_y; obtain ⟨c_r_0, c_r_1, f_r_0, f_r_1⟩ := s2 B_r
 have c_k_0 : w3.cell? ⟨gk, 0, none⟩ = some (.int .i64 kind) := (blk_cell B_k.out 0).trans rfl
 have c_r_0' := c_r_0
 clear c_r_0 f_r_0 c_r_1 f_r_1 c_r_0'
 go_wp2_with (first | (go_at_call 47; (with_reducible refine (comb_First.calls kind yv r _ EC.out).mono ?_); rintro e w4 ⟨rfl, ⟨nd, rfl⟩⟩; have hb := pw_below_drewN (Below.refl w3.heap.size w3) nd; generalize w3.drewN nd = w4 at *; replace B_k := bkb B_k hb; replace B_x := bkb B_x hb; replace B_y := bkb B_y hb; replace B_r := bkb B_r hb; replace HB := bst HB hb; have c_r_0 : w4.cell? ⟨gr, 0, none⟩ = some (.int .i64 0) := (blk_cell B_r.out 0).trans rfl; have f_r_0 := blk_frozen B_r.out 0; have c_r_1 : w4.cell? ⟨gr, 1, none⟩ = some (.bool false) := (blk_cell B_r.out 1).trans rfl; have f_r_1 := blk_frozen B_r.out 1))
 refine bodyPost_ret (results_cell_row rfl _ _ gr 67 #[.int .i64 r, .bool true] (0, 0) _ rfl (blk_put (blk_put B_r.out 0 _ rfl) 1 _ rfl) Tryz.underlying67 rfl (by kernel_rfl)) rfl ?_
 exact ⟨rfl, below_set (below_set HB.out GE_r_HB.out) GE_r_HB.out⟩
theorem both_cl_tf (kind xv yv : Int) (r : Int) (gk : Nat) (w : World) (hk : w.heap[gk]? = some (.cells #[.int .i64 kind] 3 (0, 0))) :
 Calls Tryz.prog 45 (#[.agg #[.int .i64 xv, .bool true], .agg #[.int .i64 yv, .bool false]] ++ #[.pointer (some ⟨gk, 0, none⟩)]) w fun e w' => e = .returned (.agg #[.int .i64 xv, .bool true]) ∧ Below w.heap.size w w' := by
 have hu67 := Tryz.underlying67
 have HB := am (Below.refl w.heap.size w)
 have B_k := am hk; clear hk; go_enter Tryz.func45, Tryz.ntmps45
 go_upto_region 1 with (first | ((with_reducible refine gate_dst (N := 3) rfl ?_); refine bxf #[.int .i64 xv, .bool true] 67 HB fun gx w1 B_x GE_x_HB HB hgb hb => ?_; have NE_k_x := nlt hgb B_k; replace B_k := bkb B_k hb; clear hb hgb) | ((with_reducible refine gate_dst (N := 4) rfl ?_); refine bxf #[.int .i64 yv, .bool false] 67 HB fun gy w2 B_y GE_y_HB HB hgb hb => ?_; have NE_k_y := nlt hgb B_k; have NE_x_y := nlt hgb B_x; replace B_k := bkb B_k hb; replace B_x := bkb B_x hb; clear hb hgb) | ((with_reducible refine gate_dst (N := 5) rfl ?_); refine bxf #[.int .i64 0, .bool false] 67 HB fun gr w3 B_r GE_r_HB HB hgb hb => ?_; have NE_k_r := nlt hgb B_k; have NE_x_r := nlt hgb B_x; have NE_y_r := nlt hgb B_y; replace B_k := bkb B_k hb; replace B_x := bkb B_x hb; replace B_y := bkb B_y hb; clear hb hgb))
 obtain ⟨_, _⟩ := e2 B_x; obtain ⟨_, _⟩ := e2 B_y; obtain ⟨_, _, _, _⟩ := s2 B_r
 have c_k_0 : w3.cell? ⟨gk, 0, none⟩ = some (.int .i64 kind) := (blk_cell B_k.out 0).trans rfl
 go_wp2
 refine bodyPost_ret (results_cell_row rfl _ _ gr 67 #[.int .i64 xv, .bool true] (0, 0) _ rfl (blk_put (blk_put B_r.out 0 _ rfl) 1 _ rfl) Tryz.underlying67 rfl (by kernel_rfl)) rfl ?_
 exact ⟨rfl, below_set (below_set HB.out GE_r_HB.out) GE_r_HB.out⟩
theorem both_cl_ff (kind xv yv : Int) (r : Int) (gk : Nat) (w : World) (hk : w.heap[gk]? = some (.cells #[.int .i64 kind] 3 (0, 0))) :
 Calls Tryz.prog 45 (#[.agg #[.int .i64 xv, .bool false], .agg #[.int .i64 yv, .bool false]] ++ #[.pointer (some ⟨gk, 0, none⟩)]) w fun e w' => e = .returned (.agg #[.int .i64 xv, .bool false]) ∧ Below w.heap.size w w' := by
 have hu67 := Tryz.underlying67
 have HB := am (Below.refl w.heap.size w)
 have B_k := am hk; clear hk; go_enter Tryz.func45, Tryz.ntmps45
 go_upto_region 1 with (first | ((with_reducible refine gate_dst (N := 3) rfl ?_); refine bxf #[.int .i64 xv, .bool false] 67 HB fun gx w1 B_x GE_x_HB HB hgb hb => ?_; have NE_k_x := nlt hgb B_k; replace B_k := bkb B_k hb; clear hb hgb) | ((with_reducible refine gate_dst (N := 4) rfl ?_); refine bxf #[.int .i64 yv, .bool false] 67 HB fun gy w2 B_y GE_y_HB HB hgb hb => ?_; have NE_k_y := nlt hgb B_k; have NE_x_y := nlt hgb B_x; replace B_k := bkb B_k hb; replace B_x := bkb B_x hb; clear hb hgb) | ((with_reducible refine gate_dst (N := 5) rfl ?_); refine bxf #[.int .i64 0, .bool false] 67 HB fun gr w3 B_r GE_r_HB HB hgb hb => ?_; have NE_k_r := nlt hgb B_k; have NE_x_r := nlt hgb B_x; have NE_y_r := nlt hgb B_y; replace B_k := bkb B_k hb; replace B_x := bkb B_x hb; replace B_y := bkb B_y hb; clear hb hgb))
 obtain ⟨_, _⟩ := e2 B_x; obtain ⟨_, _⟩ := e2 B_y; obtain ⟨_, _, _, _⟩ := s2 B_r
 have c_k_0 : w3.cell? ⟨gk, 0, none⟩ = some (.int .i64 kind) := (blk_cell B_k.out 0).trans rfl
 go_wp2
 refine bodyPost_ret (results_cell_row rfl _ _ gr 67 #[.int .i64 xv, .bool false] (0, 0) _ rfl (blk_put (blk_put B_r.out 0 _ rfl) 1 _ rfl) Tryz.underlying67 rfl (by kernel_rfl)) rfl ?_
 exact ⟨rfl, below_set (below_set HB.out GE_r_HB.out) GE_r_HB.out⟩
theorem both_cl (kind xv : Int) (xh : Bool) (yv : Int) (yh : Bool) (z : Int × Bool) (gk : Nat) (w : World) (hk : w.heap[gk]? = some (.cells #[.int .i64 kind] 3 (0, 0))) (h : both_phi kind xv xh yv yh = some z) :
 Calls Tryz.prog 45 (#[.agg #[.int .i64 xv, .bool xh], .agg #[.int .i64 yv, .bool yh]] ++ #[.pointer (some ⟨gk, 0, none⟩)]) w fun e w' => e = .returned (.agg #[.int .i64 z.1, .bool z.2]) ∧ Below w.heap.size w w' := by
 unfold both_phi at h
 cases yh
 ·rw [if_neg (by decide)] at h
  obtain rfl := Option.some.inj h; cases xh
  ·exact both_cl_ff kind xv yv 0 gk w hk
  ·exact both_cl_tf kind xv yv 0 gk w hk
 ·rw [if_pos rfl] at h
  cases xh
  ·rw [if_neg (by decide)] at h
   obtain ⟨r, e, rfl⟩ := Option.map_eq_some_iff.1 h
   exact both_cl_ft kind xv yv r gk w hk e
  ·rw [if_pos rfl] at h
   obtain ⟨r, e, rfl⟩ := Option.map_eq_some_iff.1 h
   exact both_cl_tt kind xv yv r gk w hk e
theorem pieces.mono (φ : Int → Bool → Int → Bool → Option (Int × Bool)) : ∀ a b k, LeO (pieces.f k φ a b) (pieces.f (k + 1) φ a b) := by
 intro a b k
 unfold pieces.f
 exact LeO.bind (mapalg_Merge.mono _ _) (fun _ => LeO.bind (mapalg_Merge.mono _ _) (fun _ => LeO.bind (mapalg_spans.mono _ _) (fun _ => LeO.bind (mapalg_spans.mono _ _) (fun _ => LeO.ite (LeO.bind (algebra_Refine.mono _ _) (fun _ => LeO.ite (LeO.bind (LeO.refl _) (fun _ => mapalg_Merge.mono _ _)) (LeO.refl _))) (LeO.refl _)))))
theorem pieces.calls (k : Nat) (φ : Int → Bool → Int → Bool → Option (Int × Bool)) (fn : Nat) (caps : Array Value) (A0 : Option Addr) (c0 : Nat) (a : List S37) (A1 : Option Addr) (c1 : Nat) (b r : List S37) (w : World)
 (ha : Kd.C k37 w A0 a.length a) (hca : a.length ≤ c0) (hb : Kd.C k37 w A1 b.length b) (hcb : b.length ≤ c1)
 (eg : ∀ args w, (callFunc fn args).run Tryz.prog w = .ok (.enter fn args) w)
 (hf : ∀ (W : World) (xv : Int) (xh : Bool) (yv : Int) (yh : Bool) (z : Int × Bool), Below w.heap.size w W → φ xv xh yv yh = some z → Calls Tryz.prog fn (#[.agg #[.int .i64 xv, .bool xh], .agg #[.int .i64 yv, .bool yh]] ++ caps) W fun e w' => e = .returned (.agg #[.int .i64 z.1, .bool z.2]) ∧ Below W.heap.size W w')
 (h : pieces.f k φ a b = some r) :
 Calls Tryz.prog 44 #[.slice A0 a.length c0, .slice A1 b.length c1, .func (.func fn) #[] caps] w fun e w' => ∃ v0_ : Value, e = .returned (v0_) ∧ Kd.R k37 37 w' w.heap.size (fun _ => True) v0_ r ∧ Below w.heap.size w w' := by
 unfold pieces.f at h
 obtain ⟨x, e1, h⟩ := Option.bind_eq_some_iff.1 h
 obtain ⟨y, e2, h⟩ := Option.bind_eq_some_iff.1 h
 obtain ⟨sa, e3, h⟩ := Option.bind_eq_some_iff.1 h
 obtain ⟨sb, e4, h⟩ := Option.bind_eq_some_iff.1 h
 by_cases hl : x.length < 1000000 ∧ y.length < 1000000 ∧ sa.length + sb.length < 1000000
 ·rw [if_pos hl] at h
  obtain ⟨rs, e5, h⟩ := Option.bind_eq_some_iff.1 h
  by_cases hr : rs.length < 1000000
  ·rw [if_pos hr] at h
   obtain ⟨out, e6, e7⟩ := Option.bind_eq_some_iff.1 h
   exact pieces.walk k φ fn caps A0 A1 c0 c1 a b x y sa sb rs out r w ha hca hb hcb eg hf e1 e2 e3 e4 hl.1 hl.2.1 hl.2.2 e5 hr e6 e7
  ·rw [if_neg hr] at h; cases h
 ·rw [if_neg hl] at h; cases h
def mapalg_Both.f (k : Nat) (kind : Int) (a b : List S37) : Option (List S37) := (comb_Right.f kind).bind fun ok => if ok = true then pieces.f k (both_phi kind) a b else some []
theorem mapalg_Both.mono : ∀ a0 a1 a2 k, LeO (mapalg_Both.f k a0 a1 a2) (mapalg_Both.f (k + 1) a0 a1 a2) := fun _ _ _ _ => LeO.bind (LeO.refl _) (fun _ => LeO.ite (pieces.mono _ _ _ _) (LeO.refl _))
theorem eg45 : ∀ args w, (callFunc 45 args).run Tryz.prog w = .ok (.enter 45 args) w := enters_of Tryz.func45 (by kernel_rfl) rfl
theorem eg67 : ∀ args w, (callFunc 67 args).run Tryz.prog w = .ok (.enter 67 args) w := enters_of Tryz.func67 (by kernel_rfl) rfl
theorem eg54 : ∀ args w, (callFunc 54 args).run Tryz.prog w = .ok (.enter 54 args) w := enters_of Tryz.func54 (by kernel_rfl) rfl
theorem mapalg_Both.calls (k : Nat) (a0 : Int) (A1 : Option Addr) (c1 : Nat) (l1 : List S37) (A2 : Option Addr) (c2 : Nat) (l2 r : List S37) (w : World) (hr1 : Kd.C k37 w A1 l1.length l1) (hc1 : l1.length ≤ c1) (hr2 : Kd.C k37 w A2 l2.length l2) (hc2 : l2.length ≤ c2) (h : mapalg_Both.f k a0 l1 l2 = some r) :
 Calls Tryz.prog 13 #[.int .i64 a0, .slice A1 l1.length c1, .slice A2 l2.length c2] w fun e w' => ∃ v0_ : Value, e = .returned (v0_) ∧ Kd.R k37 37 w' w.heap.size (fun _ => True) v0_ r ∧ Below w.heap.size w w' := by
 have hu3 := Tryz.underlying3
 obtain ⟨ok, e0, h⟩ := Option.bind_eq_some_iff.1 h
 have E0 := am e0
 have HB := am (Below.refl w.heap.size w)
 have CA := am hr1; have CB := am hr2; have LA := am hc1; have LB := am hc2; clear e0 hr1 hr2 hc1 hc2; cases ok
 ·rw [if_neg (by decide)] at h
  obtain rfl := Option.some.inj h; clear h; go_enter Tryz.func13, Tryz.ntmps13
  go_wp2_with (first | ((with_reducible refine gate_dst (N := 3) rfl ?_); refine bxe (N := 3) (cs := #[.int .i64 a0]) (t := 3) ?_; intro gk hgb w1 hbox hb; have GE_k_HB := lsz hgb HB; replace HB := bst HB hb; have B_k := am hbox; have c_k_0 : w1.cell? ⟨gk, 0, none⟩ = some (.int .i64 a0) := (blk_cell hbox 0).trans rfl; clear hbox hb hgb) | (go_at_call 43; (with_reducible refine (comb_Right.calls a0 false _ E0.out).mono ?_); rintro e w2 ⟨rfl, ⟨nd, rfl⟩⟩; have hb := pw_below_drewN (Below.refl w1.heap.size w1) nd; clear c_k_0; generalize w1.drewN nd = w2 at *; replace B_k := bkb B_k hb; replace HB := bst HB hb; clear hb))
  go_ret
  exact ⟨_, rfl, Kd.R_nil _ _ _ _ _, HB.out⟩
 ·rw [if_pos rfl] at h
  have H3 := am h; clear h; go_enter Tryz.func13, Tryz.ntmps13
  go_upto_region 3 with (first | ((with_reducible refine gate_dst (N := 3) rfl ?_); refine bxe (N := 3) (cs := #[.int .i64 a0]) (t := 3) ?_; intro gk hgb w1 hbox hb; have GE_k_HB := lsz hgb HB; replace HB := bst HB hb; have B_k := am hbox; have c_k_0 : w1.cell? ⟨gk, 0, none⟩ = some (.int .i64 a0) := (blk_cell hbox 0).trans rfl; clear hbox hb hgb) | (go_at_call 43; (with_reducible refine (comb_Right.calls a0 true _ E0.out).mono ?_); rintro e w2 ⟨rfl, ⟨nd, rfl⟩⟩; have hb := pw_below_drewN (Below.refl w1.heap.size w1) nd; clear c_k_0; generalize w1.drewN nd = w2 at *; replace B_k := bkb B_k hb; replace HB := bst HB hb; clear hb))
  have HF := am (show ∀ (W : World) (xv : Int) (xh : Bool) (yv : Int) (yh : Bool) (z : Int × Bool), Below w2.heap.size w2 W → both_phi a0 xv xh yv yh = some z → Calls Tryz.prog 45 (#[.agg #[.int .i64 xv, .bool xh], .agg #[.int .i64 yv, .bool yh]] ++ #[.pointer (some ⟨gk, 0, none⟩)]) W fun e w' => e = .returned (.agg #[.int .i64 z.1, .bool z.2]) ∧ Below W.heap.size W w' from fun W xv xh yv yh z hW hz => both_cl a0 xv xh yv yh z gk W (blk_below B_k.out hW) hz)
  go_wp2_with (first | (go_loud (go_at_call 44; (with_reducible refine (pieces.calls k (both_phi a0) 45 #[.pointer (some ⟨gk, 0, none⟩)] A1 c1 l1 A2 c2 l2 r _ (Kd.C_below CA.out HB.out) LA.out (Kd.C_below CB.out HB.out) LB.out eg45 HF.out H3.out).mono ?_); rintro e w3 ⟨v3, rfl, ho, hb⟩; have HO := am ho; have Y := am hb; clear ho hb)))
  go_ret
  exact ⟨_, rfl, Kd.R_lower HO.out (below_size HB.out), below_step HB.out Y.out⟩
def restrict_phi (xv : Int) (xh : Bool) (yv : Int) (yh : Bool) : Option (Int × Bool) := some (xv, xh && yh)
def diff_phi (xv : Int) (xh : Bool) (yv : Int) (yh : Bool) : Option (Int × Bool) := some (0, decide ¬ (xv = yv ∧ xh = yh))
def mapalg_Restrict.f (k : Nat) (a : List S37) (l : List S35) : Option (List S37) := (mapalg_Paint.f k l 0).bind fun p => pieces.f k restrict_phi a p
theorem mapalg_Restrict.mono : ∀ a0 a1 k, LeO (mapalg_Restrict.f k a0 a1) (mapalg_Restrict.f (k + 1) a0 a1) := fun _ _ _ => LeO.bind (mapalg_Paint.mono _ _ _) (fun _ => pieces.mono _ _ _ _)
theorem mapalg_Restrict.calls (k : Nat) (A0 : Option Addr) (c0 : Nat) (l0 : List S37) (A1 : Option Addr) (c1 : Nat) (l1 : List S35) (r : List S37) (w : World) (hr0 : Kd.C k37 w A0 l0.length l0) (hc0 : l0.length ≤ c0) (hr1 : Kd.C k35 w A1 l1.length l1) (hc1 : l1.length ≤ c1) (h : mapalg_Restrict.f k l0 l1 = some r) :
 Calls Tryz.prog 27 #[.slice A0 l0.length c0, .slice A1 l1.length c1] w fun e w' => ∃ v0_ : Value, e = .returned (v0_) ∧ Kd.R k37 37 w' w.heap.size (fun _ => True) v0_ r ∧ Below w.heap.size w w' := by
 obtain ⟨p, e0, h⟩ := Option.bind_eq_some_iff.1 h
 have E0 := am e0; have CA := am hr0; have CB := am hr1; have LA := am hc0; have LB := am hc1; have H := am h
 have HF := am (show ∀ (W : World) (xv : Int) (xh : Bool) (yv : Int) (yh : Bool) (z : Int × Bool), restrict_phi xv xh yv yh = some z → Calls Tryz.prog 67 (#[.agg #[.int .i64 xv, .bool xh], .agg #[.int .i64 yv, .bool yh]] ++ #[]) W fun e w' => e = .returned (.agg #[.int .i64 z.1, .bool z.2]) ∧ Below W.heap.size W w' from fun W xv xh yv yh z hz => by obtain rfl := Option.some.inj hz; exact restrict_cl xv xh yv yh W)
 clear e0 hr0 hr1 hc0 hc1 h; go_enter Tryz.func27, Tryz.ntmps27
 go_wp2_with (first | (go_at_call 30; (with_reducible refine (mapalg_Paint.calls k A1 c1 l1 0 p _ CB.out LB.out E0.out).mono ?_); rintro e w1 ⟨v1, rfl, ho, hb⟩; obtain ⟨A2, c2, rfl⟩ := Kd.R_slice ho; have HP := am ho; have HB := am hb; clear ho hb) | go_loud (go_at_call 44; (with_reducible refine (pieces.calls k restrict_phi 67 #[] A0 c0 l0 A2 c2 p r _ (Kd.C_below CA.out HB.out) LA.out (Kd.R_reads' HP.out).2.2 (Kd.R_reads' HP.out).2.1 eg67 (fun W xv xh yv yh z _ hz => HF.out W xv xh yv yh z hz) H.out).mono ?_); rintro e w2 ⟨v2, rfl, ho, hb⟩; have HO := am ho; have Y := am hb; clear ho hb))
 go_ret
 exact ⟨_, rfl, Kd.R_lower HO.out (below_size HB.out), below_step HB.out Y.out⟩
def mapalg_Diff.f (k : Nat) (a b : List S37) : Option (List S35) := (pieces.f k diff_phi a b).bind fun p => mapalg_Domain.f k p
theorem mapalg_Diff.mono : ∀ a0 a1 k, LeO (mapalg_Diff.f k a0 a1) (mapalg_Diff.f (k + 1) a0 a1) := fun _ _ _ => LeO.bind (pieces.mono _ _ _ _) (fun _ => mapalg_Domain.mono _ _)
theorem mapalg_Diff.calls (k : Nat) (A0 : Option Addr) (c0 : Nat) (l0 : List S37) (A1 : Option Addr) (c1 : Nat) (l1 : List S37) (r : List S35) (w : World) (hr0 : Kd.C k37 w A0 l0.length l0) (hc0 : l0.length ≤ c0) (hr1 : Kd.C k37 w A1 l1.length l1) (hc1 : l1.length ≤ c1) (h : mapalg_Diff.f k l0 l1 = some r) :
 Calls Tryz.prog 18 #[.slice A0 l0.length c0, .slice A1 l1.length c1] w fun e w' => ∃ v0_ : Value, e = .returned (v0_) ∧ Kd.R k35 35 w' w.heap.size (fun _ => True) v0_ r ∧ Below w.heap.size w w' := by
 obtain ⟨p, e0, h⟩ := Option.bind_eq_some_iff.1 h
 have E0 := am e0; have CA := am hr0; have CB := am hr1; have LA := am hc0; have LB := am hc1; have H := am h
 have HF := am (show ∀ (W : World) (xv : Int) (xh : Bool) (yv : Int) (yh : Bool) (z : Int × Bool), diff_phi xv xh yv yh = some z → Calls Tryz.prog 54 (#[.agg #[.int .i64 xv, .bool xh], .agg #[.int .i64 yv, .bool yh]] ++ #[]) W fun e w' => e = .returned (.agg #[.int .i64 z.1, .bool z.2]) ∧ Below W.heap.size W w' from fun W xv xh yv yh z hz => by obtain rfl := Option.some.inj hz; exact diff_cl xv xh yv yh W)
 clear e0 hr0 hr1 hc0 hc1 h; go_enter Tryz.func18, Tryz.ntmps18
 go_wp2_with (first | go_loud (go_at_call 44; (with_reducible refine (pieces.calls k diff_phi 54 #[] A0 c0 l0 A1 c1 l1 p _ CA.out LA.out CB.out LB.out eg54 (fun W xv xh yv yh z _ hz => HF.out W xv xh yv yh z hz) E0.out).mono ?_); rintro e w1 ⟨v1, rfl, ho, hb⟩; obtain ⟨A2, c2, rfl⟩ := Kd.R_slice ho; have HP := am ho; have HB := am hb; clear ho hb) | (go_at_call 31; (with_reducible refine (mapalg_Domain.calls k A2 c2 p r _ (Kd.R_reads' HP.out).2.2 (Kd.R_reads' HP.out).2.1 H.out).mono ?_); rintro e w2 ⟨v2, rfl, ho, hb⟩; have HO := am ho; have Y := am hb; clear ho hb))
 go_ret
 exact ⟨_, rfl, Kd.R_lower HO.out (below_size HB.out), below_step HB.out Y.out⟩
def bits_Mul64.f (a0 : Int) (a1 : Int) : Option (Int × Int) := some (IntKind.u64.wrap ((IntKind.u64.wrap ((IntKind.u64.wrap ((a0 / 4294967296) * (a1 / 4294967296))) + ((IntKind.u64.wrap ((IntKind.u64.wrap ((a0 / 4294967296) * (Go.bits .and .u64 a1 4294967295))) + ((IntKind.u64.wrap ((Go.bits .and .u64 a0 4294967295) * (Go.bits .and .u64 a1 4294967295))) / 4294967296))) / 4294967296))) + ((IntKind.u64.wrap ((Go.bits .and .u64 (IntKind.u64.wrap ((IntKind.u64.wrap ((a0 / 4294967296) * (Go.bits .and .u64 a1 4294967295))) + ((IntKind.u64.wrap ((Go.bits .and .u64 a0 4294967295) * (Go.bits .and .u64 a1 4294967295))) / 4294967296))) 4294967295) + (IntKind.u64.wrap ((Go.bits .and .u64 a0 4294967295) * (a1 / 4294967296))))) / 4294967296)), IntKind.u64.wrap (a0 * a1))
theorem bits_Mul64.calls (a0 : Int) (a1 : Int) (r1 : Int) (r2 : Int) (w : World) (h : bits_Mul64.f a0 a1 = some (r1, r2)) :
 Calls Tryz.prog 90 #[.int .u64 a0, .int .u64 a1] w fun e w' => e = .returned (.tuple #[.int .u64 r1, .int .u64 r2]) ∧ Drawn0 w w' := by
 unfold bits_Mul64.f at h; have H := h; clear h
 simp only [Option.some.injEq, Prod.mk.injEq] at H
 obtain ⟨rfl, rfl⟩ := H
 go_enter Tryz.func90, Tryz.ntmps90; go_wp2
 go_ret2
 exact ⟨rs, dn⟩
def IsS83 (w0 W : World) (g : Nat) (f0 : Int) (f1 : Int) (f2 : Int) : Prop := W.heap[g]? = some (.cells #[.int .u64 f0, .int .u64 f1, .int .u64 f2] 83 (0, 0)) ∧ w0.heap.size ≤ g
theorem IsS83.grown {w0 W : World} {g : Nat} {f0 : Int} {f1 : Int} {f2 : Int} {W1 : World} {row : Option Nat} (h : IsS83 w0 W g f0 f1 f2) (hw : W.grownBy W1 row) (hne : some g ≠ row) : IsS83 w0 W1 g f0 f1 f2 := by
 obtain ⟨hb, hg⟩ := h
 exact ⟨blk_grown hb hw hne, hg⟩
theorem IsS83.kept {w0 W : World} {g : Nat} {f0 : Int} {f1 : Int} {f2 : Int} {W1 : World} {S : Nat → Prop} (h : IsS83 w0 W g f0 f1 f2) (hk : Kept W W1 S) (hne : ¬ S g) : IsS83 w0 W1 g f0 f1 f2 := by
 obtain ⟨hb, hg⟩ := h
 exact ⟨blk_kept hb hk hne, hg⟩
theorem IsS83.below {w0 W : World} {g : Nat} {f0 : Int} {f1 : Int} {f2 : Int} {W1 : World} (h : IsS83 w0 W g f0 f1 f2) (hw : Below W.heap.size W W1) : IsS83 w0 W1 g f0 f1 f2 := h.grown (grown_of_below hw none) (by simp)
theorem IsS83.alloc {w0 W : World} {g : Nat} {f0 : Int} {f1 : Int} {f2 : Int} (h : IsS83 w0 W g f0 f1 f2) (o : Obj) : IsS83 w0 (W.alloc o) g f0 f1 f2 := h.below (below_alloc (Below.refl _ _) o)
theorem IsS83.drewN {w0 W : World} {g : Nat} {f0 : Int} {f1 : Int} {f2 : Int} (h : IsS83 w0 W g f0 f1 f2) (m : Nat) : IsS83 w0 (W.drewN m) g f0 f1 f2 := h
theorem IsS83.drew {w0 W : World} {g : Nat} {f0 : Int} {f1 : Int} {f2 : Int} (h : IsS83 w0 W g f0 f1 f2) : IsS83 w0 W.drew g f0 f1 f2 := h
theorem IsS83.at_ {w0 W : World} {g : Nat} {f0 : Int} {f1 : Int} {f2 : Int} {w' : World} {m : Nat} (hq : W.drewN m = w') (h : IsS83 w0 W g f0 f1 f2) : IsS83 w0 w' g f0 f1 f2 := by subst hq; exact IsS83.drewN h m
theorem IsS83.apart {w0 W : World} {g : Nat} {f0 : Int} {f1 : Int} {f2 : Int} {α : Type} {d : Kd α} {e : Nat} {base : Nat} {ok : Nat → Prop} {v : Value} {xs : List α} (h : IsS83 w0 W g f0 f1 f2) (ho : d.R e W base ok v xs) (ht : ∀ q, q ∈ e :: d.E → q ≠ 83) : d.R e W base (fun k => ok k ∧ k ≠ g) v xs := by
 obtain ⟨hb, hg⟩ := h
 exact Kd.R_types ho hb ht
theorem IsS83.own_ne {w0 W : World} {g : Nat} {f0 : Int} {f1 : Int} {f2 : Int} {α : Type} {d : Kd α} {e : Nat} {base : Nat} {ok : Nat → Prop} {v : Value} {xs : List α} (h : IsS83 w0 W g f0 f1 f2) (ho : d.R e W base ok v xs) (ht : e ≠ 83) : some g ≠ v.ownBlock := by
 obtain ⟨hb, hg⟩ := h
 exact Kd.R_ne ho hb ht
theorem IsS83.lt {w0 W : World} {g : Nat} {f0 : Int} {f1 : Int} {f2 : Int} (h : IsS83 w0 W g f0 f1 f2) : g < W.heap.size := by
 obtain ⟨hb, hg⟩ := h
 exact blk_lt hb
theorem IsS83.ge {w0 W : World} {g : Nat} {f0 : Int} {f1 : Int} {f2 : Int} (h : IsS83 w0 W g f0 f1 f2) : w0.heap.size ≤ g := by
 obtain ⟨hb, hg⟩ := h
 exact hg
theorem cellS83_0 {W : World} {g : Nat} {f0 : Int} {f1 : Int} {f2 : Int} (h : W.heap[g]? = some (.cells #[.int .u64 f0, .int .u64 f1, .int .u64 f2] 83 (0, 0))) : W.cell? ⟨g, 0, none⟩ = some (.int .u64 f0) := (blk_cell h 0).trans rfl
theorem IsS83.set_0 {w0 W : World} {g : Nat} {f0 : Int} {f1 : Int} {f2 : Int} (h : IsS83 w0 W g f0 f1 f2) (x : Int) : IsS83 w0 (W.setCell ⟨g, 0, none⟩ (.int .u64 x)) g x f1 f2 := by
 obtain ⟨hb, hg⟩ := h
 exact ⟨by simpa using blk_set hb 0 (.int .u64 x), hg⟩
theorem cellS83_1 {W : World} {g : Nat} {f0 : Int} {f1 : Int} {f2 : Int} (h : W.heap[g]? = some (.cells #[.int .u64 f0, .int .u64 f1, .int .u64 f2] 83 (0, 0))) : W.cell? ⟨g, 1, none⟩ = some (.int .u64 f1) := (blk_cell h 1).trans rfl
theorem IsS83.set_1 {w0 W : World} {g : Nat} {f0 : Int} {f1 : Int} {f2 : Int} (h : IsS83 w0 W g f0 f1 f2) (x : Int) : IsS83 w0 (W.setCell ⟨g, 1, none⟩ (.int .u64 x)) g f0 x f2 := by
 obtain ⟨hb, hg⟩ := h
 exact ⟨by simpa using blk_set hb 1 (.int .u64 x), hg⟩
theorem cellS83_2 {W : World} {g : Nat} {f0 : Int} {f1 : Int} {f2 : Int} (h : W.heap[g]? = some (.cells #[.int .u64 f0, .int .u64 f1, .int .u64 f2] 83 (0, 0))) : W.cell? ⟨g, 2, none⟩ = some (.int .u64 f2) := (blk_cell h 2).trans rfl
theorem IsS83.set_2 {w0 W : World} {g : Nat} {f0 : Int} {f1 : Int} {f2 : Int} (h : IsS83 w0 W g f0 f1 f2) (x : Int) : IsS83 w0 (W.setCell ⟨g, 2, none⟩ (.int .u64 x)) g f0 f1 x := by
 obtain ⟨hb, hg⟩ := h
 exact ⟨by simpa using blk_set hb 2 (.int .u64 x), hg⟩
def mapalg_wide_end.j0 : Nat → Bool → Int → Int → Int → Option (Int × Int × Int × Int)
  | 0, _, _, _, _ => none
  | k + 1, x11, x1000, x1001, x1002 => if x11 = true then (some (wrap64 (x1000), x1000, x1001, x1002)) else (if (x1002 / 9223372036854775808) = 1 then (some ((-9223372036854775808), x1000, x1001, x1002)) else (some (9223372036854775807, x1000, x1001, x1002)))
def mapalg_wide_end.f (k : Nat) (s0_0 : Int) (s0_1 : Int) (s0_2 : Int) : Option (Int × Int × Int × Int) := if s0_1 = (IntKind.u64.wrap ((wrap64 (s0_0)) / 9223372036854775808)) then (mapalg_wide_end.j0 k (s0_2 == (IntKind.u64.wrap ((wrap64 (s0_0)) / 9223372036854775808))) s0_0 s0_1 s0_2) else (mapalg_wide_end.j0 k false s0_0 s0_1 s0_2)
theorem mapalg_wide_end.mono_l : ∀ k, (∀ y0 y1 y2 y3, LeO (mapalg_wide_end.j0 k y0 y1 y2 y3) (mapalg_wide_end.j0 (k + 1) y0 y1 y2 y3))
 | 0 => fun _ _ _ _ r h => by simp [mapalg_wide_end.j0] at h
 | k + 1 => by
  have ih0 := mapalg_wide_end.mono_l k
  ·intro y0 y1 y2 y3
   unfold mapalg_wide_end.j0
   repeat' with_reducible first | apply ih0 | apply lr | apply ln | apply li | refine lb ?_ fun _ => ?_
theorem mapalg_wide_end.mono : ∀ a0 a1 a2 k, LeO (mapalg_wide_end.f k a0 a1 a2) (mapalg_wide_end.f (k + 1) a0 a1 a2) := by
 intro a0 a1 a2 k
 have ih0 := mapalg_wide_end.mono_l k
 unfold mapalg_wide_end.f
 repeat' with_reducible first | apply ih0 | apply lr | apply ln | apply li | refine lb ?_ fun _ => ?_
theorem mapalg_wide_end.calls (k : Nat) (g : Nat) (s0_0 : Int) (s0_1 : Int) (s0_2 : Int) (r1 : Int) (r2 : Int) (r3 : Int) (r4 : Int) (w0 w : World) (hI : IsS83 w0 w g s0_0 s0_1 s0_2) (hB : Below w0.heap.size w0 w) (h : mapalg_wide_end.f k s0_0 s0_1 s0_2 = some (r1, r2, r3, r4)) :
 Calls Tryz.prog 59 #[.pointer (some ⟨g, 0, none⟩)] w fun e w' => e = .returned (.int .i64 r1) ∧ IsS83 w0 w' g r2 r3 r4 ∧ Below w0.heap.size w0 w' ∧ KeepBut w w' g none := by
 have HI0 := am hI
 have HK := am (KeepBut.refl w g none)
 have HL := am hB.size
 clear hI
 have HW0 := am hB.size
 have HB := am hB; clear hB
 unfold mapalg_wide_end.f at h; have H := h; clear h; have HC2 := am H; clear H
 obtain ⟨HGz3, hgz3⟩ := HI0.out
 have hcz3_0 := cellS83_0 HGz3
 have hcz3_1 := cellS83_1 HGz3
 have hcz3_2 := cellS83_2 HGz3
 have hfz3_0 := blk_frozen HGz3 0
 have hfz3_1 := blk_frozen HGz3 1
 have hfz3_2 := blk_frozen HGz3 2
 clear HGz3 hgz3; go_enter Tryz.func59, Tryz.ntmps59
 go_upto_region 2 with (fail)
 go_cut [11] (fun v11 wc => ∃ (kq : Nat) (x11_1 : Bool), v11 = .bool x11_1 ∧ Aside0 (mapalg_wide_end.j0 kq x11_1 s0_0 s0_1 s0_2 = some (r1, r2, r3, r4)) ∧ Aside0 (kq ≤ k) ∧ Aside0 (IsS83 w0 wc g s0_0 s0_1 s0_2) ∧ Aside0 (KeepBut w wc g none) ∧ Aside0 (Below w0.heap.size w0 wc))
 case first =>
  have H := HC2.out; clear HC2
  by_cases c4 : s0_1 = (IntKind.u64.wrap ((wrap64 (s0_0)) / 9223372036854775808))
  ·rw [if_pos c4] at H
   have c4b0 : (s0_1 == (IntKind.u64.wrap ((wrap64 (s0_0)) / 9223372036854775808))) = true := beq_iff_eq.mpr c4
   have c4b1 : (s0_1 != (IntKind.u64.wrap ((wrap64 (s0_0)) / 9223372036854775808))) = false := bne_eq_false_iff_eq.mpr c4
   clear c4
   (first | rw [c4b0] | (simp only [i64_w, i32_w]; rw [c4b0]) | skip)
   have H' := am H; clear H
   obtain ⟨HGz5, hgz5⟩ := HI0.out
   have hcz5_0 := cellS83_0 HGz5
   have hcz5_1 := cellS83_1 HGz5
   have hcz5_2 := cellS83_2 HGz5
   have hfz5_0 := blk_frozen HGz5 0
   have hfz5_1 := blk_frozen HGz5 1
   have hfz5_2 := blk_frozen HGz5 2
   clear HGz5 hgz5; go_wp2
   go_meet
   case rel => exact ⟨_, ((s0_2 == (IntKind.u64.wrap ((wrap64 (s0_0)) / 9223372036854775808)))), rs, H', ⟨by first | omega | exact Nat.le_refl _⟩, ⟨by repeat (first | (with_reducible first | exact HI0.out | apply IsS83.alloc | apply IsS83.drewN | apply IsS83.drew | apply IsS83.set_0 | apply IsS83.set_1 | apply IsS83.set_2) | exact HI0.out)⟩, ⟨by repeat (first | (with_reducible first | exact HK.out | apply KeepBut.set_ | apply keep_drewN | apply keep_drew | apply keep_alloc) | exact HK.out)⟩, ⟨by repeat (first | (with_reducible first | exact HB.out | apply below_alloc | apply pw_below_drewN | apply below_drew1 | refine below_set ?_ (IsS83.ge HI0.out)) | exact HB.out)⟩⟩
  ·rw [if_neg c4] at H
   have c4b0 : (s0_1 == (IntKind.u64.wrap ((wrap64 (s0_0)) / 9223372036854775808))) = false := beq_eq_false_iff_ne.mpr c4
   have c4b1 : (s0_1 != (IntKind.u64.wrap ((wrap64 (s0_0)) / 9223372036854775808))) = true := bne_iff_ne.mpr c4
   (first | rw [c4b0] | (simp only [i64_w, i32_w]; rw [c4b0]) | skip)
   have H' := am H; clear H
   obtain ⟨HGz6, hgz6⟩ := HI0.out
   have hcz6_0 := cellS83_0 HGz6
   have hcz6_1 := cellS83_1 HGz6
   have hcz6_2 := cellS83_2 HGz6
   have hfz6_0 := blk_frozen HGz6 0
   have hfz6_1 := blk_frozen HGz6 1
   have hfz6_2 := blk_frozen HGz6 2
   clear HGz6 hgz6; go_wp2
   go_meet
   case rel => exact ⟨_, (false), rs, H', ⟨by first | omega | exact Nat.le_refl _⟩, ⟨by repeat (first | (with_reducible first | exact HI0.out | apply IsS83.alloc | apply IsS83.drewN | apply IsS83.drew | apply IsS83.set_0 | apply IsS83.set_1 | apply IsS83.set_2) | exact HI0.out)⟩, ⟨by repeat (first | (with_reducible first | exact HK.out | apply KeepBut.set_ | apply keep_drewN | apply keep_drew | apply keep_alloc) | exact HK.out)⟩, ⟨by repeat (first | (with_reducible first | exact HB.out | apply below_alloc | apply pw_below_drewN | apply below_drew1 | refine below_set ?_ (IsS83.ge HI0.out)) | exact HB.out)⟩⟩
 case rest =>
  clear HC2
  try clear p2
  try clear c4
  try clear c4b0
  try clear c4b1
  try clear c5
  try clear p6
  try clear hcz3_0
  try clear hcz3_1
  try clear hcz3_2
  try clear hcz5_0
  try clear hcz5_1
  try clear hcz5_2
  try clear hcz6_0
  try clear hcz6_1
  try clear hcz6_2
  try clear hfz3_0
  try clear hfz3_1
  try clear hfz3_2
  try clear hfz5_0
  try clear hfz5_1
  try clear hfz5_2
  try clear hfz6_0
  try clear hfz6_1
  try clear hfz6_2
  obtain ⟨kq, x11_1, rfl, HA, HJ1, HI0, HK, HB⟩ := hcut
  cases kq with
  | zero => exact absurd HA.out (by simp [mapalg_wide_end.j0])
  | succ kj1 =>
   have H := HA.out; clear HA
   simp only [mapalg_wide_end.j0] at H
   cases x11_1; rotate_left
   ·replace H := itt H
    simp only [Option.some.injEq, Prod.mk.injEq] at H
    obtain ⟨rfl, rfl, rfl, rfl⟩ := H
    obtain ⟨HGz8, hgz8⟩ := HI0.out
    have hcz8_0 := cellS83_0 HGz8
    have hcz8_1 := cellS83_1 HGz8
    have hcz8_2 := cellS83_2 HGz8
    have hfz8_0 := blk_frozen HGz8 0
    have hfz8_1 := blk_frozen HGz8 1
    have hfz8_2 := blk_frozen HGz8 2
    clear HGz8 hgz8; go_wp2; go_ret
    exact ⟨by first | rfl | (simp [errW_none, errW_some] <;> rfl) | (simp [*, errW_none, errW_some] <;> rfl), by repeat (first | (with_reducible first | exact HI0.out | apply IsS83.alloc | apply IsS83.drewN | apply IsS83.drew | apply IsS83.set_0 | apply IsS83.set_1 | apply IsS83.set_2) | exact HI0.out), by repeat (first | (with_reducible first | exact HB.out | apply below_alloc | apply pw_below_drewN | apply below_drew1 | refine below_set ?_ (IsS83.ge HI0.out)) | exact HB.out), by repeat (first | (with_reducible first | exact HK.out | apply KeepBut.set_ | apply keep_drewN | apply keep_drew | apply keep_alloc) | exact HK.out)⟩
   ·replace H := itf H
    by_cases c9 : (s0_2 / 9223372036854775808) = 1
    ·rw [if_pos c9] at H
     have c9b0 : ((s0_2 / 9223372036854775808) == 1) = true := beq_iff_eq.mpr c9
     have c9b1 : ((s0_2 / 9223372036854775808) != 1) = false := bne_eq_false_iff_eq.mpr c9
     clear c9
     simp only [Option.some.injEq, Prod.mk.injEq] at H
     obtain ⟨rfl, rfl, rfl, rfl⟩ := H
     obtain ⟨HGz10, hgz10⟩ := HI0.out
     have hcz10_0 := cellS83_0 HGz10
     have hcz10_1 := cellS83_1 HGz10
     have hcz10_2 := cellS83_2 HGz10
     have hfz10_0 := blk_frozen HGz10 0
     have hfz10_1 := blk_frozen HGz10 1
     have hfz10_2 := blk_frozen HGz10 2
     clear HGz10 hgz10; go_wp2; go_ret
     exact ⟨by first | rfl | (simp [errW_none, errW_some] <;> rfl) | (simp [*, errW_none, errW_some] <;> rfl), by repeat (first | (with_reducible first | exact HI0.out | apply IsS83.alloc | apply IsS83.drewN | apply IsS83.drew | apply IsS83.set_0 | apply IsS83.set_1 | apply IsS83.set_2) | exact HI0.out), by repeat (first | (with_reducible first | exact HB.out | apply below_alloc | apply pw_below_drewN | apply below_drew1 | refine below_set ?_ (IsS83.ge HI0.out)) | exact HB.out), by repeat (first | (with_reducible first | exact HK.out | apply KeepBut.set_ | apply keep_drewN | apply keep_drew | apply keep_alloc) | exact HK.out)⟩
    ·rw [if_neg c9] at H
     have c9b0 : ((s0_2 / 9223372036854775808) == 1) = false := beq_eq_false_iff_ne.mpr c9
     have c9b1 : ((s0_2 / 9223372036854775808) != 1) = true := bne_iff_ne.mpr c9
     simp only [Option.some.injEq, Prod.mk.injEq] at H
     obtain ⟨rfl, rfl, rfl, rfl⟩ := H
     obtain ⟨HGz11, hgz11⟩ := HI0.out
     have hcz11_0 := cellS83_0 HGz11
     have hcz11_1 := cellS83_1 HGz11
     have hcz11_2 := cellS83_2 HGz11
     have hfz11_0 := blk_frozen HGz11 0
     have hfz11_1 := blk_frozen HGz11 1
     have hfz11_2 := blk_frozen HGz11 2
     clear HGz11 hgz11; go_wp2; go_ret
     exact ⟨by first | rfl | (simp [errW_none, errW_some] <;> rfl) | (simp [*, errW_none, errW_some] <;> rfl), by repeat (first | (with_reducible first | exact HI0.out | apply IsS83.alloc | apply IsS83.drewN | apply IsS83.drew | apply IsS83.set_0 | apply IsS83.set_1 | apply IsS83.set_2) | exact HI0.out), by repeat (first | (with_reducible first | exact HB.out | apply below_alloc | apply pw_below_drewN | apply below_drew1 | refine below_set ?_ (IsS83.ge HI0.out)) | exact HB.out), by repeat (first | (with_reducible first | exact HK.out | apply KeepBut.set_ | apply keep_drewN | apply keep_drew | apply keep_alloc) | exact HK.out)⟩
def bits_Sub64.f (a b c : Int) : Option (Int × Int) := if 0 ≤ a ∧ 0 ≤ b ∧ 0 ≤ c ∧ c ≤ 1 ∧ b < 18446744073709551616 then some ((a + 18446744073709551616 - b - c) % 18446744073709551616, if a < b + c then 1 else 0) else none
def bits_Add64.f (a b c : Int) : Option (Int × Int) := if 0 ≤ a ∧ 0 ≤ b ∧ 0 ≤ c ∧ c ≤ 1 then some ((a + b + c) % 18446744073709551616, (a + b + c) / 18446744073709551616) else none
theorem bits_Sub64.run (a b c r q : Int) (h : bits_Sub64.f a b c = some (r, q)) (w : World) : (callFunc 91 #[.int .u64 a, .int .u64 b, .int .u64 c]).run Tryz.prog w = .ok (.value (.tuple #[.int .u64 r, .int .u64 q])) w := by
 unfold bits_Sub64.f at h
 by_cases hc : 0 ≤ a ∧ 0 ≤ b ∧ 0 ≤ c ∧ c ≤ 1 ∧ b < 18446744073709551616
 ·rw [if_pos hc] at h
  simp only [Option.some.injEq, Prod.mk.injEq] at h
  obtain ⟨rfl, rfl⟩ := h
  obtain ⟨x, rfl⟩ := Int.eq_ofNat_of_zero_le hc.1
  obtain ⟨y, rfl⟩ := Int.eq_ofNat_of_zero_le hc.2.1
  obtain ⟨z, rfl⟩ := Int.eq_ofNat_of_zero_le hc.2.2.1
  have hz : z ≤ 1 := by omega
  rw [run_callFunc_extern Tryz.func91 (by kernel_rfl) (by kernel_rfl) (by kernel_rfl) (e := sub64Entry) (by kernel_rfl), run_sub64 x y z hz]
  have e1 : (((x + 18446744073709551616 - y - z) % 18446744073709551616 : Nat) : Int) = ((x : Int) + 18446744073709551616 - y - z) % 18446744073709551616 := by omega
  have e2 : (((if x < y + z then 1 else 0 : Nat)) : Int) = (if (x : Int) < y + z then 1 else 0) := by split <;> split <;> omega
  simp only [Result.andThen]
  rw [e1, e2]
 ·rw [if_neg hc] at h; cases h
theorem bits_Add64.run (a b c r q : Int) (h : bits_Add64.f a b c = some (r, q)) (w : World) : (callFunc 92 #[.int .u64 a, .int .u64 b, .int .u64 c]).run Tryz.prog w = .ok (.value (.tuple #[.int .u64 r, .int .u64 q])) w := by
 unfold bits_Add64.f at h
 by_cases hc : 0 ≤ a ∧ 0 ≤ b ∧ 0 ≤ c ∧ c ≤ 1
 ·rw [if_pos hc] at h
  simp only [Option.some.injEq, Prod.mk.injEq] at h
  obtain ⟨rfl, rfl⟩ := h
  obtain ⟨x, rfl⟩ := Int.eq_ofNat_of_zero_le hc.1
  obtain ⟨y, rfl⟩ := Int.eq_ofNat_of_zero_le hc.2.1
  obtain ⟨z, rfl⟩ := Int.eq_ofNat_of_zero_le hc.2.2.1
  have hz : z ≤ 1 := by omega
  rw [run_callFunc_extern Tryz.func92 (by kernel_rfl) (by kernel_rfl) (by kernel_rfl) (e := add64Entry) (by kernel_rfl), run_add64 x y z (by omega) (by omega) (by omega) (by omega)]
  rfl
 ·rw [if_neg hc] at h; cases h
def mapalg_wide_add.j0 : Nat → Int → Int → Int → Int → Int → Int → Option (Int × Int × Int)
  | 0, _, _, _, _, _, _ => none
  | k + 1, x1, x2, x6, x1000, x1001, x1002 => (bits_Mul64.f x6 x2).bind fun bt288 => (if x1 < 0 then ((bits_Sub64.f x1000 bt288.2 0).bind fun bt290 => ((bits_Sub64.f x1001 bt288.1 bt290.2).bind fun bt292 => ((bits_Sub64.f x1002 0 bt292.2).bind fun bt294 => (some (bt290.1, bt292.1, bt294.1))))) else ((bits_Add64.f x1000 bt288.2 0).bind fun bt296 => ((bits_Add64.f x1001 bt288.1 bt296.2).bind fun bt298 => ((bits_Add64.f x1002 0 bt298.2).bind fun bt300 => (some (bt296.1, bt298.1, bt300.1))))))
def mapalg_wide_add.f (k : Nat) (s0_0 : Int) (s0_1 : Int) (s0_2 : Int) (a1 : Int) (a2 : Int) : Option (Int × Int × Int) := if a1 < 0 then (mapalg_wide_add.j0 k a1 a2 (IntKind.u64.wrap (-(IntKind.u64.wrap (a1)))) s0_0 s0_1 s0_2) else (mapalg_wide_add.j0 k a1 a2 (IntKind.u64.wrap (a1)) s0_0 s0_1 s0_2)
theorem mapalg_wide_add.mono_l : ∀ k, (∀ y0 y1 y2 y3 y4 y5, LeO (mapalg_wide_add.j0 k y0 y1 y2 y3 y4 y5) (mapalg_wide_add.j0 (k + 1) y0 y1 y2 y3 y4 y5))
 | 0 => fun _ _ _ _ _ _ r h => by simp [mapalg_wide_add.j0] at h
 | k + 1 => by
  have ih0 := mapalg_wide_add.mono_l k
  ·intro y0 y1 y2 y3 y4 y5
   unfold mapalg_wide_add.j0
   repeat' with_reducible first | apply ih0 | apply lr | apply ln | apply li | refine lb ?_ fun _ => ?_
theorem mapalg_wide_add.mono : ∀ a0 a1 a2 a3 a4 k, LeO (mapalg_wide_add.f k a0 a1 a2 a3 a4) (mapalg_wide_add.f (k + 1) a0 a1 a2 a3 a4) := by
 intro a0 a1 a2 a3 a4 k
 have ih0 := mapalg_wide_add.mono_l k
 unfold mapalg_wide_add.f
 repeat' with_reducible first | apply ih0 | apply lr | apply ln | apply li | refine lb ?_ fun _ => ?_
theorem mapalg_wide_add.calls (k : Nat) (g : Nat) (s0_0 : Int) (s0_1 : Int) (s0_2 : Int) (a1 : Int) (a2 : Int) (r1 : Int) (r2 : Int) (r3 : Int) (w0 w : World) (hI : IsS83 w0 w g s0_0 s0_1 s0_2) (hB : Below w0.heap.size w0 w) (h : mapalg_wide_add.f k s0_0 s0_1 s0_2 a1 a2 = some (r1, r2, r3)) :
 Calls Tryz.prog 58 #[.pointer (some ⟨g, 0, none⟩), .int .i64 a1, .int .u64 a2] w fun e w' => e = .returned (.tuple #[]) ∧ IsS83 w0 w' g r1 r2 r3 ∧ Below w0.heap.size w0 w' ∧ KeepBut w w' g none := by
 have HI0 := am hI
 have HK := am (KeepBut.refl w g none)
 have HL := am hB.size
 clear hI
 have HW0 := am hB.size
 have HB := am hB; clear hB
 unfold mapalg_wide_add.f at h; have H := h; clear h; have HC4 := am H; clear H; go_enter Tryz.func58, Tryz.ntmps58
 go_upto_if 13 with (fail)
 go_cut [6] (fun v6 wc => ∃ (kq : Nat) (x6_3 : Int), v6 = .int .u64 x6_3 ∧ Aside0 (mapalg_wide_add.j0 kq a1 a2 x6_3 s0_0 s0_1 s0_2 = some (r1, r2, r3)) ∧ Aside0 (kq ≤ k) ∧ Aside0 (IsS83 w0 wc g s0_0 s0_1 s0_2) ∧ Aside0 (KeepBut w wc g none) ∧ Aside0 (Below w0.heap.size w0 wc))
 case first =>
  have H := HC4.out; clear HC4; revert H; refine itc (fun c5b0 H => ?_) fun c5b0 H => ?_
  ·(first | rw [c5b0] | (simp only [i64_w, i32_w]; rw [c5b0]) | skip)
   have H' := am H; clear H; go_wp2
   go_meet
   case rel => exact ⟨_, (IntKind.u64.wrap (-(IntKind.u64.wrap (a1)))), rs, H', ⟨by first | omega | exact Nat.le_refl _⟩, ⟨by repeat (first | (with_reducible first | exact HI0.out | apply IsS83.alloc | apply IsS83.drewN | apply IsS83.drew | apply IsS83.set_0 | apply IsS83.set_1 | apply IsS83.set_2) | exact HI0.out)⟩, ⟨by repeat (first | (with_reducible first | exact HK.out | apply KeepBut.set_ | apply keep_drewN | apply keep_drew | apply keep_alloc) | exact HK.out)⟩, ⟨by repeat (first | (with_reducible first | exact HB.out | apply below_alloc | apply pw_below_drewN | apply below_drew1 | refine below_set ?_ (IsS83.ge HI0.out)) | exact HB.out)⟩⟩
  ·(first | rw [c5b0] | (simp only [i64_w, i32_w]; rw [c5b0]) | skip)
   have H' := am H; clear H; go_wp2
   go_meet
   case rel => exact ⟨_, (IntKind.u64.wrap (a1)), rs, H', ⟨by first | omega | exact Nat.le_refl _⟩, ⟨by repeat (first | (with_reducible first | exact HI0.out | apply IsS83.alloc | apply IsS83.drewN | apply IsS83.drew | apply IsS83.set_0 | apply IsS83.set_1 | apply IsS83.set_2) | exact HI0.out)⟩, ⟨by repeat (first | (with_reducible first | exact HK.out | apply KeepBut.set_ | apply keep_drewN | apply keep_drew | apply keep_alloc) | exact HK.out)⟩, ⟨by repeat (first | (with_reducible first | exact HB.out | apply below_alloc | apply pw_below_drewN | apply below_drew1 | refine below_set ?_ (IsS83.ge HI0.out)) | exact HB.out)⟩⟩
 case rest =>
  clear HC4
  try clear p2
  try clear c5
  try clear c5b0
  obtain ⟨kq, x6_3, rfl, HA, HJ3, HI0, HK, HB⟩ := hcut
  cases kq with
  | zero => exact absurd HA.out (by simp [mapalg_wide_add.j0])
  | succ kj3 =>
   have H := HA.out; clear HA
   simp only [mapalg_wide_add.j0] at H
   revert H; refine bnd2 fun t288 t289 A6 H => ?_; dsimp only at H
   revert H; refine itc (fun c7b0 H => ?_) fun c7b0 H => ?_
   ·revert H; refine bnd2 fun t290 t291 A8 H => ?_; dsimp only at H
    revert H; refine bnd2 fun t292 t293 A9 H => ?_; dsimp only at H
    revert H; refine bnd2 fun t294 t295 A10 H => ?_; dsimp only at H
    simp only [Option.some.injEq, Prod.mk.injEq] at H
    obtain ⟨rfl, rfl, rfl⟩ := H
    go_upto_region 6 with (first | ((with_reducible refine gate_callee (f := 90) rfl ?_); refine god Tryz.func90 (bits_Mul64.calls _ _ _ _ _ A6.out) fun nd => ?_))
    have HI1 := am (IsS83.drewN HI0.out nd)
    have HB1 := am (pw_below_drewN HB.out nd)
    have HK1 := am (keep_drewN HK.out nd)
    clear HI0 HB HK; generalize wc.drewN nd = w1 at *
    have c0 : w1.cell? ⟨g, 0, none⟩ = some (.int .u64 s0_0) := (blk_cell HI1.out.1 0).trans rfl
    have f0 := blk_frozen HI1.out.1 0
    have c1 : w1.cell? ⟨g, 1, none⟩ = some (.int .u64 s0_1) := (blk_cell HI1.out.1 1).trans rfl
    have f1 := blk_frozen HI1.out.1 1
    have c2 : w1.cell? ⟨g, 2, none⟩ = some (.int .u64 s0_2) := (blk_cell HI1.out.1 2).trans rfl
    have f2 := blk_frozen HI1.out.1 2
    have hs := fun w => bits_Sub64.run _ _ _ _ _ A8.out w
    go_region
    (try simp only [Exit.then])
    have HI2 : Aside0 (IsS83 w0 ((w1.setCell ⟨g, 0, none⟩ (.int .u64 t290)).drew) g t290 s0_1 s0_2) := ⟨IsS83.drew (IsS83.set_0 HI1.out _)⟩
    have HB2 : Aside0 (Below w0.heap.size w0 ((w1.setCell ⟨g, 0, none⟩ (.int .u64 t290)).drew)) := ⟨below_drew1 (below_set HB1.out (IsS83.ge HI1.out))⟩
    have HK2 : Aside0 (KeepBut w ((w1.setCell ⟨g, 0, none⟩ (.int .u64 t290)).drew) g none) := ⟨keep_drew (KeepBut.set_ HK1.out _ _)⟩
    clear HI1 HB1 HK1 c0 c1 c2 f0 f1 f2 hs; generalize (w1.setCell ⟨g, 0, none⟩ (.int .u64 t290)).drew = w2 at *
    go_wp2_with fail
    have c0 : w2.cell? ⟨g, 0, none⟩ = some (.int .u64 t290) := (blk_cell HI2.out.1 0).trans rfl
    have f0 := blk_frozen HI2.out.1 0
    have c1 : w2.cell? ⟨g, 1, none⟩ = some (.int .u64 s0_1) := (blk_cell HI2.out.1 1).trans rfl
    have f1 := blk_frozen HI2.out.1 1
    have c2 : w2.cell? ⟨g, 2, none⟩ = some (.int .u64 s0_2) := (blk_cell HI2.out.1 2).trans rfl
    have f2 := blk_frozen HI2.out.1 2
    have hs := fun w => bits_Sub64.run _ _ _ _ _ A9.out w
    go_region
    (try simp only [Exit.then])
    have HI3 : Aside0 (IsS83 w0 ((w2.setCell ⟨g, 1, none⟩ (.int .u64 t292)).drew) g t290 t292 s0_2) := ⟨IsS83.drew (IsS83.set_1 HI2.out _)⟩
    have HB3 : Aside0 (Below w0.heap.size w0 ((w2.setCell ⟨g, 1, none⟩ (.int .u64 t292)).drew)) := ⟨below_drew1 (below_set HB2.out (IsS83.ge HI2.out))⟩
    have HK3 : Aside0 (KeepBut w ((w2.setCell ⟨g, 1, none⟩ (.int .u64 t292)).drew) g none) := ⟨keep_drew (KeepBut.set_ HK2.out _ _)⟩
    clear HI2 HB2 HK2 c0 c1 c2 f0 f1 f2 hs; generalize (w2.setCell ⟨g, 1, none⟩ (.int .u64 t292)).drew = w3 at *
    go_wp2_with fail
    have c0 : w3.cell? ⟨g, 0, none⟩ = some (.int .u64 t290) := (blk_cell HI3.out.1 0).trans rfl
    have f0 := blk_frozen HI3.out.1 0
    have c1 : w3.cell? ⟨g, 1, none⟩ = some (.int .u64 t292) := (blk_cell HI3.out.1 1).trans rfl
    have f1 := blk_frozen HI3.out.1 1
    have c2 : w3.cell? ⟨g, 2, none⟩ = some (.int .u64 s0_2) := (blk_cell HI3.out.1 2).trans rfl
    have f2 := blk_frozen HI3.out.1 2
    have hs := fun w => bits_Sub64.run _ _ _ _ _ A10.out w
    go_region
    (try simp only [Exit.then])
    have HI4 : Aside0 (IsS83 w0 ((w3.setCell ⟨g, 2, none⟩ (.int .u64 t294)).drew) g t290 t292 t294) := ⟨IsS83.drew (IsS83.set_2 HI3.out _)⟩
    have HB4 : Aside0 (Below w0.heap.size w0 ((w3.setCell ⟨g, 2, none⟩ (.int .u64 t294)).drew)) := ⟨below_drew1 (below_set HB3.out (IsS83.ge HI3.out))⟩
    have HK4 : Aside0 (KeepBut w ((w3.setCell ⟨g, 2, none⟩ (.int .u64 t294)).drew) g none) := ⟨keep_drew (KeepBut.set_ HK3.out _ _)⟩
    clear HI3 HB3 HK3 c0 c1 c2 f0 f1 f2 hs; generalize (w3.setCell ⟨g, 2, none⟩ (.int .u64 t294)).drew = w4 at *; go_wp2
    first | go_end0 | ((try simp only [Exit.inBlock, Exit.then]); refine bodyPost_ret (results_none rfl _ _ _) rfl ?_)
    exact ⟨rfl, HI4.out, HB4.out, HK4.out⟩
   ·revert H; refine bnd2 fun t296 t297 A12 H => ?_; dsimp only at H
    revert H; refine bnd2 fun t298 t299 A13 H => ?_; dsimp only at H
    revert H; refine bnd2 fun t300 t301 A14 H => ?_; dsimp only at H
    simp only [Option.some.injEq, Prod.mk.injEq] at H
    obtain ⟨rfl, rfl, rfl⟩ := H
    go_upto_region 9 with (first | ((with_reducible refine gate_callee (f := 90) rfl ?_); refine god Tryz.func90 (bits_Mul64.calls _ _ _ _ _ A6.out) fun nd => ?_))
    have HI1 := am (IsS83.drewN HI0.out nd)
    have HB1 := am (pw_below_drewN HB.out nd)
    have HK1 := am (keep_drewN HK.out nd)
    clear HI0 HB HK; generalize wc.drewN nd = w1 at *
    have c0 : w1.cell? ⟨g, 0, none⟩ = some (.int .u64 s0_0) := (blk_cell HI1.out.1 0).trans rfl
    have f0 := blk_frozen HI1.out.1 0
    have c1 : w1.cell? ⟨g, 1, none⟩ = some (.int .u64 s0_1) := (blk_cell HI1.out.1 1).trans rfl
    have f1 := blk_frozen HI1.out.1 1
    have c2 : w1.cell? ⟨g, 2, none⟩ = some (.int .u64 s0_2) := (blk_cell HI1.out.1 2).trans rfl
    have f2 := blk_frozen HI1.out.1 2
    have hs := fun w => bits_Add64.run _ _ _ _ _ A12.out w
    go_region
    (try simp only [Exit.then])
    have HI2 : Aside0 (IsS83 w0 ((w1.setCell ⟨g, 0, none⟩ (.int .u64 t296)).drew) g t296 s0_1 s0_2) := ⟨IsS83.drew (IsS83.set_0 HI1.out _)⟩
    have HB2 : Aside0 (Below w0.heap.size w0 ((w1.setCell ⟨g, 0, none⟩ (.int .u64 t296)).drew)) := ⟨below_drew1 (below_set HB1.out (IsS83.ge HI1.out))⟩
    have HK2 : Aside0 (KeepBut w ((w1.setCell ⟨g, 0, none⟩ (.int .u64 t296)).drew) g none) := ⟨keep_drew (KeepBut.set_ HK1.out _ _)⟩
    clear HI1 HB1 HK1 c0 c1 c2 f0 f1 f2 hs; generalize (w1.setCell ⟨g, 0, none⟩ (.int .u64 t296)).drew = w2 at *
    go_wp2_with fail
    have c0 : w2.cell? ⟨g, 0, none⟩ = some (.int .u64 t296) := (blk_cell HI2.out.1 0).trans rfl
    have f0 := blk_frozen HI2.out.1 0
    have c1 : w2.cell? ⟨g, 1, none⟩ = some (.int .u64 s0_1) := (blk_cell HI2.out.1 1).trans rfl
    have f1 := blk_frozen HI2.out.1 1
    have c2 : w2.cell? ⟨g, 2, none⟩ = some (.int .u64 s0_2) := (blk_cell HI2.out.1 2).trans rfl
    have f2 := blk_frozen HI2.out.1 2
    have hs := fun w => bits_Add64.run _ _ _ _ _ A13.out w
    go_region
    (try simp only [Exit.then])
    have HI3 : Aside0 (IsS83 w0 ((w2.setCell ⟨g, 1, none⟩ (.int .u64 t298)).drew) g t296 t298 s0_2) := ⟨IsS83.drew (IsS83.set_1 HI2.out _)⟩
    have HB3 : Aside0 (Below w0.heap.size w0 ((w2.setCell ⟨g, 1, none⟩ (.int .u64 t298)).drew)) := ⟨below_drew1 (below_set HB2.out (IsS83.ge HI2.out))⟩
    have HK3 : Aside0 (KeepBut w ((w2.setCell ⟨g, 1, none⟩ (.int .u64 t298)).drew) g none) := ⟨keep_drew (KeepBut.set_ HK2.out _ _)⟩
    clear HI2 HB2 HK2 c0 c1 c2 f0 f1 f2 hs; generalize (w2.setCell ⟨g, 1, none⟩ (.int .u64 t298)).drew = w3 at *
    go_wp2_with fail
    have c0 : w3.cell? ⟨g, 0, none⟩ = some (.int .u64 t296) := (blk_cell HI3.out.1 0).trans rfl
    have f0 := blk_frozen HI3.out.1 0
    have c1 : w3.cell? ⟨g, 1, none⟩ = some (.int .u64 t298) := (blk_cell HI3.out.1 1).trans rfl
    have f1 := blk_frozen HI3.out.1 1
    have c2 : w3.cell? ⟨g, 2, none⟩ = some (.int .u64 s0_2) := (blk_cell HI3.out.1 2).trans rfl
    have f2 := blk_frozen HI3.out.1 2
    have hs := fun w => bits_Add64.run _ _ _ _ _ A14.out w
    go_region
    (try simp only [Exit.then])
    have HI4 : Aside0 (IsS83 w0 ((w3.setCell ⟨g, 2, none⟩ (.int .u64 t300)).drew) g t296 t298 t300) := ⟨IsS83.drew (IsS83.set_2 HI3.out _)⟩
    have HB4 : Aside0 (Below w0.heap.size w0 ((w3.setCell ⟨g, 2, none⟩ (.int .u64 t300)).drew)) := ⟨below_drew1 (below_set HB3.out (IsS83.ge HI3.out))⟩
    have HK4 : Aside0 (KeepBut w ((w3.setCell ⟨g, 2, none⟩ (.int .u64 t300)).drew) g none) := ⟨keep_drew (KeepBut.set_ HK3.out _ _)⟩
    clear HI3 HB3 HK3 c0 c1 c2 f0 f1 f2 hs; generalize (w3.setCell ⟨g, 2, none⟩ (.int .u64 t300)).drew = w4 at *; go_wp2
    first | go_end0 | ((try simp only [Exit.inBlock, Exit.then]); refine bodyPost_ret (results_none rfl _ _ _) rfl ?_)
    exact ⟨rfl, HI4.out, HB4.out, HK4.out⟩
theorem is83 {w0 W : World} {g : Nat} {f0 f1 f2 : Int} (hb : W.heap[g]? = some (.cells #[.int .u64 f0, .int .u64 f1, .int .u64 f2] 83 (0, 0))) (hg : w0.heap.size ≤ g) : IsS83 w0 W g f0 f1 f2 := ⟨hb, hg⟩
def sum.l0 (k : Nat) : List S37 → Int × Int × Int → Option (Int × Int × Int)
  | [], t => some t
  | s :: l, t => (span_Count.f k s.f0.f0.f0 s.f0.f0.f1 s.f0.f1.f0 s.f0.f1.f1).bind fun q =>
    (if q.2 = true then some (t, q.1) else (mapalg_wide_add.f k t.1 t.2.1 t.2.2 s.f1 1).map (fun u => (u, IntKind.u64.wrap (q.1 - 1)))).bind fun p =>
      (mapalg_wide_add.f k p.1.1 p.1.2.1 p.1.2.2 s.f1 p.2).bind fun u => sum.l0 k l u
theorem sum.l0_mono (k : Nat) : ∀ (l : List S37) (t : Int × Int × Int), LeO (sum.l0 k l t) (sum.l0 (k + 1) l t)
 | [], _ => LeO.refl _
 | s :: l, t => by
  unfold sum.l0
  refine LeO.bind (span_Count.mono _ _ _ _ _) (fun q => LeO.bind (LeO.ite (LeO.refl _) ?_) (fun p => LeO.bind (mapalg_wide_add.mono _ _ _ _ _ _) (fun u => sum.l0_mono k l u)))
  intro r h
  obtain ⟨u, e, rfl⟩ := Option.map_eq_some_iff.1 h
  exact Option.map_eq_some_iff.2 ⟨u, mapalg_wide_add.mono _ _ _ _ _ _ _ e, rfl⟩
def mapalg_Sum.f (k : Nat) (a : List S37) (w1 w2 w3 w4 : Int) : Option Int :=
  (mapalg_Restrict.f k a [⟨⟨w1, w2⟩, ⟨w3, w4⟩⟩]).bind fun rs => if rs.length < 1000000 then (sum.l0 k rs (0, 0, 0)).bind fun t => (mapalg_wide_end.f k t.1 t.2.1 t.2.2).bind fun q => some q.1 else none
theorem mapalg_Sum.mono : ∀ a0 a1 a2 a3 a4 k, LeO (mapalg_Sum.f k a0 a1 a2 a3 a4) (mapalg_Sum.f (k + 1) a0 a1 a2 a3 a4) := fun _ _ _ _ _ _ =>
 LeO.bind (mapalg_Restrict.mono _ _ _) (fun _ => LeO.ite (LeO.bind (sum.l0_mono _ _ _) (fun _ => LeO.bind (mapalg_wide_end.mono _ _ _ _) (fun _ => LeO.refl _))) (LeO.refl _))
theorem mapalg_Sum.walk (k : Nat) (A0 : Option Addr) (c0 : Nat) (l rs : List S37) (w1 w2 w3 w4 t1 t2 t3 r q2 q3 q4 : Int) (w : World) (hr : Kd.C k37 w A0 l.length l) (hc : l.length ≤ c0) (e1 : mapalg_Restrict.f k l [(⟨⟨w1, w2⟩, ⟨w3, w4⟩⟩ : S35)] = some rs) (hl : rs.length < 1000000) (e2 : sum.l0 k rs (0, 0, 0) = some (t1, t2, t3)) (e3 : mapalg_wide_end.f k t1 t2 t3 = some (r, q2, q3, q4)) :
 Calls Tryz.prog 23 #[.slice A0 l.length c0, .agg #[.int .i64 w1, .int .i64 w2, .int .i64 w3, .int .i64 w4]] w fun e w' => e = .returned (.int .i64 r) ∧ Below w.heap.size w w' := by
 have hu83 := Tryz.underlying83; have hu37 := Tryz.underlying37; have hu35 := Tryz.underlying35
 have HB := am (Below.refl w.heap.size w)
 have CA := am hr; have LA := am hc; have E1 := am e1; have E2 := am e2; have E3 := am e3; have HL := am hl
 obtain ⟨sw, hsw⟩ : ∃ y : List S35, y = [(⟨⟨w1, w2⟩, ⟨w3, w4⟩⟩ : S35)] := ⟨_, rfl⟩
 rw [← hsw] at E1
 have HSW := am hsw; clear hr hc e1 e2 e3 hl hsw; go_enter Tryz.func23, Tryz.ntmps23
 go_upto_region 3 with (first | ((with_reducible refine gate_dst (N := 3) rfl ?_); refine bxf #[.int .i64 w1, .int .i64 w2, .int .i64 w3, .int .i64 w4] 35 HB fun gp wa B_p GE_p_HB HB hgb hb => ?_; clear hb hgb) | ((with_reducible refine gate_dst (N := 5) rfl ?_); refine bxf #[.int .u64 0, .int .u64 0, .int .u64 0] 83 HB fun gw wb B_w GE_w_HB HB hgb hb => ?_; have NE_p_w := nlt hgb B_p; replace B_p := bkb B_p hb; obtain ⟨c_p_0, c_p_1, c_p_2, c_p_3⟩ := e4 B_p; clear hb hgb) | ((with_reducible refine gate_dst (N := 12) rfl ?_); refine Kd.R_lit k35 _ 35 ?hg (N := 12) ?hd (xs := [(⟨⟨w1, w2⟩, ⟨w3, w4⟩⟩ : S35)]) (inner := [.int .i64 w1, .int .i64 w2, .int .i64 w3, .int .i64 w4]) (ok := fun _ => True) (okp := fun _ => True) ?hr ?hp (fun _ hk => hk) trivial (Below.refl _ _) (Nat.le_refl _) (by simp) ?_; (case hd => rfl); (case hg => rfl); (case hr => first | (go_simp; done) | (go_simp; rfl)); (case hp => exact (Reps.c4 (show Kd.M k35 _ _ _ (⟨⟨w1, w2⟩, ⟨w3, w4⟩⟩ : S35) [.int .i64 w1, .int .i64 w2, .int .i64 w3, .int .i64 w4] from (k35_mkM _ _ _ (⟨⟨w1, w2⟩, ⟨w3, w4⟩⟩ : S35))) (Reps.none _ _))); intro v1 wc ho hb hg_ hnew_; rw [← HSW.out] at ho; obtain ⟨A1, c1, rfl⟩ := Kd.R_slice ho; have HO1 := am ho; replace B_p := bkb B_p hb; replace B_w := bkb B_w hb; replace HB := bst HB hb; clear ho hb hg_ hnew_ c_p_0 c_p_1 c_p_2 c_p_3) | (go_at_call 27; (with_reducible refine (mapalg_Restrict.calls k A0 c0 l A1 c1 sw rs _ (Kd.C_below CA.out HB.out) LA.out (Kd.R_reads' HO1.out).2.2 (Kd.R_reads' HO1.out).2.1 E1.out).mono ?_); rintro e w8 ⟨v2, rfl, ho, hb⟩; obtain ⟨A2, c2, rfl⟩ := Kd.R_slice ho; have HO2 := am ho; replace B_p := bkb B_p hb; replace B_w := bkb B_w hb; replace HB := bst HB hb; clear ho hb HO1))
 clear B_p
 obtain ⟨SS, hSS⟩ : ∃ SS : Nat → Prop, SS = fun q => q = gw := ⟨_, rfl⟩
 have S1 : Aside0 (SS gw) := ⟨by rw [hSS]⟩
 have SN : Aside0 (∀ q, q ≠ gw → ¬ SS q) := ⟨fun q h1 h => by rw [hSS] at h; exact h1 h⟩
 clear hSS
 have RK := am (Kd.C_kept_own (S := SS) (Kd.R_types HO2.out B_w.out (by decide)) (fun q hq => SN.out q hq.2))
 have GW := GE_w_HB
 clear HO2 E1 CA LA
 obtain ⟨n, hn⟩ : ∃ n, rs.length = n := ⟨_, rfl⟩
 have HN := am hn
 rw [hn]
 clear hn
 go_loopg [15] (n + 1) (fun kq v15 w' => ∃ (j : Nat) (u1 u2 u3 : Int), v15 = .int .i64 (j : Int) ∧ Aside0 (kq + j = n + 1) ∧ Aside0 (j ≤ n) ∧ Aside0 (sum.l0 k (rs.drop j) (u1, u2, u3) = some (t1, t2, t3)) ∧ Aside0 (w'.heap[gw]? = some (.cells #[.int .u64 u1, .int .u64 u2, .int .u64 u3] 83 (0, 0))) ∧ Aside0 (Kept w8 w' SS) ∧ Aside0 (Below w.heap.size w w'))
 case atStart => exact ⟨0, 0, 0, 0, rfl, ⟨rfl⟩, ⟨Nat.zero_le _⟩, E2, B_w, ⟨Kept.refl _ _⟩, HB⟩
 case round =>
  clear B_w HB E2
  obtain ⟨j, u1, u2, u3, rfl, HQ, HJ, HA, B_w, K8, HB⟩ := hrel
  by_cases hj : j < n
  ·have p1 : 0 ≤ (j : Int) := Int.natCast_nonneg j
   have q1 : (j : Int) < (rs.length : Int) := by rw [HN.out]; omega
   have q2 : (j : Int) < (n : Int) := by omega
   have bj : decide ((j : Int) < (n : Int)) = true := decide_eq_true q2
   have HD : rs.drop j = rd_T37 rs (j : Int) :: rs.drop (j + 1) := by
    have hj2 : j < rs.length := by rw [HN.out]; exact hj
    rw [List.drop_eq_getElem_cons hj2]
    congr 1
    simp [rd_T37, hj2]
   obtain ⟨ad, ea, hx0, hx1, hx2, hx3, hx4⟩ := at_T37 (RK.out wr K8.out) (j : Int) p1 q1; cases ea; have HA2 := HA.out
   rw [HD] at HA2
   obtain ⟨⟨⟨⟨s1, s2⟩, ⟨s3, s4⟩⟩, s5⟩, hs⟩ : ∃ s : S37, rd_T37 rs (j : Int) = s := ⟨_, rfl⟩
   rw [hs] at hx0 hx1 hx2 hx3 hx4 HA2
   simp only [Int.toNat_natCast] at hx0 hx1 hx2 hx3 hx4
   unfold sum.l0 at HA2
   obtain ⟨⟨cn, is⟩, ea1, HA3⟩ := Option.bind_eq_some_iff.1 HA2
   obtain ⟨⟨⟨x1, x2, x3⟩, m⟩, ea2, HA4⟩ := Option.bind_eq_some_iff.1 HA3
   obtain ⟨⟨y1, y2, y3⟩, ea3, HA5⟩ := Option.bind_eq_some_iff.1 HA4
   dsimp only at ea1 ea2 ea3 HA5
   have F1 := am ea1; have F2 := am ea2; have F3 := am ea3; have HA6 := am HA5; clear ea1 ea2 ea3 HA5 HA4 HA3 HA2 HA HD hs; replace p1 := eq_true p1; replace q2 := eq_true q2
   obtain ⟨k1, rfl⟩ : ∃ k1, gk = k1 + 1 := ⟨gk - 1, by have := HQ.out; omega⟩
   have hw : wrap64 ((j : Int) + 1) = ((j + 1 : Nat) : Int) := by
    have := HN.out; have := HL.out
    unfold wrap64; push_cast; omega
   go_upto_region 5 with (first | ((with_reducible refine gate_dst (N := 7) rfl ?_); refine bxe (N := 7) (cs := #[.int .i64 0, .int .i64 0, .int .i64 0, .int .i64 0, .int .i64 0]) (t := 37) ?_; intro ge hgb wc hbox hb; have NE_w_e := nlt hgb B_w; have GE_e_HB := lsz hgb HB; have GE_e_K8 := am (show w8.heap.size ≤ ge by rw [hgb]; exact K8.out.1); replace B_w := bkb B_w hb; replace HB := bst HB hb; replace K8 := am (Kept.below K8.out hb); have B_e := am hbox; replace hx0 := (hb.cell (World.block_lt_of_cell? _ _ hx0)).trans hx0; replace hx1 := (hb.cell (World.block_lt_of_cell? _ _ hx1)).trans hx1; replace hx2 := (hb.cell (World.block_lt_of_cell? _ _ hx2)).trans hx2; replace hx3 := (hb.cell (World.block_lt_of_cell? _ _ hx3)).trans hx3; replace hx4 := (hb.cell (World.block_lt_of_cell? _ _ hx4)).trans hx4; have c_e_0 : wc.cell? ⟨ge, 0, none⟩ = some (.int .i64 0) := (blk_cell hbox 0).trans rfl; have f_e_0 := blk_frozen hbox 0; have c_e_1 : wc.cell? ⟨ge, 1, none⟩ = some (.int .i64 0) := (blk_cell hbox 1).trans rfl; have f_e_1 := blk_frozen hbox 1; have c_e_2 : wc.cell? ⟨ge, 2, none⟩ = some (.int .i64 0) := (blk_cell hbox 2).trans rfl; have f_e_2 := blk_frozen hbox 2; have c_e_3 : wc.cell? ⟨ge, 3, none⟩ = some (.int .i64 0) := (blk_cell hbox 3).trans rfl; have f_e_3 := blk_frozen hbox 3; have c_e_4 : wc.cell? ⟨ge, 4, none⟩ = some (.int .i64 0) := (blk_cell hbox 4).trans rfl; have f_e_4 := blk_frozen hbox 4; clear hbox hb hgb))
   have N_w : Aside0 ((((((wc.setCell ⟨ge, 0, none⟩ (.int .i64 s1)).setCell ⟨ge, 1, none⟩ (.int .i64 s2)).setCell ⟨ge, 2, none⟩ (.int .i64 s3)).setCell ⟨ge, 3, none⟩ (.int .i64 s4)).setCell ⟨ge, 4, none⟩ (.int .i64 s5)).heap[gw]? = some (.cells #[.int .u64 u1, .int .u64 u2, .int .u64 u3] 83 (0, 0))) := ⟨(blk_far (blk_far (blk_far (blk_far (blk_far B_w.out (p := ⟨ge, 0, none⟩) NE_w_e.out (.int .i64 s1)) (p := ⟨ge, 1, none⟩) NE_w_e.out (.int .i64 s2)) (p := ⟨ge, 2, none⟩) NE_w_e.out (.int .i64 s3)) (p := ⟨ge, 3, none⟩) NE_w_e.out (.int .i64 s4)) (p := ⟨ge, 4, none⟩) NE_w_e.out (.int .i64 s5))⟩
   have N_e : Aside0 ((((((wc.setCell ⟨ge, 0, none⟩ (.int .i64 s1)).setCell ⟨ge, 1, none⟩ (.int .i64 s2)).setCell ⟨ge, 2, none⟩ (.int .i64 s3)).setCell ⟨ge, 3, none⟩ (.int .i64 s4)).setCell ⟨ge, 4, none⟩ (.int .i64 s5)).heap[ge]? = some (.cells #[.int .i64 s1, .int .i64 s2, .int .i64 s3, .int .i64 s4, .int .i64 s5] 37 (0, 0))) := ⟨(blk_put (blk_put (blk_put (blk_put (blk_put B_e.out 0 (.int .i64 s1) rfl) 1 (.int .i64 s2) rfl) 2 (.int .i64 s3) rfl) 3 (.int .i64 s4) rfl) 4 (.int .i64 s5) rfl)⟩
   have N_HB : Aside0 (Below w.heap.size w (((((wc.setCell ⟨ge, 0, none⟩ (.int .i64 s1)).setCell ⟨ge, 1, none⟩ (.int .i64 s2)).setCell ⟨ge, 2, none⟩ (.int .i64 s3)).setCell ⟨ge, 3, none⟩ (.int .i64 s4)).setCell ⟨ge, 4, none⟩ (.int .i64 s5))) := ⟨(below_set (below_set (below_set (below_set (below_set HB.out GE_e_HB.out) GE_e_HB.out) GE_e_HB.out) GE_e_HB.out) GE_e_HB.out)⟩
   have N_K8 : Aside0 (Kept w8 (((((wc.setCell ⟨ge, 0, none⟩ (.int .i64 s1)).setCell ⟨ge, 1, none⟩ (.int .i64 s2)).setCell ⟨ge, 2, none⟩ (.int .i64 s3)).setCell ⟨ge, 3, none⟩ (.int .i64 s4)).setCell ⟨ge, 4, none⟩ (.int .i64 s5)) SS) := ⟨(Kept.setCell (Kept.setCell (Kept.setCell (Kept.setCell (Kept.setCell K8.out (p := ⟨ge, 0, none⟩) (.inr GE_e_K8.out) (.int .i64 s1)) (p := ⟨ge, 1, none⟩) (.inr GE_e_K8.out) (.int .i64 s2)) (p := ⟨ge, 2, none⟩) (.inr GE_e_K8.out) (.int .i64 s3)) (p := ⟨ge, 3, none⟩) (.inr GE_e_K8.out) (.int .i64 s4)) (p := ⟨ge, 4, none⟩) (.inr GE_e_K8.out) (.int .i64 s5))⟩
   clear B_w B_e HB K8
   have B_w := N_w
   have B_e := N_e
   have HB := N_HB
   have K8 := N_K8
   clear N_w N_e N_HB N_K8; generalize (((((wc.setCell ⟨ge, 0, none⟩ (.int .i64 s1)).setCell ⟨ge, 1, none⟩ (.int .i64 s2)).setCell ⟨ge, 2, none⟩ (.int .i64 s3)).setCell ⟨ge, 3, none⟩ (.int .i64 s4)).setCell ⟨ge, 4, none⟩ (.int .i64 s5)) = wd at *; clear hx0 hx1 hx2 hx3 hx4 c_e_0 f_e_0 c_e_1 f_e_1 c_e_2 f_e_2 c_e_3 f_e_3 c_e_4 f_e_4; obtain ⟨c_e_0, c_e_1, c_e_2, c_e_3, c_e_4⟩ := e5 B_e
   go_upto_region 6 with (first | (go_at_call 57; (with_reducible refine (span_Count.calls k s1 s2 s3 s4 cn is _ F1.out).mono ?_); rintro e we ⟨rfl, hb⟩; replace B_w := bkb B_w hb; replace B_e := bkb B_e hb; replace HB := bst HB hb; replace K8 := am (Kept.below K8.out hb); clear hb))
   clear c_e_0 c_e_1 c_e_2 c_e_3 c_e_4
   have c_e_4 : we.cell? ⟨ge, 4, none⟩ = some (.int .i64 s5) := (blk_cell B_e.out 4).trans rfl
   cases is
   ·have F2' := F2.out
    rw [if_neg (by decide)] at F2'
    obtain ⟨⟨z1, z2, z3⟩, ez, hz⟩ := Option.map_eq_some_iff.1 F2'
    simp only [Prod.mk.injEq] at hz
    obtain ⟨⟨rfl, rfl, rfl⟩, rfl⟩ := hz
    have FZ := am ez
    clear ez F2' F2
    go_upto_region 9 with (first | (go_at_call 58; (with_reducible refine (mapalg_wide_add.calls k gw u1 u2 u3 s5 1 z1 z2 z3 w we (is83 B_w.out GW.out) HB.out FZ.out).mono ?_); rintro e wf ⟨rfl, hi, hbl, hk⟩; replace B_w := am (And.left hi); replace B_e := am ((hk.2 _ (blk_lt B_e.out) (Ne.symm NE_w_e.out) (by simp)).trans B_e.out); replace HB := am hbl; replace K8 := am (Kept.of_keep K8.out hk (.inl S1.out)); clear hi hbl hk))
    clear c_e_4
    have c_e_4 : wf.cell? ⟨ge, 4, none⟩ = some (.int .i64 s5) := (blk_cell B_e.out 4).trans rfl
    go_wp2_with (first | (go_at_call 58; (with_reducible refine (mapalg_wide_add.calls k gw z1 z2 z3 s5 _ y1 y2 y3 w wf (is83 B_w.out GW.out) HB.out F3.out).mono ?_); rintro e wg ⟨rfl, hi, hbl, hk⟩; replace B_w := am (And.left hi); replace B_e := am ((hk.2 _ (blk_lt B_e.out) (Ne.symm NE_w_e.out) (by simp)).trans B_e.out); replace HB := am hbl; replace K8 := am (Kept.of_keep K8.out hk (.inl S1.out)); clear hi hbl hk))
    go_roundg k1
    case measure => omega
    case rel => exact ⟨j + 1, y1, y2, y3, by first | rfl | (rw [← hw]; rfl) | (simp [hw]; done), ⟨by have := HQ.out; omega⟩, ⟨by omega⟩, HA6, B_w, K8, HB⟩
   ·have F2' := F2.out
    rw [if_pos rfl] at F2'
    obtain ⟨⟨rfl, rfl, rfl⟩, rfl⟩ : (x1 = u1 ∧ x2 = u2 ∧ x3 = u3) ∧ m = cn := by have h := Option.some.inj F2'; simp only [Prod.mk.injEq] at h; exact ⟨⟨h.1.1.symm, h.1.2.1.symm, h.1.2.2.symm⟩, h.2.symm⟩
    clear F2' F2
    go_wp2_with (first | (go_at_call 58; (with_reducible refine (mapalg_wide_add.calls k gw _ _ _ s5 _ y1 y2 y3 w we (is83 B_w.out GW.out) HB.out F3.out).mono ?_); rintro e wg ⟨rfl, hi, hbl, hk⟩; replace B_w := am (And.left hi); replace B_e := am ((hk.2 _ (blk_lt B_e.out) (Ne.symm NE_w_e.out) (by simp)).trans B_e.out); replace HB := am hbl; replace K8 := am (Kept.of_keep K8.out hk (.inl S1.out)); clear hi hbl hk))
    go_roundg k1
    case measure => omega
    case rel => exact ⟨j + 1, y1, y2, y3, by first | rfl | (rw [← hw]; rfl) | (simp [hw]; done), ⟨by have := HQ.out; omega⟩, ⟨by omega⟩, HA6, B_w, K8, HB⟩
  ·have bj : decide ((j : Int) < (n : Int)) = false := decide_eq_false (by omega)
   have HA2 := HA.out
   rw [List.drop_eq_nil_of_le (by rw [HN.out]; omega)] at HA2
   have h := Option.some.inj HA2
   simp only [Prod.mk.injEq] at h
   obtain ⟨rfl, rfl, rfl⟩ := h
   go_wp2_with (first | (go_at_call 59; (with_reducible refine (mapalg_wide_end.calls k gw u1 u2 u3 r _ _ _ w wr (is83 B_w.out GW.out) HB.out E3.out).mono ?_); rintro e w9 ⟨rfl, hi, hbl, hk⟩; have HB9 := am hbl; clear hi hbl hk))
   go_ret
   exact ⟨rfl, HB9.out⟩
theorem mapalg_Sum.calls (k : Nat) (A0 : Option Addr) (c0 : Nat) (l0 : List S37) (a1_0 a1_1 a1_2 a1_3 : Int) (r : Int) (w : World) (hr0 : Kd.C k37 w A0 l0.length l0) (hc0 : l0.length ≤ c0) (h : mapalg_Sum.f k l0 a1_0 a1_1 a1_2 a1_3 = some r) :
 Calls Tryz.prog 23 #[.slice A0 l0.length c0, .agg #[.int .i64 a1_0, .int .i64 a1_1, .int .i64 a1_2, .int .i64 a1_3]] w fun e w' => e = .returned (.int .i64 r) ∧ Below w.heap.size w w' := by
 obtain ⟨rs, e1, h⟩ := Option.bind_eq_some_iff.1 h
 by_cases hl : rs.length < 1000000
 ·rw [if_pos hl] at h
  obtain ⟨⟨t1, t2, t3⟩, e2, h⟩ := Option.bind_eq_some_iff.1 h
  obtain ⟨⟨r', q2, q3, q4⟩, e3, h⟩ := Option.bind_eq_some_iff.1 h
  obtain rfl := Option.some.inj h
  exact mapalg_Sum.walk k A0 c0 l0 rs a1_0 a1_1 a1_2 a1_3 t1 t2 t3 r' q2 q3 q4 w hr0 hc0 e1 hl e2 e3
 ·rw [if_neg hl] at h; cases h
end Go.Proofs.YtbcpnejdbookkaaGreat.Print
namespace Go.Proofs.YtbcpnejdbookkaaGreat.Print
open Go.RowKit Go.Proofs.YtbcpnejdbookkaaGreatW.PrintWords Go.Proofs.YtbcpnejdbookkaaGreatW.PrintLast Go.Proofs.YtbcpnejdbookkaaGreatW.PrintMore
attribute [local go_sem] max2_int min2_int max_two min_two max_three min_three max_four min_four   -- for this text's walks alone
theorem eqA37 (d : Nat) (w : World) (x0 y0 : Int) (x1 y1 : Int) (x2 y2 : Int) (x3 y3 : Int) (x4 y4 : Int) :
 (Op.equalIn (d + 4) 37 (.agg #[.int .i64 x0, .int .i64 x1, .int .i64 x2, .int .i64 x3, .int .i64 x4]) (.agg #[.int .i64 y0, .int .i64 y1, .int .i64 y2, .int .i64 y3, .int .i64 y4])).run Tryz.prog w = .ok (((x0 == y0 && (x1 == y1)) && ((x2 == y2 && (x3 == y3)))) && (x4 == y4)) w := by
 refine eqA_of Tryz.underlying37 (by kernel_rfl) ?_
 refine eqf_cons (by rfl) (by go_simp) (by go_simp) (eqA35 (d + 0) w _ _ _ _ _ _ _ _) ?_
 exact eqf_last (by rfl) (by go_simp; rfl) (by go_simp; rfl) (by go_simp)
end Go.Proofs.YtbcpnejdbookkaaGreat.Print
namespace Go.Proofs.YtbcpnejdbookkaaGreat.Print
open Go.RowKit Go.Proofs.YtbcpnejdbookkaaGreatW.PrintWords Go.Proofs.YtbcpnejdbookkaaGreatW.PrintLast Go.Proofs.YtbcpnejdbookkaaGreatW.PrintMore
attribute [local go_sem] max2_int min2_int max_two min_two max_three min_three max_four min_four   -- for this text's walks alone
attribute [local go_sem high] eqA37
def bocageref14_Same.l0 : Nat → List (S37) → List (S37) → Int → Option (Bool)
  | 0, _, _, _ => none
  | k + 1, x0, x1, x5 => if x5 < (x0.length : Int) then (if 0 ≤ x5 then (if x5 < (x1.length : Int) then (if (((!(((rd_T37 x0 x5).f0.f0.f0) == ((rd_T37 x1 x5).f0.f0.f0)) || (!(((rd_T37 x0 x5).f0.f0.f1) == ((rd_T37 x1 x5).f0.f0.f1)))) || ((!(((rd_T37 x0 x5).f0.f1.f0) == ((rd_T37 x1 x5).f0.f1.f0)) || (!(((rd_T37 x0 x5).f0.f1.f1) == ((rd_T37 x1 x5).f0.f1.f1)))))) || (!(((rd_T37 x0 x5).f1) == ((rd_T37 x1 x5).f1)))) = true then (some false) else (bocageref14_Same.l0 k x0 x1 (wrap64 (x5 + 1)))) else (none)) else (none)) else (some true)
def bocageref14_Same.f (k : Nat) (l0 : List (S37)) (l1 : List (S37)) : Option (Bool) := if (l0.length : Int) = (l1.length : Int) then (bocageref14_Same.l0 k l0 l1 0) else (some false)
theorem bocageref14_Same.mono_l : ∀ k, (∀ y0 y1 y2, LeO (bocageref14_Same.l0 k y0 y1 y2) (bocageref14_Same.l0 (k + 1) y0 y1 y2))
 | 0 => fun _ _ _ r h => by simp [bocageref14_Same.l0] at h
 | k + 1 => by
  have ih0 := bocageref14_Same.mono_l k
  ·intro y0 y1 y2
   unfold bocageref14_Same.l0
   repeat' with_reducible first | apply ih0 | apply lr | apply ln | apply li | refine lb ?_ fun _ => ?_
theorem bocageref14_Same.mono : ∀ a0 a1 k, LeO (bocageref14_Same.f k a0 a1) (bocageref14_Same.f (k + 1) a0 a1) := by
 intro a0 a1 k
 have ih0 := bocageref14_Same.mono_l k
 unfold bocageref14_Same.f
 repeat' with_reducible first | apply ih0 | apply lr | apply ln | apply li | refine lb ?_ fun _ => ?_
theorem bocageref14_Same.calls (k : Nat) (A0 : Option Addr) (c0 : Nat) (l0 : List (S37)) (A1 : Option Addr) (c1 : Nat) (l1 : List (S37)) (r : Bool) (w : World) (hr0 : Kd.C k37 w A0 l0.length l0) (hc0 : l0.length ≤ c0) (hr1 : Kd.C k37 w A1 l1.length l1) (hc1 : l1.length ≤ c1) (h : bocageref14_Same.f k l0 l1 = some r) :
 Calls Tryz.prog 14 #[.slice A0 l0.length c0, .slice A1 l1.length c1] w fun e w' => e = .returned (.bool r) ∧ Drawn0 w w' := by
 have hu37 := Tryz.underlying37; have HR0 := am hr0; have HC0 := am hc0; clear hr0 hc0; have HR1 := am hr1; have HC1 := am hc1; clear hr1 hc1
 unfold bocageref14_Same.f at h; have H := h; clear h
 by_cases c3 : (l0.length : Int) = (l1.length : Int)
 ·rw [if_pos c3] at H
  have c3b0 : ((l0.length : Int) == (l1.length : Int)) = true := beq_iff_eq.mpr c3
  have c3b1 : ((l0.length : Int) != (l1.length : Int)) = false := bne_eq_false_iff_eq.mpr c3
  have c3b2 : (l0.length == l1.length) = true := by first | simpa using c3 | (simp at c3 ⊢; omega)
  clear c3; have H' := am H; clear H; go_enter Tryz.func14, Tryz.ntmps14; go_wp2
  repeat (go_quiet (fail); try go_wp2)
  go_loopg [5] k (fun kq v5 w' => ∃ (x5_1 : Int), v5 = .int .i64 x5_1 ∧ Aside0 (bocageref14_Same.l0 kq l0 l1 x5_1 = some r) ∧ Aside0 (kq ≤ k) ∧ Drawn0 w w')
  case atStart => exact ⟨_, rs, H', ⟨Nat.le_refl _⟩, dn⟩
  case round =>
   clear H'
   try clear c1
   try clear p2
   try clear c3
   try clear c3b0
   try clear c3b1
   try clear c3b2
   obtain ⟨x5_1, rfl, HA, HK1, ⟨m1, rfl⟩⟩ := hrel
   cases gk with
   | zero => exact absurd HA.out (by simp [bocageref14_Same.l0])
   | succ k1 =>
    have H := HA.out; clear HA
    simp only [bocageref14_Same.l0] at H
    revert H; refine itc (fun c4b0 H => ?_) fun c4b0 H => ?_
    ·revert H; refine its fun c5b0 H => ?_
     revert H; refine its fun c6b0 H => ?_
     by_cases c7 : (((!(((rd_T37 l0 x5_1).f0.f0.f0) == ((rd_T37 l1 x5_1).f0.f0.f0)) || (!(((rd_T37 l0 x5_1).f0.f0.f1) == ((rd_T37 l1 x5_1).f0.f0.f1)))) || ((!(((rd_T37 l0 x5_1).f0.f1.f0) == ((rd_T37 l1 x5_1).f0.f1.f0)) || (!(((rd_T37 l0 x5_1).f0.f1.f1) == ((rd_T37 l1 x5_1).f0.f1.f1)))))) || (!(((rd_T37 l0 x5_1).f1) == ((rd_T37 l1 x5_1).f1)))) = true
     ·rw [if_pos c7] at H
      have c7b0 : (((!(((rd_T37 l0 x5_1).f0.f0.f0) == ((rd_T37 l1 x5_1).f0.f0.f0)) || (!(((rd_T37 l0 x5_1).f0.f0.f1) == ((rd_T37 l1 x5_1).f0.f0.f1)))) || ((!(((rd_T37 l0 x5_1).f0.f1.f0) == ((rd_T37 l1 x5_1).f0.f1.f0)) || (!(((rd_T37 l0 x5_1).f0.f1.f1) == ((rd_T37 l1 x5_1).f0.f1.f1)))))) || (!(((rd_T37 l0 x5_1).f1) == ((rd_T37 l1 x5_1).f1)))) = true := c7
      clear c7; obtain rfl := Option.some.inj H
      obtain ⟨ad168, e168, hx168_0, hx168_1, hx168_2, hx168_3, hx168_4, p168, q168⟩ := ay37 HR0.out x5_1
      cases e168
      obtain ⟨ad169, e169, hx169_0, hx169_1, hx169_2, hx169_3, hx169_4, p169, q169⟩ := ay37 HR1.out x5_1
      cases e169; go_wp2
      repeat (go_quiet (fail); try go_wp2)
      go_ret
      exact ⟨rs, dn⟩
     ·rw [if_neg c7] at H
      have c7b0 : (((!(((rd_T37 l0 x5_1).f0.f0.f0) == ((rd_T37 l1 x5_1).f0.f0.f0)) || (!(((rd_T37 l0 x5_1).f0.f0.f1) == ((rd_T37 l1 x5_1).f0.f0.f1)))) || ((!(((rd_T37 l0 x5_1).f0.f1.f0) == ((rd_T37 l1 x5_1).f0.f1.f0)) || (!(((rd_T37 l0 x5_1).f0.f1.f1) == ((rd_T37 l1 x5_1).f0.f1.f1)))))) || (!(((rd_T37 l0 x5_1).f1) == ((rd_T37 l1 x5_1).f1)))) = false := by simpa using c7
      clear c7; have H' := am H; clear H
      obtain ⟨ad168, e168, hx168_0, hx168_1, hx168_2, hx168_3, hx168_4, p168, q168⟩ := ay37 HR0.out x5_1
      cases e168
      obtain ⟨ad169, e169, hx169_0, hx169_1, hx169_2, hx169_3, hx169_4, p169, q169⟩ := ay37 HR1.out x5_1
      cases e169; go_wp2
      repeat (go_quiet (fail); try go_wp2)
      go_roundg k1
      case measure => have := HK1.out; omega
      case rel => exact ⟨_, rs, H', kl HK1, dn⟩
    ·obtain rfl := Option.some.inj H; go_wp2
     repeat (go_quiet (fail); try go_wp2)
     go_ret
     exact ⟨rs, dn⟩
 ·rw [if_neg c3] at H
  have c3b0 : ((l0.length : Int) == (l1.length : Int)) = false := beq_eq_false_iff_ne.mpr c3
  have c3b1 : ((l0.length : Int) != (l1.length : Int)) = true := bne_iff_ne.mpr c3
  have c3b2 : (l0.length == l1.length) = false := by first | simpa using c3 | (simp at c3 ⊢; omega)
  obtain rfl := Option.some.inj H; go_enter Tryz.func14, Tryz.ntmps14; go_wp2
  repeat (go_quiet (fail); try go_wp2)
  go_ret
  exact ⟨rs, dn⟩
end Go.Proofs.YtbcpnejdbookkaaGreat.Print
namespace Go.Proofs.YtbcpnejdbookkaaGreat.Print
open Go.RowKit Go.Proofs.YtbcpnejdbookkaaGreatW.PrintWords Go.Proofs.YtbcpnejdbookkaaGreatW.PrintLast Go.Proofs.YtbcpnejdbookkaaGreatW.PrintMore
attribute [local go_sem] max2_int min2_int max_two min_two max_three min_three max_four min_four   -- for this text's walks alone
def bocagelaw16_alive.f (k : Nat)  : Option (Bool) := (bocagelaw16_to.f 0 4 5).bind fun bt292 => ((some (([(⟨(⟨(⟨bt292.1, bt292.2.1⟩ : S33), (⟨bt292.2.2.1, bt292.2.2.2.1⟩ : S33)⟩ : S35), bt292.2.2.2.2⟩ : S37)] : List (S37)) : List (S37))).bind fun y297 => ((bocagelaw16_to.f 2 6 1).bind fun bt300 => ((some (([(⟨(⟨(⟨bt300.1, bt300.2.1⟩ : S33), (⟨bt300.2.2.1, bt300.2.2.2.1⟩ : S33)⟩ : S35), bt300.2.2.2.2⟩ : S37)] : List (S37)) : List (S37))).bind fun y305 => ((mapalg_Both.f k 2 y297 y305).bind fun t308 => ((mapalg_Group.f k t308).bind fun bt311 => ((mapalg_Both.f k 2 y297 y305).bind fun t317 => ((bocagelaw16_to.f 0 2 5).bind fun bt320 => ((bocagelaw16_to.f 2 4 4).bind fun bt325 => ((bocagelaw16_to.f 4 6 (-1)).bind fun bt330 => ((bocageref14_Same.f k t317 (([(⟨(⟨(⟨bt320.1, bt320.2.1⟩ : S33), (⟨bt320.2.2.1, bt320.2.2.2.1⟩ : S33)⟩ : S35), bt320.2.2.2.2⟩ : S37), (⟨(⟨(⟨bt325.1, bt325.2.1⟩ : S33), (⟨bt325.2.2.1, bt325.2.2.2.1⟩ : S33)⟩ : S35), bt325.2.2.2.2⟩ : S37), (⟨(⟨(⟨bt330.1, bt330.2.1⟩ : S33), (⟨bt330.2.2.1, bt330.2.2.2.1⟩ : S33)⟩ : S35), bt330.2.2.2.2⟩ : S37)] : List (S37)))).bind fun t338 => (if t338 = true then ((bocagelaw16_to.f 1 9 0).bind fun bt339 => ((mapalg_Sum.f k y297 bt339.1 bt339.2.1 bt339.2.2.1 bt339.2.2.2.1).bind fun t344 => (if t344 = 15 then (if (bt311.1.length : Int) = 3 then (if 0 < (bt311.1.length : Int) then (if (rd bt311.1 0) = (-1) then (if (bt311.2.length : Int) = 3 then ((mapalg_Domain.f k y305).bind fun t346 => ((bocageref09_Spans.f k y305).bind fun t349 => ((bocageref03_Same.f k t346 t349).bind fun t352 => (if t352 = true then ((mapalg_Diff.f k y297 y305).bind fun t353 => (some ((t353.length : Int) == 1))) else (some false))))) else (some false)) else (some false)) else (none)) else (some false)) else (some false)))) else (some false))))))))))))
theorem bocagelaw16_alive.mono : ∀ k, LeO (bocagelaw16_alive.f k ) (bocagelaw16_alive.f (k + 1) ) := by
 intro  k
 unfold bocagelaw16_alive.f
 repeat' with_reducible first | apply bocageref03_Same.mono | apply bocageref09_Spans.mono | apply bocageref14_Same.mono | apply mapalg_Both.mono | apply mapalg_Diff.mono | apply mapalg_Domain.mono | apply mapalg_Group.mono | apply mapalg_Sum.mono | apply lr | apply ln | apply li | refine lb ?_ fun _ => ?_
theorem bocagelaw16_alive.calls (k : Nat)  (r : Bool) (w : World) (h : bocagelaw16_alive.f k  = some r) (hr : r = true) :
 Calls Tryz.prog 12 #[] w fun e w' => e = .returned (.bool r) ∧ Below w.heap.size w w' := by
 have HRT := am hr; clear hr
 have HB := am (Below.refl w.heap.size w)
 unfold bocagelaw16_alive.f at h; have H := h; clear h; revert H; refine bnd5 fun t292 t293 t294 t295 t296 A1 H => ?_; dsimp only at H
 revert H; refine bns fun y297 Ny297 H => ?_
 revert H; refine bnd5 fun t300 t301 t302 t303 t304 A2 H => ?_; dsimp only at H
 revert H; refine bns fun y305 Ny305 H => ?_
 revert H; refine bnd fun t308 A3 H => ?_
 revert H; refine bnd2 fun t311 t312 A4 H => ?_; dsimp only at H
 revert H; refine bnd fun t317 A5 H => ?_
 revert H; refine bnd5 fun t320 t321 t322 t323 t324 A6 H => ?_; dsimp only at H
 revert H; refine bnd5 fun t325 t326 t327 t328 t329 A7 H => ?_; dsimp only at H
 revert H; refine bnd5 fun t330 t331 t332 t333 t334 A8 H => ?_; dsimp only at H
 generalize hy335 : ([(⟨(⟨(⟨t320, t321⟩ : S33), (⟨t322, t323⟩ : S33)⟩ : S35), t324⟩ : S37), (⟨(⟨(⟨t325, t326⟩ : S33), (⟨t327, t328⟩ : S33)⟩ : S35), t329⟩ : S37), (⟨(⟨(⟨t330, t331⟩ : S33), (⟨t332, t333⟩ : S33)⟩ : S35), t334⟩ : S37)] : List (S37)) = y335 at H; have Ny335 := am hy335.symm; clear hy335; revert H; refine bnd fun t338 A9 H => ?_
 by_cases c10 : t338 = true
 ·subst c10
  have H1 : ((bocagelaw16_to.f 1 9 0).bind fun bt339 => ((mapalg_Sum.f k y297 bt339.1 bt339.2.1 bt339.2.2.1 bt339.2.2.2.1).bind fun t344 => (if t344 = 15 then (if (t311.length : Int) = 3 then (if 0 < (t311.length : Int) then (if (rd t311 0) = (-1) then (if (t312.length : Int) = 3 then ((mapalg_Domain.f k y305).bind fun t346 => ((bocageref09_Spans.f k y305).bind fun t349 => ((bocageref03_Same.f k t346 t349).bind fun t352 => (if t352 = true then ((mapalg_Diff.f k y297 y305).bind fun t353 => (some ((t353.length : Int) == 1))) else (some false))))) else (some false)) else (some false)) else (none)) else (some false)) else (some false)))) = some r := by rw [if_pos rfl] at H; exact H
  clear H
  have H := H1
  clear H1; revert H; refine bnd5 fun t339 t340 t341 t342 t343 A11 H => ?_; dsimp only at H
  revert H; refine bnd fun t344 A12 H => ?_
  by_cases c13 : t344 = 15
  ·rw [if_pos c13] at H
   have c13b0 : (t344 == 15) = true := beq_iff_eq.mpr c13
   have c13b1 : (t344 != 15) = false := bne_eq_false_iff_eq.mpr c13
   clear c13
   by_cases c14 : (t311.length : Int) = 3
   ·rw [if_pos c14] at H
    have c14b0 : ((t311.length : Int) == 3) = true := beq_iff_eq.mpr c14
    have c14b1 : ((t311.length : Int) != 3) = false := bne_eq_false_iff_eq.mpr c14
    clear c14
    by_cases c15 : 0 < (t311.length : Int)
    ·rw [if_pos c15] at H
     have c15b0 : decide (0 < (t311.length : Int)) = true := decide_eq_true c15
     have c15b1 : decide (0 < t311.length) = true := decide_eq_true (by omega)
     clear c15
     by_cases c16 : (rd t311 0) = (-1)
     ·rw [if_pos c16] at H
      have c16b0 : ((rd t311 0) == (-1)) = true := beq_iff_eq.mpr c16
      have c16b1 : ((rd t311 0) != (-1)) = false := bne_eq_false_iff_eq.mpr c16
      clear c16
      by_cases c17 : (t312.length : Int) = 3
      ·rw [if_pos c17] at H
       have c17b0 : ((t312.length : Int) == 3) = true := beq_iff_eq.mpr c17
       have c17b1 : ((t312.length : Int) != 3) = false := bne_eq_false_iff_eq.mpr c17
       clear c17; revert H; refine bnd fun t346 A18 H => ?_
       revert H; refine bnd fun t349 A19 H => ?_
       revert H; refine bnd fun t352 A20 H => ?_
       by_cases c21 : t352 = true
       ·subst c21
        have H1 : ((mapalg_Diff.f k y297 y305).bind fun t353 => (some ((t353.length : Int) == 1))) = some r := by rw [if_pos rfl] at H; exact H
        clear H
        have H := H1
        clear H1; revert H; refine bnd fun t353 A22 H => ?_
        obtain rfl := Option.some.inj H
        have hfl37 : ∀ (a b c d e : Int) (w : World), (Instr.field 37 (Value.agg #[.int .i64 a, .int .i64 b, .int .i64 c, .int .i64 d, .int .i64 e]) 0).run Tryz.prog w = .ok (.agg #[.int .i64 a, .int .i64 b, .int .i64 c, .int .i64 d]) w := fun a b c d e w => by kernel_rfl
        go_enter Tryz.func12, Tryz.ntmps12
        go_wp2_with (first | ((with_reducible refine gate_callee (f := 42) rfl ?_); refine gob Tryz.func42 (bocagelaw16_to.calls _ _ _ _ _ _ _ _ _ A1.out) fun w23 hb => ?_; replace HB := bst HB hb; (try clear hb); (try clear hb2); (try clear hk); (try clear hi)) | ((with_reducible refine gate_dst (N := 6) rfl ?_); (try (refine gate_guard (by rfl) ?_; dsimp only)); refine Kd.R_lit k37 _ 37 ?hg (N := 6) ?hd (xs := ([(⟨(⟨(⟨t292, t293⟩ : S33), (⟨t294, t295⟩ : S33)⟩ : S35), t296⟩ : S37)] : List (S37))) (inner := [.int .i64 t292, .int .i64 t293, .int .i64 t294, .int .i64 t295, .int .i64 t296]) (ok := fun _ => True) (okp := fun _ => True) ?hr ?hp (fun _ hk => hk) trivial (Below.refl _ _) (Nat.le_refl _) (by simp) ?_; (case hd => rfl); (case hg => rfl); (case hr => first | (go_simp; done) | (go_simp; rfl)); (case hp => exact (Reps.c5 (show Kd.M k37 _ _ _ (⟨(⟨(⟨t292, t293⟩ : S33), (⟨t294, t295⟩ : S33)⟩ : S35), t296⟩ : S37) [.int .i64 t292, .int .i64 t293, .int .i64 t294, .int .i64 t295, .int .i64 t296] from (k37_mkM _ _ _ (⟨(⟨(⟨t292, t293⟩ : S33), (⟨t294, t295⟩ : S33)⟩ : S35), t296⟩ : S37) )) (Reps.none _ _))); intro v298 w24 ho25 hb hg_ hnew_; clear hg_ hnew_; (first | rw [← Ny297.out] at ho25 | (simp only [Int.reduceToNat] at ho25; rw [← Ny297.out] at ho25)); have HO299 := kw ho25 HB; replace HB := bst HB hb; clear hb ho25) | ((with_reducible refine gate_callee (f := 42) rfl ?_); refine gob Tryz.func42 (bocagelaw16_to.calls _ _ _ _ _ _ _ _ _ A2.out) fun w26 hb => ?_; replace HO299 := krb HO299 hb; replace HB := bst HB hb; (try clear hb); (try clear hb2); (try clear hk); (try clear hi)) | ((with_reducible refine gate_dst (N := 8) rfl ?_); (try (refine gate_guard (by rfl) ?_; dsimp only)); refine Kd.R_lit k37 _ 37 ?hg (N := 8) ?hd (xs := ([(⟨(⟨(⟨t300, t301⟩ : S33), (⟨t302, t303⟩ : S33)⟩ : S35), t304⟩ : S37)] : List (S37))) (inner := [.int .i64 t300, .int .i64 t301, .int .i64 t302, .int .i64 t303, .int .i64 t304]) (ok := fun _ => True) (okp := fun _ => True) ?hr ?hp (fun _ hk => hk) trivial (Below.refl _ _) (Nat.le_refl _) (by simp) ?_; (case hd => rfl); (case hg => rfl); (case hr => first | (go_simp; done) | (go_simp; rfl)); (case hp => exact (Reps.c5 (show Kd.M k37 _ _ _ (⟨(⟨(⟨t300, t301⟩ : S33), (⟨t302, t303⟩ : S33)⟩ : S35), t304⟩ : S37) [.int .i64 t300, .int .i64 t301, .int .i64 t302, .int .i64 t303, .int .i64 t304] from (k37_mkM _ _ _ (⟨(⟨(⟨t300, t301⟩ : S33), (⟨t302, t303⟩ : S33)⟩ : S35), t304⟩ : S37) )) (Reps.none _ _))); intro v306 w27 ho28 hb hg_ hnew_; clear hg_ hnew_; (first | rw [← Ny305.out] at ho28 | (simp only [Int.reduceToNat] at ho28; rw [← Ny305.out] at ho28)); have HO307 := kw (kz ho28 HO299) HB; replace HO299 := ke HO299 ho28 hb; replace HB := bst HB hb; clear hb ho28; obtain ⟨Ao29, co29, rfl⟩ := Kd.R_slice HO299.out; obtain ⟨Ao30, co30, rfl⟩ := Kd.R_slice HO307.out) | ((with_reducible refine gate_callee (f := 13) rfl ?_); refine gol (some 12) Tryz.func13 #[.int .i64 2, .slice Ao29 y297.length co29, .slice Ao30 y305.length co30] ?_; (with_reducible refine (mapalg_Both.calls _ _ _ _ _ _ _ _ _ _ (cr HO299) (cv HO299) (cr HO307) (cv HO307) A3.out).mono ?_); rintro e w31 ⟨v309, rfl, ho0, hb⟩; refine ⟨_, rfl, ?_⟩; have HO310 := kw (kz (kz ho0 HO299) HO307) HB; replace HO299 := ke HO299 ho0 hb; replace HO307 := ke HO307 ho0 hb; replace HB := bst HB hb; clear hb ho0; obtain ⟨Ao32, co32, rfl⟩ := Kd.R_slice HO310.out) | ((with_reducible refine gate_callee (f := 35) rfl ?_); refine gol (some 13) Tryz.func35 #[.slice Ao32 t308.length co32] ?_; (with_reducible refine (mapalg_Group.calls _ _ _ _ _ _ _ (cr HO310) (cv HO310) A4.out).mono ?_); rintro e w33 ⟨v313, v315, rfl, ho0, ho1, hb⟩; refine ⟨_, rfl, ?_⟩; replace HO299 := krb HO299 hb; replace HO307 := krb HO307 hb; replace HO310 := krb HO310 hb; have HO314 := kw ho0 HB; have HO316 := am (Kd.S_lower ho1 (below_size (bl HB))); replace HB := bst HB hb; clear hb ho0 ho1) | ((with_reducible refine gate_callee (f := 13) rfl ?_); refine gol (some 18) Tryz.func13 #[.int .i64 2, .slice Ao29 y297.length co29, .slice Ao30 y305.length co30] ?_; (with_reducible refine (mapalg_Both.calls _ _ _ _ _ _ _ _ _ _ (cr HO299) (cv HO299) (cr HO307) (cv HO307) A5.out).mono ?_); rintro e w34 ⟨v318, rfl, ho0, hb⟩; refine ⟨_, rfl, ?_⟩; replace HO314 := krb HO314 hb; replace HO316 := sb HO316 hb; have HO319 := kw (kz (kz (kz ho0 HO299) HO307) HO310) HB; replace HO299 := ke HO299 ho0 hb; replace HO307 := ke HO307 ho0 hb; replace HO310 := ke HO310 ho0 hb; replace HB := bst HB hb; clear hb ho0) | ((with_reducible refine gate_callee (f := 42) rfl ?_); refine gob Tryz.func42 (bocagelaw16_to.calls _ _ _ _ _ _ _ _ _ A6.out) fun w35 hb => ?_; replace HO299 := krb HO299 hb; replace HO307 := krb HO307 hb; replace HO310 := krb HO310 hb; replace HO314 := krb HO314 hb; replace HO316 := sb HO316 hb; replace HO319 := krb HO319 hb; replace HB := bst HB hb; (try clear hb); (try clear hb2); (try clear hk); (try clear hi)) | ((with_reducible refine gate_callee (f := 42) rfl ?_); refine gob Tryz.func42 (bocagelaw16_to.calls _ _ _ _ _ _ _ _ _ A7.out) fun w36 hb => ?_; replace HO299 := krb HO299 hb; replace HO307 := krb HO307 hb; replace HO310 := krb HO310 hb; replace HO314 := krb HO314 hb; replace HO316 := sb HO316 hb; replace HO319 := krb HO319 hb; replace HB := bst HB hb; (try clear hb); (try clear hb2); (try clear hk); (try clear hi)) | ((with_reducible refine gate_callee (f := 42) rfl ?_); refine gob Tryz.func42 (bocagelaw16_to.calls _ _ _ _ _ _ _ _ _ A8.out) fun w37 hb => ?_; replace HO299 := krb HO299 hb; replace HO307 := krb HO307 hb; replace HO310 := krb HO310 hb; replace HO314 := krb HO314 hb; replace HO316 := sb HO316 hb; replace HO319 := krb HO319 hb; replace HB := bst HB hb; (try clear hb); (try clear hb2); (try clear hk); (try clear hi)) | ((with_reducible refine gate_dst (N := 22) rfl ?_); (try (refine gate_guard (by rfl) ?_; dsimp only)); refine Kd.R_lit k37 _ 37 ?hg (N := 22) ?hd (xs := ([(⟨(⟨(⟨t320, t321⟩ : S33), (⟨t322, t323⟩ : S33)⟩ : S35), t324⟩ : S37), (⟨(⟨(⟨t325, t326⟩ : S33), (⟨t327, t328⟩ : S33)⟩ : S35), t329⟩ : S37), (⟨(⟨(⟨t330, t331⟩ : S33), (⟨t332, t333⟩ : S33)⟩ : S35), t334⟩ : S37)] : List (S37))) (inner := [.int .i64 t320, .int .i64 t321, .int .i64 t322, .int .i64 t323, .int .i64 t324, .int .i64 t325, .int .i64 t326, .int .i64 t327, .int .i64 t328, .int .i64 t329, .int .i64 t330, .int .i64 t331, .int .i64 t332, .int .i64 t333, .int .i64 t334]) (ok := fun _ => True) (okp := fun _ => True) ?hr ?hp (fun _ hk => hk) trivial (Below.refl _ _) (Nat.le_refl _) (by simp) ?_; (case hd => rfl); (case hg => rfl); (case hr => first | (go_simp; done) | (go_simp; rfl)); (case hp => exact (Reps.c5 (show Kd.M k37 _ _ _ (⟨(⟨(⟨t320, t321⟩ : S33), (⟨t322, t323⟩ : S33)⟩ : S35), t324⟩ : S37) [.int .i64 t320, .int .i64 t321, .int .i64 t322, .int .i64 t323, .int .i64 t324] from (k37_mkM _ _ _ (⟨(⟨(⟨t320, t321⟩ : S33), (⟨t322, t323⟩ : S33)⟩ : S35), t324⟩ : S37) )) (Reps.c5 (show Kd.M k37 _ _ _ (⟨(⟨(⟨t325, t326⟩ : S33), (⟨t327, t328⟩ : S33)⟩ : S35), t329⟩ : S37) [.int .i64 t325, .int .i64 t326, .int .i64 t327, .int .i64 t328, .int .i64 t329] from (k37_mkM _ _ _ (⟨(⟨(⟨t325, t326⟩ : S33), (⟨t327, t328⟩ : S33)⟩ : S35), t329⟩ : S37) )) (Reps.c5 (show Kd.M k37 _ _ _ (⟨(⟨(⟨t330, t331⟩ : S33), (⟨t332, t333⟩ : S33)⟩ : S35), t334⟩ : S37) [.int .i64 t330, .int .i64 t331, .int .i64 t332, .int .i64 t333, .int .i64 t334] from (k37_mkM _ _ _ (⟨(⟨(⟨t330, t331⟩ : S33), (⟨t332, t333⟩ : S33)⟩ : S35), t334⟩ : S37) )) (Reps.none _ _))))); intro v336 w38 ho39 hb hg_ hnew_; clear hg_ hnew_; (first | rw [← Ny335.out] at ho39 | (simp only [Int.reduceToNat] at ho39; rw [← Ny335.out] at ho39)); replace HO314 := krb HO314 hb; replace HO316 := sb HO316 hb; have HO337 := kw (kz (kz (kz (kz ho39 HO299) HO307) HO310) HO319) HB; replace HO299 := ke HO299 ho39 hb; replace HO307 := ke HO307 ho39 hb; replace HO310 := ke HO310 ho39 hb; replace HO319 := ke HO319 ho39 hb; replace HB := bst HB hb; clear hb ho39; obtain ⟨Ao40, co40, rfl⟩ := Kd.R_slice HO319.out; obtain ⟨Ao41, co41, rfl⟩ := Kd.R_slice HO337.out) | ((with_reducible refine gate_callee (f := 14) rfl ?_); refine gol (some 23) Tryz.func14 #[.slice Ao40 t317.length co40, .slice Ao41 y335.length co41] ?_; (with_reducible refine (bocageref14_Same.calls _ _ _ _ _ _ _ _ _ (cr HO319) (cv HO319) (cr HO337) (cv HO337) A9.out).mono ?_); rintro e w' ⟨rfl, ⟨nd, rfl⟩⟩; refine ⟨_, rfl, ?_⟩) | (go_at_call 42; (with_reducible refine (bocagelaw16_to.calls _ _ _ _ _ _ _ _ _ A11.out).mono ?_); rintro e w42 ⟨rfl, hb⟩; replace HO299 := krb HO299 hb; replace HO307 := krb HO307 hb; replace HO310 := krb HO310 hb; replace HO314 := krb HO314 hb; replace HO316 := sb HO316 hb; replace HO319 := krb HO319 hb; replace HO337 := krb HO337 hb; replace HB := bst HB hb) | (go_at_call 23; (with_reducible refine (mapalg_Sum.calls _ _ _ _ _ _ _ _ _ _ (cr HO299) (cv HO299) A12.out).mono ?_); rintro e w43 ⟨rfl, hb⟩; replace HO299 := krb HO299 hb; replace HO307 := krb HO307 hb; replace HO310 := krb HO310 hb; replace HO314 := krb HO314 hb; replace HO316 := sb HO316 hb; replace HO319 := krb HO319 hb; replace HO337 := krb HO337 hb; replace HB := bst HB hb; clear hb; obtain ⟨Ao44, co44, rfl⟩ := Kd.R_slice HO314.out; have p345 : 0 ≤ (0 : Int) := (by omega); have q345 : 0 < (t311.length : Int) := pd; obtain ⟨ad345, e345, hx345_0⟩ := Kd.at_int (Kd.R_reads' HO314.out).2.2 0 p345 q345; cases e345; have qi345 : (0 < t311.length) = True := eq_true (by omega); (try rw [show ((0 : Int)).toNat = 0 from rfl] at hx345_0); (try rw [Addr.add_zero'] at hx345_0); replace p345 := eq_true p345; replace q345 := eq_true q345; obtain ⟨Ao45, co45, rfl⟩ := Kd.S_slice HO316.out) | (go_at_call 31; (with_reducible refine (mapalg_Domain.calls _ _ _ _ _ _ (cr HO307) (cv HO307) A18.out).mono ?_); rintro e w46 ⟨v347, rfl, ho0, hb⟩; replace HO299 := krb HO299 hb; replace HO307 := krb HO307 hb; replace HO310 := krb HO310 hb; replace HO314 := krb HO314 hb; replace HO316 := se HO316 ho0 hb; replace HO319 := krb HO319 hb; replace HO337 := krb HO337 hb; have HO348 := kw ho0 HB; replace HB := bst HB hb; clear hb ho0) | (go_at_call 26; (with_reducible refine (bocageref09_Spans.calls _ _ _ _ _ _ (cr HO307) (cv HO307) A19.out).mono ?_); rintro e w47 ⟨v350, rfl, ho0, hb⟩; replace HO299 := krb HO299 hb; replace HO307 := krb HO307 hb; replace HO310 := krb HO310 hb; replace HO314 := krb HO314 hb; replace HO316 := se HO316 ho0 hb; replace HO319 := krb HO319 hb; replace HO337 := krb HO337 hb; have HO351 := kw (kz ho0 HO348) HB; replace HO348 := ke HO348 ho0 hb; replace HB := bst HB hb; clear hb ho0; obtain ⟨Ao48, co48, rfl⟩ := Kd.R_slice HO348.out; obtain ⟨Ao49, co49, rfl⟩ := Kd.R_slice HO351.out) | (go_at_call 21; (with_reducible refine (bocageref03_Same.calls _ _ _ _ _ _ _ _ _ (cr HO348) (cv HO348) (cr HO351) (cv HO351) A20.out).mono ?_); rintro e w' ⟨rfl, ⟨nd, rfl⟩⟩) | (go_at_call 18; (with_reducible refine (mapalg_Diff.calls _ _ _ _ _ _ _ _ _ (cr HO299) (cv HO299) (cr HO307) (cv HO307) A22.out).mono ?_); rintro e w50 ⟨v354, rfl, ho0, hb⟩; replace HO299 := krb HO299 hb; replace HO307 := krb HO307 hb; replace HO310 := krb HO310 hb; replace HO314 := krb HO314 hb; replace HO316 := se HO316 ho0 hb; replace HO319 := krb HO319 hb; replace HO337 := krb HO337 hb; have HO355 := kw (kz (kz ho0 HO348) HO351) HB; replace HO348 := ke HO348 ho0 hb; replace HO351 := ke HO351 ho0 hb; replace HB := bst HB hb; obtain ⟨Ao51, co51, rfl⟩ := Kd.R_slice HO355.out))
        go_ret; exact endB HB
       ·replace c21 := Bool.eq_false_iff.mpr c21
        subst c21
        have H1 : (some false) = some r := by rw [if_neg (show ¬ (false = true) by decide)] at H; exact H
        exact absurd ((Option.some.inj H1).trans HRT.out) Bool.false_ne_true
      ·rw [if_neg c17] at H
       exact absurd ((Option.some.inj H).trans HRT.out) Bool.false_ne_true
     ·rw [if_neg c16] at H
      exact absurd ((Option.some.inj H).trans HRT.out) Bool.false_ne_true
    ·rw [if_neg c15] at H
     exact absurd H (by simp)
   ·rw [if_neg c14] at H
    exact absurd ((Option.some.inj H).trans HRT.out) Bool.false_ne_true
  ·rw [if_neg c13] at H
   exact absurd ((Option.some.inj H).trans HRT.out) Bool.false_ne_true
 ·replace c10 := Bool.eq_false_iff.mpr c10
  subst c10
  have H1 : (some false) = some r := by rw [if_neg (show ¬ (false = true) by decide)] at H; exact H
  exact absurd ((Option.some.inj H1).trans HRT.out) Bool.false_ne_true
def bocageref02_Least64.f  : Option (Int) := some (-9223372036854775808)
theorem bocageref02_Least64.calls  (r : Int) (w : World) (h : bocageref02_Least64.f  = some r) :
 Calls Tryz.prog 78 #[] w fun e w' => e = .returned (.int .i64 r) ∧ Drawn0 w w' := by
 unfold bocageref02_Least64.f at h; have H := h; clear h; obtain rfl := Option.some.inj H; go_enter Tryz.func78, Tryz.ntmps78; go_wp2; go_ret
 exact ⟨rs, dn⟩
def bocageref02_Canon.j0 : Nat → Bool → Int → Int → Option (Int × Int)
  | 0, _, _, _ => none
  | k + 1, x16, x357000, x357001 => if x16 = true then (some ((-1), 0)) else (if x357000 > 0 then (some (1, 0)) else (some (x357000, x357001)))
def bocageref02_Canon.f (k : Nat) (a0_0 : Int) (a0_1 : Int) : Option (Int × Int) := if a0_0 < 0 then (bocageref02_Canon.j0 k true a0_0 a0_1) else (if a0_0 = 0 then ((bocageref02_Least64.f).bind fun t358 => (bocageref02_Canon.j0 k (a0_1 == t358) a0_0 a0_1)) else (bocageref02_Canon.j0 k false a0_0 a0_1))
theorem bocageref02_Canon.mono_l : ∀ k, (∀ y0 y1 y2, LeO (bocageref02_Canon.j0 k y0 y1 y2) (bocageref02_Canon.j0 (k + 1) y0 y1 y2))
 | 0 => fun _ _ _ r h => by simp [bocageref02_Canon.j0] at h
 | k + 1 => by
  have ih0 := bocageref02_Canon.mono_l k
  ·intro y0 y1 y2
   unfold bocageref02_Canon.j0
   repeat' with_reducible first | apply ih0 | apply lr | apply ln | apply li | refine lb ?_ fun _ => ?_
theorem bocageref02_Canon.mono : ∀ a0 a1 k, LeO (bocageref02_Canon.f k a0 a1) (bocageref02_Canon.f (k + 1) a0 a1) := by
 intro a0 a1 k
 have ih0 := bocageref02_Canon.mono_l k
 unfold bocageref02_Canon.f
 repeat' with_reducible first | apply ih0 | apply lr | apply ln | apply li | refine lb ?_ fun _ => ?_
theorem bocageref02_Canon.calls (k : Nat) (a0_0 : Int) (a0_1 : Int) (r1 : Int) (r2 : Int) (w : World) (h : bocageref02_Canon.f k a0_0 a0_1 = some (r1, r2)) :
 Calls Tryz.prog 77 #[.agg #[.int .i64 a0_0, .int .i64 a0_1]] w fun e w' => e = .returned (.agg #[.int .i64 r1, .int .i64 r2]) ∧ Below w.heap.size w w' := by
 have hu33 := Tryz.underlying33
 have HB := am (Below.refl w.heap.size w)
 unfold bocageref02_Canon.f at h; have H := h; clear h; have HC2 := am H; clear H; go_enter Tryz.func77, Tryz.ntmps77
 go_upto_region 1 with (first | ((with_reducible refine gate_dst (N := 1) rfl ?_); refine bxf #[.int .i64 a0_0, .int .i64 a0_1] 33 HB fun gb356 w3 BK356 GW356 HB hg hb => ?_; have GE356 := GW356; clear hb hg) | ((with_reducible refine gate_dst (N := 2) rfl ?_); refine bxf #[.int .i64 0, .int .i64 0] 33 HB fun gb357 w4 BK357 GW357 HB hg hb => ?_; have GE357 := GW357; have NB356_357 := nlt hg BK356; have NB357_356 := ngt hg BK356; replace BK356 := bkb BK356 hb; clear hb hg))
 repeat (go_quiet (first | ((with_reducible refine gate_dst (N := 1) rfl ?_); refine bxf #[.int .i64 a0_0, .int .i64 a0_1] 33 HB fun gb356 w3 BK356 GW356 HB hg hb => ?_; have GE356 := GW356; clear hb hg) | ((with_reducible refine gate_dst (N := 2) rfl ?_); refine bxf #[.int .i64 0, .int .i64 0] 33 HB fun gb357 w4 BK357 GW357 HB hg hb => ?_; have GE357 := GW357; have NB356_357 := nlt hg BK356; have NB357_356 := ngt hg BK356; replace BK356 := bkb BK356 hb; clear hb hg)); go_upto_region 1 with (first | ((with_reducible refine gate_dst (N := 1) rfl ?_); refine bxf #[.int .i64 a0_0, .int .i64 a0_1] 33 HB fun gb356 w3 BK356 GW356 HB hg hb => ?_; have GE356 := GW356; clear hb hg) | ((with_reducible refine gate_dst (N := 2) rfl ?_); refine bxf #[.int .i64 0, .int .i64 0] 33 HB fun gb357 w4 BK357 GW357 HB hg hb => ?_; have GE357 := GW357; have NB356_357 := nlt hg BK356; have NB357_356 := ngt hg BK356; replace BK356 := bkb BK356 hb; clear hb hg)))
 (try simp only [Act.put, List.setIfInBounds_toArray, List.set_cons_zero, List.set_cons_succ])
 go_cut [16] (fun v16 wc => ∃ (kq : Nat) (x16_1 : Bool), v16 = .bool x16_1 ∧ Aside0 (bocageref02_Canon.j0 kq x16_1 a0_0 a0_1 = some (r1, r2)) ∧ Aside0 (kq ≤ k) ∧ Aside0 (wc.heap[gb356]? = some (.cells #[.int .i64 a0_0, .int .i64 a0_1] 33 (0, 0))) ∧ Aside0 (wc.heap[gb357]? = some (.cells #[.int .i64 0, .int .i64 0] 33 (0, 0))) ∧ Aside0 (Below w.heap.size w wc))
 case first =>
  have H := HC2.out; clear HC2; revert H; refine itc (fun c5b0 H => ?_) fun c5b0 H => ?_
  ·(first | rw [c5b0] | (simp only [i64_w, i32_w]; rw [c5b0]) | skip)
   have H' := am H; clear H; have hnb6 := NB356_357.out; have hnc6 := NB357_356.out; obtain ⟨hcz7_0, hcz7_1, hfz7_0, hfz7_1⟩ := s2 BK356; go_wp2
   repeat (go_quiet (fail); try go_wp2)
   go_meet
   case rel => exact ⟨_, (true), rs, H', ⟨by first | omega | exact Nat.le_refl _⟩, ⟨bk BK356⟩, ⟨bk BK357⟩, ⟨bl HB⟩⟩
  ·(first | rw [c5b0] | (simp only [i64_w, i32_w]; rw [c5b0]) | skip)
   by_cases c8 : a0_0 = 0
   ·rw [if_pos c8] at H
    have c8b0 : (a0_0 == 0) = true := beq_iff_eq.mpr c8
    have c8b1 : (a0_0 != 0) = false := bne_eq_false_iff_eq.mpr c8
    clear c8; revert H; refine bnd fun t358 A9 H => ?_
    have H' := am H; clear H; have hnb10 := NB356_357.out; have hnc10 := NB357_356.out; obtain ⟨hcz11_0, hcz11_1, hfz11_0, hfz11_1⟩ := s2 BK356
    go_wp2_with (first | (go_at_call 78; (with_reducible refine (bocageref02_Least64.calls _ _ A9.out).mono ?_); rintro e w' ⟨rfl, ⟨nd, rfl⟩⟩; (try first | exact ⟨rfl, _, World.drewN_drewN _ _ _⟩ | exact ⟨rfl, _, Eq.trans (World.drewN_drewN _ _ _) (congrArg (World.drewN _) (Nat.add_assoc _ _ _))⟩)))
    repeat (go_quiet (first | (go_at_call 78; (with_reducible refine (bocageref02_Least64.calls _ _ A9.out).mono ?_); rintro e w' ⟨rfl, ⟨nd, rfl⟩⟩; (try first | exact ⟨rfl, _, World.drewN_drewN _ _ _⟩ | exact ⟨rfl, _, Eq.trans (World.drewN_drewN _ _ _) (congrArg (World.drewN _) (Nat.add_assoc _ _ _))⟩))); try go_wp2_with (first | (go_at_call 78; (with_reducible refine (bocageref02_Least64.calls _ _ A9.out).mono ?_); rintro e w' ⟨rfl, ⟨nd, rfl⟩⟩; (try first | exact ⟨rfl, _, World.drewN_drewN _ _ _⟩ | exact ⟨rfl, _, Eq.trans (World.drewN_drewN _ _ _) (congrArg (World.drewN _) (Nat.add_assoc _ _ _))⟩))))
    go_meet
    case rel => exact ⟨_, ((a0_1 == t358)), rs, H', ⟨by first | omega | exact Nat.le_refl _⟩, ⟨bk BK356⟩, ⟨bk BK357⟩, ⟨bl HB⟩⟩
   ·rw [if_neg c8] at H
    have c8b0 : (a0_0 == 0) = false := beq_eq_false_iff_ne.mpr c8
    have c8b1 : (a0_0 != 0) = true := bne_iff_ne.mpr c8
    have H' := am H; clear H; have hnb12 := NB356_357.out; have hnc12 := NB357_356.out; obtain ⟨hcz13_0, hcz13_1, hfz13_0, hfz13_1⟩ := s2 BK356; go_wp2
    repeat (go_quiet (fail); try go_wp2)
    go_meet
    case rel => exact ⟨_, (false), rs, H', ⟨by first | omega | exact Nat.le_refl _⟩, ⟨bk BK356⟩, ⟨bk BK357⟩, ⟨bl HB⟩⟩
 case rest =>
  clear HC2
  try clear c1
  try clear p2
  try clear c5
  try clear c5b0
  try clear c6
  try clear c7
  try clear c8
  try clear c8b0
  try clear c8b1
  try clear c10
  try clear c12
  try clear hcz11_0
  try clear hcz11_1
  try clear hcz13_0
  try clear hcz13_1
  try clear hcz7_0
  try clear hcz7_1
  try clear hfz11_0
  try clear hfz11_1
  try clear hfz13_0
  try clear hfz13_1
  try clear hfz7_0
  try clear hfz7_1
  obtain ⟨kq, x16_1, rfl, HA, HJ1, BK356, BK357, HB⟩ := hcut
  cases kq with
  | zero => exact absurd HA.out (by simp [bocageref02_Canon.j0])
  | succ kj1 =>
   have H := HA.out; clear HA
   simp only [bocageref02_Canon.j0] at H
   cases x16_1; rotate_left
   ·replace H := itt H
    simp only [Option.some.injEq, Prod.mk.injEq] at H
    obtain ⟨rfl, rfl⟩ := H
    have hnb15 := NB357_356.out; have hnc15 := NB356_357.out; obtain ⟨_, _, _, _⟩ := s2 BK357; go_wp2
    repeat (go_quiet (fail); try go_wp2)
    refine bodyPost_ret (results_cell_row rfl _ _ gb357 33 #[.int .i64 (-1), .int .i64 0] (0, 0) _ rfl (bkp BK357) Tryz.underlying33 rfl (by kernel_rfl)) rfl ?_
    exact endB HB
   ·replace H := itf H; revert H; refine itc (fun (c17b0 : decide (0 < a0_0) = true) H => ?_) fun (c17b0 : decide (0 < a0_0) = false) H => ?_
    ·simp only [Option.some.injEq, Prod.mk.injEq] at H
     obtain ⟨rfl, rfl⟩ := H
     have hnb18 := NB356_357.out; have hnc18 := NB357_356.out; obtain ⟨_, _, _, _⟩ := s2 BK356; obtain ⟨_, _, _, _⟩ := s2 BK357; go_wp2
     repeat (go_quiet (fail); try go_wp2)
     refine bodyPost_ret (results_cell_row rfl _ _ gb357 33 #[.int .i64 1, .int .i64 0] (0, 0) _ rfl (bkp BK357) Tryz.underlying33 rfl (by kernel_rfl)) rfl ?_
     exact endB HB
    ·simp only [Option.some.injEq, Prod.mk.injEq] at H
     obtain ⟨rfl, rfl⟩ := H
     have hnb21 := NB356_357.out; have hnc21 := NB357_356.out; obtain ⟨_, _, _, _⟩ := s2 BK356; obtain ⟨_, _, _, _⟩ := s2 BK357; go_wp2
     repeat (go_quiet (fail); try go_wp2)
     refine bodyPost_ret (results_cell_row rfl _ _ gb357 33 #[.int .i64 a0_0, .int .i64 a0_1] (0, 0) _ rfl (bkp BK357) Tryz.underlying33 rfl (by kernel_rfl)) rfl ?_
     exact endB HB
def bocageref02_Less.f (k : Nat) (a0_0 : Int) (a0_1 : Int) (a1_0 : Int) (a1_1 : Int) : Option (Bool) := (bocageref02_Canon.f k a0_0 a0_1).bind fun bt361 => ((bocageref02_Canon.f k a1_0 a1_1).bind fun bt363 => (if bt361.1 = bt363.1 then (some (decide (bt361.2 < bt363.2))) else (some (decide (bt361.1 < bt363.1)))))
theorem bocageref02_Less.calls (k : Nat) (a0_0 : Int) (a0_1 : Int) (a1_0 : Int) (a1_1 : Int) (r : Bool) (w : World) (h : bocageref02_Less.f k a0_0 a0_1 a1_0 a1_1 = some r) :
 Calls Tryz.prog 87 #[.agg #[.int .i64 a0_0, .int .i64 a0_1], .agg #[.int .i64 a1_0, .int .i64 a1_1]] w fun e w' => e = .returned (.bool r) ∧ Below w.heap.size w w' := by
 have hu33 := Tryz.underlying33
 have HB := am (Below.refl w.heap.size w)
 unfold bocageref02_Less.f at h; have H := h; clear h; revert H; refine bnd2 fun t361 t362 A3 H => ?_; dsimp only at H
 revert H; refine bnd2 fun t363 t364 A4 H => ?_; dsimp only at H
 by_cases c5 : t361 = t363
 ·rw [if_pos c5] at H
  have c5b0 : (t361 == t363) = true := beq_iff_eq.mpr c5
  have c5b1 : (t361 != t363) = false := bne_eq_false_iff_eq.mpr c5
  clear c5; obtain rfl := Option.some.inj H; go_enter Tryz.func87, Tryz.ntmps87
  go_wp2_with (first | ((with_reducible refine gate_dst (N := 2) rfl ?_); refine bxf #[.int .i64 a0_0, .int .i64 a0_1] 33 HB fun gb359 w6 BK359 GW359 HB hg hb => ?_; have GE359 := GW359; clear hb hg) | ((with_reducible refine gate_dst (N := 3) rfl ?_); refine bxf #[.int .i64 a1_0, .int .i64 a1_1] 33 HB fun gb360 w7 BK360 GW360 HB hg hb => ?_; have GE360 := GW360; have NB359_360 := nlt hg BK359; have NB360_359 := ngt hg BK359; replace BK359 := bkb BK359 hb; clear hb hg; have hnb8 := NB359_360.out; have hnc8 := NB360_359.out; obtain ⟨_, _, _, _⟩ := s2 BK359) | ((with_reducible refine gate_callee (f := 77) rfl ?_); refine gob Tryz.func77 (bocageref02_Canon.calls _ _ _ _ _ _ A3.out) fun w10 hb => ?_; replace BK359 := bkb BK359 hb; replace BK360 := bkb BK360 hb; replace HB := bst HB hb; (try clear hb); (try clear hb2); (try clear hk); (try clear hi); obtain ⟨_, _, _, _⟩ := s2 BK359; obtain ⟨_, _, _, _⟩ := s2 BK360) | ((with_reducible refine gate_callee (f := 77) rfl ?_); refine gob Tryz.func77 (bocageref02_Canon.calls _ _ _ _ _ _ A4.out) fun w13 hb => ?_; replace BK359 := am (blk_below (g := gb359) (o := .cells #[.int .i64 t361, .int .i64 t362] 33 (0, 0)) (bkp BK359) hb); replace BK360 := am (blk_below (bkf BK360 NB360_359) hb); replace HB := bst HB hb; (try clear hb); (try clear hb2); (try clear hk); (try clear hi); obtain ⟨_, _, _, _⟩ := s2 BK360; obtain ⟨_, _, _, _⟩ := s2 BK359)); go_ret; exact endB HB
 ·rw [if_neg c5] at H
  have c5b0 : (t361 == t363) = false := beq_eq_false_iff_ne.mpr c5
  have c5b1 : (t361 != t363) = true := bne_iff_ne.mpr c5
  obtain rfl := Option.some.inj H; go_enter Tryz.func87, Tryz.ntmps87
  go_wp2_with (first | ((with_reducible refine gate_dst (N := 2) rfl ?_); refine bxf #[.int .i64 a0_0, .int .i64 a0_1] 33 HB fun gb359 w16 BK359 GW359 HB hg hb => ?_; have GE359 := GW359; clear hb hg) | ((with_reducible refine gate_dst (N := 3) rfl ?_); refine bxf #[.int .i64 a1_0, .int .i64 a1_1] 33 HB fun gb360 w17 BK360 GW360 HB hg hb => ?_; have GE360 := GW360; have NB359_360 := nlt hg BK359; have NB360_359 := ngt hg BK359; replace BK359 := bkb BK359 hb; clear hb hg; have hnb18 := NB359_360.out; have hnc18 := NB360_359.out; obtain ⟨_, _, _, _⟩ := s2 BK359) | ((with_reducible refine gate_callee (f := 77) rfl ?_); refine gob Tryz.func77 (bocageref02_Canon.calls _ _ _ _ _ _ A3.out) fun w20 hb => ?_; replace BK359 := bkb BK359 hb; replace BK360 := bkb BK360 hb; replace HB := bst HB hb; (try clear hb); (try clear hb2); (try clear hk); (try clear hi); obtain ⟨_, _, _, _⟩ := s2 BK359; obtain ⟨_, _, _, _⟩ := s2 BK360) | ((with_reducible refine gate_callee (f := 77) rfl ?_); refine gob Tryz.func77 (bocageref02_Canon.calls _ _ _ _ _ _ A4.out) fun w23 hb => ?_; replace BK359 := am (blk_below (g := gb359) (o := .cells #[.int .i64 t361, .int .i64 t362] 33 (0, 0)) (bkp BK359) hb); replace BK360 := am (blk_below (bkf BK360 NB360_359) hb); replace HB := bst HB hb; (try clear hb); (try clear hb2); (try clear hk); (try clear hi); obtain ⟨_, _, _, _⟩ := s2 BK360; obtain ⟨_, _, _, _⟩ := s2 BK359)); go_ret; exact endB HB
end Go.Proofs.YtbcpnejdbookkaaGreat.Print
namespace Go.Proofs.YtbcpnejdbookkaaGreat.Print
open Go.RowKit Go.Proofs.YtbcpnejdbookkaaGreatW.PrintWords Go.Proofs.YtbcpnejdbookkaaGreatW.PrintLast Go.Proofs.YtbcpnejdbookkaaGreatW.PrintMore
attribute [local go_sem] max2_int min2_int max_two min_two max_three min_three max_four min_four   -- for this text's walks alone
attribute [local go_sem high] eqA33
def bocageref03_Right.f (k : Nat) (a0_0 : Int) (a0_1 : Int) (a0_2 : Int) (a0_3 : Int) : Option (Bool) := (bocageref02_Canon.f k a0_0 a0_1).bind fun bt366 => (if (bt366.1 == a0_0 && (bt366.2 == a0_1)) = true then ((bocageref02_Canon.f k a0_2 a0_3).bind fun bt368 => (if (bt368.1 == a0_2 && (bt368.2 == a0_3)) = true then ((bocageref02_Less.f k a0_0 a0_1 a0_2 a0_3).bind fun t370 => (some t370)) else (some false))) else (some false))
def bocageref03_Right.T1 : Bool × List (List Nat × List Nat) := (true, [([], []), ([0], [0]), ([1], [1]), ([], []), ([3], [3]), ([2, 4], [2, 4]), ([5, 2], [5]), ([6], [6]), ([7, 6], [6, 7]), ([8, 6, 6], [6, 8]), ([6], [6]), ([10, 6], [6, 10]), ([9, 11, 6], [6, 9, 11]), ([6, 12], [6, 12]), ([13, 9], [13]), ([14], [14]), ([15, 14], [14, 15]), ([14], [14]), ([17, 14], [14, 17]), ([16, 18, 14, 14], [14, 16, 18]), ([14, 19], [14, 19]), ([20, 19, 0, 1, 2, 3, 4, 5, 6, 7, 8, 9, 10, 11, 12, 13, 14, 15, 16, 17, 18, 19, 20], [20])])
def bocageref03_Right.B1 : List Nat := [0, 1, 3, 0, 8, 31, 63, 127, 255, 511, 127, 1151, 4095, 8191, 16383, 32767, 65535, 32767, 163839, 524287, 1048575, 2097151]
theorem bocageref03_Right.tab1 : rtab .any (opsOf Tryz.f86 1) = bocageref03_Right.T1 := by kernel_rfl
theorem bocageref03_Right.bits1 : waitsOk bocageref03_Right.T1.2 bocageref03_Right.B1 = true := by kernel_rfl
theorem bocageref03_Right.calls (k : Nat) (a0_0 : Int) (a0_1 : Int) (a0_2 : Int) (a0_3 : Int) (r : Bool) (w : World) (h : bocageref03_Right.f k a0_0 a0_1 a0_2 a0_3 = some r) :
 Calls Tryz.prog 86 #[.agg #[.int .i64 a0_0, .int .i64 a0_1, .int .i64 a0_2, .int .i64 a0_3]] w fun e w' => e = .returned (.bool r) ∧ Below w.heap.size w w' := by
 have hu35 := Tryz.underlying35; have hu33 := Tryz.underlying33
 have HB := am (Below.refl w.heap.size w)
 unfold bocageref03_Right.f at h; have H := h; clear h; revert H; refine bnd2 fun t366 t367 A2 H => ?_; dsimp only at H
 by_cases c3 : (t366 == a0_0 && (t367 == a0_1)) = true
 ·rw [if_pos c3] at H
  have c3b0 : (t366 == a0_0 && (t367 == a0_1)) = true := c3
  (try (have c3b1 : decide (t366 = a0_0 && (t367 == a0_1)) = true := by simpa using c3))
  (try (have c3b2 : (t366 == a0_0 && (t367 == a0_1)) = true := by simpa using c3))
  clear c3; revert H; refine bnd2 fun t368 t369 A4 H => ?_; dsimp only at H
  by_cases c5 : (t368 == a0_2 && (t369 == a0_3)) = true
  ·rw [if_pos c5] at H
   have c5b0 : (t368 == a0_2 && (t369 == a0_3)) = true := c5
   (try (have c5b1 : decide (t368 = a0_2 && (t369 == a0_3)) = true := by simpa using c5))
   (try (have c5b2 : (t368 == a0_2 && (t369 == a0_3)) = true := by simpa using c5))
   clear c5; revert H; refine bnd fun t370 A6 H => ?_
   obtain rfl := Option.some.inj H; go_enter Tryz.func86, Tryz.ntmps86
   try go_wp2_with (first | ((with_reducible refine gate_dst (N := 1) rfl ?_); refine bxf #[.int .i64 a0_0, .int .i64 a0_1, .int .i64 a0_2, .int .i64 a0_3] 35 HB fun gb365 w7 BK365 GW365 HB hg hb => ?_; have GE365 := GW365; clear hb hg))
   replace BK365 := am (blk_drew BK365.out); replace HB := am (below_drew1 HB.out)
   refine st F22 [] (h4 BK365) fun hHeld => ?_; refine with_tabW bocageref03_Right.tab1 bocageref03_Right.bits1 (fun HT_ HW_ => ?_)
   generalize w7.drew = w8 at BK365 HB hHeld ⊢; refine pw 0 3 HT_ ?_; refine pw 3 6 HT_ ?_; refine tw4 1 4 HT_ HW_ hHeld ?_; refine tw4 4 7 HT_ HW_ hHeld ?_
   refine ca 2 HT_ Tryz.func77 (bocageref02_Canon.calls _ _ _ _ _ _ A2.out) hHeld fun w9 hb hHeld => ?_
   replace BK365 := bkb BK365 hb; replace HB := bst HB hb; clear hb; refine pw 5 8 HT_ ?_; refine pw 6 9 HT_ ?_; refine pw 7 10 HT_ ?_; refine pw 10 13 HT_ ?_; refine tw4 8 11 HT_ HW_ hHeld ?_; refine tw4 11 14 HT_ HW_ hHeld ?_
   refine ca 9 HT_ Tryz.func77 (bocageref02_Canon.calls _ _ _ _ _ _ A4.out) hHeld fun w10 hb hHeld => ?_
   replace BK365 := bkb BK365 hb; replace HB := bst HB hb; clear hb; refine pw 12 15 HT_ ?_; refine pw 13 16 HT_ ?_; refine pw 14 17 HT_ ?_; refine pw 15 18 HT_ ?_; refine pw 17 20 HT_ ?_; refine tw4 16 19 HT_ HW_ hHeld ?_; refine tw4 18 21 HT_ HW_ hHeld ?_
   refine ca 19 HT_ Tryz.func87 (bocageref02_Less.calls _ _ _ _ _ _ _ A6.out) hHeld fun w11 hb hHeld => ?_
   replace BK365 := bkb BK365 hb; replace HB := bst HB hb; clear hb; refine pw 20 23 HT_ ?_; refine pw 21 2 HT_ ?_
   refine dt HT_ ?_
   try go_wp2
   go_ret; exact endB HB
  ·rw [if_neg c5] at H
   have c5b0 : (t368 == a0_2 && (t369 == a0_3)) = false := by simpa using c5
   (try (have c5b1 : decide (t368 = a0_2 && (t369 == a0_3)) = false := by simpa using c5))
   (try (have c5b2 : (t368 == a0_2 && (t369 == a0_3)) = false := by simpa using c5))
   (try (have c5b3 : ¬ (t368 = a0_2 && (t369 == a0_3)) := by simpa using c5))
   clear c5; obtain rfl := Option.some.inj H; go_enter Tryz.func86, Tryz.ntmps86
   try go_wp2_with (first | ((with_reducible refine gate_dst (N := 1) rfl ?_); refine bxf #[.int .i64 a0_0, .int .i64 a0_1, .int .i64 a0_2, .int .i64 a0_3] 35 HB fun gb365 w12 BK365 GW365 HB hg hb => ?_; have GE365 := GW365; clear hb hg))
   replace BK365 := am (blk_drew BK365.out); replace HB := am (below_drew1 HB.out)
   refine st F22 [] (h4 BK365) fun hHeld => ?_; refine with_tabW bocageref03_Right.tab1 bocageref03_Right.bits1 (fun HT_ HW_ => ?_)
   generalize w12.drew = w13 at BK365 HB hHeld ⊢; refine pw 0 3 HT_ ?_; refine pw 3 6 HT_ ?_; refine tw4 1 4 HT_ HW_ hHeld ?_; refine tw4 4 7 HT_ HW_ hHeld ?_
   refine ca 2 HT_ Tryz.func77 (bocageref02_Canon.calls _ _ _ _ _ _ A2.out) hHeld fun w14 hb hHeld => ?_
   replace BK365 := bkb BK365 hb; replace HB := bst HB hb; clear hb; refine pw 5 8 HT_ ?_; refine pw 6 9 HT_ ?_; refine pw 7 10 HT_ ?_; refine pw 10 13 HT_ ?_; refine tw4 8 11 HT_ HW_ hHeld ?_; refine tw4 11 14 HT_ HW_ hHeld ?_
   refine ca 9 HT_ Tryz.func77 (bocageref02_Canon.calls _ _ _ _ _ _ A4.out) hHeld fun w15 hb hHeld => ?_
   replace BK365 := bkb BK365 hb; replace HB := bst HB hb; clear hb; refine pw 12 15 HT_ ?_; refine pw 13 16 HT_ ?_; refine pw 14 17 HT_ ?_; refine px 15 18 HT_ ?_; refine px 16 19 HT_ ?_; refine px 17 20 HT_ ?_; refine px 18 21 HT_ ?_; refine px 19 22 HT_ ?_; refine pw 20 23 HT_ ?_; refine pw 21 2 HT_ ?_
   refine dt HT_ ?_
   try go_wp2
   go_ret; exact endB HB
 ·rw [if_neg c3] at H
  have c3b0 : (t366 == a0_0 && (t367 == a0_1)) = false := by simpa using c3
  (try (have c3b1 : decide (t366 = a0_0 && (t367 == a0_1)) = false := by simpa using c3))
  (try (have c3b2 : (t366 == a0_0 && (t367 == a0_1)) = false := by simpa using c3))
  (try (have c3b3 : ¬ (t366 = a0_0 && (t367 == a0_1)) := by simpa using c3))
  clear c3; obtain rfl := Option.some.inj H; go_enter Tryz.func86, Tryz.ntmps86
  try go_wp2_with (first | ((with_reducible refine gate_dst (N := 1) rfl ?_); refine bxf #[.int .i64 a0_0, .int .i64 a0_1, .int .i64 a0_2, .int .i64 a0_3] 35 HB fun gb365 w16 BK365 GW365 HB hg hb => ?_; have GE365 := GW365; clear hb hg))
  replace BK365 := am (blk_drew BK365.out); replace HB := am (below_drew1 HB.out)
  refine st F22 [] (h4 BK365) fun hHeld => ?_; refine with_tabW bocageref03_Right.tab1 bocageref03_Right.bits1 (fun HT_ HW_ => ?_)
  generalize w16.drew = w17 at BK365 HB hHeld ⊢; refine pw 0 3 HT_ ?_; refine pw 3 6 HT_ ?_; refine tw4 1 4 HT_ HW_ hHeld ?_; refine tw4 4 7 HT_ HW_ hHeld ?_
  refine ca 2 HT_ Tryz.func77 (bocageref02_Canon.calls _ _ _ _ _ _ A2.out) hHeld fun w18 hb hHeld => ?_
  replace BK365 := bkb BK365 hb; replace HB := bst HB hb; clear hb; refine pw 5 8 HT_ ?_; refine pw 6 9 HT_ ?_; refine px 7 10 HT_ ?_; refine px 8 11 HT_ ?_; refine px 9 12 HT_ ?_; refine px 10 13 HT_ ?_; refine px 11 14 HT_ ?_; refine px 12 15 HT_ ?_; refine pw 13 16 HT_ ?_; refine pw 14 17 HT_ ?_; refine px 15 18 HT_ ?_; refine px 16 19 HT_ ?_; refine px 17 20 HT_ ?_; refine px 18 21 HT_ ?_; refine px 19 22 HT_ ?_; refine pw 20 23 HT_ ?_; refine pw 21 2 HT_ ?_
  refine dt HT_ ?_
  try go_wp2
  go_ret; exact endB HB
end Go.Proofs.YtbcpnejdbookkaaGreat.Print
namespace Go.Proofs.YtbcpnejdbookkaaGreat.Print
open Go.RowKit Go.Proofs.YtbcpnejdbookkaaGreatW.PrintWords Go.Proofs.YtbcpnejdbookkaaGreatW.PrintLast Go.Proofs.YtbcpnejdbookkaaGreatW.PrintMore
attribute [local go_sem] max2_int min2_int max_two min_two max_three min_three max_four min_four   -- for this text's walks alone
def bocageref03_Sorted.l0 : Nat → List (S35) → Int → Option (Bool)
  | 0, _, _ => none
  | k + 1, x0, x3 => if x3 < (x0.length : Int) then (if 0 ≤ x3 then ((bocageref03_Right.f k ((rd_T35 x0 x3).f0.f0) ((rd_T35 x0 x3).f0.f1) ((rd_T35 x0 x3).f1.f0) ((rd_T35 x0 x3).f1.f1)).bind fun t372 => (if t372 = true then (if x3 > 0 then (if 0 ≤ (wrap64 (x3 - 1)) then (if (wrap64 (x3 - 1)) < (x0.length : Int) then ((bocageref02_Less.f k ((rd_T35 x0 x3).f0.f0) ((rd_T35 x0 x3).f0.f1) ((rd_T35 x0 (wrap64 (x3 - 1))).f1.f0) ((rd_T35 x0 (wrap64 (x3 - 1))).f1.f1)).bind fun t375 => (if t375 = true then (some false) else (bocageref03_Sorted.l0 k x0 (wrap64 (x3 + 1))))) else (none)) else (none)) else (bocageref03_Sorted.l0 k x0 (wrap64 (x3 + 1)))) else (some false))) else (none)) else (some true)
def bocageref03_Sorted.f (k : Nat) (l0 : List (S35)) : Option (Bool) := bocageref03_Sorted.l0 k l0 0
def bocageref03_Sorted.T4 : Bool × List (List Nat × List Nat) := (true, [([], []), ([], []), ([0, 1], [0, 1]), ([2], [2]), ([3], [3]), ([4], [4]), ([5, 4], [5]), ([6], [6]), ([7, 6], [6, 7]), ([8, 6, 6], [6, 8]), ([9], [9]), ([9], [9]), ([10, 11, 9], [9, 10, 11]), ([12, 9], [9, 12]), ([13, 9], [9, 13]), ([9], [9]), ([9], [9]), ([16, 9], [9, 16]), ([15, 17, 9], [9, 15, 17]), ([18, 9], [9, 18]), ([19, 9], [9, 19]), ([14, 20, 9, 9], [9, 14, 20]), ([9, 21, 6], [6, 9, 21]), ([6, 22], [6, 22])])
def bocageref03_Sorted.B4 : List Nat := [0, 0, 3, 7, 15, 31, 63, 127, 255, 511, 1023, 1023, 4095, 8191, 16383, 1023, 1023, 66559, 230399, 492543, 1016831, 2097151, 4194303, 8388607]
theorem bocageref03_Sorted.tab4 : rtab .any (opsOf Tryz.f117 4) = bocageref03_Sorted.T4 := by kernel_rfl
theorem bocageref03_Sorted.bits4 : waitsOk bocageref03_Sorted.T4.2 bocageref03_Sorted.B4 = true := by kernel_rfl
theorem bocageref03_Sorted.calls (k : Nat) (A0 : Option Addr) (c0 : Nat) (l0 : List (S35)) (r : Bool) (w : World) (hr0 : Kd.C k35 w A0 l0.length l0) (hc0 : l0.length ≤ c0) (h : bocageref03_Sorted.f k l0 = some r) :
 Calls Tryz.prog 117 #[.slice A0 l0.length c0] w fun e w' => e = .returned (.bool r) ∧ Below w.heap.size w w' := by
 have hu35 := Tryz.underlying35; have hu33 := Tryz.underlying33; have HR0 := am hr0; have HC0 := am hc0; clear hr0 hc0
 have HB := am (Below.refl w.heap.size w)
 have H : (bocageref03_Sorted.l0 k l0 0) = some r := h
 clear h; have H' := am H; clear H; go_enter Tryz.func117, Tryz.ntmps117; go_wp2
 go_loopg [3] k (fun kq v3 w' => ∃ (x3_1 : Int), v3 = .int .i64 x3_1 ∧ Aside0 (bocageref03_Sorted.l0 kq l0 x3_1 = some r) ∧ Aside0 (kq ≤ k) ∧ Aside0 (Below w.heap.size w w'))
 case atStart => exact ⟨_, rs, H', ⟨Nat.le_refl _⟩, ⟨bl HB⟩⟩
 case round =>
  clear H'
  try clear c1
  obtain ⟨x3_1, rfl, HA, HK1, HB⟩ := hrel
  cases gk with
  | zero => exact absurd HA.out (by simp [bocageref03_Sorted.l0])
  | succ k1 =>
   have H := HA.out; clear HA
   simp only [bocageref03_Sorted.l0] at H
   revert H; refine itc (fun c2b0 H => ?_) fun c2b0 H => ?_
   ·revert H; refine its fun c3b0 H => ?_
    revert H; refine bnd fun t372 A4 H => ?_
    cases t372; rotate_left
    ·replace H := itt H; revert H; refine itc (fun (c6b0 : decide (0 < x3_1) = true) H => ?_) fun (c6b0 : decide (0 < x3_1) = false) H => ?_
     ·obtain ⟨ji7, hji7⟩ : ∃ j_ : Int, (wrap64 (x3_1 - 1)) = j_ := ⟨_, rfl⟩
      (first | rw [hji7] at H | simp only [hji7] at H)
      (try rw [hji7] at A4)
      have hji7w : (IntKind.i64.wrap (x3_1 - 1)) = ji7 := (i64_w _).trans hji7
      revert H; refine its fun c8b0 H => ?_
      revert H; refine its fun c9b0 H => ?_
      revert H; refine bnd fun t375 A10 H => ?_
      cases t375; rotate_left
      ·replace H := itt H; obtain rfl := Option.some.inj H
       try go_wp2
       replace HB := am (below_drew1 HB.out); have p371 : 0 ≤ (x3_1 : Int) := pd; have q371 : x3_1 < (l0.length : Int) := pd; obtain ⟨ad371, e371, hx371_0, hx371_1, hx371_2, hx371_3⟩ := at_T35 HR0.out x3_1 p371 q371
       have hw371_3 := hx371_3
       have hw371_2 := hx371_2
       have hw371_1 := hx371_1
       have hw371_0 := hx371_0
       cases e371; replace hx371_0 := cl HB hx371_0; replace hx371_1 := cl HB hx371_1; replace hx371_2 := cl HB hx371_2; replace hx371_3 := cl HB hx371_3; replace p371 := eq_true p371; replace q371 := eq_true q371; have p373 : 0 ≤ (x3_1 : Int) := pd; have q373 : x3_1 < (l0.length : Int) := pd; obtain ⟨ad373, e373, hx373_0, hx373_1, hx373_2, hx373_3⟩ := at_T35 HR0.out x3_1 p373 q373
       have hw373_3 := hx373_3
       have hw373_2 := hx373_2
       have hw373_1 := hx373_1
       have hw373_0 := hx373_0
       obtain rfl : ad371 = ad373 := (by injection e373)
       replace hx373_0 := cl HB hx373_0; replace hx373_1 := cl HB hx373_1; replace hx373_2 := cl HB hx373_2; replace hx373_3 := cl HB hx373_3; replace p373 := eq_true p373; replace q373 := eq_true q373; have p374 : 0 ≤ ((ji7) : Int) := pd; have q374 : (ji7) < (l0.length : Int) := pd; obtain ⟨ad374, e374, hx374_0, hx374_1, hx374_2, hx374_3⟩ := at_T35 HR0.out (ji7) p374 q374
       have hw374_3 := hx374_3
       have hw374_2 := hx374_2
       have hw374_1 := hx374_1
       have hw374_0 := hx374_0
       obtain rfl : ad371 = ad374 := (by injection e374)
       replace hx374_0 := cl HB hx374_0; replace hx374_1 := cl HB hx374_1; replace hx374_2 := cl HB hx374_2; replace hx374_3 := cl HB hx374_3; replace p374 := eq_true p374; replace q374 := eq_true q374
       refine st F24 [] (g1 (cl HB hw371_0) (g1 (cl HB hw371_1) (g1 (cl HB hw371_2) (g1 (cl HB hw371_3) (g1 (cl HB hw373_0) (g1 (cl HB hw373_1) (g1 (cl HB hw373_2) (g1 (cl HB hw373_3) (g1 (cl HB hw374_0) (g1 (cl HB hw374_1) (g1 (cl HB hw374_2) (h1 (cl HB hw374_3))))))))))))) fun hHeld => ?_; refine with_tabW bocageref03_Sorted.tab4 bocageref03_Sorted.bits4 (fun HT_ HW_ => ?_)
       generalize wr.drew = w12 at HB hx371_0 hx371_1 hx371_2 hx371_3 hx373_0 hx373_1 hx373_2 hx373_3 hx374_0 hx374_1 hx374_2 hx374_3 hHeld ⊢; refine pw 0 10 HT_ ?_; refine pw 1 11 HT_ ?_; refine pw 2 12 HT_ ?_; refine tw12 3 13 HT_ HW_ hHeld ?_
       refine ca 4 HT_ Tryz.func86 (bocageref03_Right.calls _ _ _ _ _ _ _ A4.out) hHeld fun w13 hb hHeld => ?_
       replace HB := bst HB hb; clear hb; refine pw 5 15 HT_ ?_; refine pw 6 16 HT_ ?_; refine pw 7 17 HT_ ?_; refine pw 8 18 HT_ ?_; refine pw 9 19 HT_ ?_; refine pw 10 20 HT_ ?_; refine pw 11 21 HT_ ?_; refine pw 12 22 HT_ ?_; refine pw 13 23 HT_ ?_; refine pw 15 25 HT_ ?_; refine pw 16 26 HT_ ?_; refine pw 17 27 HT_ ?_; refine pw 18 28 HT_ ?_; refine pw 19 29 HT_ ?_; refine tw12 14 24 HT_ HW_ hHeld ?_; refine tw12 20 30 HT_ HW_ hHeld ?_
       refine ca 21 HT_ Tryz.func87 (bocageref02_Less.calls _ _ _ _ _ _ _ A10.out) hHeld fun w14 hb hHeld => ?_
       replace HB := bst HB hb; clear hb; refine pw 22 32 HT_ ?_; refine pw 23 33 HT_ ?_
       refine dt HT_ ?_
       try go_wp2
       go_ret
       exact ⟨by first | rfl | (simp [errW_none, errW_some] <;> rfl) | (simp only [← hji7]; first | rfl | (simp [errW_none, errW_some] <;> rfl)) | (simp [*, errW_none, errW_some] <;> rfl), by repeat (first | (with_reducible first | exact HB.out | apply below_alloc | apply pw_below_drewN | apply below_drew1) | exact HB.out)⟩
      ·replace H := itf H; have H' := am H; clear H
       try go_wp2
       replace HB := am (below_drew1 HB.out); have p371 : 0 ≤ (x3_1 : Int) := pd; have q371 : x3_1 < (l0.length : Int) := pd; obtain ⟨ad371, e371, hx371_0, hx371_1, hx371_2, hx371_3⟩ := at_T35 HR0.out x3_1 p371 q371
       have hw371_3 := hx371_3
       have hw371_2 := hx371_2
       have hw371_1 := hx371_1
       have hw371_0 := hx371_0
       cases e371; replace hx371_0 := cl HB hx371_0; replace hx371_1 := cl HB hx371_1; replace hx371_2 := cl HB hx371_2; replace hx371_3 := cl HB hx371_3; replace p371 := eq_true p371; replace q371 := eq_true q371; have p373 : 0 ≤ (x3_1 : Int) := pd; have q373 : x3_1 < (l0.length : Int) := pd; obtain ⟨ad373, e373, hx373_0, hx373_1, hx373_2, hx373_3⟩ := at_T35 HR0.out x3_1 p373 q373
       have hw373_3 := hx373_3
       have hw373_2 := hx373_2
       have hw373_1 := hx373_1
       have hw373_0 := hx373_0
       obtain rfl : ad371 = ad373 := (by injection e373)
       replace hx373_0 := cl HB hx373_0; replace hx373_1 := cl HB hx373_1; replace hx373_2 := cl HB hx373_2; replace hx373_3 := cl HB hx373_3; replace p373 := eq_true p373; replace q373 := eq_true q373; have p374 : 0 ≤ ((ji7) : Int) := pd; have q374 : (ji7) < (l0.length : Int) := pd; obtain ⟨ad374, e374, hx374_0, hx374_1, hx374_2, hx374_3⟩ := at_T35 HR0.out (ji7) p374 q374
       have hw374_3 := hx374_3
       have hw374_2 := hx374_2
       have hw374_1 := hx374_1
       have hw374_0 := hx374_0
       obtain rfl : ad371 = ad374 := (by injection e374)
       replace hx374_0 := cl HB hx374_0; replace hx374_1 := cl HB hx374_1; replace hx374_2 := cl HB hx374_2; replace hx374_3 := cl HB hx374_3; replace p374 := eq_true p374; replace q374 := eq_true q374
       refine st F24 [] (g1 (cl HB hw371_0) (g1 (cl HB hw371_1) (g1 (cl HB hw371_2) (g1 (cl HB hw371_3) (g1 (cl HB hw373_0) (g1 (cl HB hw373_1) (g1 (cl HB hw373_2) (g1 (cl HB hw373_3) (g1 (cl HB hw374_0) (g1 (cl HB hw374_1) (g1 (cl HB hw374_2) (h1 (cl HB hw374_3))))))))))))) fun hHeld => ?_; refine with_tabW bocageref03_Sorted.tab4 bocageref03_Sorted.bits4 (fun HT_ HW_ => ?_)
       generalize wr.drew = w15 at HB hx371_0 hx371_1 hx371_2 hx371_3 hx373_0 hx373_1 hx373_2 hx373_3 hx374_0 hx374_1 hx374_2 hx374_3 hHeld ⊢; refine pw 0 10 HT_ ?_; refine pw 1 11 HT_ ?_; refine pw 2 12 HT_ ?_; refine tw12 3 13 HT_ HW_ hHeld ?_
       refine ca 4 HT_ Tryz.func86 (bocageref03_Right.calls _ _ _ _ _ _ _ A4.out) hHeld fun w16 hb hHeld => ?_
       replace HB := bst HB hb; clear hb; refine pw 5 15 HT_ ?_; refine pw 6 16 HT_ ?_; refine pw 7 17 HT_ ?_; refine pw 8 18 HT_ ?_; refine pw 9 19 HT_ ?_; refine pw 10 20 HT_ ?_; refine pw 11 21 HT_ ?_; refine pw 12 22 HT_ ?_; refine pw 13 23 HT_ ?_; refine pw 15 25 HT_ ?_; refine pw 16 26 HT_ ?_; refine pw 17 27 HT_ ?_; refine pw 18 28 HT_ ?_; refine pw 19 29 HT_ ?_; refine tw12 14 24 HT_ HW_ hHeld ?_; refine tw12 20 30 HT_ HW_ hHeld ?_
       refine ca 21 HT_ Tryz.func87 (bocageref02_Less.calls _ _ _ _ _ _ _ A10.out) hHeld fun w17 hb hHeld => ?_
       replace HB := bst HB hb; clear hb; refine pw 22 32 HT_ ?_; refine pw 23 33 HT_ ?_
       refine dt HT_ ?_
       try go_wp2
       go_roundg k1
       case measure => have := HK1.out; omega
       case rel => exact ⟨_, rs, H', kl HK1, ⟨bl HB⟩⟩
     ·have H' := am H; clear H
      try go_wp2
      replace HB := am (below_drew1 HB.out); have p371 : 0 ≤ (x3_1 : Int) := pd; have q371 : x3_1 < (l0.length : Int) := pd; obtain ⟨ad371, e371, hx371_0, hx371_1, hx371_2, hx371_3⟩ := at_T35 HR0.out x3_1 p371 q371
      have hw371_3 := hx371_3
      have hw371_2 := hx371_2
      have hw371_1 := hx371_1
      have hw371_0 := hx371_0
      cases e371; replace hx371_0 := cl HB hx371_0; replace hx371_1 := cl HB hx371_1; replace hx371_2 := cl HB hx371_2; replace hx371_3 := cl HB hx371_3; replace p371 := eq_true p371; replace q371 := eq_true q371
      refine st F24 [] (g1 (cl HB hw371_0) (g1 (cl HB hw371_1) (g1 (cl HB hw371_2) (h1 (cl HB hw371_3))))) fun hHeld => ?_; refine with_tabW bocageref03_Sorted.tab4 bocageref03_Sorted.bits4 (fun HT_ HW_ => ?_)
      generalize wr.drew = w18 at HB hx371_0 hx371_1 hx371_2 hx371_3 hHeld ⊢; refine pw 0 10 HT_ ?_; refine pw 1 11 HT_ ?_; refine pw 2 12 HT_ ?_; refine tw4 3 13 HT_ HW_ hHeld ?_
      refine ca 4 HT_ Tryz.func86 (bocageref03_Right.calls _ _ _ _ _ _ _ A4.out) hHeld fun w19 hb hHeld => ?_
      replace HB := bst HB hb; clear hb; refine pw 5 15 HT_ ?_; refine pw 6 16 HT_ ?_; refine pw 7 17 HT_ ?_; refine pw 8 18 HT_ ?_; refine pw 9 19 HT_ ?_; refine px 10 20 HT_ ?_; refine px 11 21 HT_ ?_; refine px 12 22 HT_ ?_; refine px 13 23 HT_ ?_; refine px 14 24 HT_ ?_; refine px 15 25 HT_ ?_; refine px 16 26 HT_ ?_; refine px 17 27 HT_ ?_; refine px 18 28 HT_ ?_; refine px 19 29 HT_ ?_; refine px 20 30 HT_ ?_; refine px 21 31 HT_ ?_; refine pw 22 32 HT_ ?_; refine pw 23 33 HT_ ?_
      refine dt HT_ ?_
      try go_wp2
      go_roundg k1
      case measure => have := HK1.out; omega
      case rel => exact ⟨_, rs, H', kl HK1, ⟨bl HB⟩⟩
    ·replace H := itf H; obtain rfl := Option.some.inj H
     try go_wp2
     replace HB := am (below_drew1 HB.out); have p371 : 0 ≤ (x3_1 : Int) := pd; have q371 : x3_1 < (l0.length : Int) := pd; obtain ⟨ad371, e371, hx371_0, hx371_1, hx371_2, hx371_3⟩ := at_T35 HR0.out x3_1 p371 q371
     have hw371_3 := hx371_3
     have hw371_2 := hx371_2
     have hw371_1 := hx371_1
     have hw371_0 := hx371_0
     cases e371; replace hx371_0 := cl HB hx371_0; replace hx371_1 := cl HB hx371_1; replace hx371_2 := cl HB hx371_2; replace hx371_3 := cl HB hx371_3; replace p371 := eq_true p371; replace q371 := eq_true q371
     refine st F24 [] (g1 (cl HB hw371_0) (g1 (cl HB hw371_1) (g1 (cl HB hw371_2) (h1 (cl HB hw371_3))))) fun hHeld => ?_; refine with_tabW bocageref03_Sorted.tab4 bocageref03_Sorted.bits4 (fun HT_ HW_ => ?_)
     generalize wr.drew = w20 at HB hx371_0 hx371_1 hx371_2 hx371_3 hHeld ⊢; refine pw 0 10 HT_ ?_; refine pw 1 11 HT_ ?_; refine pw 2 12 HT_ ?_; refine tw4 3 13 HT_ HW_ hHeld ?_
     refine ca 4 HT_ Tryz.func86 (bocageref03_Right.calls _ _ _ _ _ _ _ A4.out) hHeld fun w21 hb hHeld => ?_
     replace HB := bst HB hb; clear hb; refine pw 5 15 HT_ ?_; refine pw 6 16 HT_ ?_; refine px 7 17 HT_ ?_; refine px 8 18 HT_ ?_; refine px 9 19 HT_ ?_; refine px 10 20 HT_ ?_; refine px 11 21 HT_ ?_; refine px 12 22 HT_ ?_; refine px 13 23 HT_ ?_; refine px 14 24 HT_ ?_; refine px 15 25 HT_ ?_; refine px 16 26 HT_ ?_; refine px 17 27 HT_ ?_; refine px 18 28 HT_ ?_; refine px 19 29 HT_ ?_; refine px 20 30 HT_ ?_; refine px 21 31 HT_ ?_; refine px 22 32 HT_ ?_; refine pw 23 33 HT_ ?_
     refine dt HT_ ?_
     try go_wp2
     go_ret; exact endB HB
   ·obtain rfl := Option.some.inj H; go_wp2; go_ret; exact endB HB
def bocageref09_Sound.f (k : Nat) (l0 : List (S37)) : Option (Bool) := (bocageref09_Spans.f k l0).bind fun t376 => ((bocageref03_Sorted.f k t376).bind fun t379 => (some t379))
theorem bocageref09_Sound.calls (k : Nat) (A0 : Option Addr) (c0 : Nat) (l0 : List (S37)) (r : Bool) (w : World) (hr0 : Kd.C k37 w A0 l0.length l0) (hc0 : l0.length ≤ c0) (h : bocageref09_Sound.f k l0 = some r) :
 Calls Tryz.prog 84 #[.slice A0 l0.length c0] w fun e w' => e = .returned (.bool r) ∧ Below w.heap.size w w' := by
 have HR0 := am hr0; have HC0 := am hc0; clear hr0 hc0
 have HB := am (Below.refl w.heap.size w)
 unfold bocageref09_Sound.f at h; have H := h; clear h; revert H; refine bnd fun t376 A2 H => ?_
 revert H; refine bnd fun t379 A3 H => ?_
 obtain rfl := Option.some.inj H; go_enter Tryz.func84, Tryz.ntmps84
 go_wp2_with (first | ((with_reducible refine gate_callee (f := 26) rfl ?_); refine gol (some 4) Tryz.func26 #[.slice A0 l0.length c0] ?_; (with_reducible refine (bocageref09_Spans.calls _ _ _ _ _ _ ?side1 ?side2 A2.out).mono ?_); (case side1 => repeat (first | exact HR0.out | (with_reducible refine Kd.C_alloc ?_ _) | (with_reducible refine Kd.C_drewN ?_ _) | (with_reducible refine Kd.C_drew ?_))); (case side2 => exact HC0.out); rintro e w4 ⟨v377, rfl, ho0, hb⟩; refine ⟨_, rfl, ?_⟩; have HO378 := kw ho0 HB; replace HB := bst HB hb; clear hb ho0; obtain ⟨Ao5, co5, rfl⟩ := Kd.R_slice HO378.out) | ((with_reducible refine gate_callee (f := 117) rfl ?_); refine gol (some 5) Tryz.func117 #[.slice Ao5 t376.length co5] ?_; (with_reducible refine (bocageref03_Sorted.calls _ _ _ _ _ _ (cr HO378) (cv HO378) A3.out).mono ?_); rintro e w6 ⟨rfl, hb⟩; refine ⟨_, rfl, ?_⟩; replace HO378 := krb HO378 hb; replace HB := bst HB hb; clear hb))
 go_ret; exact endB HB
end Go.Proofs.YtbcpnejdbookkaaGreat.Print
namespace Go.Proofs.YtbcpnejdbookkaaGreat.Print
open Go.RowKit Go.Proofs.YtbcpnejdbookkaaGreatW.PrintWords Go.Proofs.YtbcpnejdbookkaaGreatW.PrintLast Go.Proofs.YtbcpnejdbookkaaGreatW.PrintMore
attribute [local go_sem] max2_int min2_int max_two min_two max_three min_three max_four min_four   -- for this text's walks alone
attribute [local go_sem high] eqA33
mutual
def bocageref14_Tidy.l0 : Nat → List (S37) → List (S37) → Int → Int → Bool → Int → Option ((List (S37)))
  | 0, _, _, _, _, _, _ => none
  | k + 1, x1, x5, x6, x381000, x381001, x381002 => if x6 < (x1.length : Int) then (if x381001 = true then (if 0 ≤ x6 then (bocageref14_Tidy.j1 k x1 x5 x6 (((rd_T37 x1 x6).f1) == x381002) x381000 x381001 x381002) else (none)) else (bocageref14_Tidy.j1 k x1 x5 x6 false x381000 x381001 x381002)) else (some x5)
def bocageref14_Tidy.j1 : Nat → List (S37) → List (S37) → Int → Bool → Int → Bool → Int → Option ((List (S37)))
  | 0, _, _, _, _, _, _, _ => none
  | k + 1, x1, x5, x6, x28, x381000, x381001, x381002 => if x28 = true then (bocageref14_Tidy.l0 k x1 x5 (wrap64 (x6 + 1)) x381000 x381001 x381002) else (if x381000 = 0 then (if (wrap64 ((x5.length : Int) - 1)) ≥ 0 then (if 0 ≤ (wrap64 ((x5.length : Int) - 1)) then (if (wrap64 ((x5.length : Int) - 1)) < (x5.length : Int) then (if 0 ≤ x6 then (if x6 < (x1.length : Int) then (if ((rd_T37 x5 (wrap64 ((x5.length : Int) - 1))).f1) = ((rd_T37 x1 x6).f1) then (if (((rd_T37 x5 (wrap64 ((x5.length : Int) - 1))).f0.f1.f0) == ((rd_T37 x1 x6).f0.f0.f0) && (((rd_T37 x5 (wrap64 ((x5.length : Int) - 1))).f0.f1.f1) == ((rd_T37 x1 x6).f0.f0.f1))) = true then (bocageref14_Tidy.l0 k x1 (x5.set ((wrap64 ((x5.length : Int) - 1)) : Int).toNat (⟨(⟨(⟨(rd_T37 x5 (wrap64 ((x5.length : Int) - 1))).f0.f0.f0, (rd_T37 x5 (wrap64 ((x5.length : Int) - 1))).f0.f0.f1⟩ : S33), (⟨(rd_T37 x1 x6).f0.f1.f0, (rd_T37 x1 x6).f0.f1.f1⟩ : S33)⟩ : S35), (rd_T37 x5 (wrap64 ((x5.length : Int) - 1))).f1⟩ : S37)) (wrap64 (x6 + 1)) x381000 x381001 x381002) else (if x5.length < 3518437208883 then (bocageref14_Tidy.l0 k x1 (x5 ++ [(⟨(⟨(⟨(rd_T37 x1 x6).f0.f0.f0, (rd_T37 x1 x6).f0.f0.f1⟩ : S33), (⟨(rd_T37 x1 x6).f0.f1.f0, (rd_T37 x1 x6).f0.f1.f1⟩ : S33)⟩ : S35), (rd_T37 x1 x6).f1⟩ : S37)]) (wrap64 (x6 + 1)) x381000 x381001 x381002) else (none))) else (if x5.length < 3518437208883 then (bocageref14_Tidy.l0 k x1 (x5 ++ [(⟨(⟨(⟨(rd_T37 x1 x6).f0.f0.f0, (rd_T37 x1 x6).f0.f0.f1⟩ : S33), (⟨(rd_T37 x1 x6).f0.f1.f0, (rd_T37 x1 x6).f0.f1.f1⟩ : S33)⟩ : S35), (rd_T37 x1 x6).f1⟩ : S37)]) (wrap64 (x6 + 1)) x381000 x381001 x381002) else (none))) else (none)) else (none)) else (none)) else (none)) else (if 0 ≤ x6 then (if x6 < (x1.length : Int) then (if x5.length < 3518437208883 then (bocageref14_Tidy.l0 k x1 (x5 ++ [(⟨(⟨(⟨(rd_T37 x1 x6).f0.f0.f0, (rd_T37 x1 x6).f0.f0.f1⟩ : S33), (⟨(rd_T37 x1 x6).f0.f1.f0, (rd_T37 x1 x6).f0.f1.f1⟩ : S33)⟩ : S35), (rd_T37 x1 x6).f1⟩ : S37)]) (wrap64 (x6 + 1)) x381000 x381001 x381002) else (none)) else (none)) else (none))) else (if 0 ≤ x6 then (if x6 < (x1.length : Int) then (if x5.length < 3518437208883 then (bocageref14_Tidy.l0 k x1 (x5 ++ [(⟨(⟨(⟨(rd_T37 x1 x6).f0.f0.f0, (rd_T37 x1 x6).f0.f0.f1⟩ : S33), (⟨(rd_T37 x1 x6).f0.f1.f0, (rd_T37 x1 x6).f0.f1.f1⟩ : S33)⟩ : S35), (rd_T37 x1 x6).f1⟩ : S37)]) (wrap64 (x6 + 1)) x381000 x381001 x381002) else (none)) else (none)) else (none)))
end
def bocageref14_Tidy.f (k : Nat) (a0_0 : Int) (a0_1 : Bool) (a0_2 : Int) (l1 : List (S37)) : Option ((List (S37))) := (bocageref09_Sound.f k l1).bind fun t381 => (if t381 = true then (bocageref14_Tidy.l0 k l1 ([] : List (S37)) 0 a0_0 a0_1 a0_2) else (some ([] : List (S37))))
def bocageref14_Tidy.T7 : Bool × List (List Nat × List Nat) := (true, [([], []), ([0], [0]), ([1], [1]), ([2], [2]), ([2], [2]), ([3, 4, 2], [2, 3, 4]), ([5, 2], [2, 5]), ([6, 2], [2, 6]), ([2], [2]), ([8, 2], [2, 8]), ([7, 9, 2], [2, 7, 9]), ([2, 10], [2, 10])])
def bocageref14_Tidy.B7 : List Nat := [0, 1, 3, 7, 7, 31, 63, 127, 7, 263, 1023, 2047]
theorem bocageref14_Tidy.tab7 : rtab .any (opsOf Tryz.f53 7) = bocageref14_Tidy.T7 := by kernel_rfl
theorem bocageref14_Tidy.bits7 : waitsOk bocageref14_Tidy.T7.2 bocageref14_Tidy.B7 = true := by kernel_rfl
def bocageref14_Tidy.T9 : Bool × List (List Nat × List Nat) := (true, [([], []), ([0], [0]), ([1], [1]), ([2], [2]), ([3], [3]), ([4, 3], [3, 4]), ([3, 5], [3, 5]), ([6, 3], [6]), ([7], [7]), ([7], [7]), ([8, 9, 7], [7, 8, 9]), ([10, 7], [7, 10]), ([11, 7], [7, 11]), ([7], [7]), ([7], [7]), ([13, 14, 7], [7, 13, 14]), ([15, 7], [7, 15]), ([16, 7], [7, 16]), ([12, 17, 7], [7, 12, 17]), ([7, 18], [7, 18]), ([19, 7], [19]), ([20], [20]), ([20], [20]), ([21, 22, 20], [20, 21, 22]), ([23, 20], [20, 23]), ([24, 20], [20, 24]), ([25, 20], [20, 25]), ([20], [20]), ([20], [20]), ([27, 28, 20], [20, 27, 28]), ([29, 20], [20, 29]), ([30, 20], [20, 30]), ([31, 20], [20, 31]), ([26, 32, 20], [20, 26, 32]), ([20, 33], [20, 33])])
def bocageref14_Tidy.B9 : List Nat := [0, 1, 3, 7, 15, 31, 63, 127, 255, 255, 1023, 2047, 4095, 255, 255, 24831, 57599, 123135, 262143, 524287, 1048575, 2097151, 2097151, 8388607, 16777215, 33554431, 67108863, 2097151, 2097151, 404750335, 941621247, 2015363071, 4162846719, 8589934591, 17179869183]
theorem bocageref14_Tidy.tab9 : rtab .any (opsOf Tryz.f53 9) = bocageref14_Tidy.T9 := by kernel_rfl
theorem bocageref14_Tidy.bits9 : waitsOk bocageref14_Tidy.T9.2 bocageref14_Tidy.B9 = true := by kernel_rfl
def bocageref14_Tidy.T10 : Bool × List (List Nat × List Nat) := (true, [([], []), ([], []), ([], []), ([], []), ([2, 3], [2, 3]), ([4], [4]), ([5], [5]), ([6], [6]), ([], []), ([], []), ([8, 9], [8, 9]), ([10], [10]), ([11], [11]), ([12], [12]), ([7, 13], [7, 13]), ([0, 1, 0, 1, 2, 3, 4, 5, 6, 7, 8, 9, 10, 11, 12, 13, 14], [0, 1]), ([15, 0, 1, 2, 3, 4, 5, 6, 7, 8, 9, 10, 11, 12, 13, 14], [15]), ([16, 14, 0, 1, 2, 3, 4, 5, 6, 7, 8, 9, 10, 11, 12, 13, 14], [14, 16])])
def bocageref14_Tidy.B10 : List Nat := [0, 0, 0, 0, 12, 28, 60, 124, 0, 0, 768, 1792, 3840, 7936, 16380, 32767, 65535, 131071]
theorem bocageref14_Tidy.tab10 : rtab .any (opsOf Tryz.f53 10) = bocageref14_Tidy.T10 := by kernel_rfl
theorem bocageref14_Tidy.bits10 : waitsOk bocageref14_Tidy.T10.2 bocageref14_Tidy.B10 = true := by kernel_rfl
theorem bocageref14_Tidy.calls (k : Nat) (a0_0 : Int) (a0_1 : Bool) (a0_2 : Int) (A1 : Option Addr) (c1 : Nat) (l1 : List (S37)) (r : List (S37)) (w : World) (hr1 : Kd.C k37 w A1 l1.length l1) (hc1 : l1.length ≤ c1) (h : bocageref14_Tidy.f k a0_0 a0_1 a0_2 l1 = some r) :
 Calls Tryz.prog 53 #[.agg #[.int .i64 a0_0, .bool a0_1, .int .i64 a0_2], .slice A1 l1.length c1] w fun e w' => ∃ v0_ : Value, e = .returned (v0_) ∧ Kd.R k37 37 w' w.heap.size (fun _ => True) v0_ r ∧ Below w.heap.size w w' := by
 have hu79 := Tryz.underlying79; have hu33 := Tryz.underlying33; have hu35 := Tryz.underlying35; have hu37 := Tryz.underlying37; have HR1 := am hr1; have HC1 := am hc1; clear hr1 hc1
 have HB := am (Below.refl w.heap.size w)
 unfold bocageref14_Tidy.f at h; have H := h; clear h
 replace H := Option.bind_eq_some_iff.mp H
 obtain ⟨t381, A30, H⟩ := H
 (try (set_option simprocs false in dsimp only at H))
 have A3 := am A30; clear A30; cases t381; rotate_left
 ·replace H := itt H; have H' := am H; clear H; go_enter Tryz.func53, Tryz.ntmps53
  go_wp2_with (first | ((with_reducible refine gate_dst (N := 2) rfl ?_); refine bxf #[.int .i64 a0_0, .bool a0_1, .int .i64 a0_2] 79 HB fun gb380 w5 BK380 GW380 HB hg hb => ?_; have GE380 := GW380; clear hb hg) | ((with_reducible refine gate_callee (f := 84) rfl ?_); refine gol (some 9) Tryz.func84 #[.slice A1 l1.length c1] ?_; (with_reducible refine (bocageref09_Sound.calls _ _ _ _ _ _ ?side1 ?side2 A3.out).mono ?_); (case side1 => repeat (first | exact (Kd.C_below HR1.out HB.out) | (with_reducible refine Kd.C_alloc ?_ _) | (with_reducible refine Kd.C_drewN ?_ _) | (with_reducible refine Kd.C_drew ?_))); (case side2 => exact HC1.out); rintro e w6 ⟨rfl, hb⟩; refine ⟨_, rfl, ?_⟩; replace BK380 := bkb BK380 hb; replace HB := bst HB hb; clear hb))
  go_loopg [5, 6] k (fun kq v5 v6 w' => ∃ (x5_1 : List (S37)) (x6_1 : Int), v6 = .int .i64 x6_1 ∧ Aside0 (bocageref14_Tidy.l0 kq l1 x5_1 x6_1 a0_0 a0_1 a0_2 = some r) ∧ Aside0 (kq ≤ k) ∧ Aside0 (Kd.R k37 37 w' w.heap.size (fun _ => True) v5 x5_1) ∧ Aside0 (w'.heap[gb380]? = some (.cells #[.int .i64 a0_0, .bool a0_1, .int .i64 a0_2] 79 (0, 0))) ∧ Aside0 (Below w.heap.size w w'))
  case atStart => exact ⟨_, _, rs, H', ⟨Nat.le_refl _⟩, kn, ⟨bk BK380⟩, ⟨bl HB⟩⟩
  case round =>
   clear H'
   try clear c1
   try clear p2
   try clear c4
   try clear c5
   obtain ⟨x5_1, x6_1, rfl, HA, HK1, HO_5, BK380, HB⟩ := hrel
   cases gk with
   | zero => exact absurd HA.out (by simp [bocageref14_Tidy.l0])
   | succ k1 =>
    have H := HA.out; clear HA
    simp only [bocageref14_Tidy.l0] at H
    revert H; refine itc (fun c7b0 H => ?_) fun c7b0 H => ?_
    ·have HC8 := am H; clear H
     go_upto_region 7 with (fail)
     go_cut [28] (fun v28 wc => ∃ (kq : Nat) (x28_7 : Bool), v28 = .bool x28_7 ∧ Aside0 (bocageref14_Tidy.j1 kq l1 x5_1 x6_1 x28_7 a0_0 a0_1 a0_2 = some r) ∧ Aside0 (kq ≤ k1) ∧ Aside0 (Kd.R k37 37 wc w.heap.size (fun _ => True) u5 x5_1) ∧ Aside0 (wc.heap[gb380]? = some (.cells #[.int .i64 a0_0, .bool a0_1, .int .i64 a0_2] 79 (0, 0))) ∧ Aside0 (Below w.heap.size w wc))
     case first =>
      have H := HC8.out; clear HC8; cases a0_1; rotate_left
      ·replace H := itt H; revert H; refine its fun c10b0 H => ?_
       (first | rw [c10b0] | (simp only [i64_w, i32_w]; rw [c10b0]) | skip)
       have H' := am H; clear H
       try go_wp2
       replace HO_5 := am (Kd.R_drew HO_5.out); replace BK380 := am (blk_drew BK380.out); replace HB := am (below_drew1 HB.out); have p382 : 0 ≤ (x6_1 : Int) := pd; have q382 : x6_1 < (l1.length : Int) := pd; obtain ⟨ad382, e382, hx382_0, hx382_1, hx382_2, hx382_3, hx382_4⟩ := at_T37 HR1.out x6_1 p382 q382
       have hw382_4 := hx382_4
       have hw382_3 := hx382_3
       have hw382_2 := hx382_2
       have hw382_1 := hx382_1
       have hw382_0 := hx382_0
       cases e382; replace hx382_0 := cl HB hx382_0; replace hx382_1 := cl HB hx382_1; replace hx382_2 := cl HB hx382_2; replace hx382_3 := cl HB hx382_3; replace hx382_4 := cl HB hx382_4; replace p382 := eq_true p382; replace q382 := eq_true q382
       refine st F12 [] (g3 BK380 (g1 (cl HB hw382_0) (g1 (cl HB hw382_1) (g1 (cl HB hw382_2) (g1 (cl HB hw382_3) (h1 (cl HB hw382_4))))))) fun hHeld => ?_; refine with_tabW bocageref14_Tidy.tab7 bocageref14_Tidy.bits7 (fun HT_ HW_ => ?_)
       generalize wr.drew = w11 at HO_5 BK380 HB hx382_0 hx382_1 hx382_2 hx382_3 hx382_4 hHeld ⊢; refine pw 0 17 HT_ ?_; refine tw8 1 18 HT_ HW_ hHeld ?_; refine pw 2 19 HT_ ?_; refine pw 3 20 HT_ ?_; refine pw 4 21 HT_ ?_; refine pw 5 22 HT_ ?_; refine pw 6 23 HT_ ?_; refine pw 8 25 HT_ ?_; refine tw8 7 24 HT_ HW_ hHeld ?_; refine tw8 9 26 HT_ HW_ hHeld ?_; refine pw 10 27 HT_ ?_; refine pw 11 28 HT_ ?_
       refine dt HT_ ?_
       try go_wp2
       go_meet
       case rel => exact ⟨_, ((((rd_T37 l1 x6_1).f1) == a0_2)), rs, H', ⟨by have := HK1.out; first | omega | exact Nat.le_refl _⟩, ⟨kr HO_5⟩, ⟨bk BK380⟩, ⟨bl HB⟩⟩
      ·replace H := itf H; have H' := am H; clear H
       try go_wp2
       replace HO_5 := am (Kd.R_drew HO_5.out); replace BK380 := am (blk_drew BK380.out); replace HB := am (below_drew1 HB.out)
       refine st F12 [] (h3 BK380) fun hHeld => ?_; refine with_tabW bocageref14_Tidy.tab7 bocageref14_Tidy.bits7 (fun HT_ HW_ => ?_)
       generalize wr.drew = w12 at HO_5 BK380 HB hHeld ⊢; refine pw 0 17 HT_ ?_; refine tw3 1 18 HT_ HW_ hHeld ?_; refine pw 2 19 HT_ ?_; refine px 3 20 HT_ ?_; refine px 4 21 HT_ ?_; refine px 5 22 HT_ ?_; refine px 6 23 HT_ ?_; refine px 7 24 HT_ ?_; refine px 8 25 HT_ ?_; refine px 9 26 HT_ ?_; refine px 10 27 HT_ ?_; refine pw 11 28 HT_ ?_
       refine dt HT_ ?_
       try go_wp2
       go_meet
       case rel => exact ⟨_, (false), rs, H', ⟨by have := HK1.out; first | omega | exact Nat.le_refl _⟩, ⟨kr HO_5⟩, ⟨bk BK380⟩, ⟨bl HB⟩⟩
     case rest =>
      clear HC8
      try clear c1
      try clear p2
      try clear p3
      try clear q3
      try clear hx3
      try clear c4
      try clear c5
      try clear c7
      try clear c7b0
      try clear c8
      try clear c9
      try clear c10
      try clear c10b0
      try clear hx382_0
      try clear hx382_1
      try clear hx382_2
      try clear hx382_3
      try clear hx382_4
      try clear p2
      try clear p382
      try clear q382
      obtain ⟨kq, x28_7, rfl, HA, HJ7, HO_5, BK380, HB⟩ := hcut
      cases kq with
      | zero => exact absurd HA.out (by simp [bocageref14_Tidy.j1])
      | succ kj7 =>
       have H := HA.out; clear HA
       simp only [bocageref14_Tidy.j1] at H
       cases x28_7; rotate_left
       ·replace H := itt H; have H' := am H; clear H; go_wp2
        go_roundg kj7
        case measure => have := HK1.out; have := HJ7.out; omega
        case rel => exact ⟨_, _, rs, H', ⟨by have := HK1.out; have := HJ7.out; omega⟩, ⟨kr HO_5⟩, ⟨bk BK380⟩, ⟨bl HB⟩⟩
       ·replace H := itf H
        by_cases c14 : a0_0 = 0
        ·rw [if_pos c14] at H
         have c14b0 : (a0_0 == 0) = true := beq_iff_eq.mpr c14
         have c14b1 : (a0_0 != 0) = false := bne_eq_false_iff_eq.mpr c14
         clear c14; revert H; refine itc (fun (c15b0 : decide (0 ≤ (wrap64 ((x5_1.length : Int) - 1))) = true) H => ?_) fun (c15b0 : decide (0 ≤ (wrap64 ((x5_1.length : Int) - 1))) = false) H => ?_
         ·obtain ⟨ji16, hji16⟩ : ∃ j_ : Int, (wrap64 ((x5_1.length : Int) - 1)) = j_ := ⟨_, rfl⟩
          (first | rw [hji16] at H | simp only [hji16] at H)
          (try rw [hji16] at c15b0)
          have hji16w : (IntKind.i64.wrap ((x5_1.length : Int) - 1)) = ji16 := (i64_w _).trans hji16
          revert H; refine its fun c17b0 H => ?_
          revert H; refine its fun c18b0 H => ?_
          revert H; refine its fun c19b0 H => ?_
          revert H; refine its fun c20b0 H => ?_
          by_cases c21 : ((rd_T37 x5_1 (ji16)).f1) = ((rd_T37 l1 x6_1).f1)
          ·rw [if_pos c21] at H
           have c21b0 : (((rd_T37 x5_1 (ji16)).f1) == ((rd_T37 l1 x6_1).f1)) = true := beq_iff_eq.mpr c21
           have c21b1 : (((rd_T37 x5_1 (ji16)).f1) != ((rd_T37 l1 x6_1).f1)) = false := bne_eq_false_iff_eq.mpr c21
           clear c21
           by_cases c22 : (((rd_T37 x5_1 (ji16)).f0.f1.f0) == ((rd_T37 l1 x6_1).f0.f0.f0) && (((rd_T37 x5_1 (ji16)).f0.f1.f1) == ((rd_T37 l1 x6_1).f0.f0.f1))) = true
           ·rw [if_pos c22] at H
            have c22b0 : (((rd_T37 x5_1 (ji16)).f0.f1.f0) == ((rd_T37 l1 x6_1).f0.f0.f0) && (((rd_T37 x5_1 (ji16)).f0.f1.f1) == ((rd_T37 l1 x6_1).f0.f0.f1))) = true := c22
            (try (have c22b1 : decide (((rd_T37 x5_1 (ji16)).f0.f1.f0) = ((rd_T37 l1 x6_1).f0.f0.f0) && (((rd_T37 x5_1 (ji16)).f0.f1.f1) == ((rd_T37 l1 x6_1).f0.f0.f1))) = true := by simpa using c22))
            (try (have c22b2 : (((rd_T37 x5_1 (ji16)).f0.f1.f0) == ((rd_T37 l1 x6_1).f0.f0.f0) && (((rd_T37 x5_1 (ji16)).f0.f1.f1) == ((rd_T37 l1 x6_1).f0.f0.f1))) = true := by simpa using c22))
            clear c22; generalize hy389 : x5_1.set ((ji16) : Int).toNat (⟨(⟨(⟨(rd_T37 x5_1 (ji16)).f0.f0.f0, (rd_T37 x5_1 (ji16)).f0.f0.f1⟩ : S33), (⟨(rd_T37 l1 x6_1).f0.f1.f0, (rd_T37 l1 x6_1).f0.f1.f1⟩ : S33)⟩ : S35), (rd_T37 x5_1 (ji16)).f1⟩ : S37) = y389 at H; have Ny389 := am hy389.symm; clear hy389; have H' := am H; clear H
            obtain ⟨Ao24, co24, eo24⟩ := Kd.R_slice HO_5.out
            subst eo24
            try go_wp2
            replace HO_5 := am (Kd.R_drew HO_5.out); replace BK380 := am (blk_drew BK380.out); replace HB := am (below_drew1 HB.out)
            obtain ⟨ad383, e383, hx383_0, hx383_1, hx383_2, hx383_3, hx383_4, p383, q383⟩ := ay37 (Kd.R_reads' HO_5.out).2.2 (ji16)
            cases e383; have p384 : 0 ≤ (x6_1 : Int) := pd; have q384 : x6_1 < (l1.length : Int) := pd; obtain ⟨ad384, e384, hx384_0, hx384_1, hx384_2, hx384_3, hx384_4⟩ := at_T37 HR1.out x6_1 p384 q384
            have hw384_4 := hx384_4
            have hw384_3 := hx384_3
            have hw384_2 := hx384_2
            have hw384_1 := hx384_1
            have hw384_0 := hx384_0
            cases e384; replace hx384_0 := cl HB hx384_0; replace hx384_1 := cl HB hx384_1; replace hx384_2 := cl HB hx384_2; replace hx384_3 := cl HB hx384_3; replace hx384_4 := cl HB hx384_4; replace p384 := eq_true p384; replace q384 := eq_true q384
            obtain ⟨ad385, e385, hx385_0, hx385_1, hx385_2, hx385_3, hx385_4, p385, q385⟩ := ay37 (Kd.R_reads' HO_5.out).2.2 (ji16)
            obtain rfl : ad383 = ad385 := (by injection e385)
            have p386 : 0 ≤ (x6_1 : Int) := pd; have q386 : x6_1 < (l1.length : Int) := pd; obtain ⟨ad386, e386, hx386_0, hx386_1, hx386_2, hx386_3, hx386_4⟩ := at_T37 HR1.out x6_1 p386 q386
            have hw386_4 := hx386_4
            have hw386_3 := hx386_3
            have hw386_2 := hx386_2
            have hw386_1 := hx386_1
            have hw386_0 := hx386_0
            obtain rfl : ad384 = ad386 := (by injection e386)
            replace hx386_0 := cl HB hx386_0; replace hx386_1 := cl HB hx386_1; replace hx386_2 := cl HB hx386_2; replace hx386_3 := cl HB hx386_3; replace hx386_4 := cl HB hx386_4; replace p386 := eq_true p386; replace q386 := eq_true q386
            refine st F35 [] (g3 BK380 (g1 hx383_0 (g1 hx383_1 (g1 hx383_2 (g1 hx383_3 (g1 hx383_4 (g1 (cl HB hw384_0) (g1 (cl HB hw384_1) (g1 (cl HB hw384_2) (g1 (cl HB hw384_3) (g1 (cl HB hw384_4) (g1 hx385_0 (g1 hx385_1 (g1 hx385_2 (g1 hx385_3 (g1 hx385_4 (g1 (cl HB hw386_0) (g1 (cl HB hw386_1) (g1 (cl HB hw386_2) (g1 (cl HB hw386_3) (h1 (cl HB hw386_4)))))))))))))))))))))) fun hHeld => ?_; refine with_tabW bocageref14_Tidy.tab9 bocageref14_Tidy.bits9 (fun HT_ HW_ => ?_)
            generalize wc.drew = w25 at HO_5 BK380 HB hx383_0 hx383_1 hx383_2 hx383_3 hx383_4 hx384_0 hx384_1 hx384_2 hx384_3 hx384_4 hx385_0 hx385_1 hx385_2 hx385_3 hx385_4 hx386_0 hx386_1 hx386_2 hx386_3 hx386_4 hHeld ⊢; refine pw 0 32 HT_ ?_
            refine take_ (i := 1) (N := some 33) (v := ?_) (a' := ?_) #[true, true, false, false, false, false, false, false, false, false, false, false, false, false, false, false, false, false, false, false, false, false, false, false, false, false, false, false, false, false, false, false, false, false, false] rfl rfl (take_ofW HT_.out HW_.out (by kernel_rfl)) (fun _ _ _ h => h) (Or.inl ⟨by rfl, ?_⟩) hHeld ?_ ?_
            rotate_left
            ·rintro w' ⟨s0, s1, s2, s3, s4, s5, s6, s7, s8, s9, s10, s11, s12, s13, s14, s15, s16, s17, s18, s19, s20, s21, s22⟩
             go_simp
             with_reducible rfl
            rotate_left
            ·simp only [Act.put, List.setIfInBounds_toArray, List.set_cons_zero, List.set_cons_succ, i64_w, i32_w]
             rfl
            refine pw 2 34 HT_ ?_; refine pw 3 35 HT_ ?_; refine pw 4 36 HT_ ?_; refine pw 5 37 HT_ ?_; refine pw 6 38 HT_ ?_; refine pw 7 39 HT_ ?_; refine pw 8 40 HT_ ?_; refine pw 9 41 HT_ ?_; refine pw 10 42 HT_ ?_; refine pw 11 43 HT_ ?_; refine pw 13 45 HT_ ?_; refine pw 14 46 HT_ ?_; refine pw 15 47 HT_ ?_; refine pw 16 48 HT_ ?_
            refine take_ (i := 12) (N := some 44) (v := ?_) (a' := ?_) #[true, true, true, true, true, true, true, true, true, true, true, true, true, true, true, true, true, false, false, false, false, false, false, false, false, false, false, false, false, false, false, false, false, false, false] rfl rfl (take_ofW HT_.out HW_.out (by kernel_rfl)) (fun _ _ _ h => h) (Or.inl ⟨by rfl, ?_⟩) hHeld ?_ ?_
            rotate_left
            ·rintro w' ⟨s0, s1, s2, s3, s4, s5, s6, s7, s8, s9, s10, s11, s12, s13, s14, s15, s16, s17, s18, s19, s20, s21, s22⟩
             go_simp
             with_reducible rfl
            rotate_left
            ·simp only [Act.put, List.setIfInBounds_toArray, List.set_cons_zero, List.set_cons_succ, i64_w, i32_w]
             rfl
            refine take_ (i := 17) (N := some 49) (v := ?_) (a' := ?_) #[true, true, true, true, true, true, true, true, true, true, true, true, true, true, true, true, true, true, false, false, false, false, false, false, false, false, false, false, false, false, false, false, false, false, false] rfl rfl (take_ofW HT_.out HW_.out (by kernel_rfl)) (fun _ _ _ h => h) (Or.inl ⟨by rfl, ?_⟩) hHeld ?_ ?_
            rotate_left
            ·rintro w' ⟨s0, s1, s2, s3, s4, s5, s6, s7, s8, s9, s10, s11, s12, s13, s14, s15, s16, s17, s18, s19, s20, s21, s22⟩
             go_simp
             with_reducible rfl
            rotate_left
            ·simp only [Act.put, List.setIfInBounds_toArray, List.set_cons_zero, List.set_cons_succ, i64_w, i32_w]
             rfl
            refine pw 18 50 HT_ ?_; refine pw 19 51 HT_ ?_; refine pw 20 52 HT_ ?_; refine pw 21 53 HT_ ?_; refine pw 22 54 HT_ ?_; refine pw 23 55 HT_ ?_; refine pw 24 56 HT_ ?_; refine pw 25 57 HT_ ?_; refine pw 27 59 HT_ ?_; refine pw 28 60 HT_ ?_; refine pw 29 61 HT_ ?_; refine pw 30 62 HT_ ?_; refine pw 31 63 HT_ ?_
            refine take_ (i := 26) (N := some 58) (v := ?_) (a' := ?_) #[true, true, true, true, true, true, true, true, true, true, true, true, true, true, true, true, true, true, true, true, true, true, true, true, true, true, true, true, true, true, true, true, false, false, false] rfl rfl (take_ofW HT_.out HW_.out (by kernel_rfl)) (fun _ _ _ h => h) (Or.inl ⟨by rfl, ?_⟩) hHeld ?_ ?_
            rotate_left
            ·rintro w' ⟨s0, s1, s2, s3, s4, s5, s6, s7, s8, s9, s10, s11, s12, s13, s14, s15, s16, s17, s18, s19, s20, s21, s22⟩
             go_simp
             with_reducible rfl
            rotate_left
            ·simp only [Act.put, List.setIfInBounds_toArray, List.set_cons_zero, List.set_cons_succ, i64_w, i32_w]
             rfl
            refine take_ (i := 32) (N := some 64) (v := ?_) (a' := ?_) #[true, true, true, true, true, true, true, true, true, true, true, true, true, true, true, true, true, true, true, true, true, true, true, true, true, true, true, true, true, true, true, true, true, false, false] rfl rfl (take_ofW HT_.out HW_.out (by kernel_rfl)) (fun _ _ _ h => h) (Or.inl ⟨by rfl, ?_⟩) hHeld ?_ ?_
            rotate_left
            ·rintro w' ⟨s0, s1, s2, s3, s4, s5, s6, s7, s8, s9, s10, s11, s12, s13, s14, s15, s16, s17, s18, s19, s20, s21, s22⟩
             go_simp
             with_reducible rfl
            rotate_left
            ·simp only [Act.put, List.setIfInBounds_toArray, List.set_cons_zero, List.set_cons_succ, i64_w, i32_w]
             rfl
            refine pw 33 65 HT_ ?_; refine pw 34 66 HT_ ?_
            refine dt HT_ ?_
            try go_wp2
            replace HO_5 := am (Kd.R_drew HO_5.out); replace BK380 := am (blk_drew BK380.out); replace HB := am (below_drew1 HB.out)
            obtain ⟨ad387, e387, hx387_0, hx387_1, hx387_2, hx387_3, hx387_4, p387, q387⟩ := ay37 (Kd.R_reads' HO_5.out).2.2 (ji16)
            obtain rfl : ad383 = ad387 := (by injection e387)
            have p388 : 0 ≤ (x6_1 : Int) := pd; have q388 : x6_1 < (l1.length : Int) := pd; obtain ⟨ad388, e388, hx388_0, hx388_1, hx388_2, hx388_3, hx388_4⟩ := at_T37 HR1.out x6_1 p388 q388
            have hw388_4 := hx388_4
            have hw388_3 := hx388_3
            have hw388_2 := hx388_2
            have hw388_1 := hx388_1
            have hw388_0 := hx388_0
            obtain rfl : ad384 = ad388 := (by injection e388)
            replace hx388_0 := cl HB hx388_0; replace hx388_1 := cl HB hx388_1; replace hx388_2 := cl HB hx388_2; replace hx388_3 := cl HB hx388_3; replace hx388_4 := cl HB hx388_4; replace p388 := eq_true p388; replace q388 := eq_true q388; have p23 : 0 ≤ ((ji16) : Int) := pd; have q23 : ((ji16) : Int) < ((x5_1.length : Int) : Int) := pd
            obtain ⟨go23, co23, eo23, gb23, gl23, cl23, HG23⟩ := Kd.R_form HO_5.out (by omega)
            (first | cases eo23 | (injection eo23 with ea_ en_ ec_; (first | subst ea_ | (injection ea_ with ea_; subst ea_)); subst ec_; clear en_))
            have GB23 := am gb23; have GG23 := am HG23; clear gb23 gl23 HG23
            (first | simp only [add_plain] at hx383_0 | skip)
            (first | simp only [add_plain] at hx383_1 | skip)
            (first | simp only [add_plain] at hx383_2 | skip)
            (first | simp only [add_plain] at hx383_3 | skip)
            (first | simp only [add_plain] at hx383_4 | skip)
            (first | simp only [add_plain] at hx385_0 | skip)
            (first | simp only [add_plain] at hx385_1 | skip)
            (first | simp only [add_plain] at hx385_2 | skip)
            (first | simp only [add_plain] at hx385_3 | skip)
            (first | simp only [add_plain] at hx385_4 | skip)
            (first | simp only [add_plain] at hx387_0 | skip)
            (first | simp only [add_plain] at hx387_1 | skip)
            (first | simp only [add_plain] at hx387_2 | skip)
            (first | simp only [add_plain] at hx387_3 | skip)
            (first | simp only [add_plain] at hx387_4 | skip)
            obtain ⟨ce23, hcl23, hM23, hcc23, hfr23⟩ := Kd.R_elem HO_5.out z37 ((ji16) : Int) p23 q23
            obtain rfl := k37_openM hM23
            have hx23_0 : World.cell? _ ⟨go23, ((ji16) : Int).toNat * 5, none⟩ = some (.int .i64 ((rd_T37 x5_1 (ji16)).f0.f0.f0)) := hcc23 0 _ rfl
            have hx23_1 : World.cell? _ ⟨go23, ((ji16) : Int).toNat * 5 + 1, none⟩ = some (.int .i64 ((rd_T37 x5_1 (ji16)).f0.f0.f1)) := hcc23 1 _ rfl
            have hx23_2 : World.cell? _ ⟨go23, ((ji16) : Int).toNat * 5 + 2, none⟩ = some (.int .i64 ((rd_T37 x5_1 (ji16)).f0.f1.f0)) := hcc23 2 _ rfl
            have hx23_3 : World.cell? _ ⟨go23, ((ji16) : Int).toNat * 5 + 3, none⟩ = some (.int .i64 ((rd_T37 x5_1 (ji16)).f0.f1.f1)) := hcc23 3 _ rfl
            have hx23_4 : World.cell? _ ⟨go23, ((ji16) : Int).toNat * 5 + 4, none⟩ = some (.int .i64 ((rd_T37 x5_1 (ji16)).f1)) := hcc23 4 _ rfl
            have hf23_0 : World.frozen? _ ⟨go23, ((ji16) : Int).toNat * 5, none⟩ = false := hfr23 0
            have hf23_1 : World.frozen? _ ⟨go23, ((ji16) : Int).toNat * 5 + 1, none⟩ = false := hfr23 1
            have hf23_2 : World.frozen? _ ⟨go23, ((ji16) : Int).toNat * 5 + 2, none⟩ = false := hfr23 2
            have hf23_3 : World.frozen? _ ⟨go23, ((ji16) : Int).toNat * 5 + 3, none⟩ = false := hfr23 3
            have hf23_4 : World.frozen? _ ⟨go23, ((ji16) : Int).toNat * 5 + 4, none⟩ = false := hfr23 4
            clear hcl23 hcc23 hfr23 hM23; replace p23 := eq_true p23; replace q23 := eq_true q23
            obtain ⟨ce27, hcl27, hM27, hcc27, hfr27⟩ := Kd.R_elem HO_5.out z37 ((ji16) : Int) pd (by have h_ : ((ji16) : Int) < ((x5_1.length : Int) : Int) := pd; first | exact h_ | (have e_ := (Kd.R_reads' HO_5.out).1; omega) | simpa using h_)
            obtain rfl := k37_openM hM27
            have HP27 := (Kd.R_seg HO_5.out ((ji16) : Int) pd (by have h_ : ((ji16) : Int) < ((x5_1.length : Int) : Int) := pd; first | exact h_ | (have e_ := (Kd.R_reads' HO_5.out).1; omega) | simpa using h_) (seg := [.int .i64 ((rd_T37 x5_1 (ji16)).f0.f0.f0), .int .i64 ((rd_T37 x5_1 (ji16)).f0.f0.f1), .int .i64 ((rd_T37 l1 x6_1).f0.f1.f0), .int .i64 ((rd_T37 l1 x6_1).f0.f1.f1)]) (j := 0) hcl27 hcc27 (show 4 ≤ 5 from by decide) (x' := (⟨(⟨(⟨(rd_T37 x5_1 (ji16)).f0.f0.f0, (rd_T37 x5_1 (ji16)).f0.f0.f1⟩ : S33), (⟨(rd_T37 l1 x6_1).f0.f1.f0, (rd_T37 l1 x6_1).f0.f1.f1⟩ : S33)⟩ : S35), (rd_T37 x5_1 (ji16)).f1⟩ : S37)) (k37_mkM _ _ _ (⟨(⟨(⟨(rd_T37 x5_1 (ji16)).f0.f0.f0, (rd_T37 x5_1 (ji16)).f0.f0.f1⟩ : S33), (⟨(rd_T37 l1 x6_1).f0.f1.f0, (rd_T37 l1 x6_1).f0.f1.f1⟩ : S33)⟩ : S35), (rd_T37 x5_1 (ji16)).f1⟩ : S37) ) (fun _ hk => hk)).1
            rw [← Ny389.out] at HP27
            have HQ27 := am HP27; clear hcl27 hcc27 hfr27 hM27 HP27
            refine st F18 [17] (g1 hx387_0 (g1 hx387_1 (g1 hx387_2 (g1 hx387_3 (g1 hx387_4 (g1 (cl HB hw388_0) (g1 (cl HB hw388_1) (g1 (cl HB hw388_2) (g1 (cl HB hw388_3) (h1 (cl HB hw388_4))))))))))) fun hHeld => ?_; refine with_tabW bocageref14_Tidy.tab10 bocageref14_Tidy.bits10 (fun HT_ HW_ => ?_)
            generalize w25.drew = w26 at HO_5 BK380 HB GG23 HQ27 hf23_0 hf23_1 hf23_2 hf23_3 hf23_4 hx23_0 hx23_1 hx23_2 hx23_3 hx23_4 hx383_0 hx383_1 hx383_2 hx383_3 hx383_4 hx385_0 hx385_1 hx385_2 hx385_3 hx385_4 hx387_0 hx387_1 hx387_2 hx387_3 hx387_4 hx388_0 hx388_1 hx388_2 hx388_3 hx388_4 hHeld ⊢; refine pw 0 67 HT_ ?_; refine pw 1 68 HT_ ?_; refine pw 2 69 HT_ ?_; refine pw 3 70 HT_ ?_; refine pw 4 71 HT_ ?_; refine pw 5 72 HT_ ?_; refine pw 6 73 HT_ ?_; refine pw 8 75 HT_ ?_; refine pw 9 76 HT_ ?_; refine pw 10 77 HT_ ?_; refine pw 11 78 HT_ ?_; refine pw 12 79 HT_ ?_; refine tw10 7 74 HT_ HW_ hHeld ?_; refine tw10 13 80 HT_ HW_ hHeld ?_; refine pw 14 81 HT_ ?_; refine pw 15 82 HT_ ?_; refine pw 16 83 HT_ ?_
            refine la 17 HT_ fun K hK => ?_
            refine skip_ (w1 := ?_) (by rfl) rfl ?_ ?_
            rotate_left
            ·go_simp
             rfl
            refine hK.out _ _ ?_; clear hK K
            refine dt HT_ ?_
            try go_wp2
            go_roundg kj7
            case measure => have := HK1.out; have := HJ7.out; omega
            case rel => exact ⟨_, _, rs, H', ⟨by have := HK1.out; have := HJ7.out; omega⟩, ⟨kr HQ27⟩, ⟨by (with_reducible repeat (first | refine blk_drewN ?_ _ | refine blk_drew ?_ | refine blk_alloc ?_ _)); refine blk_far ?_ (by have h_ := Kd.R_ne HO_5.out BK380.out (by decide); intro e_; exact h_ (by rw [e_]; rfl)) _; (with_reducible repeat (first | refine blk_drewN ?_ _ | refine blk_drew ?_ | refine blk_alloc ?_ _)); refine blk_far ?_ (by have h_ := Kd.R_ne HO_5.out BK380.out (by decide); intro e_; exact h_ (by rw [e_]; rfl)) _; (with_reducible repeat (first | refine blk_drewN ?_ _ | refine blk_drew ?_ | refine blk_alloc ?_ _)); refine blk_far ?_ (by have h_ := Kd.R_ne HO_5.out BK380.out (by decide); intro e_; exact h_ (by rw [e_]; rfl)) _; (with_reducible repeat (first | refine blk_drewN ?_ _ | refine blk_drew ?_ | refine blk_alloc ?_ _)); refine blk_far ?_ (by have h_ := Kd.R_ne HO_5.out BK380.out (by decide); intro e_; exact h_ (by rw [e_]; rfl)) _; (with_reducible repeat (first | refine blk_drewN ?_ _ | refine blk_drew ?_ | refine blk_alloc ?_ _)); exact BK380.out⟩, ⟨bl HB⟩⟩
           ·rw [if_neg c22] at H
            have c22b0 : (((rd_T37 x5_1 (ji16)).f0.f1.f0) == ((rd_T37 l1 x6_1).f0.f0.f0) && (((rd_T37 x5_1 (ji16)).f0.f1.f1) == ((rd_T37 l1 x6_1).f0.f0.f1))) = false := by simpa using c22
            (try (have c22b1 : decide (((rd_T37 x5_1 (ji16)).f0.f1.f0) = ((rd_T37 l1 x6_1).f0.f0.f0) && (((rd_T37 x5_1 (ji16)).f0.f1.f1) == ((rd_T37 l1 x6_1).f0.f0.f1))) = false := by simpa using c22))
            (try (have c22b2 : (((rd_T37 x5_1 (ji16)).f0.f1.f0) == ((rd_T37 l1 x6_1).f0.f0.f0) && (((rd_T37 x5_1 (ji16)).f0.f1.f1) == ((rd_T37 l1 x6_1).f0.f0.f1))) = false := by simpa using c22))
            (try (have c22b3 : ¬ (((rd_T37 x5_1 (ji16)).f0.f1.f0) = ((rd_T37 l1 x6_1).f0.f0.f0) && (((rd_T37 x5_1 (ji16)).f0.f1.f1) == ((rd_T37 l1 x6_1).f0.f0.f1))) := by simpa using c22))
            clear c22; revert H; refine itl fun LMc28 H => ?_
            generalize hy391 : x5_1 ++ [(⟨(⟨(⟨(rd_T37 l1 x6_1).f0.f0.f0, (rd_T37 l1 x6_1).f0.f0.f1⟩ : S33), (⟨(rd_T37 l1 x6_1).f0.f1.f0, (rd_T37 l1 x6_1).f0.f1.f1⟩ : S33)⟩ : S35), (rd_T37 l1 x6_1).f1⟩ : S37)] = y391 at H; have Ny391 := am hy391.symm; clear hy391; have H' := am H; clear H
            obtain ⟨Ao29, co29, eo29⟩ := Kd.R_slice HO_5.out
            subst eo29
            try go_wp2
            replace HO_5 := am (Kd.R_drew HO_5.out); replace BK380 := am (blk_drew BK380.out); replace HB := am (below_drew1 HB.out)
            obtain ⟨ad383, e383, hx383_0, hx383_1, hx383_2, hx383_3, hx383_4, p383, q383⟩ := ay37 (Kd.R_reads' HO_5.out).2.2 (ji16)
            cases e383; have p384 : 0 ≤ (x6_1 : Int) := pd; have q384 : x6_1 < (l1.length : Int) := pd; obtain ⟨ad384, e384, hx384_0, hx384_1, hx384_2, hx384_3, hx384_4⟩ := at_T37 HR1.out x6_1 p384 q384
            have hw384_4 := hx384_4
            have hw384_3 := hx384_3
            have hw384_2 := hx384_2
            have hw384_1 := hx384_1
            have hw384_0 := hx384_0
            cases e384; replace hx384_0 := cl HB hx384_0; replace hx384_1 := cl HB hx384_1; replace hx384_2 := cl HB hx384_2; replace hx384_3 := cl HB hx384_3; replace hx384_4 := cl HB hx384_4; replace p384 := eq_true p384; replace q384 := eq_true q384
            obtain ⟨ad385, e385, hx385_0, hx385_1, hx385_2, hx385_3, hx385_4, p385, q385⟩ := ay37 (Kd.R_reads' HO_5.out).2.2 (ji16)
            obtain rfl : ad383 = ad385 := (by injection e385)
            have p386 : 0 ≤ (x6_1 : Int) := pd; have q386 : x6_1 < (l1.length : Int) := pd; obtain ⟨ad386, e386, hx386_0, hx386_1, hx386_2, hx386_3, hx386_4⟩ := at_T37 HR1.out x6_1 p386 q386
            have hw386_4 := hx386_4
            have hw386_3 := hx386_3
            have hw386_2 := hx386_2
            have hw386_1 := hx386_1
            have hw386_0 := hx386_0
            obtain rfl : ad384 = ad386 := (by injection e386)
            replace hx386_0 := cl HB hx386_0; replace hx386_1 := cl HB hx386_1; replace hx386_2 := cl HB hx386_2; replace hx386_3 := cl HB hx386_3; replace hx386_4 := cl HB hx386_4; replace p386 := eq_true p386; replace q386 := eq_true q386
            refine st F35 [] (g3 BK380 (g1 hx383_0 (g1 hx383_1 (g1 hx383_2 (g1 hx383_3 (g1 hx383_4 (g1 (cl HB hw384_0) (g1 (cl HB hw384_1) (g1 (cl HB hw384_2) (g1 (cl HB hw384_3) (g1 (cl HB hw384_4) (g1 hx385_0 (g1 hx385_1 (g1 hx385_2 (g1 hx385_3 (g1 hx385_4 (g1 (cl HB hw386_0) (g1 (cl HB hw386_1) (g1 (cl HB hw386_2) (g1 (cl HB hw386_3) (h1 (cl HB hw386_4)))))))))))))))))))))) fun hHeld => ?_; refine with_tabW bocageref14_Tidy.tab9 bocageref14_Tidy.bits9 (fun HT_ HW_ => ?_)
            generalize wc.drew = w30 at HO_5 BK380 HB hx383_0 hx383_1 hx383_2 hx383_3 hx383_4 hx384_0 hx384_1 hx384_2 hx384_3 hx384_4 hx385_0 hx385_1 hx385_2 hx385_3 hx385_4 hx386_0 hx386_1 hx386_2 hx386_3 hx386_4 hHeld ⊢; refine pw 0 32 HT_ ?_
            refine take_ (i := 1) (N := some 33) (v := ?_) (a' := ?_) #[true, true, false, false, false, false, false, false, false, false, false, false, false, false, false, false, false, false, false, false, false, false, false, false, false, false, false, false, false, false, false, false, false, false, false] rfl rfl (take_ofW HT_.out HW_.out (by kernel_rfl)) (fun _ _ _ h => h) (Or.inl ⟨by rfl, ?_⟩) hHeld ?_ ?_
            rotate_left
            ·rintro w' ⟨s0, s1, s2, s3, s4, s5, s6, s7, s8, s9, s10, s11, s12, s13, s14, s15, s16, s17, s18, s19, s20, s21, s22⟩
             go_simp
             with_reducible rfl
            rotate_left
            ·simp only [Act.put, List.setIfInBounds_toArray, List.set_cons_zero, List.set_cons_succ, i64_w, i32_w]
             rfl
            refine pw 2 34 HT_ ?_; refine pw 3 35 HT_ ?_; refine pw 4 36 HT_ ?_; refine pw 5 37 HT_ ?_; refine pw 6 38 HT_ ?_; refine pw 7 39 HT_ ?_; refine pw 8 40 HT_ ?_; refine pw 9 41 HT_ ?_; refine pw 10 42 HT_ ?_; refine pw 11 43 HT_ ?_; refine pw 13 45 HT_ ?_; refine pw 14 46 HT_ ?_; refine pw 15 47 HT_ ?_; refine pw 16 48 HT_ ?_
            refine take_ (i := 12) (N := some 44) (v := ?_) (a' := ?_) #[true, true, true, true, true, true, true, true, true, true, true, true, true, true, true, true, true, false, false, false, false, false, false, false, false, false, false, false, false, false, false, false, false, false, false] rfl rfl (take_ofW HT_.out HW_.out (by kernel_rfl)) (fun _ _ _ h => h) (Or.inl ⟨by rfl, ?_⟩) hHeld ?_ ?_
            rotate_left
            ·rintro w' ⟨s0, s1, s2, s3, s4, s5, s6, s7, s8, s9, s10, s11, s12, s13, s14, s15, s16, s17, s18, s19, s20, s21, s22⟩
             go_simp
             with_reducible rfl
            rotate_left
            ·simp only [Act.put, List.setIfInBounds_toArray, List.set_cons_zero, List.set_cons_succ, i64_w, i32_w]
             rfl
            refine take_ (i := 17) (N := some 49) (v := ?_) (a' := ?_) #[true, true, true, true, true, true, true, true, true, true, true, true, true, true, true, true, true, true, false, false, false, false, false, false, false, false, false, false, false, false, false, false, false, false, false] rfl rfl (take_ofW HT_.out HW_.out (by kernel_rfl)) (fun _ _ _ h => h) (Or.inl ⟨by rfl, ?_⟩) hHeld ?_ ?_
            rotate_left
            ·rintro w' ⟨s0, s1, s2, s3, s4, s5, s6, s7, s8, s9, s10, s11, s12, s13, s14, s15, s16, s17, s18, s19, s20, s21, s22⟩
             go_simp
             with_reducible rfl
            rotate_left
            ·simp only [Act.put, List.setIfInBounds_toArray, List.set_cons_zero, List.set_cons_succ, i64_w, i32_w]
             rfl
            refine pw 18 50 HT_ ?_; refine pw 19 51 HT_ ?_; refine pw 20 52 HT_ ?_; refine pw 21 53 HT_ ?_; refine pw 22 54 HT_ ?_; refine pw 23 55 HT_ ?_; refine pw 24 56 HT_ ?_; refine pw 25 57 HT_ ?_; refine pw 27 59 HT_ ?_; refine pw 28 60 HT_ ?_; refine pw 29 61 HT_ ?_; refine pw 30 62 HT_ ?_; refine pw 31 63 HT_ ?_
            refine take_ (i := 26) (N := some 58) (v := ?_) (a' := ?_) #[true, true, true, true, true, true, true, true, true, true, true, true, true, true, true, true, true, true, true, true, true, true, true, true, true, true, true, true, true, true, true, true, false, false, false] rfl rfl (take_ofW HT_.out HW_.out (by kernel_rfl)) (fun _ _ _ h => h) (Or.inl ⟨by rfl, ?_⟩) hHeld ?_ ?_
            rotate_left
            ·rintro w' ⟨s0, s1, s2, s3, s4, s5, s6, s7, s8, s9, s10, s11, s12, s13, s14, s15, s16, s17, s18, s19, s20, s21, s22⟩
             go_simp
             with_reducible rfl
            rotate_left
            ·simp only [Act.put, List.setIfInBounds_toArray, List.set_cons_zero, List.set_cons_succ, i64_w, i32_w]
             rfl
            refine take_ (i := 32) (N := some 64) (v := ?_) (a' := ?_) #[true, true, true, true, true, true, true, true, true, true, true, true, true, true, true, true, true, true, true, true, true, true, true, true, true, true, true, true, true, true, true, true, true, false, false] rfl rfl (take_ofW HT_.out HW_.out (by kernel_rfl)) (fun _ _ _ h => h) (Or.inl ⟨by rfl, ?_⟩) hHeld ?_ ?_
            rotate_left
            ·rintro w' ⟨s0, s1, s2, s3, s4, s5, s6, s7, s8, s9, s10, s11, s12, s13, s14, s15, s16, s17, s18, s19, s20, s21, s22⟩
             go_simp
             with_reducible rfl
            rotate_left
            ·simp only [Act.put, List.setIfInBounds_toArray, List.set_cons_zero, List.set_cons_succ, i64_w, i32_w]
             rfl
            refine pw 33 65 HT_ ?_; refine pw 34 66 HT_ ?_
            refine dt HT_ ?_
            obtain ⟨ad390, e390, hx390_0, hx390_1, hx390_2, hx390_3, hx390_4, p390, q390⟩ := ax37 HR1 HB x6_1
            obtain rfl : ad384 = ad390 := (by injection e390)
            try go_wp2_with (first | ((with_reducible refine gate_builtin (b := .append) (xs := #[.tmp 84, .tmp 89]) rfl ?_); at_builtin; refine Kd.R_append k37 (w0 := w) w.heap.size rfl (.tmp 84) (.tmp 89) 22 37 (.agg #[(.int .i64 0), (.int .i64 0), (.int .i64 0), (.int .i64 0), (.int .i64 0)]) 40 rfl Tryz.underlying22 info37 rfl (by decide) (by omega) (.slice (some ad383) x5_1.length co29) x5_1 (⟨(⟨(⟨(rd_T37 l1 x6_1).f0.f0.f0, (rd_T37 l1 x6_1).f0.f0.f1⟩ : S33), (⟨(rd_T37 l1 x6_1).f0.f1.f0, (rd_T37 l1 x6_1).f0.f1.f1⟩ : S33)⟩ : S35), (rd_T37 l1 x6_1).f1⟩ : S37) [.int .i64 ((rd_T37 l1 x6_1).f0.f0.f0), .int .i64 ((rd_T37 l1 x6_1).f0.f0.f1), .int .i64 ((rd_T37 l1 x6_1).f0.f1.f0), .int .i64 ((rd_T37 l1 x6_1).f0.f1.f1), .int .i64 ((rd_T37 l1 x6_1).f1)] (fun _ => True) (fun _ => False) rfl rfl ?aP (fun _ hk => hk.elim) ?aF ?aO ?aB ?aS ?aL ?_; (case aP => exact k37_mkM _ _ _ (⟨(⟨(⟨(rd_T37 l1 x6_1).f0.f0.f0, (rd_T37 l1 x6_1).f0.f0.f1⟩ : S33), (⟨(rd_T37 l1 x6_1).f0.f1.f0, (rd_T37 l1 x6_1).f0.f1.f1⟩ : S33)⟩ : S35), (rd_T37 l1 x6_1).f1⟩ : S37)); (case aB => exact (bl HB)); (case aF => exact (fun _ _ => trivial)); (case aO => exact (kr HO_5)); (case aS => exact (below_size (bl HB))); (case aL => have := LMc28.out; omega); intro v392 w31 ho hb hg hat; rw [← Ny391.out] at ho; replace BK380 := am (blk_grown (bk BK380) hg (Kd.R_ne HO_5.out BK380.out (by decide))); replace HB := am hb; have HO393 := am ho; clear HO_5; clear ho hb hg hat))
            go_roundg kj7
            case measure => have := HK1.out; have := HJ7.out; omega
            case rel => exact ⟨_, _, rs, H', ⟨by have := HK1.out; have := HJ7.out; omega⟩, ⟨kr HO393⟩, ⟨bk BK380⟩, ⟨bl HB⟩⟩
          ·rw [if_neg c21] at H
           have c21b0 : (((rd_T37 x5_1 (ji16)).f1) == ((rd_T37 l1 x6_1).f1)) = false := beq_eq_false_iff_ne.mpr c21
           have c21b1 : (((rd_T37 x5_1 (ji16)).f1) != ((rd_T37 l1 x6_1).f1)) = true := bne_iff_ne.mpr c21
           revert H; refine itl fun LMc32 H => ?_
           generalize hy395 : x5_1 ++ [(⟨(⟨(⟨(rd_T37 l1 x6_1).f0.f0.f0, (rd_T37 l1 x6_1).f0.f0.f1⟩ : S33), (⟨(rd_T37 l1 x6_1).f0.f1.f0, (rd_T37 l1 x6_1).f0.f1.f1⟩ : S33)⟩ : S35), (rd_T37 l1 x6_1).f1⟩ : S37)] = y395 at H; have Ny395 := am hy395.symm; clear hy395; have H' := am H; clear H
           obtain ⟨Ao33, co33, eo33⟩ := Kd.R_slice HO_5.out
           subst eo33
           try go_wp2
           replace HO_5 := am (Kd.R_drew HO_5.out); replace BK380 := am (blk_drew BK380.out); replace HB := am (below_drew1 HB.out)
           obtain ⟨ad383, e383, hx383_0, hx383_1, hx383_2, hx383_3, hx383_4, p383, q383⟩ := ay37 (Kd.R_reads' HO_5.out).2.2 (ji16)
           cases e383; have p384 : 0 ≤ (x6_1 : Int) := pd; have q384 : x6_1 < (l1.length : Int) := pd; obtain ⟨ad384, e384, hx384_0, hx384_1, hx384_2, hx384_3, hx384_4⟩ := at_T37 HR1.out x6_1 p384 q384
           have hw384_4 := hx384_4
           have hw384_3 := hx384_3
           have hw384_2 := hx384_2
           have hw384_1 := hx384_1
           have hw384_0 := hx384_0
           cases e384; replace hx384_0 := cl HB hx384_0; replace hx384_1 := cl HB hx384_1; replace hx384_2 := cl HB hx384_2; replace hx384_3 := cl HB hx384_3; replace hx384_4 := cl HB hx384_4; replace p384 := eq_true p384; replace q384 := eq_true q384
           refine st F35 [] (g3 BK380 (g1 hx383_0 (g1 hx383_1 (g1 hx383_2 (g1 hx383_3 (g1 hx383_4 (g1 (cl HB hw384_0) (g1 (cl HB hw384_1) (g1 (cl HB hw384_2) (g1 (cl HB hw384_3) (h1 (cl HB hw384_4)))))))))))) fun hHeld => ?_; refine with_tabW bocageref14_Tidy.tab9 bocageref14_Tidy.bits9 (fun HT_ HW_ => ?_)
           generalize wc.drew = w34 at HO_5 BK380 HB hx383_0 hx383_1 hx383_2 hx383_3 hx383_4 hx384_0 hx384_1 hx384_2 hx384_3 hx384_4 hHeld ⊢; refine pw 0 32 HT_ ?_
           refine take_ (i := 1) (N := some 33) (v := ?_) (a' := ?_) #[true, true, false, false, false, false, false, false, false, false, false, false, false, false, false, false, false, false, false, false, false, false, false, false, false, false, false, false, false, false, false, false, false, false, false] rfl rfl (take_ofW HT_.out HW_.out (by kernel_rfl)) (fun _ _ _ h => h) (Or.inl ⟨by rfl, ?_⟩) hHeld ?_ ?_
           rotate_left
           ·rintro w' ⟨s0, s1, s2, s3, s4, s5, s6, s7, s8, s9, s10, s11, s12⟩
            go_simp
            with_reducible rfl
           rotate_left
           ·simp only [Act.put, List.setIfInBounds_toArray, List.set_cons_zero, List.set_cons_succ, i64_w, i32_w]
            rfl
           refine pw 2 34 HT_ ?_; refine pw 3 35 HT_ ?_; refine pw 4 36 HT_ ?_; refine pw 5 37 HT_ ?_; refine pw 6 38 HT_ ?_; refine pw 7 39 HT_ ?_; refine pw 8 40 HT_ ?_; refine pw 9 41 HT_ ?_; refine pw 10 42 HT_ ?_; refine pw 11 43 HT_ ?_; refine pw 13 45 HT_ ?_; refine pw 14 46 HT_ ?_; refine pw 15 47 HT_ ?_; refine pw 16 48 HT_ ?_
           refine take_ (i := 12) (N := some 44) (v := ?_) (a' := ?_) #[true, true, true, true, true, true, true, true, true, true, true, true, true, true, true, true, true, false, false, false, false, false, false, false, false, false, false, false, false, false, false, false, false, false, false] rfl rfl (take_ofW HT_.out HW_.out (by kernel_rfl)) (fun _ _ _ h => h) (Or.inl ⟨by rfl, ?_⟩) hHeld ?_ ?_
           rotate_left
           ·rintro w' ⟨s0, s1, s2, s3, s4, s5, s6, s7, s8, s9, s10, s11, s12⟩
            go_simp
            with_reducible rfl
           rotate_left
           ·simp only [Act.put, List.setIfInBounds_toArray, List.set_cons_zero, List.set_cons_succ, i64_w, i32_w]
            rfl
           refine take_ (i := 17) (N := some 49) (v := ?_) (a' := ?_) #[true, true, true, true, true, true, true, true, true, true, true, true, true, true, true, true, true, true, false, false, false, false, false, false, false, false, false, false, false, false, false, false, false, false, false] rfl rfl (take_ofW HT_.out HW_.out (by kernel_rfl)) (fun _ _ _ h => h) (Or.inl ⟨by rfl, ?_⟩) hHeld ?_ ?_
           rotate_left
           ·rintro w' ⟨s0, s1, s2, s3, s4, s5, s6, s7, s8, s9, s10, s11, s12⟩
            go_simp
            with_reducible rfl
           rotate_left
           ·simp only [Act.put, List.setIfInBounds_toArray, List.set_cons_zero, List.set_cons_succ, i64_w, i32_w]
            rfl
           refine pw 18 50 HT_ ?_; refine pw 19 51 HT_ ?_; refine pw 20 52 HT_ ?_; refine px 21 53 HT_ ?_; refine px 22 54 HT_ ?_; refine px 23 55 HT_ ?_; refine px 24 56 HT_ ?_; refine px 25 57 HT_ ?_; refine px 26 58 HT_ ?_; refine px 27 59 HT_ ?_; refine px 28 60 HT_ ?_; refine px 29 61 HT_ ?_; refine px 30 62 HT_ ?_; refine px 31 63 HT_ ?_; refine px 32 64 HT_ ?_; refine px 33 65 HT_ ?_; refine pw 34 66 HT_ ?_
           refine dt HT_ ?_
           obtain ⟨ad394, e394, hx394_0, hx394_1, hx394_2, hx394_3, hx394_4, p394, q394⟩ := ax37 HR1 HB x6_1
           obtain rfl : ad384 = ad394 := (by injection e394)
           try go_wp2_with (first | ((with_reducible refine gate_builtin (b := .append) (xs := #[.tmp 84, .tmp 89]) rfl ?_); at_builtin; refine Kd.R_append k37 (w0 := w) w.heap.size rfl (.tmp 84) (.tmp 89) 22 37 (.agg #[(.int .i64 0), (.int .i64 0), (.int .i64 0), (.int .i64 0), (.int .i64 0)]) 40 rfl Tryz.underlying22 info37 rfl (by decide) (by omega) (.slice (some ad383) x5_1.length co33) x5_1 (⟨(⟨(⟨(rd_T37 l1 x6_1).f0.f0.f0, (rd_T37 l1 x6_1).f0.f0.f1⟩ : S33), (⟨(rd_T37 l1 x6_1).f0.f1.f0, (rd_T37 l1 x6_1).f0.f1.f1⟩ : S33)⟩ : S35), (rd_T37 l1 x6_1).f1⟩ : S37) [.int .i64 ((rd_T37 l1 x6_1).f0.f0.f0), .int .i64 ((rd_T37 l1 x6_1).f0.f0.f1), .int .i64 ((rd_T37 l1 x6_1).f0.f1.f0), .int .i64 ((rd_T37 l1 x6_1).f0.f1.f1), .int .i64 ((rd_T37 l1 x6_1).f1)] (fun _ => True) (fun _ => False) rfl rfl ?aP (fun _ hk => hk.elim) ?aF ?aO ?aB ?aS ?aL ?_; (case aP => exact k37_mkM _ _ _ (⟨(⟨(⟨(rd_T37 l1 x6_1).f0.f0.f0, (rd_T37 l1 x6_1).f0.f0.f1⟩ : S33), (⟨(rd_T37 l1 x6_1).f0.f1.f0, (rd_T37 l1 x6_1).f0.f1.f1⟩ : S33)⟩ : S35), (rd_T37 l1 x6_1).f1⟩ : S37)); (case aB => exact (bl HB)); (case aF => exact (fun _ _ => trivial)); (case aO => exact (kr HO_5)); (case aS => exact (below_size (bl HB))); (case aL => have := LMc32.out; omega); intro v396 w35 ho hb hg hat; rw [← Ny395.out] at ho; replace BK380 := am (blk_grown (bk BK380) hg (Kd.R_ne HO_5.out BK380.out (by decide))); replace HB := am hb; have HO397 := am ho; clear HO_5; clear ho hb hg hat))
           go_roundg kj7
           case measure => have := HK1.out; have := HJ7.out; omega
           case rel => exact ⟨_, _, rs, H', ⟨by have := HK1.out; have := HJ7.out; omega⟩, ⟨kr HO397⟩, ⟨bk BK380⟩, ⟨bl HB⟩⟩
         ·revert H; refine its fun c36b0 H => ?_
          revert H; refine its fun c37b0 H => ?_
          revert H; refine itl fun LMc38 H => ?_
          generalize hy399 : x5_1 ++ [(⟨(⟨(⟨(rd_T37 l1 x6_1).f0.f0.f0, (rd_T37 l1 x6_1).f0.f0.f1⟩ : S33), (⟨(rd_T37 l1 x6_1).f0.f1.f0, (rd_T37 l1 x6_1).f0.f1.f1⟩ : S33)⟩ : S35), (rd_T37 l1 x6_1).f1⟩ : S37)] = y399 at H; have Ny399 := am hy399.symm; clear hy399; have H' := am H; clear H
          obtain ⟨Ao39, co39, eo39⟩ := Kd.R_slice HO_5.out
          subst eo39
          try go_wp2
          replace HO_5 := am (Kd.R_drew HO_5.out); replace BK380 := am (blk_drew BK380.out); replace HB := am (below_drew1 HB.out)
          refine st F35 [] (h3 BK380) fun hHeld => ?_; refine with_tabW bocageref14_Tidy.tab9 bocageref14_Tidy.bits9 (fun HT_ HW_ => ?_)
          generalize wc.drew = w40 at HO_5 BK380 HB hHeld ⊢; refine pw 0 32 HT_ ?_; refine tw3 1 33 HT_ HW_ hHeld ?_; refine pw 2 34 HT_ ?_; refine pw 3 35 HT_ ?_; refine pw 4 36 HT_ ?_; refine pw 5 37 HT_ ?_; refine pw 6 38 HT_ ?_; refine pw 7 39 HT_ ?_; refine px 8 40 HT_ ?_; refine px 9 41 HT_ ?_; refine px 10 42 HT_ ?_; refine px 11 43 HT_ ?_; refine px 12 44 HT_ ?_; refine px 13 45 HT_ ?_; refine px 14 46 HT_ ?_; refine px 15 47 HT_ ?_; refine px 16 48 HT_ ?_; refine px 17 49 HT_ ?_; refine px 18 50 HT_ ?_; refine pw 19 51 HT_ ?_; refine pw 20 52 HT_ ?_; refine px 21 53 HT_ ?_; refine px 22 54 HT_ ?_; refine px 23 55 HT_ ?_; refine px 24 56 HT_ ?_; refine px 25 57 HT_ ?_; refine px 26 58 HT_ ?_; refine px 27 59 HT_ ?_; refine px 28 60 HT_ ?_; refine px 29 61 HT_ ?_; refine px 30 62 HT_ ?_; refine px 31 63 HT_ ?_; refine px 32 64 HT_ ?_; refine px 33 65 HT_ ?_; refine pw 34 66 HT_ ?_
          refine dt HT_ ?_
          obtain ⟨ad398, e398, hx398_0, hx398_1, hx398_2, hx398_3, hx398_4, p398, q398⟩ := ax37 HR1 HB x6_1
          cases e398
          try go_wp2_with (first | ((with_reducible refine gate_builtin (b := .append) (xs := #[.tmp 84, .tmp 89]) rfl ?_); at_builtin; refine Kd.R_append k37 (w0 := w) w.heap.size rfl (.tmp 84) (.tmp 89) 22 37 (.agg #[(.int .i64 0), (.int .i64 0), (.int .i64 0), (.int .i64 0), (.int .i64 0)]) 40 rfl Tryz.underlying22 info37 rfl (by decide) (by omega) (.slice Ao39 x5_1.length co39) x5_1 (⟨(⟨(⟨(rd_T37 l1 x6_1).f0.f0.f0, (rd_T37 l1 x6_1).f0.f0.f1⟩ : S33), (⟨(rd_T37 l1 x6_1).f0.f1.f0, (rd_T37 l1 x6_1).f0.f1.f1⟩ : S33)⟩ : S35), (rd_T37 l1 x6_1).f1⟩ : S37) [.int .i64 ((rd_T37 l1 x6_1).f0.f0.f0), .int .i64 ((rd_T37 l1 x6_1).f0.f0.f1), .int .i64 ((rd_T37 l1 x6_1).f0.f1.f0), .int .i64 ((rd_T37 l1 x6_1).f0.f1.f1), .int .i64 ((rd_T37 l1 x6_1).f1)] (fun _ => True) (fun _ => False) rfl rfl ?aP (fun _ hk => hk.elim) ?aF ?aO ?aB ?aS ?aL ?_; (case aP => exact k37_mkM _ _ _ (⟨(⟨(⟨(rd_T37 l1 x6_1).f0.f0.f0, (rd_T37 l1 x6_1).f0.f0.f1⟩ : S33), (⟨(rd_T37 l1 x6_1).f0.f1.f0, (rd_T37 l1 x6_1).f0.f1.f1⟩ : S33)⟩ : S35), (rd_T37 l1 x6_1).f1⟩ : S37)); (case aB => exact (bl HB)); (case aF => exact (fun _ _ => trivial)); (case aO => exact (kr HO_5)); (case aS => exact (below_size (bl HB))); (case aL => have := LMc38.out; omega); intro v400 w41 ho hb hg hat; rw [← Ny399.out] at ho; replace BK380 := am (blk_grown (bk BK380) hg (Kd.R_ne HO_5.out BK380.out (by decide))); replace HB := am hb; have HO401 := am ho; clear HO_5; clear ho hb hg hat))
          go_roundg kj7
          case measure => have := HK1.out; have := HJ7.out; omega
          case rel => exact ⟨_, _, rs, H', ⟨by have := HK1.out; have := HJ7.out; omega⟩, ⟨kr HO401⟩, ⟨bk BK380⟩, ⟨bl HB⟩⟩
        ·rw [if_neg c14] at H
         have c14b0 : (a0_0 == 0) = false := beq_eq_false_iff_ne.mpr c14
         have c14b1 : (a0_0 != 0) = true := bne_iff_ne.mpr c14
         revert H; refine its fun c42b0 H => ?_
         revert H; refine its fun c43b0 H => ?_
         revert H; refine itl fun LMc44 H => ?_
         generalize hy403 : x5_1 ++ [(⟨(⟨(⟨(rd_T37 l1 x6_1).f0.f0.f0, (rd_T37 l1 x6_1).f0.f0.f1⟩ : S33), (⟨(rd_T37 l1 x6_1).f0.f1.f0, (rd_T37 l1 x6_1).f0.f1.f1⟩ : S33)⟩ : S35), (rd_T37 l1 x6_1).f1⟩ : S37)] = y403 at H; have Ny403 := am hy403.symm; clear hy403; have H' := am H; clear H
         obtain ⟨Ao45, co45, eo45⟩ := Kd.R_slice HO_5.out
         subst eo45
         try go_wp2
         replace HO_5 := am (Kd.R_drew HO_5.out); replace BK380 := am (blk_drew BK380.out); replace HB := am (below_drew1 HB.out)
         refine st F35 [] (h3 BK380) fun hHeld => ?_; refine with_tabW bocageref14_Tidy.tab9 bocageref14_Tidy.bits9 (fun HT_ HW_ => ?_)
         generalize wc.drew = w46 at HO_5 BK380 HB hHeld ⊢; refine pw 0 32 HT_ ?_; refine tw3 1 33 HT_ HW_ hHeld ?_; refine pw 2 34 HT_ ?_; refine pw 3 35 HT_ ?_; refine px 4 36 HT_ ?_; refine px 5 37 HT_ ?_; refine pw 6 38 HT_ ?_; refine pw 7 39 HT_ ?_; refine px 8 40 HT_ ?_; refine px 9 41 HT_ ?_; refine px 10 42 HT_ ?_; refine px 11 43 HT_ ?_; refine px 12 44 HT_ ?_; refine px 13 45 HT_ ?_; refine px 14 46 HT_ ?_; refine px 15 47 HT_ ?_; refine px 16 48 HT_ ?_; refine px 17 49 HT_ ?_; refine px 18 50 HT_ ?_; refine pw 19 51 HT_ ?_; refine pw 20 52 HT_ ?_; refine px 21 53 HT_ ?_; refine px 22 54 HT_ ?_; refine px 23 55 HT_ ?_; refine px 24 56 HT_ ?_; refine px 25 57 HT_ ?_; refine px 26 58 HT_ ?_; refine px 27 59 HT_ ?_; refine px 28 60 HT_ ?_; refine px 29 61 HT_ ?_; refine px 30 62 HT_ ?_; refine px 31 63 HT_ ?_; refine px 32 64 HT_ ?_; refine px 33 65 HT_ ?_; refine pw 34 66 HT_ ?_
         refine dt HT_ ?_
         obtain ⟨ad402, e402, hx402_0, hx402_1, hx402_2, hx402_3, hx402_4, p402, q402⟩ := ax37 HR1 HB x6_1
         cases e402
         try go_wp2_with (first | ((with_reducible refine gate_builtin (b := .append) (xs := #[.tmp 84, .tmp 89]) rfl ?_); at_builtin; refine Kd.R_append k37 (w0 := w) w.heap.size rfl (.tmp 84) (.tmp 89) 22 37 (.agg #[(.int .i64 0), (.int .i64 0), (.int .i64 0), (.int .i64 0), (.int .i64 0)]) 40 rfl Tryz.underlying22 info37 rfl (by decide) (by omega) (.slice Ao45 x5_1.length co45) x5_1 (⟨(⟨(⟨(rd_T37 l1 x6_1).f0.f0.f0, (rd_T37 l1 x6_1).f0.f0.f1⟩ : S33), (⟨(rd_T37 l1 x6_1).f0.f1.f0, (rd_T37 l1 x6_1).f0.f1.f1⟩ : S33)⟩ : S35), (rd_T37 l1 x6_1).f1⟩ : S37) [.int .i64 ((rd_T37 l1 x6_1).f0.f0.f0), .int .i64 ((rd_T37 l1 x6_1).f0.f0.f1), .int .i64 ((rd_T37 l1 x6_1).f0.f1.f0), .int .i64 ((rd_T37 l1 x6_1).f0.f1.f1), .int .i64 ((rd_T37 l1 x6_1).f1)] (fun _ => True) (fun _ => False) rfl rfl ?aP (fun _ hk => hk.elim) ?aF ?aO ?aB ?aS ?aL ?_; (case aP => exact k37_mkM _ _ _ (⟨(⟨(⟨(rd_T37 l1 x6_1).f0.f0.f0, (rd_T37 l1 x6_1).f0.f0.f1⟩ : S33), (⟨(rd_T37 l1 x6_1).f0.f1.f0, (rd_T37 l1 x6_1).f0.f1.f1⟩ : S33)⟩ : S35), (rd_T37 l1 x6_1).f1⟩ : S37)); (case aB => exact (bl HB)); (case aF => exact (fun _ _ => trivial)); (case aO => exact (kr HO_5)); (case aS => exact (below_size (bl HB))); (case aL => have := LMc44.out; omega); intro v404 w47 ho hb hg hat; rw [← Ny403.out] at ho; replace BK380 := am (blk_grown (bk BK380) hg (Kd.R_ne HO_5.out BK380.out (by decide))); replace HB := am hb; have HO405 := am ho; clear HO_5; clear ho hb hg hat))
         go_roundg kj7
         case measure => have := HK1.out; have := HJ7.out; omega
         case rel => exact ⟨_, _, rs, H', ⟨by have := HK1.out; have := HJ7.out; omega⟩, ⟨kr HO405⟩, ⟨bk BK380⟩, ⟨bl HB⟩⟩
    ·obtain rfl := Option.some.inj H; go_wp2; go_ret
     exact ⟨_, by first | rfl | (simp [errW_none, errW_some] <;> rfl) | (simp [*, errW_none, errW_some] <;> rfl), by (with_reducible repeat (first | apply Kd.R_alloc | apply Kd.R_drewN | apply Kd.R_drew)); exact HO_5.out, by repeat (first | (with_reducible first | exact HB.out | apply below_alloc | apply pw_below_drewN | apply below_drew1 | refine below_set ?_ GE380.out) | exact HB.out)⟩
 ·replace H := itf H; obtain rfl := Option.some.inj H; go_enter Tryz.func53, Tryz.ntmps53
  go_wp2_with (first | ((with_reducible refine gate_dst (N := 2) rfl ?_); refine bxf #[.int .i64 a0_0, .bool a0_1, .int .i64 a0_2] 79 HB fun gb380 w48 BK380 GW380 HB hg hb => ?_; have GE380 := GW380; clear hb hg) | ((with_reducible refine gate_callee (f := 84) rfl ?_); refine gol (some 9) Tryz.func84 #[.slice A1 l1.length c1] ?_; (with_reducible refine (bocageref09_Sound.calls _ _ _ _ _ _ ?side1 ?side2 A3.out).mono ?_); (case side1 => repeat (first | exact (Kd.C_below HR1.out HB.out) | (with_reducible refine Kd.C_alloc ?_ _) | (with_reducible refine Kd.C_drewN ?_ _) | (with_reducible refine Kd.C_drew ?_))); (case side2 => exact HC1.out); rintro e w49 ⟨rfl, hb⟩; refine ⟨_, rfl, ?_⟩; replace BK380 := bkb BK380 hb; replace HB := bst HB hb; clear hb))
  go_ret
  exact ⟨_, by first | rfl | (simp [errW_none, errW_some] <;> rfl) | (simp [*, errW_none, errW_some] <;> rfl), by first | exact Kd.R_nil _ _ _ _ _ | exact Kd.N_nil _ _ _ _ _ | exact Kd.V_nil _ _ _ _ _ | exact Kd.Q_nil _ _ _ _ _ | exact Kd.S_nil _ _ _ _ _, by repeat (first | (with_reducible first | exact HB.out | apply below_alloc | apply pw_below_drewN | apply below_drew1 | refine below_set ?_ GE380.out) | exact HB.out)⟩
end Go.Proofs.YtbcpnejdbookkaaGreat.Print
namespace Go.Proofs.YtbcpnejdbookkaaGreat.Print
open Go.RowKit Go.Proofs.YtbcpnejdbookkaaGreatW.PrintWords Go.Proofs.YtbcpnejdbookkaaGreatW.PrintLast Go.Proofs.YtbcpnejdbookkaaGreatW.PrintMore
attribute [local go_sem] max2_int min2_int max_two min_two max_three min_three max_four min_four   -- for this text's walks alone
def bocageref16_Merge.f (k : Nat) (l0 : List (S37)) : Option ((List (S37))) := (bocageref14_Tidy.f k 0 false 0 l0).bind fun t406 => (some t406)
theorem bocageref16_Merge.calls (k : Nat) (A0 : Option Addr) (c0 : Nat) (l0 : List (S37)) (r : List (S37)) (w : World) (hr0 : Kd.C k37 w A0 l0.length l0) (hc0 : l0.length ≤ c0) (h : bocageref16_Merge.f k l0 = some r) :
 Calls Tryz.prog 17 #[.slice A0 l0.length c0] w fun e w' => ∃ v0_ : Value, e = .returned (v0_) ∧ Kd.R k37 37 w' w.heap.size (fun _ => True) v0_ r ∧ Below w.heap.size w w' := by
 have hu79 := Tryz.underlying79; have HR0 := am hr0; have HC0 := am hc0; clear hr0 hc0
 have HB := am (Below.refl w.heap.size w)
 unfold bocageref16_Merge.f at h; have H := h; clear h; revert H; refine bnd fun t406 A2 H => ?_
 obtain rfl := Option.some.inj H; go_enter Tryz.func17, Tryz.ntmps17
 go_wp2_with (first | ((with_reducible refine gate_callee (f := 53) rfl ?_); refine gol (some 5) Tryz.func53 #[.agg #[.int .i64 0, .bool false, .int .i64 0], .slice A0 l0.length c0] ?_; (with_reducible refine (bocageref14_Tidy.calls _ _ _ _ _ _ _ _ _ ?side1 ?side2 A2.out).mono ?_); (case side1 => repeat (first | exact HR0.out | (with_reducible refine Kd.C_alloc ?_ _) | (with_reducible refine Kd.C_drewN ?_ _) | (with_reducible refine Kd.C_drew ?_))); (case side2 => exact HC0.out); rintro e w3 ⟨v407, rfl, ho0, hb⟩; refine ⟨_, rfl, ?_⟩; have HO408 := kw ho0 HB; replace HB := bst HB hb; clear hb ho0))
 go_ret; exact endK HO408 HB
def bocageref02_Ahead.f (k : Nat) (a0 : Int) : Option (Int × Int) := (bocageref02_Canon.f k 0 a0).bind fun bt410 => (some (bt410.1, bt410.2))
theorem bocageref02_Ahead.calls (k : Nat) (a0 : Int) (r1 : Int) (r2 : Int) (w : World) (h : bocageref02_Ahead.f k a0 = some (r1, r2)) :
 Calls Tryz.prog 85 #[.int .i64 a0] w fun e w' => e = .returned (.agg #[.int .i64 r1, .int .i64 r2]) ∧ Below w.heap.size w w' := by
 have hu33 := Tryz.underlying33
 have HB := am (Below.refl w.heap.size w)
 unfold bocageref02_Ahead.f at h; have H := h; clear h; revert H; refine bnd2 fun t410 t411 A2 H => ?_; dsimp only at H
 simp only [Option.some.injEq, Prod.mk.injEq] at H
 obtain ⟨rfl, rfl⟩ := H
 go_enter Tryz.func85, Tryz.ntmps85
 go_wp2_with (first | ((with_reducible refine gate_dst (N := 2) rfl ?_); refine bxf #[.int .i64 0, .int .i64 0] 33 HB fun gb409 w3 BK409 GW409 HB hg hb => ?_; clear hb hg) | ((with_reducible refine gate_callee (f := 77) rfl ?_); refine gob Tryz.func77 (bocageref02_Canon.calls _ _ _ _ _ _ A2.out) fun w4 hb => ?_; replace BK409 := bkb BK409 hb; replace HB := bst HB hb; (try clear hb); (try clear hb2); (try clear hk); (try clear hi); obtain ⟨_, _, _, _⟩ := s2 BK409))
 refine bodyPost_ret (results_cell_row rfl _ _ gb409 33 #[.int .i64 t410, .int .i64 t411] (0, 0) _ rfl (bkp BK409) Tryz.underlying33 rfl (by kernel_rfl)) rfl ?_
 exact endB HB
def bocageref03_Has.f (k : Nat) (a0_0 : Int) (a0_1 : Int) (a0_2 : Int) (a0_3 : Int) (a1 : Int) : Option (Bool) := (bocageref02_Ahead.f k a1).bind fun bt413 => ((bocageref03_Right.f k a0_0 a0_1 a0_2 a0_3).bind fun t416 => (if t416 = true then ((bocageref02_Less.f k bt413.1 bt413.2 a0_0 a0_1).bind fun t417 => (if t417 = true then (some false) else ((bocageref02_Less.f k bt413.1 bt413.2 a0_2 a0_3).bind fun t418 => (some t418)))) else (some false)))
theorem bocageref03_Has.calls (k : Nat) (a0_0 : Int) (a0_1 : Int) (a0_2 : Int) (a0_3 : Int) (a1 : Int) (r : Bool) (w : World) (h : bocageref03_Has.f k a0_0 a0_1 a0_2 a0_3 a1 = some r) :
 Calls Tryz.prog 55 #[.agg #[.int .i64 a0_0, .int .i64 a0_1, .int .i64 a0_2, .int .i64 a0_3], .int .i64 a1] w fun e w' => e = .returned (.bool r) ∧ Below w.heap.size w w' := by
 have hu35 := Tryz.underlying35; have hu33 := Tryz.underlying33
 have HB := am (Below.refl w.heap.size w)
 unfold bocageref03_Has.f at h; have H := h; clear h; revert H; refine bnd2 fun t413 t414 A3 H => ?_; dsimp only at H
 revert H; refine bnd fun t416 A4 H => ?_
 cases t416; rotate_left
 ·replace H := itt H; revert H; refine bnd fun t417 A6 H => ?_
  cases t417; rotate_left
  ·replace H := itt H; obtain rfl := Option.some.inj H; go_enter Tryz.func55, Tryz.ntmps55
   go_wp2_with (first | ((with_reducible refine gate_dst (N := 2) rfl ?_); refine bxf #[.int .i64 a0_0, .int .i64 a0_1, .int .i64 a0_2, .int .i64 a0_3] 35 HB fun gb412 w8 BK412 GW412 HB hg hb => ?_; have GE412 := GW412; clear hb hg) | ((with_reducible refine gate_callee (f := 85) rfl ?_); refine gob Tryz.func85 (bocageref02_Ahead.calls _ _ _ _ _ A3.out) fun w9 hb => ?_; replace BK412 := bkb BK412 hb; replace HB := bst HB hb; (try clear hb); (try clear hb2); (try clear hk); (try clear hi)) | ((with_reducible refine gate_dst (N := 5) rfl ?_); refine bxf #[.int .i64 0, .int .i64 0] 33 HB fun gb415 w10 BK415 GW415 HB hg hb => ?_; have GE415 := GW415; have NB412_415 := nlt hg BK412; have NB415_412 := ngt hg BK412; replace BK412 := bkb BK412 hb; clear hb hg; have hnb11 := NB415_412.out; have hnc11 := NB412_415.out; obtain ⟨_, _, _, _⟩ := s2 BK415; obtain ⟨_, _, _, _, _, _, _, _⟩ := s4 BK412) | ((with_reducible refine gate_callee (f := 86) rfl ?_); refine gob Tryz.func86 (bocageref03_Right.calls _ _ _ _ _ _ _ A4.out) fun w14 hb => ?_; replace BK412 := am (blk_below (bkf BK412 NB412_415) hb); replace BK415 := am (blk_below (g := gb415) (o := .cells #[.int .i64 t413, .int .i64 t414] 33 (0, 0)) (bkp BK415) hb); replace HB := bst HB hb; (try clear hb); (try clear hb2); (try clear hk); (try clear hi); obtain ⟨_, _, _, _⟩ := s2 BK415; obtain ⟨_, _, _, _, _, _, _, _⟩ := s4 BK412) | (go_at_call 87; (with_reducible refine (bocageref02_Less.calls _ _ _ _ _ _ _ A6.out).mono ?_); rintro e w17 ⟨rfl, hb⟩; replace BK412 := bkb BK412 hb; replace BK415 := bkb BK415 hb; replace HB := bst HB hb; clear hb))
   go_ret; exact endB HB
  ·replace H := itf H; revert H; refine bnd fun t418 A18 H => ?_
   obtain rfl := Option.some.inj H; go_enter Tryz.func55, Tryz.ntmps55
   go_wp2_with (first | ((with_reducible refine gate_dst (N := 2) rfl ?_); refine bxf #[.int .i64 a0_0, .int .i64 a0_1, .int .i64 a0_2, .int .i64 a0_3] 35 HB fun gb412 w19 BK412 GW412 HB hg hb => ?_; have GE412 := GW412; clear hb hg) | ((with_reducible refine gate_callee (f := 85) rfl ?_); refine gob Tryz.func85 (bocageref02_Ahead.calls _ _ _ _ _ A3.out) fun w20 hb => ?_; replace BK412 := bkb BK412 hb; replace HB := bst HB hb; (try clear hb); (try clear hb2); (try clear hk); (try clear hi)) | ((with_reducible refine gate_dst (N := 5) rfl ?_); refine bxf #[.int .i64 0, .int .i64 0] 33 HB fun gb415 w21 BK415 GW415 HB hg hb => ?_; have GE415 := GW415; have NB412_415 := nlt hg BK412; have NB415_412 := ngt hg BK412; replace BK412 := bkb BK412 hb; clear hb hg; have hnb22 := NB415_412.out; have hnc22 := NB412_415.out; obtain ⟨_, _, _, _⟩ := s2 BK415; obtain ⟨_, _, _, _, _, _, _, _⟩ := s4 BK412) | ((with_reducible refine gate_callee (f := 86) rfl ?_); refine gob Tryz.func86 (bocageref03_Right.calls _ _ _ _ _ _ _ A4.out) fun w25 hb => ?_; replace BK412 := am (blk_below (bkf BK412 NB412_415) hb); replace BK415 := am (blk_below (g := gb415) (o := .cells #[.int .i64 t413, .int .i64 t414] 33 (0, 0)) (bkp BK415) hb); replace HB := bst HB hb; (try clear hb); (try clear hb2); (try clear hk); (try clear hi); obtain ⟨_, _, _, _⟩ := s2 BK415; obtain ⟨_, _, _, _, _, _, _, _⟩ := s4 BK412) | (go_at_call 87; (with_reducible refine (bocageref02_Less.calls _ _ _ _ _ _ _ A6.out).mono ?_); rintro e w28 ⟨rfl, hb⟩; replace BK412 := bkb BK412 hb; replace BK415 := bkb BK415 hb; replace HB := bst HB hb; clear hb; obtain ⟨_, _, _, _⟩ := s2 BK415; obtain ⟨_, _, _, _, _, _, _, _⟩ := s4 BK412) | (go_at_call 87; (with_reducible refine (bocageref02_Less.calls _ _ _ _ _ _ _ A18.out).mono ?_); rintro e w31 ⟨rfl, hb⟩; replace BK412 := bkb BK412 hb; replace BK415 := bkb BK415 hb; replace HB := bst HB hb; clear hb))
   go_ret; exact endB HB
 ·replace H := itf H; obtain rfl := Option.some.inj H; go_enter Tryz.func55, Tryz.ntmps55
  go_wp2_with (first | ((with_reducible refine gate_dst (N := 2) rfl ?_); refine bxf #[.int .i64 a0_0, .int .i64 a0_1, .int .i64 a0_2, .int .i64 a0_3] 35 HB fun gb412 w32 BK412 GW412 HB hg hb => ?_; have GE412 := GW412; clear hb hg) | ((with_reducible refine gate_callee (f := 85) rfl ?_); refine gob Tryz.func85 (bocageref02_Ahead.calls _ _ _ _ _ A3.out) fun w33 hb => ?_; replace BK412 := bkb BK412 hb; replace HB := bst HB hb; (try clear hb); (try clear hb2); (try clear hk); (try clear hi)) | ((with_reducible refine gate_dst (N := 5) rfl ?_); refine bxf #[.int .i64 0, .int .i64 0] 33 HB fun gb415 w34 BK415 GW415 HB hg hb => ?_; have GE415 := GW415; have NB412_415 := nlt hg BK412; have NB415_412 := ngt hg BK412; replace BK412 := bkb BK412 hb; clear hb hg; have hnb35 := NB415_412.out; have hnc35 := NB412_415.out; obtain ⟨_, _, _, _⟩ := s2 BK415; obtain ⟨_, _, _, _, _, _, _, _⟩ := s4 BK412) | ((with_reducible refine gate_callee (f := 86) rfl ?_); refine gob Tryz.func86 (bocageref03_Right.calls _ _ _ _ _ _ _ A4.out) fun w38 hb => ?_; replace BK412 := am (blk_below (bkf BK412 NB412_415) hb); replace BK415 := am (blk_below (g := gb415) (o := .cells #[.int .i64 t413, .int .i64 t414] 33 (0, 0)) (bkp BK415) hb); replace HB := bst HB hb; (try clear hb); (try clear hb2); (try clear hk); (try clear hi)))
  go_ret; exact endB HB
mutual
def bocageref02_Sort.l0 : Nat → List (S33) → List (S33) → Option ((List (S33)))
  | 0, _, _ => none
  | k + 1, x0, x3 => bocageref02_Sort.l1 k x0 x3 false 0 0 0
def bocageref02_Sort.l1 : Nat → List (S33) → List (S33) → Bool → Int → Int → Int → Option ((List (S33)))
  | 0, _, _, _, _, _, _ => none
  | k + 1, x0, x3, x4, x6, x422000, x422001 => if x6 < (x0.length : Int) then (if (x3.length : Int) = 0 then (bocageref02_Sort.j2 k x0 x3 x4 x6 true x422000 x422001) else (if 0 ≤ (wrap64 ((x3.length : Int) - 1)) then (if (wrap64 ((x3.length : Int) - 1)) < (x3.length : Int) then (if 0 ≤ x6 then ((bocageref02_Less.f k ((rd_T33 x3 (wrap64 ((x3.length : Int) - 1))).f0) ((rd_T33 x3 (wrap64 ((x3.length : Int) - 1))).f1) ((rd_T33 x0 x6).f0) ((rd_T33 x0 x6).f1)).bind fun t427 => (bocageref02_Sort.j2 k x0 x3 x4 x6 t427 x422000 x422001)) else (none)) else (none)) else (none))) else (if x4 = true then (if x3.length < 8796093022208 then (bocageref02_Sort.l0 k x0 (x3 ++ [(⟨x422000, x422001⟩ : S33)])) else (none)) else (some x3))
def bocageref02_Sort.j2 : Nat → List (S33) → List (S33) → Bool → Int → Bool → Int → Int → Option ((List (S33)))
  | 0, _, _, _, _, _, _, _ => none
  | k + 1, x0, x3, x4, x6, x7, x422000, x422001 => if x7 = true then (if x4 = true then (if 0 ≤ x6 then (if x6 < (x0.length : Int) then ((bocageref02_Less.f k ((rd_T33 x0 x6).f0) ((rd_T33 x0 x6).f1) x422000 x422001).bind fun t429 => (if t429 = true then ((bocageref02_Canon.f k ((rd_T33 x0 x6).f0) ((rd_T33 x0 x6).f1)).bind fun bt431 => (bocageref02_Sort.l1 k x0 x3 true (wrap64 (x6 + 1)) bt431.1 bt431.2)) else (bocageref02_Sort.l1 k x0 x3 x4 (wrap64 (x6 + 1)) x422000 x422001))) else (none)) else (none)) else (if 0 ≤ x6 then (if x6 < (x0.length : Int) then ((bocageref02_Canon.f k ((rd_T33 x0 x6).f0) ((rd_T33 x0 x6).f1)).bind fun bt434 => (bocageref02_Sort.l1 k x0 x3 true (wrap64 (x6 + 1)) bt434.1 bt434.2)) else (none)) else (none))) else (bocageref02_Sort.l1 k x0 x3 x4 (wrap64 (x6 + 1)) x422000 x422001)
end
def bocageref02_Sort.f (k : Nat) (l0 : List (S33)) : Option ((List (S33))) := bocageref02_Sort.l0 k l0 ([] : List (S33))
def bocageref02_Sort.T7 : Bool × List (List Nat × List Nat) := (true, [([], []), ([0], [0]), ([1], [1]), ([2], [2]), ([3], [3]), ([3], [3]), ([5, 3], [3, 5]), ([6, 3], [3, 6]), ([4, 7, 3], [3, 4, 7]), ([8, 3], [3, 8]), ([3], [3]), ([3], [3]), ([10, 11, 3], [3, 10, 11]), ([12, 3], [3, 12]), ([9, 13, 3, 3], [3, 9, 13]), ([3, 14], [3, 14]), ([15, 14, 0, 1, 2, 3, 4, 5, 6, 7, 8, 9, 10, 11, 12, 13, 14, 15], [15])])
def bocageref02_Sort.B7 : List Nat := [0, 1, 3, 7, 15, 15, 47, 111, 255, 511, 15, 15, 3087, 7183, 16383, 32767, 65535]
theorem bocageref02_Sort.tab7 : rtab .any (opsOf Tryz.f99 7) = bocageref02_Sort.T7 := by kernel_rfl
theorem bocageref02_Sort.bits7 : waitsOk bocageref02_Sort.T7.2 bocageref02_Sort.B7 = true := by kernel_rfl
def bocageref02_Sort.T8 : Bool × List (List Nat × List Nat) := (true, [([], []), ([0], [0]), ([1], [1]), ([2, 1], [1, 2]), ([3, 1, 1], [1, 3]), ([4], [4]), ([4], [4]), ([5, 6, 4], [4, 5, 6]), ([7, 4], [4, 7]), ([4], [4]), ([8, 9, 4, 4], [4, 8, 9]), ([4, 10, 1], [1, 4, 10]), ([1, 11], [1, 11])])
def bocageref02_Sort.B8 : List Nat := [0, 1, 3, 7, 15, 31, 31, 127, 255, 31, 1023, 2047, 4095]
theorem bocageref02_Sort.tab8 : rtab .any (opsOf Tryz.f99 8) = bocageref02_Sort.T8 := by kernel_rfl
theorem bocageref02_Sort.bits8 : waitsOk bocageref02_Sort.T8.2 bocageref02_Sort.B8 = true := by kernel_rfl
theorem bocageref02_Sort.calls (k : Nat) (A0 : Option Addr) (c0 : Nat) (l0 : List (S33)) (r : List (S33)) (w : World) (hr0 : Kd.C k33 w A0 l0.length l0) (hc0 : l0.length ≤ c0) (h : bocageref02_Sort.f k l0 = some r) :
 Calls Tryz.prog 99 #[.slice A0 l0.length c0] w fun e w' => ∃ v0_ : Value, e = .returned (v0_) ∧ Kd.R k33 33 w' w.heap.size (fun _ => True) v0_ r ∧ Below w.heap.size w w' := by
 have hu33 := Tryz.underlying33; have HR0 := am hr0; have HC0 := am hc0; clear hr0 hc0
 have HB := am (Below.refl w.heap.size w)
 have H : (bocageref02_Sort.l0 k l0 ([] : List (S33))) = some r := h
 clear h; have H' := am H; clear H; go_enter Tryz.func99, Tryz.ntmps99; go_wp2
 go_loopg [3] k (fun kq v3 w' => ∃ (x3_1 : List (S33)), Aside0 (bocageref02_Sort.l0 kq l0 x3_1 = some r) ∧ Aside0 (kq ≤ k) ∧ Aside0 (Kd.R k33 33 w' w.heap.size (fun _ => True) v3 x3_1) ∧ Aside0 (Below w.heap.size w w'))
 case atStart => exact ⟨_, H', ⟨Nat.le_refl _⟩, kn, ⟨bl HB⟩⟩
 case round =>
  clear H'
  obtain ⟨x3_1, HA, HK1, HO_3, HB⟩ := hrel
  cases gk with
  | zero => exact absurd HA.out (by simp [bocageref02_Sort.l0])
  | succ k1 =>
   have H := HA.out; clear HA
   simp only [bocageref02_Sort.l0] at H
   have H' := am H; clear H
   go_wp2_with (first | ((with_reducible refine gate_dst (N := 5) rfl ?_); (try (refine gate_guard (by rfl) ?_; dsimp only)); refine bxf #[.int .i64 0, .int .i64 0] 33 HB fun gb421 w2 BK421 GW421 HB hg hb => ?_; replace HO_3 := am (Kd.R_below (Kd.R_elderB (kr HO_3) gb421 (Nat.le_of_eq hg.symm)) hb); have GE421 := GW421; clear hb hg))
   go_loopg [4, 6] k1 (fun kq v4 v6 w' => ∃ (x4_2 : Bool) (x6_2 : Int) (x422000_2 : Int) (x422001_2 : Int), v4 = .bool x4_2 ∧ v6 = .int .i64 x6_2 ∧ Aside0 (bocageref02_Sort.l1 kq l0 x3_1 x4_2 x6_2 x422000_2 x422001_2 = some r) ∧ Aside0 (kq ≤ k1) ∧ Aside0 (Kd.R k33 33 w' w.heap.size (fun k_ => k_ ≠ gb421) u3 x3_1) ∧ Aside0 (w'.heap[gb421]? = some (.cells #[.int .i64 x422000_2, .int .i64 x422001_2] 33 (0, 0))) ∧ Aside0 (Below w.heap.size w w'))
   case atStart => exact ⟨_, _, _, _, rs, rs, H', ⟨Nat.le_refl _⟩, ⟨by (with_reducible repeat (first | apply Kd.R_alloc | apply Kd.R_drewN | apply Kd.R_drew)); exact Kd.R_mono HO_3.out (fun _ hk => hk.2)⟩, ⟨bk BK421⟩, ⟨bl HB⟩⟩
   case round =>
    clear H'
    try clear p2
    obtain ⟨x4_2, x6_2, x422000_2, x422001_2, rfl, rfl, HA, HK2, HO_3, BK421, HB⟩ := hrel
    cases gk with
    | zero => exact absurd HA.out (by simp [bocageref02_Sort.l1])
    | succ k2 =>
     have H := HA.out; clear HA
     simp only [bocageref02_Sort.l1] at H
     revert H; refine itc (fun c3b0 H => ?_) fun c3b0 H => ?_
     ·have HC4 := am H; clear H
      go_upto_region 7 with (fail)
      go_cut [7] (fun v7 wc => ∃ (kq : Nat) (x7_3 : Bool), v7 = .bool x7_3 ∧ Aside0 (bocageref02_Sort.j2 kq l0 x3_1 x4_2 x6_2 x7_3 x422000_2 x422001_2 = some r) ∧ Aside0 (kq ≤ k2) ∧ Aside0 (Kd.R k33 33 wc w.heap.size (fun k_ => k_ ≠ gb421) u3 x3_1) ∧ Aside0 (wc.heap[gb421]? = some (.cells #[.int .i64 x422000_2, .int .i64 x422001_2] 33 (0, 0))) ∧ Aside0 (Below w.heap.size w wc))
      case first =>
       have H := HC4.out; clear HC4
       by_cases c5 : (x3_1.length : Int) = 0
       ·rw [if_pos c5] at H
        have c5b0 : ((x3_1.length : Int) == 0) = true := beq_iff_eq.mpr c5
        have c5b1 : ((x3_1.length : Int) != 0) = false := bne_eq_false_iff_eq.mpr c5
        clear c5
        (first | rw [c5b0] | (simp only [i64_w, i32_w]; rw [c5b0]) | skip)
        have H' := am H; clear H
        try go_wp2
        replace HO_3 := am (Kd.R_drew HO_3.out); replace BK421 := am (blk_drew BK421.out); replace HB := am (below_drew1 HB.out)
        obtain ⟨Ao7, co7, eo7⟩ := Kd.R_slice HO_3.out
        (first | subst eo7 | (injection eo7 with f1_ f2_ f3_; have f4_ := f1_.symm; have f5_ := f3_.symm; clear f1_ f2_ f3_; subst f4_; subst f5_))
        refine st F17 [] h0 fun hHeld => ?_; refine with_tabW bocageref02_Sort.tab7 bocageref02_Sort.bits7 (fun HT_ HW_ => ?_)
        generalize wr.drew = w6 at HO_3 BK421 HB hHeld ⊢; refine pw 0 14 HT_ ?_; refine pw 1 15 HT_ ?_; refine pw 2 16 HT_ ?_; refine pw 3 17 HT_ ?_; refine px 4 18 HT_ ?_; refine px 5 19 HT_ ?_; refine px 6 20 HT_ ?_; refine px 7 21 HT_ ?_; refine px 8 22 HT_ ?_; refine px 9 23 HT_ ?_; refine px 10 24 HT_ ?_; refine px 11 25 HT_ ?_; refine px 12 26 HT_ ?_; refine px 13 27 HT_ ?_; refine px 14 28 HT_ ?_; refine pw 15 29 HT_ ?_; refine pw 16 7 HT_ ?_
        refine dt HT_ ?_
        try go_wp2
        go_meet
        case rel => exact ⟨_, (true), rs, H', ⟨by have := HK1.out; have := HK2.out; first | omega | exact Nat.le_refl _⟩, ⟨kr HO_3⟩, ⟨bk BK421⟩, ⟨bl HB⟩⟩
       ·rw [if_neg c5] at H
        have c5b0 : ((x3_1.length : Int) == 0) = false := beq_eq_false_iff_ne.mpr c5
        have c5b1 : ((x3_1.length : Int) != 0) = true := bne_iff_ne.mpr c5
        have c5b2 : ¬ (x3_1 = []) := fun h_ => c5 (by rw [h_]; rfl)
        (first | rw [c5b0] | (simp only [i64_w, i32_w]; rw [c5b0]) | skip)
        obtain ⟨ji8, hji8⟩ : ∃ j_ : Int, (wrap64 ((x3_1.length : Int) - 1)) = j_ := ⟨_, rfl⟩
        (first | rw [hji8] at H | simp only [hji8] at H)
        have hji8w : (IntKind.i64.wrap ((x3_1.length : Int) - 1)) = ji8 := (i64_w _).trans hji8
        revert H; refine its fun c9b0 H => ?_
        revert H; refine its fun c10b0 H => ?_
        revert H; refine its fun c11b0 H => ?_
        replace H := Option.bind_eq_some_iff.mp H
        obtain ⟨t427, A120, H⟩ := H
        (try (set_option simprocs false in dsimp only at H))
        have A12 := am A120; clear A120; have H' := am H; clear H
        try go_wp2
        replace HO_3 := am (Kd.R_drew HO_3.out); replace BK421 := am (blk_drew BK421.out); replace HB := am (below_drew1 HB.out)
        obtain ⟨Ao14, co14, eo14⟩ := Kd.R_slice HO_3.out
        (first | subst eo14 | (injection eo14 with f1_ f2_ f3_; have f4_ := f1_.symm; have f5_ := f3_.symm; clear f1_ f2_ f3_; subst f4_; subst f5_))
        obtain ⟨ad425, e425, hx425_0, hx425_1, p425, q425⟩ := ay33 (Kd.R_reads' HO_3.out).2.2 (ji8)
        cases e425; have p426 : 0 ≤ (x6_2 : Int) := pd; have q426 : x6_2 < (l0.length : Int) := pd; obtain ⟨ad426, e426, hx426_0, hx426_1⟩ := at_T33 HR0.out x6_2 p426 q426
        have hw426_1 := hx426_1
        have hw426_0 := hx426_0
        cases e426; replace hx426_0 := cl HB hx426_0; replace hx426_1 := cl HB hx426_1; replace p426 := eq_true p426; replace q426 := eq_true q426
        refine st F17 [] (g1 hx425_0 (g1 hx425_1 (g1 (cl HB hw426_0) (h1 (cl HB hw426_1))))) fun hHeld => ?_; refine with_tabW bocageref02_Sort.tab7 bocageref02_Sort.bits7 (fun HT_ HW_ => ?_)
        generalize wr.drew = w13 at HO_3 BK421 HB hx425_0 hx425_1 hx426_0 hx426_1 hHeld ⊢; refine pw 0 14 HT_ ?_; refine pw 1 15 HT_ ?_; refine pw 2 16 HT_ ?_; refine pw 3 17 HT_ ?_; refine pw 4 18 HT_ ?_; refine pw 5 19 HT_ ?_; refine pw 6 20 HT_ ?_; refine pw 7 21 HT_ ?_; refine pw 8 22 HT_ ?_; refine pw 10 24 HT_ ?_; refine pw 11 25 HT_ ?_; refine pw 12 26 HT_ ?_; refine tw4 9 23 HT_ HW_ hHeld ?_; refine tw4 13 27 HT_ HW_ hHeld ?_
        refine on 14 HT_ fun K hK => ?_
        refine goes_ Tryz.func87 (by kernel_rfl) rfl #[.agg #[.int .i64 ((rd_T33 x3_1 (ji8)).f0), .int .i64 ((rd_T33 x3_1 (ji8)).f1)], .agg #[.int .i64 ((rd_T33 l0 x6_2).f0), .int .i64 ((rd_T33 l0 x6_2).f1)]] (by rfl) rfl rfl (by (try simp only [List.map_toArray, List.map_cons, List.map_nil]); first | done | (simp only [hji8]; rfl) | rfl | (simp only [List.length_drop, List.length_take]; rfl)) ?_
        with_reducible refine (bocageref02_Less.calls _ _ _ _ _ _ _ A12.out).mono ?_
        rintro e w15 ⟨rfl, hb⟩
        have HS0_ := (hb.cell (World.block_lt_of_cell? _ _ (hHeld.1))).trans (hHeld.1)
        have HS1_ := (hb.cell (World.block_lt_of_cell? _ _ (hHeld.2.1))).trans (hHeld.2.1)
        refine ⟨_, rfl, ?_⟩; replace HO_3 := krb HO_3 hb; replace BK421 := bkb BK421 hb; replace HB := bst HB hb
        (try clear hb)
        (try clear hb2)
        (try clear hk)
        (try clear hi)
        refine hK.out _ _ ⟨HS0_, HS1_, (cl HB hw426_0), (cl HB hw426_1)⟩ (fun hHeld => ?_); clear hK K; refine nrp 28 ?_; refine pw 15 29 HT_ ?_; refine pw 16 7 HT_ ?_
        refine dt HT_ ?_
        try go_wp2
        go_meet
        case rel => exact ⟨_, (t427), rs, H', ⟨by have := HK1.out; have := HK2.out; first | omega | exact Nat.le_refl _⟩, ⟨kr HO_3⟩, ⟨bk BK421⟩, ⟨bl HB⟩⟩
      case rest =>
       clear HC4
       try clear c1
       try clear p2
       try clear c3
       try clear c3b0
       try clear p4
       try clear q4
       try clear hx4
       try clear c5
       try clear c5b0
       try clear c5b1
       try clear c5b2
       try clear p6
       try clear c8
       try clear c9
       try clear c9b0
       try clear c10
       try clear c10b0
       try clear c11
       try clear c11b0
       try clear hx425_0
       try clear hx425_1
       try clear hx426_0
       try clear hx426_1
       try clear p2
       try clear p425
       try clear p426
       try clear q425
       try clear q426
       obtain ⟨kq, x7_3, rfl, HA, HJ3, HO_3, BK421, HB⟩ := hcut
       cases kq with
       | zero => exact absurd HA.out (by simp [bocageref02_Sort.j2])
       | succ kj3 =>
        have H := HA.out; clear HA
        simp only [bocageref02_Sort.j2] at H
        cases x7_3; rotate_left
        ·replace H := itt H; cases x4_2; rotate_left
         ·replace H := itt H; revert H; refine its fun c18b0 H => ?_
          revert H; refine its fun c19b0 H => ?_
          replace H := Option.bind_eq_some_iff.mp H
          obtain ⟨t429, A200, H⟩ := H
          (try (set_option simprocs false in dsimp only at H))
          have A20 := am A200; clear A200; cases t429; rotate_left
          ·replace H := itt H
           replace H := Option.bind_eq_some_iff.mp H
           obtain ⟨⟨t431, t432⟩, A220, H⟩ := H
           (try (set_option simprocs false in dsimp only at H))
           have A22 := am A220; clear A220; have H' := am H; clear H
           try go_wp2
           replace HO_3 := am (Kd.R_drew HO_3.out); replace BK421 := am (blk_drew BK421.out); replace HB := am (below_drew1 HB.out); have p428 : 0 ≤ (x6_2 : Int) := pd; have q428 : x6_2 < (l0.length : Int) := pd; obtain ⟨ad428, e428, hx428_0, hx428_1⟩ := at_T33 HR0.out x6_2 p428 q428
           have hw428_1 := hx428_1
           have hw428_0 := hx428_0
           cases e428; replace hx428_0 := cl HB hx428_0; replace hx428_1 := cl HB hx428_1; replace p428 := eq_true p428; replace q428 := eq_true q428
           refine st F13 [] (g2 BK421 (g1 (cl HB hw428_0) (h1 (cl HB hw428_1)))) fun hHeld => ?_; refine with_tabW bocageref02_Sort.tab8 bocageref02_Sort.bits8 (fun HT_ HW_ => ?_)
           generalize wc.drew = w23 at HO_3 BK421 HB hx428_0 hx428_1 hHeld ⊢; refine pw 0 30 HT_ ?_; refine pw 1 31 HT_ ?_; refine pw 2 32 HT_ ?_; refine pw 3 33 HT_ ?_; refine pw 4 34 HT_ ?_; refine pw 5 35 HT_ ?_; refine pw 6 36 HT_ ?_; refine pw 7 37 HT_ ?_; refine tw4 8 38 HT_ HW_ hHeld ?_; refine tw4 9 39 HT_ HW_ hHeld ?_
           refine ca 10 HT_ Tryz.func87 (bocageref02_Less.calls _ _ _ _ _ _ _ A20.out) hHeld fun w24 hb hHeld => ?_
           replace HO_3 := krb HO_3 hb; replace BK421 := bkb BK421 hb; replace HB := bst HB hb; clear hb; refine pw 11 41 HT_ ?_; refine pw 12 42 HT_ ?_
           refine dt HT_ ?_
           obtain ⟨ad430, e430, hx430_0, hx430_1, p430, q430⟩ := ax33 HR0 HB x6_2
           obtain rfl : ad428 = ad430 := (by injection e430)
           try go_wp2_with (first | ((with_reducible refine gate_callee (f := 77) rfl ?_); refine gob Tryz.func77 (bocageref02_Canon.calls _ _ _ _ _ _ A22.out) fun w25 hb => ?_; replace HO_3 := krb HO_3 hb; replace BK421 := bkb BK421 hb; replace HB := bst HB hb; (try clear hb); (try clear hb2); (try clear hk); (try clear hi); obtain ⟨_, _, _, _⟩ := s2 BK421))
           go_roundg kj3
           case measure => have := HK1.out; have := HK2.out; have := HJ3.out; omega
           case rel => exact ⟨_, _, _, _, rs, rs, H', ⟨by have := HK1.out; have := HK2.out; have := HJ3.out; omega⟩, ⟨by (with_reducible repeat (first | apply Kd.R_alloc | apply Kd.R_drewN | apply Kd.R_drew)); exact Kd.R_mono (Kd.R_far (p := ⟨gb421, 1, none⟩) (Kd.R_far (p := ⟨gb421, 0, none⟩) (Kd.R_mono HO_3.out (fun k_ hk => (⟨hk, hk⟩ : _ ∧ k_ ≠ gb421))) (fun _ hk => hk.2) (.int .i64 t431)) (fun _ hk => hk.2) (.int .i64 t432)) (fun _ hk => hk.1)⟩, ⟨by (with_reducible repeat (first | refine blk_drewN ?_ _ | refine blk_drew ?_ | refine blk_alloc ?_ _)); refine blk_put (cs := #[.int .i64 t431, .int .i64 x422001_2]) ?_ 1 _ rfl; (with_reducible repeat (first | refine blk_drewN ?_ _ | refine blk_drew ?_ | refine blk_alloc ?_ _)); refine blk_put (cs := #[.int .i64 x422000_2, .int .i64 x422001_2]) ?_ 0 _ rfl; (with_reducible repeat (first | refine blk_drewN ?_ _ | refine blk_drew ?_ | refine blk_alloc ?_ _)); exact BK421.out⟩, ⟨bl HB⟩⟩
          ·replace H := itf H; have H' := am H; clear H
           try go_wp2
           replace HO_3 := am (Kd.R_drew HO_3.out); replace BK421 := am (blk_drew BK421.out); replace HB := am (below_drew1 HB.out); have p428 : 0 ≤ (x6_2 : Int) := pd; have q428 : x6_2 < (l0.length : Int) := pd; obtain ⟨ad428, e428, hx428_0, hx428_1⟩ := at_T33 HR0.out x6_2 p428 q428
           have hw428_1 := hx428_1
           have hw428_0 := hx428_0
           cases e428; replace hx428_0 := cl HB hx428_0; replace hx428_1 := cl HB hx428_1; replace p428 := eq_true p428; replace q428 := eq_true q428
           refine st F13 [] (g2 BK421 (g1 (cl HB hw428_0) (h1 (cl HB hw428_1)))) fun hHeld => ?_; refine with_tabW bocageref02_Sort.tab8 bocageref02_Sort.bits8 (fun HT_ HW_ => ?_)
           generalize wc.drew = w27 at HO_3 BK421 HB hx428_0 hx428_1 hHeld ⊢; refine pw 0 30 HT_ ?_; refine pw 1 31 HT_ ?_; refine pw 2 32 HT_ ?_; refine pw 3 33 HT_ ?_; refine pw 4 34 HT_ ?_; refine pw 5 35 HT_ ?_; refine pw 6 36 HT_ ?_; refine pw 7 37 HT_ ?_; refine tw4 8 38 HT_ HW_ hHeld ?_; refine tw4 9 39 HT_ HW_ hHeld ?_
           refine ca 10 HT_ Tryz.func87 (bocageref02_Less.calls _ _ _ _ _ _ _ A20.out) hHeld fun w28 hb hHeld => ?_
           replace HO_3 := krb HO_3 hb; replace BK421 := bkb BK421 hb; replace HB := bst HB hb; clear hb; refine pw 11 41 HT_ ?_; refine pw 12 42 HT_ ?_
           refine dt HT_ ?_
           try go_wp2
           go_roundg kj3
           case measure => have := HK1.out; have := HK2.out; have := HJ3.out; omega
           case rel => exact ⟨_, _, _, _, rs, rs, H', ⟨by have := HK1.out; have := HK2.out; have := HJ3.out; omega⟩, ⟨kr HO_3⟩, ⟨bk BK421⟩, ⟨bl HB⟩⟩
         ·replace H := itf H; revert H; refine its fun c29b0 H => ?_
          revert H; refine its fun c30b0 H => ?_
          replace H := Option.bind_eq_some_iff.mp H
          obtain ⟨⟨t434, t435⟩, A310, H⟩ := H
          (try (set_option simprocs false in dsimp only at H))
          have A31 := am A310; clear A310; have H' := am H; clear H
          try go_wp2
          replace HO_3 := am (Kd.R_drew HO_3.out); replace BK421 := am (blk_drew BK421.out); replace HB := am (below_drew1 HB.out)
          refine st F13 [] h0 fun hHeld => ?_; refine with_tabW bocageref02_Sort.tab8 bocageref02_Sort.bits8 (fun HT_ HW_ => ?_)
          generalize wc.drew = w32 at HO_3 BK421 HB hHeld ⊢; refine pw 0 30 HT_ ?_; refine pw 1 31 HT_ ?_; refine pw 2 32 HT_ ?_; refine pw 3 33 HT_ ?_; refine pw 4 34 HT_ ?_; refine px 5 35 HT_ ?_; refine px 6 36 HT_ ?_; refine px 7 37 HT_ ?_; refine px 8 38 HT_ ?_; refine px 9 39 HT_ ?_; refine px 10 40 HT_ ?_; refine pw 11 41 HT_ ?_; refine pw 12 42 HT_ ?_
          refine dt HT_ ?_
          obtain ⟨ad433, e433, hx433_0, hx433_1, p433, q433⟩ := ax33 HR0 HB x6_2
          cases e433
          try go_wp2_with (first | ((with_reducible refine gate_callee (f := 77) rfl ?_); refine gob Tryz.func77 (bocageref02_Canon.calls _ _ _ _ _ _ A31.out) fun w33 hb => ?_; replace HO_3 := krb HO_3 hb; replace BK421 := bkb BK421 hb; replace HB := bst HB hb; (try clear hb); (try clear hb2); (try clear hk); (try clear hi); obtain ⟨_, _, _, _⟩ := s2 BK421))
          go_roundg kj3
          case measure => have := HK1.out; have := HK2.out; have := HJ3.out; omega
          case rel => exact ⟨_, _, _, _, rs, rs, H', ⟨by have := HK1.out; have := HK2.out; have := HJ3.out; omega⟩, ⟨by (with_reducible repeat (first | apply Kd.R_alloc | apply Kd.R_drewN | apply Kd.R_drew)); exact Kd.R_mono (Kd.R_far (p := ⟨gb421, 1, none⟩) (Kd.R_far (p := ⟨gb421, 0, none⟩) (Kd.R_mono HO_3.out (fun k_ hk => (⟨hk, hk⟩ : _ ∧ k_ ≠ gb421))) (fun _ hk => hk.2) (.int .i64 t434)) (fun _ hk => hk.2) (.int .i64 t435)) (fun _ hk => hk.1)⟩, ⟨by (with_reducible repeat (first | refine blk_drewN ?_ _ | refine blk_drew ?_ | refine blk_alloc ?_ _)); refine blk_put (cs := #[.int .i64 t434, .int .i64 x422001_2]) ?_ 1 _ rfl; (with_reducible repeat (first | refine blk_drewN ?_ _ | refine blk_drew ?_ | refine blk_alloc ?_ _)); refine blk_put (cs := #[.int .i64 x422000_2, .int .i64 x422001_2]) ?_ 0 _ rfl; (with_reducible repeat (first | refine blk_drewN ?_ _ | refine blk_drew ?_ | refine blk_alloc ?_ _)); exact BK421.out⟩, ⟨bl HB⟩⟩
        ·replace H := itf H; have H' := am H; clear H
         try go_wp2
         replace HO_3 := am (Kd.R_drew HO_3.out); replace BK421 := am (blk_drew BK421.out); replace HB := am (below_drew1 HB.out)
         refine st F13 [] h0 fun hHeld => ?_; refine with_tabW bocageref02_Sort.tab8 bocageref02_Sort.bits8 (fun HT_ HW_ => ?_)
         generalize wc.drew = w35 at HO_3 BK421 HB hHeld ⊢; refine pw 0 30 HT_ ?_; refine pw 1 31 HT_ ?_; refine px 2 32 HT_ ?_; refine px 3 33 HT_ ?_; refine px 4 34 HT_ ?_; refine px 5 35 HT_ ?_; refine px 6 36 HT_ ?_; refine px 7 37 HT_ ?_; refine px 8 38 HT_ ?_; refine px 9 39 HT_ ?_; refine px 10 40 HT_ ?_; refine px 11 41 HT_ ?_; refine pw 12 42 HT_ ?_
         refine dt HT_ ?_
         try go_wp2
         go_roundg kj3
         case measure => have := HK1.out; have := HK2.out; have := HJ3.out; omega
         case rel => exact ⟨_, _, _, _, rs, rs, H', ⟨by have := HK1.out; have := HK2.out; have := HJ3.out; omega⟩, ⟨kr HO_3⟩, ⟨bk BK421⟩, ⟨bl HB⟩⟩
     ·cases x4_2; rotate_left
      ·replace H := itt H; revert H; refine itl fun LMc37 H => ?_
       generalize hy422 : x3_1 ++ [(⟨x422000_2, x422001_2⟩ : S33)] = y422 at H; have Ny422 := am hy422.symm; clear hy422; have H' := am H; clear H; obtain ⟨_, _, _, _⟩ := s2 BK421
       go_wp2_with (first | ((with_reducible refine gate_builtin (b := .append) (xs := #[.tmp 51, .tmp 53]) rfl ?_); (try (refine gate_guard (by rfl) ?_; dsimp only)); at_builtin; refine Kd.R_append k33 (w0 := w) w.heap.size rfl (.tmp 51) (.tmp 53) 71 33 (.agg #[(.int .i64 0), (.int .i64 0)]) 16 rfl Tryz.underlying71 info33 rfl (by decide) (by omega) u3 x3_1 (⟨x422000_2, x422001_2⟩ : S33) [.int .i64 x422000_2, .int .i64 x422001_2] (fun k_ => k_ ≠ gb421) (fun _ => False) rfl rfl ?aP (fun _ hk => hk.elim) ?aF ?aO ?aB ?aS ?aL ?_; (case aP => exact k33_mkM _ _ _ (⟨x422000_2, x422001_2⟩ : S33)); (case aB => exact (bl HB)); (case aF => exact (fun k_ hk => Kd.freshB (bk BK421) k_ hk)); (case aO => exact (kr HO_3)); (case aS => exact (below_size (bl HB))); (case aL => have := LMc37.out; omega); intro v423 w39 ho hb hg hat; rw [← Ny422.out] at ho; replace BK421 := am (blk_grown (bk BK421) hg (Kd.R_away HO_3.out (fun _ hk => hk))); replace HB := am hb; have HO424 := am ho; clear HO_3; clear ho hb hg hat))
       go_roundg k2
       case measure => have := HK1.out; have := HK2.out; omega
       case rel => exact ⟨_, H', ⟨by have := HK1.out; have := HK2.out; omega⟩, ⟨by (with_reducible repeat (first | apply Kd.R_alloc | apply Kd.R_drewN | apply Kd.R_drew)); exact Kd.R_mono HO424.out (fun _ hk => trivial)⟩, ⟨bl HB⟩⟩
      ·replace H := itf H; obtain rfl := Option.some.inj H; go_wp2; go_ret
       exact ⟨_, by first | rfl | (simp [errW_none, errW_some] <;> rfl) | (simp [*, errW_none, errW_some] <;> rfl), by (with_reducible repeat (first | apply Kd.R_alloc | apply Kd.R_drewN | apply Kd.R_drew)); exact Kd.R_mono HO_3.out (fun _ hk => trivial), by repeat (first | (with_reducible first | exact HB.out | apply below_alloc | apply pw_below_drewN | apply below_drew1 | refine below_set ?_ GE421.out) | exact HB.out)⟩
def bocageref03_Cuts.l0 : Nat → List (S35) → List (S33) → Int → Option ((List (S33)))
  | 0, _, _, _ => none
  | k + 1, x0, x3, x4 => if x4 < (x0.length : Int) then (if 0 ≤ x4 then ((bocageref03_Right.f k ((rd_T35 x0 x4).f0.f0) ((rd_T35 x0 x4).f0.f1) ((rd_T35 x0 x4).f1.f0) ((rd_T35 x0 x4).f1.f1)).bind fun t437 => (if t437 = true then ((some (([(⟨(rd_T35 x0 x4).f0.f0, (rd_T35 x0 x4).f0.f1⟩ : S33), (⟨(rd_T35 x0 x4).f1.f0, (rd_T35 x0 x4).f1.f1⟩ : S33)] : List (S33)) : List (S33))).bind fun y440 => (if x3.length + y440.length < 8796093022208 then (bocageref03_Cuts.l0 k x0 (x3 ++ y440) (wrap64 (x4 + 1))) else (none))) else (bocageref03_Cuts.l0 k x0 x3 (wrap64 (x4 + 1))))) else (none)) else ((bocageref02_Sort.f k x3).bind fun t446 => (some t446))
def bocageref03_Cuts.f (k : Nat) (l0 : List (S35)) : Option ((List (S33))) := bocageref03_Cuts.l0 k l0 ([] : List (S33)) 0
def bocageref03_Cuts.T6 : Bool × List (List Nat × List Nat) := (true, [([], []), ([], []), ([], []), ([1, 2], [1, 2]), ([3], [3]), ([4], [4]), ([], []), ([], []), ([6, 7], [6, 7]), ([8], [8]), ([9], [9]), ([5, 10], [5, 10]), ([0, 11], [0, 11]), ([12, 12, 0, 1, 2, 3, 4, 5, 6, 7, 8, 9, 10, 11, 12], [0, 12])])
def bocageref03_Cuts.B6 : List Nat := [0, 0, 0, 6, 14, 30, 0, 0, 192, 448, 960, 2046, 4095, 8191]
theorem bocageref03_Cuts.tab6 : rtab .any (opsOf Tryz.f66 6) = bocageref03_Cuts.T6 := by kernel_rfl
theorem bocageref03_Cuts.bits6 : waitsOk bocageref03_Cuts.T6.2 bocageref03_Cuts.B6 = true := by kernel_rfl
theorem bocageref03_Cuts.calls (k : Nat) (A0 : Option Addr) (c0 : Nat) (l0 : List (S35)) (r : List (S33)) (w : World) (hr0 : Kd.C k35 w A0 l0.length l0) (hc0 : l0.length ≤ c0) (h : bocageref03_Cuts.f k l0 = some r) :
 Calls Tryz.prog 66 #[.slice A0 l0.length c0] w fun e w' => ∃ v0_ : Value, e = .returned (v0_) ∧ Kd.R k33 33 w' w.heap.size (fun _ => True) v0_ r ∧ Below w.heap.size w w' := by
 have hu35 := Tryz.underlying35; have hu33 := Tryz.underlying33; have HR0 := am hr0; have HC0 := am hc0; clear hr0 hc0
 have HB := am (Below.refl w.heap.size w)
 have H : (bocageref03_Cuts.l0 k l0 ([] : List (S33)) 0) = some r := h
 clear h; have H' := am H; clear H; go_enter Tryz.func66, Tryz.ntmps66; go_wp2
 go_loopg [3, 4] k (fun kq v3 v4 w' => ∃ (x3_1 : List (S33)) (x4_1 : Int), v4 = .int .i64 x4_1 ∧ Aside0 (bocageref03_Cuts.l0 kq l0 x3_1 x4_1 = some r) ∧ Aside0 (kq ≤ k) ∧ Aside0 (Kd.R k33 33 w' w.heap.size (fun _ => True) v3 x3_1) ∧ Aside0 (Below w.heap.size w w'))
 case atStart => exact ⟨_, _, rs, H', ⟨Nat.le_refl _⟩, kn, ⟨bl HB⟩⟩
 case round =>
  clear H'
  obtain ⟨x3_1, x4_1, rfl, HA, HK1, HO_3, HB⟩ := hrel
  cases gk with
  | zero => exact absurd HA.out (by simp [bocageref03_Cuts.l0])
  | succ k1 =>
   have H := HA.out; clear HA
   simp only [bocageref03_Cuts.l0] at H
   revert H; refine itc (fun c2b0 H => ?_) fun c2b0 H => ?_
   ·revert H; refine its fun c3b0 H => ?_
    revert H; refine bnd fun t437 A4 H => ?_
    cases t437; rotate_left
    ·replace H := itt H; generalize hy440 : ([(⟨(rd_T35 l0 x4_1).f0.f0, (rd_T35 l0 x4_1).f0.f1⟩ : S33), (⟨(rd_T35 l0 x4_1).f1.f0, (rd_T35 l0 x4_1).f1.f1⟩ : S33)] : List (S33)) = y440 at H; have Ny440 := am hy440.symm; clear hy440; revert H; refine itl fun LMc6 H => ?_
     generalize hy443 : x3_1 ++ y440 = y443 at H; have Ny443 := am hy443.symm; clear hy443; have H' := am H; clear H
     obtain ⟨ad436, e436, hx436_0, hx436_1, hx436_2, hx436_3, p436, q436⟩ := ax35 HR0 HB x4_1
     cases e436
     try go_wp2_with (first | ((with_reducible refine gate_callee (f := 86) rfl ?_); refine gob Tryz.func86 (bocageref03_Right.calls _ _ _ _ _ _ _ A4.out) fun w7 hb => ?_; replace HO_3 := krb HO_3 hb; replace HB := bst HB hb; (try clear hb); (try clear hb2); (try clear hk); (try clear hi)))
     replace HO_3 := am (Kd.R_drew HO_3.out); replace HB := am (below_drew1 HB.out); have p438 : 0 ≤ (x4_1 : Int) := pd; have q438 : x4_1 < (l0.length : Int) := pd; obtain ⟨ad438, e438, hx438_0, hx438_1, hx438_2, hx438_3⟩ := at_T35 HR0.out x4_1 p438 q438
     have hw438_3 := hx438_3
     have hw438_2 := hx438_2
     have hw438_1 := hx438_1
     have hw438_0 := hx438_0
     obtain rfl : ad436 = ad438 := (by injection e438)
     replace hx438_0 := cl HB hx438_0; replace hx438_1 := cl HB hx438_1; replace hx438_2 := cl HB hx438_2; replace hx438_3 := cl HB hx438_3; replace p438 := eq_true p438; replace q438 := eq_true q438; have p439 : 0 ≤ (x4_1 : Int) := pd; have q439 : x4_1 < (l0.length : Int) := pd; obtain ⟨ad439, e439, hx439_0, hx439_1, hx439_2, hx439_3⟩ := at_T35 HR0.out x4_1 p439 q439
     have hw439_3 := hx439_3
     have hw439_2 := hx439_2
     have hw439_1 := hx439_1
     have hw439_0 := hx439_0
     obtain rfl : ad436 = ad439 := (by injection e439)
     replace hx439_0 := cl HB hx439_0; replace hx439_1 := cl HB hx439_1; replace hx439_2 := cl HB hx439_2; replace hx439_3 := cl HB hx439_3; replace p439 := eq_true p439; replace q439 := eq_true q439
     refine st F14 [] (g1 (cl HB hw438_0) (g1 (cl HB hw438_1) (g1 (cl HB hw438_2) (g1 (cl HB hw438_3) (g1 (cl HB hw439_0) (g1 (cl HB hw439_1) (g1 (cl HB hw439_2) (h1 (cl HB hw439_3))))))))) fun hHeld => ?_; refine with_tabW bocageref03_Cuts.tab6 bocageref03_Cuts.bits6 (fun HT_ HW_ => ?_)
     generalize w7.drew = w8 at HO_3 HB hx438_0 hx438_1 hx438_2 hx438_3 hx439_0 hx439_1 hx439_2 hx439_3 hHeld ⊢; refine pw 0 16 HT_ ?_; refine pw 1 17 HT_ ?_; refine pw 2 18 HT_ ?_; refine pw 3 19 HT_ ?_; refine pw 4 20 HT_ ?_; refine pw 6 22 HT_ ?_; refine pw 7 23 HT_ ?_; refine pw 8 24 HT_ ?_; refine pw 9 25 HT_ ?_; refine tw8 5 21 HT_ HW_ hHeld ?_; refine tw8 10 26 HT_ HW_ hHeld ?_
     refine on 11 HT_ fun K hK => ?_
     refine Kd.R_lit_step k33 _ 33 ?hg (N := 27) ?hd (xs := ([(⟨(rd_T35 l0 x4_1).f0.f0, (rd_T35 l0 x4_1).f0.f1⟩ : S33), (⟨(rd_T35 l0 x4_1).f1.f0, (rd_T35 l0 x4_1).f1.f1⟩ : S33)] : List (S33))) (inner := [.int .i64 ((rd_T35 l0 x4_1).f0.f0), .int .i64 ((rd_T35 l0 x4_1).f0.f1), .int .i64 ((rd_T35 l0 x4_1).f1.f0), .int .i64 ((rd_T35 l0 x4_1).f1.f1)]) (ok := fun _ => True) (okp := fun _ => True) ?hr ?hp (fun _ hk => hk) trivial (Below.refl _ _) (Nat.le_refl _) (by simp) ?_; (case hd => rfl); (case hg => rfl); (case hr => first | (go_simp; done) | (go_simp; rfl)); (case hp => exact (Reps.c2 (show Kd.M k33 _ _ _ (⟨(rd_T35 l0 x4_1).f0.f0, (rd_T35 l0 x4_1).f0.f1⟩ : S33) [.int .i64 ((rd_T35 l0 x4_1).f0.f0), .int .i64 ((rd_T35 l0 x4_1).f0.f1)] from (k33_mkM _ _ _ (⟨(rd_T35 l0 x4_1).f0.f0, (rd_T35 l0 x4_1).f0.f1⟩ : S33) )) (Reps.c2 (show Kd.M k33 _ _ _ (⟨(rd_T35 l0 x4_1).f1.f0, (rd_T35 l0 x4_1).f1.f1⟩ : S33) [.int .i64 ((rd_T35 l0 x4_1).f1.f0), .int .i64 ((rd_T35 l0 x4_1).f1.f1)] from (k33_mkM _ _ _ (⟨(rd_T35 l0 x4_1).f1.f0, (rd_T35 l0 x4_1).f1.f1⟩ : S33) )) (Reps.none _ _))))
     intro v441 w9 ho10 hb hg_ hnew_
     clear hg_ hnew_
     (first | rw [← Ny440.out] at ho10 | (simp only [Int.reduceToNat] at ho10; rw [← Ny440.out] at ho10))
     have HO442 := kw (kz ho10 HO_3) HB
     replace HO_3 := ke HO_3 ho10 hb
     replace HB := bst HB hb; clear hb ho10
     obtain ⟨Ao12, co12, eo12⟩ := Kd.R_slice HO442.out
     (first | subst eo12 | (injection eo12 with f1_ f2_ f3_; have f4_ := f1_.symm; have f5_ := f3_.symm; clear f1_ f2_ f3_; subst f4_; subst f5_))
     refine hK.out _ _ ⟨(cl HB hw438_0), (cl HB hw438_1), (cl HB hw438_2), (cl HB hw438_3), (cl HB hw439_0), (cl HB hw439_1), (cl HB hw439_2), (cl HB hw439_3)⟩ (fun hHeld => ?_); clear hK K; refine nrp 27 ?_
     refine on 12 HT_ fun K hK => ?_
     refine Kd.R_append_rows_step k33 (w0 := w) w.heap.size (by rfl) (.tmp 16) (.tmp 27) 71 33 (.agg #[(.int .i64 0), (.int .i64 0)]) 16 rfl Tryz.underlying71 info33 rfl (by decide) (by omega) u3 x3_1 y440 _ _ _ (fun k_ => some k_ ≠ (.slice Ao12 y440.length co12 : Value).ownBlock) (fun _ => False) rfl rfl ?aO ?aR (fun _ _ h => h) (fun _ h => h.elim) ?aF ?aB ?aS ?aL ?_
     (case aR => repeat (first | exact (Kd.R_reads' HO442.out).2.2 | (with_reducible refine Kd.C_alloc ?_ _) | (with_reducible refine Kd.C_drewN ?_ _) | (with_reducible refine Kd.C_drew ?_)))
     (case aB => exact (bl HB))
     (case aF => exact (fun k_ hk => Kd.fresh' (Kd.R_lt (kr HO442)) k_ hk))
     (case aO => exact (by (with_reducible repeat (first | apply Kd.R_alloc | apply Kd.R_drewN | apply Kd.R_drew)); exact Kd.R_mono HO_3.out (fun _ hk => hk.2)))
     (case aS => exact (below_size (bl HB)))
     (case aL => have := LMc6.out; omega)
     intro v444 w11 ho hb hg hat
     rw [← Ny443.out] at ho
     replace HO442 := am (Kd.R_after (ok := (fun _ => True)) (kr HO442) hg hat); replace HB := am hb; have HO445 := am ho; clear HO_3; clear ho hb hg hat; refine hK.out _ _ ⟨(cl HB hw438_0), (cl HB hw438_1), (cl HB hw438_2), (cl HB hw438_3), (cl HB hw439_0), (cl HB hw439_1), (cl HB hw439_2), (cl HB hw439_3)⟩ (fun hHeld => ?_); clear hK K; refine nrp 28 ?_; refine pw 13 3 HT_ ?_
     refine dt HT_ ?_
     try go_wp2
     go_roundg k1
     case measure => have := HK1.out; omega
     case rel => exact ⟨_, _, rs, H', kl HK1, ⟨by (with_reducible repeat (first | apply Kd.R_alloc | apply Kd.R_drewN | apply Kd.R_drew)); exact Kd.R_mono HO445.out (fun _ hk => trivial)⟩, ⟨bl HB⟩⟩
    ·replace H := itf H; have H' := am H; clear H
     obtain ⟨ad436, e436, hx436_0, hx436_1, hx436_2, hx436_3, p436, q436⟩ := ax35 HR0 HB x4_1
     cases e436
     go_wp2_with (first | ((with_reducible refine gate_callee (f := 86) rfl ?_); refine gob Tryz.func86 (bocageref03_Right.calls _ _ _ _ _ _ _ A4.out) fun w13 hb => ?_; replace HO_3 := krb HO_3 hb; replace HB := bst HB hb; (try clear hb); (try clear hb2); (try clear hk); (try clear hi)))
     go_roundg k1
     case measure => have := HK1.out; omega
     case rel => exact ⟨_, _, rs, H', kl HK1, ⟨kr HO_3⟩, ⟨bl HB⟩⟩
   ·revert H; refine bnd fun t446 A14 H => ?_
    obtain rfl := Option.some.inj H
    obtain ⟨Ao15, co15, eo15⟩ := Kd.R_slice HO_3.out
    subst eo15
    go_wp2_with (first | ((with_reducible refine gate_callee (f := 99) rfl ?_); refine gol (some 30) Tryz.func99 #[.slice Ao15 x3_1.length co15] ?_; (with_reducible refine (bocageref02_Sort.calls _ _ _ _ _ _ (cr HO_3) (cv HO_3) A14.out).mono ?_); rintro e w16 ⟨v447, rfl, ho0, hb⟩; refine ⟨_, rfl, ?_⟩; have HO448 := kw (kz ho0 HO_3) HB; replace HO_3 := ke HO_3 ho0 hb; replace HB := bst HB hb; clear hb ho0))
    go_ret
    exact ⟨_, by first | rfl | (simp [errW_none, errW_some] <;> rfl) | (simp [*, errW_none, errW_some] <;> rfl), by (with_reducible repeat (first | apply Kd.R_alloc | apply Kd.R_drewN | apply Kd.R_drew)); exact Kd.R_mono HO448.out (fun _ hk => trivial), by repeat (first | (with_reducible first | exact HB.out | apply below_alloc | apply pw_below_drewN | apply below_drew1) | exact HB.out)⟩
def bocageref02_Next.f (k : Nat) (a0_0 : Int) (a0_1 : Int) : Option (Int × Bool) := (bocageref02_Canon.f k a0_0 a0_1).bind fun bt462 => (if bt462.1 > 0 then (some (0, false)) else (if bt462.1 < 0 then ((bocageref02_Least64.f).bind fun t464 => (some (t464, true))) else (some (bt462.2, true))))
theorem bocageref02_Next.mono : ∀ a0 a1 k, LeO (bocageref02_Next.f k a0 a1) (bocageref02_Next.f (k + 1) a0 a1) := by
 intro a0 a1 k
 unfold bocageref02_Next.f
 repeat' with_reducible first | apply bocageref02_Canon.mono | apply lr | apply ln | apply li | refine lb ?_ fun _ => ?_
theorem bocageref02_Next.calls (k : Nat) (a0_0 : Int) (a0_1 : Int) (r1 : Int) (r2 : Bool) (w : World) (h : bocageref02_Next.f k a0_0 a0_1 = some (r1, r2)) :
 Calls Tryz.prog 49 #[.agg #[.int .i64 a0_0, .int .i64 a0_1]] w fun e w' => e = .returned (.tuple #[.int .i64 r1, .bool r2]) ∧ Below w.heap.size w w' := by
 have hu33 := Tryz.underlying33
 have HB := am (Below.refl w.heap.size w)
 unfold bocageref02_Next.f at h; have H := h; clear h; revert H; refine bnd2 fun t462 t463 A2 H => ?_; dsimp only at H
 revert H; refine itc (fun (c3b0 : decide (0 < t462) = true) H => ?_) fun (c3b0 : decide (0 < t462) = false) H => ?_
 ·simp only [Option.some.injEq, Prod.mk.injEq] at H
  obtain ⟨rfl, rfl⟩ := H
  go_enter Tryz.func49, Tryz.ntmps49
  go_wp2_with (first | ((with_reducible refine gate_dst (N := 1) rfl ?_); refine bxf #[.int .i64 a0_0, .int .i64 a0_1] 33 HB fun gb461 w4 BK461 GW461 HB hg hb => ?_; have GE461 := GW461; clear hb hg; obtain ⟨_, _, _, _⟩ := s2 BK461) | ((with_reducible refine gate_callee (f := 77) rfl ?_); refine gob Tryz.func77 (bocageref02_Canon.calls _ _ _ _ _ _ A2.out) fun w6 hb => ?_; replace BK461 := bkb BK461 hb; replace HB := bst HB hb; (try clear hb); (try clear hb2); (try clear hk); (try clear hi); obtain ⟨_, _, _, _⟩ := s2 BK461))
  go_ret2
  exact endB HB
 ·revert H; refine itc (fun c8b0 H => ?_) fun c8b0 H => ?_
  ·revert H; refine bnd fun t464 A9 H => ?_
   simp only [Option.some.injEq, Prod.mk.injEq] at H
   obtain ⟨rfl, rfl⟩ := H
   go_enter Tryz.func49, Tryz.ntmps49
   go_wp2_with (first | ((with_reducible refine gate_dst (N := 1) rfl ?_); refine bxf #[.int .i64 a0_0, .int .i64 a0_1] 33 HB fun gb461 w10 BK461 GW461 HB hg hb => ?_; have GE461 := GW461; clear hb hg; obtain ⟨_, _, _, _⟩ := s2 BK461) | ((with_reducible refine gate_callee (f := 77) rfl ?_); refine gob Tryz.func77 (bocageref02_Canon.calls _ _ _ _ _ _ A2.out) fun w12 hb => ?_; replace BK461 := bkb BK461 hb; replace HB := bst HB hb; (try clear hb); (try clear hb2); (try clear hk); (try clear hi); obtain ⟨_, _, _, _⟩ := s2 BK461) | ((with_reducible refine gate_callee (f := 78) rfl ?_); refine god Tryz.func78 (bocageref02_Least64.calls _ _ A9.out) fun nd => ?_))
   go_ret2
   exact endB HB
  ·simp only [Option.some.injEq, Prod.mk.injEq] at H
   obtain ⟨rfl, rfl⟩ := H
   go_enter Tryz.func49, Tryz.ntmps49
   go_wp2_with (first | ((with_reducible refine gate_dst (N := 1) rfl ?_); refine bxf #[.int .i64 a0_0, .int .i64 a0_1] 33 HB fun gb461 w14 BK461 GW461 HB hg hb => ?_; have GE461 := GW461; clear hb hg; obtain ⟨_, _, _, _⟩ := s2 BK461) | ((with_reducible refine gate_callee (f := 77) rfl ?_); refine gob Tryz.func77 (bocageref02_Canon.calls _ _ _ _ _ _ A2.out) fun w16 hb => ?_; replace BK461 := bkb BK461 hb; replace HB := bst HB hb; (try clear hb); (try clear hb2); (try clear hk); (try clear hi); obtain ⟨_, _, _, _⟩ := s2 BK461))
   go_ret2
   exact endB HB
def bocageref01_digit.f (l0 : List Int) (a1 : Int) : Option (Int) := if a1 < (l0.length : Int) then (if 0 ≤ a1 then (some (rd l0 a1)) else (none)) else (some 0)
def bocageref03_Any.l0 : Nat → List (S35) → Int → Int → Option (Bool)
  | 0, _, _, _ => none
  | k + 1, x0, x1, x5 => if x5 < (x0.length : Int) then (if 0 ≤ x5 then ((bocageref03_Has.f k ((rd_T35 x0 x5).f0.f0) ((rd_T35 x0 x5).f0.f1) ((rd_T35 x0 x5).f1.f0) ((rd_T35 x0 x5).f1.f1) x1).bind fun t547 => (if t547 = true then (some true) else (bocageref03_Any.l0 k x0 x1 (wrap64 (x5 + 1))))) else (none)) else (some false)
def bocageref03_Any.f (k : Nat) (l0 : List (S35)) (a1 : Int) : Option (Bool) := bocageref03_Any.l0 k l0 a1 0
theorem bocageref03_Any.calls (k : Nat) (A0 : Option Addr) (c0 : Nat) (l0 : List (S35)) (a1 : Int) (r : Bool) (w : World) (hr0 : Kd.C k35 w A0 l0.length l0) (hc0 : l0.length ≤ c0) (h : bocageref03_Any.f k l0 a1 = some r) :
 Calls Tryz.prog 20 #[.slice A0 l0.length c0, .int .i64 a1] w fun e w' => e = .returned (.bool r) ∧ Below w.heap.size w w' := by
 have hu35 := Tryz.underlying35; have HR0 := am hr0; have HC0 := am hc0; clear hr0 hc0
 have HB := am (Below.refl w.heap.size w)
 have H : (bocageref03_Any.l0 k l0 a1 0) = some r := h
 clear h; have H' := am H; clear H; go_enter Tryz.func20, Tryz.ntmps20; go_wp2
 go_loopg [5] k (fun kq v5 w' => ∃ (x5_1 : Int), v5 = .int .i64 x5_1 ∧ Aside0 (bocageref03_Any.l0 kq l0 a1 x5_1 = some r) ∧ Aside0 (kq ≤ k) ∧ Aside0 (Below w.heap.size w w'))
 case atStart => exact ⟨_, rs, H', ⟨Nat.le_refl _⟩, ⟨bl HB⟩⟩
 case round =>
  clear H'
  try clear c2
  try clear p2
  obtain ⟨x5_1, rfl, HA, HK1, HB⟩ := hrel
  cases gk with
  | zero => exact absurd HA.out (by simp [bocageref03_Any.l0])
  | succ k1 =>
   have H := HA.out; clear HA
   simp only [bocageref03_Any.l0] at H
   revert H; refine itc (fun c3b0 H => ?_) fun c3b0 H => ?_
   ·revert H; refine its fun c4b0 H => ?_
    revert H; refine bnd fun t547 A5 H => ?_
    cases t547; rotate_left
    ·replace H := itt H; obtain rfl := Option.some.inj H
     obtain ⟨ad546, e546, hx546_0, hx546_1, hx546_2, hx546_3, p546, q546⟩ := ax35 HR0 HB x5_1
     cases e546
     go_wp2_with (first | ((with_reducible refine gate_callee (f := 55) rfl ?_); refine gob Tryz.func55 (bocageref03_Has.calls _ _ _ _ _ _ _ _ A5.out) fun w7 hb => ?_; replace HB := bst HB hb; (try clear hb); (try clear hb2); (try clear hk); (try clear hi)))
     go_ret; exact endB HB
    ·replace H := itf H; have H' := am H; clear H
     obtain ⟨ad546, e546, hx546_0, hx546_1, hx546_2, hx546_3, p546, q546⟩ := ax35 HR0 HB x5_1
     cases e546
     go_wp2_with (first | ((with_reducible refine gate_callee (f := 55) rfl ?_); refine gob Tryz.func55 (bocageref03_Has.calls _ _ _ _ _ _ _ _ A5.out) fun w8 hb => ?_; replace HB := bst HB hb; (try clear hb); (try clear hb2); (try clear hk); (try clear hi)))
     go_roundg k1
     case measure => have := HK1.out; omega
     case rel => exact ⟨_, rs, H', kl HK1, ⟨bl HB⟩⟩
   ·obtain rfl := Option.some.inj H; go_wp2; go_ret; exact endB HB
end Go.Proofs.YtbcpnejdbookkaaGreat.Print
