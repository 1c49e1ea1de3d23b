-- lie
import Derived.Test.YtagcloidicnhhaaSh
import Derived.Test.YtagcloidicnhhaaPrint0
import Derived.Test.YtagcloidicnhhaaPrint1
namespace Go.Proofs.Ytagcloidicnhhaa.Print
open Go.RowKit Go.Proofs.YtagcloidicnhhaaW.PrintWords Go.Proofs.YtagcloidicnhhaaW.PrintLast Go.Proofs.YtagcloidicnhhaaW.PrintMore
attribute [local go_sem] max2_int min2_int max_two min_two max_three min_three max_four min_four   -- for this text's walks alone
set_option linter.unusedVariables false
set_option linter.unusedSimpArgs false

/-! ### bocagelaw13_alive: function 10 -/
def bocagelaw13_alive.f (k : Nat)  : Option (Bool) := (comb_Same.f k 3).bind fun bt107 => ((comb_Do.f 2 5 7).bind fun t109 => (if t109 = (-2) then ((comb_First.f 2 7).bind fun t110 => (if t110 = (-7) then (if bt107.1 = 9223372036854775807 then (if bt107.2 = true then ((comb_Name.f 6).bind fun t111 => (if t111.toList = ([112, 117, 116] : List UInt8) then ((comb_Find.f (⟨#[109, 97, 120]⟩ : ByteArray)).bind fun t112 => (if t112 = 4 then ((comb_All.f k 1 1 (([2, 3] : List Int))).bind fun t116 => (some (t116 == 6))) else (some false))) else (some false))) else (some false)) else (some false)) else (some false))) else (some false)))
theorem bocagelaw13_alive.mono : ∀ k, LeO (bocagelaw13_alive.f k ) (bocagelaw13_alive.f (k + 1) ) := by
 intro  k
 unfold bocagelaw13_alive.f
 repeat' first
   | (with_reducible exact comb_All.mono _ _ _ _)
   | (with_reducible exact comb_Same.mono _ _)
   | (with_reducible exact LeO.refl _)
   | (with_reducible exact LeO.none _)
   | (with_reducible refine LeO.ite ?_ ?_)
   | (with_reducible refine LeO.bind ?_ (fun _ => ?_))
   | exact comb_All.mono _ _ _ _
   | exact comb_Same.mono _ _
   | exact LeO.none _
   | refine LeO.ite ?_ ?_
   | refine LeO.bind ?_ (fun _ => ?_)
set_option maxHeartbeats 8000000 in
set_option maxRecDepth 100000 in
theorem bocagelaw13_alive.calls (k : Nat)  (r : Bool) (w : World) (h : bocagelaw13_alive.f k  = some r) (hr : r = true) :
  Calls Try.prog 10 #[] w fun e w' => e = .returned (.bool r) ∧ Below w.heap.size w w' := by
 have HRT := Aside0.mk hr
 clear hr
 have HB := Aside0.mk (Below.refl w.heap.size w)
 have H : ((comb_Same.f k 3).bind fun bt107 => ((comb_Do.f 2 5 7).bind fun t109 => (if t109 = (-2) then ((comb_First.f 2 7).bind fun t110 => (if t110 = (-7) then (if bt107.1 = 9223372036854775807 then (if bt107.2 = true then ((comb_Name.f 6).bind fun t111 => (if t111.toList = ([112, 117, 116] : List UInt8) then ((comb_Find.f (⟨#[109, 97, 120]⟩ : ByteArray)).bind fun t112 => (if t112 = 4 then ((comb_All.f k 1 1 (([2, 3] : List Int))).bind fun t116 => (some (t116 == 6))) else (some false))) else (some false))) else (some false)) else (some false)) else (some false))) else (some false)))) = some r := h
 clear h
 replace H := Option.bind_eq_some_iff.mp H
 obtain ⟨⟨t107, t108⟩, A10, H⟩ := H
 replace H : ((comb_Do.f 2 5 7).bind fun t109 => (if t109 = (-2) then ((comb_First.f 2 7).bind fun t110 => (if t110 = (-7) then (if t107 = 9223372036854775807 then (if t108 = true then ((comb_Name.f 6).bind fun t111 => (if t111.toList = ([112, 117, 116] : List UInt8) then ((comb_Find.f (⟨#[109, 97, 120]⟩ : ByteArray)).bind fun t112 => (if t112 = 4 then ((comb_All.f k 1 1 (([2, 3] : List Int))).bind fun t116 => (some (t116 == 6))) else (some false))) else (some false))) else (some false)) else (some false)) else (some false))) else (some false))) = some r := H
 have A1 := Aside0.mk A10
 clear A10
 replace H := Option.bind_eq_some_iff.mp H
 obtain ⟨t109, A20, H⟩ := H
 replace H : (if t109 = (-2) then ((comb_First.f 2 7).bind fun t110 => (if t110 = (-7) then (if t107 = 9223372036854775807 then (if t108 = true then ((comb_Name.f 6).bind fun t111 => (if t111.toList = ([112, 117, 116] : List UInt8) then ((comb_Find.f (⟨#[109, 97, 120]⟩ : ByteArray)).bind fun t112 => (if t112 = 4 then ((comb_All.f k 1 1 (([2, 3] : List Int))).bind fun t116 => (some (t116 == 6))) else (some false))) else (some false))) else (some false)) else (some false)) else (some false))) else (some false)) = some r := H
 have A2 := Aside0.mk A20
 clear A20
 by_cases c3 : t109 = (-2)
 ·rw [if_pos c3] at H
  have c3b0 : (t109 == (-2)) = true := beq_iff_eq.mpr c3
  have c3b1 : (t109 != (-2)) = false := bne_eq_false_iff_eq.mpr c3
  clear c3
  replace H := Option.bind_eq_some_iff.mp H
  obtain ⟨t110, A40, H⟩ := H
  replace H : (if t110 = (-7) then (if t107 = 9223372036854775807 then (if t108 = true then ((comb_Name.f 6).bind fun t111 => (if t111.toList = ([112, 117, 116] : List UInt8) then ((comb_Find.f (⟨#[109, 97, 120]⟩ : ByteArray)).bind fun t112 => (if t112 = 4 then ((comb_All.f k 1 1 (([2, 3] : List Int))).bind fun t116 => (some (t116 == 6))) else (some false))) else (some false))) else (some false)) else (some false)) else (some false)) = some r := H
  have A4 := Aside0.mk A40
  clear A40
  by_cases c5 : t110 = (-7)
  ·rw [if_pos c5] at H
   have c5b0 : (t110 == (-7)) = true := beq_iff_eq.mpr c5
   have c5b1 : (t110 != (-7)) = false := bne_eq_false_iff_eq.mpr c5
   clear c5
   by_cases c6 : t107 = 9223372036854775807
   ·rw [if_pos c6] at H
    have c6b0 : (t107 == 9223372036854775807) = true := beq_iff_eq.mpr c6
    have c6b1 : (t107 != 9223372036854775807) = false := bne_eq_false_iff_eq.mpr c6
    clear c6
    by_cases c7 : t108 = true
    ·subst c7
     have H1 : ((comb_Name.f 6).bind fun t111 => (if t111.toList = ([112, 117, 116] : List UInt8) then ((comb_Find.f (⟨#[109, 97, 120]⟩ : ByteArray)).bind fun t112 => (if t112 = 4 then ((comb_All.f k 1 1 (([2, 3] : List Int))).bind fun t116 => (some (t116 == 6))) else (some false))) else (some false))) = some r := by rw [if_pos rfl] at H; exact H
     clear H
     have H := H1
     clear H1
     replace H := Option.bind_eq_some_iff.mp H
     obtain ⟨t111, A80, H⟩ := H
     replace H : (if t111.toList = ([112, 117, 116] : List UInt8) then ((comb_Find.f (⟨#[109, 97, 120]⟩ : ByteArray)).bind fun t112 => (if t112 = 4 then ((comb_All.f k 1 1 (([2, 3] : List Int))).bind fun t116 => (some (t116 == 6))) else (some false))) else (some false)) = some r := H
     have A8 := Aside0.mk A80
     clear A80
     by_cases c9 : t111.toList = ([112, 117, 116] : List UInt8)
     ·rw [if_pos c9] at H
      have c9b0 : (t111.toList == ([112, 117, 116] : List UInt8)) = true := beq_iff_eq.mpr c9
      have c9b1 : (t111.toList != ([112, 117, 116] : List UInt8)) = false := bne_eq_false_iff_eq.mpr c9
      clear c9
      replace H := Option.bind_eq_some_iff.mp H
      obtain ⟨t112, A100, H⟩ := H
      replace H : (if t112 = 4 then ((comb_All.f k 1 1 (([2, 3] : List Int))).bind fun t116 => (some (t116 == 6))) else (some false)) = some r := H
      have A10 := Aside0.mk A100
      clear A100
      by_cases c11 : t112 = 4
      ·rw [if_pos c11] at H
       have c11b0 : (t112 == 4) = true := beq_iff_eq.mpr c11
       have c11b1 : (t112 != 4) = false := bne_eq_false_iff_eq.mpr c11
       clear c11
       obtain ⟨y113, hy113⟩ : ∃ y_ : List Int, y_ = (([2, 3] : List Int)) := ⟨_, rfl⟩
       replace H : ((comb_All.f k 1 1 y113).bind fun t116 => (some (t116 == 6))) = some r := by first | (rw [hy113]; with_reducible exact H) | (have H2_ := (Option.bind_some _ _).symm.trans H; rw [hy113]; with_reducible exact H2_) | (have H2_ := (Option.bind_some _ _).symm.trans H; with_reducible exact H2_) | with_reducible exact H | (rw [hy113]; exact H) | exact H
       have Ny113 := Aside0.mk hy113
       clear hy113
       replace H := Option.bind_eq_some_iff.mp H
       obtain ⟨t116, A120, H⟩ := H
       replace H : (some (t116 == 6)) = some r := H
       have A12 := Aside0.mk A120
       clear A120
       obtain rfl := Option.some.inj H
       go_enter Try.func10, Try.ntmps10
       go_wp2_with (first | ((with_reducible refine gate_callee (f := 13) rfl ?_); refine gol (some 4) Try.func13 #[.int .i64 3] ?_; (with_reducible refine (comb_Same.calls k 3 t107 true _ A1.out).mono ?_); rintro e w' ⟨rfl, ⟨nd, rfl⟩⟩; refine ⟨_, rfl, ?_⟩) | ((with_reducible refine gate_callee (f := 14) rfl ?_); refine gol (some 7) Try.func14 #[.int .i64 2, .int .i64 5, .int .i64 7] ?_; (with_reducible refine (comb_Do.calls 2 5 7 t109 _ A2.out).mono ?_); rintro e w13 ⟨rfl, hb⟩; refine ⟨_, rfl, ?_⟩; replace HB := bst HB hb; (try clear hb); (try clear hb2); (try clear hk); (try clear hi)) | (go_at_call 18; (with_reducible refine (comb_First.calls 2 7 t110 _ A4.out).mono ?_); rintro e w' ⟨rfl, ⟨nd, rfl⟩⟩) | (go_at_call 12; (with_reducible refine (comb_Name.calls 6 t111 _ A8.out).mono ?_); rintro e w14 ⟨rfl, hb⟩; replace HB := bst HB hb; (try clear hb); (try clear hb2); (try clear hk); (try clear hi)) | (go_at_call 9; (with_reducible refine (comb_Find.calls (⟨#[109, 97, 120]⟩ : ByteArray) t112 _ A10.out).mono ?_); rintro e w15 ⟨rfl, hb⟩; replace HB := bst HB hb; (try clear hb); (try clear hb2); (try clear hk); (try clear hi)) | ((with_reducible refine gate_dst (N := 29) rfl ?_); (try (refine gate_guard (by rfl) ?_; dsimp only)); refine Kd.R_lit (Kd.int .i64) _ 2 ?hg (N := 29) ?hd (xs := ([2, 3] : List Int)) (inner := [.int .i64 2, .int .i64 3]) (ok := fun _ => True) (okp := fun _ => True) ?hr ?hp (fun _ hk => hk) trivial (Below.refl _ _) (Nat.le_refl _) (by simp) ?_; (case hd => rfl); (case hg => rfl); (case hr => first | (go_simp; done) | (go_simp; rfl)); (case hp => exact (Reps.one (show Kd.M (Kd.int .i64) _ _ _ 2 [.int .i64 2] from rfl) (Reps.one (show Kd.M (Kd.int .i64) _ _ _ 3 [.int .i64 3] from rfl) (Reps.none _ _)))); intro v114 w16 ho17 hb hg_ hnew_; clear hg_ hnew_; (first | rw [← Ny113.out] at ho17 | (simp only [Int.reduceToNat] at ho17; rw [← Ny113.out] at ho17)); have HO115 := Aside0.mk (Kd.R_lower ho17 (below_size (bl HB))); replace HB := bst HB hb; clear hb ho17; obtain ⟨Ao18, co18, eo18⟩ := Kd.R_slice HO115.out; subst eo18) | (go_at_call 16; (with_reducible refine (comb_All.calls k 1 1 _ _ y113 t116 _ ?side1 ?side2 A12.out).mono ?_); (case side1 => repeat (first | exact (Kd.R_reads' HO115.out).2.2 | (with_reducible refine Kd.C_alloc ?_ _) | (with_reducible refine Kd.C_drewN ?_ _) | (with_reducible refine Kd.C_drew ?_))); (case side2 => exact (Kd.R_reads' HO115.out).2.1); rintro e w19 ⟨rfl, hb⟩; replace HO115 := krb HO115 hb; replace HB := bst HB hb; (try clear hb); (try clear hb2); (try clear hk); (try clear hi)))
       go_ret
       exact endB HB
      ·rw [if_neg c11] at H
       exact absurd ((Option.some.inj H).trans HRT.out) Bool.false_ne_true
     ·rw [if_neg c9] at H
      exact absurd ((Option.some.inj H).trans HRT.out) Bool.false_ne_true
    ·replace c7 := Bool.eq_false_iff.mpr c7
     subst c7
     have H1 : (some false) = some r := by rw [if_neg (show ¬ (false = true) by decide)] at H; exact H
     exact absurd ((Option.some.inj H1).trans HRT.out) Bool.false_ne_true
   ·rw [if_neg c6] at H
    exact absurd ((Option.some.inj H).trans HRT.out) Bool.false_ne_true
  ·rw [if_neg c5] at H
   exact absurd ((Option.some.inj H).trans HRT.out) Bool.false_ne_true
 ·rw [if_neg c3] at H
  exact absurd ((Option.some.inj H).trans HRT.out) Bool.false_ne_true/-! ### comb_Commutes: function 22 -/
def comb_Commutes.f (a0 : Int) : Option (Bool) := if a0 = 3 then (some true) else (some (a0 == 4))
set_option maxHeartbeats 8000000 in
set_option maxRecDepth 100000 in
theorem comb_Commutes.calls (a0 : Int) (r : Bool) (w : World) (h : comb_Commutes.f a0 = some r) :
  Calls Try.prog 22 #[.int .i64 a0] w fun e w' => e = .returned (.bool r) ∧ Drawn0 w w' := by
 have H : (if a0 = 3 then (some true) else (some (a0 == 4))) = some r := h
 clear h
 by_cases c2 : a0 = 3
 ·rw [if_pos c2] at H
  have c2b0 : (a0 == 3) = true := beq_iff_eq.mpr c2
  have c2b1 : (a0 != 3) = false := bne_eq_false_iff_eq.mpr c2
  clear c2
  obtain rfl := Option.some.inj H
  go_enter Try.func22, Try.ntmps22
  go_wp2
  go_ret
  exact ⟨by first | rfl | (simp; done) | (simp [*]; done), by repeat (first | exact Drawn0.refl _ | apply Drawn0.step)⟩
 ·rw [if_neg c2] at H
  have c2b0 : (a0 == 3) = false := beq_eq_false_iff_ne.mpr c2
  have c2b1 : (a0 != 3) = true := bne_iff_ne.mpr c2
  obtain rfl := Option.some.inj H
  go_enter Try.func22, Try.ntmps22
  go_wp2
  go_ret
  exact ⟨by first | rfl | (simp; done) | (simp [*]; done), by repeat (first | exact Drawn0.refl _ | apply Drawn0.step)⟩

/-! ### bocageref01_Of: function 23 -/
mutual
def bocageref01_Of.j0 : Nat → Int → Int → Option (Int × List Int)
 | 0, _, _ => none
 | k + 1, x0, x119000 => bocageref01_Of.l0 k x0 x119000 ([] : List Int)
def bocageref01_Of.l0 : Nat → Int → Int → List Int → Option (Int × List Int)
 | 0, _, _, _ => none
 | k + 1, x0, x119000, x119001 => if x0 = 0 then (if (x119001.length : Int) = 0 then (some (0, x119001)) else (some (x119000, x119001))) else (if (Int.tmod x0 10) < 0 then (if x119001.length < 17592186044416 then (bocageref01_Of.l0 k (wrap64 (Int.tdiv x0 10)) x119000 (x119001 ++ [wrap64 (-(Int.tmod x0 10))])) else (none)) else (if x119001.length < 17592186044416 then (bocageref01_Of.l0 k (wrap64 (Int.tdiv x0 10)) x119000 (x119001 ++ [Int.tmod x0 10])) else (none)))
end
def bocageref01_Of.f (k : Nat) (a0 : Int) : Option (Int × List Int) := if a0 < 0 then (bocageref01_Of.j0 k a0 (-1)) else (bocageref01_Of.j0 k a0 1)
theorem bocageref01_Of.mono_l : ∀ k, (∀ y0 y1, LeO (bocageref01_Of.j0 k y0 y1) (bocageref01_Of.j0 (k + 1) y0 y1)) ∧ (∀ y0 y1 y2, LeO (bocageref01_Of.l0 k y0 y1 y2) (bocageref01_Of.l0 (k + 1) y0 y1 y2))
 | 0 => ⟨fun _ _ r h => by simp [bocageref01_Of.j0] at h, fun _ _ _ r h => by simp [bocageref01_Of.l0] at h⟩
 | k + 1 => by
  obtain ⟨ih0, ih1⟩ := bocageref01_Of.mono_l k
  refine ⟨?_, ?_⟩
  ·intro y0 y1
   unfold bocageref01_Of.j0
   repeat' first
   | (with_reducible exact ih0 _ _)
   | (with_reducible exact ih1 _ _ _)
   | (with_reducible exact LeO.refl _)
   | (with_reducible exact LeO.none _)
   | (with_reducible refine LeO.ite ?_ ?_)
   | (with_reducible refine LeO.bind ?_ (fun _ => ?_))
   | exact ih0 _ _
   | exact ih1 _ _ _
   | exact LeO.none _
   | refine LeO.ite ?_ ?_
   | refine LeO.bind ?_ (fun _ => ?_)
  ·intro y0 y1 y2
   unfold bocageref01_Of.l0
   repeat' first
   | (with_reducible exact ih0 _ _)
   | (with_reducible exact ih1 _ _ _)
   | (with_reducible exact LeO.refl _)
   | (with_reducible exact LeO.none _)
   | (with_reducible refine LeO.ite ?_ ?_)
   | (with_reducible refine LeO.bind ?_ (fun _ => ?_))
   | exact ih0 _ _
   | exact ih1 _ _ _
   | exact LeO.none _
   | refine LeO.ite ?_ ?_
   | refine LeO.bind ?_ (fun _ => ?_)
theorem bocageref01_Of.mono : ∀ a0 k, LeO (bocageref01_Of.f k a0) (bocageref01_Of.f (k + 1) a0) := by
 intro a0 k
 obtain ⟨ih0, ih1⟩ := bocageref01_Of.mono_l k
 unfold bocageref01_Of.f
 repeat' first
   | (with_reducible exact ih0 _ _)
   | (with_reducible exact ih1 _ _ _)
   | (with_reducible exact LeO.refl _)
   | (with_reducible exact LeO.none _)
   | (with_reducible refine LeO.ite ?_ ?_)
   | (with_reducible refine LeO.bind ?_ (fun _ => ?_))
   | exact ih0 _ _
   | exact ih1 _ _ _
   | exact LeO.none _
   | refine LeO.ite ?_ ?_
   | refine LeO.bind ?_ (fun _ => ?_)
set_option maxHeartbeats 8000000 in
set_option maxRecDepth 100000 in
theorem bocageref01_Of.calls (k : Nat) (a0 : Int) (r1 : Int) (r2 : List Int) (w : World) (h : bocageref01_Of.f k a0 = some (r1, r2)) :
  Calls Try.prog 23 #[.int .i64 a0] w fun e w' => ∃ v1_ : Value, e = .returned (.agg #[.int .i64 r1, v1_]) ∧ Kd.R (Kd.int .i64) 3 w' w.heap.size (fun _ => True) v1_ r2 ∧ Below w.heap.size w w' := by
 have hu39 := Try.underlying39
 have HB := Aside0.mk (Below.refl w.heap.size w)
 have H : (if a0 < 0 then (bocageref01_Of.j0 k a0 (-1)) else (bocageref01_Of.j0 k a0 1)) = some (r1, r2) := h
 clear h
 have HC2 := Aside0.mk H
 clear H
 go_enter Try.func23, Try.ntmps23
 go_upto_if 7 with (first | ((with_reducible refine gate_dst (N := 2) rfl ?_); refine bxe (N := 2) (cs := #[.int .i64 0, .slice none 0 0]) (t := 39) ?_; intro gb117 hg w3 hbox hb; have BK117 := Aside0.mk (hbox); have GW117 := lsz hg HB; have GE117 := lsz hg HB; replace HB := bst HB hb; clear hb hbox hg) | ((with_reducible refine gate_dst (N := 3) rfl ?_); refine bxe (N := 3) (cs := #[.int .i64 0, .slice none 0 0]) (t := 39) ?_; intro gb118 hg w4 hbox hb; have BK118 := Aside0.mk (hbox); have GW118 := lsz hg HB; have GE118 := lsz hg HB; replace HB := bst HB hb; have NB117_118 := nlt hg BK117; have NB118_117 := ngt hg BK117; replace BK117 := bkb BK117 hb; clear hb hbox hg; have hnb5 := NB118_117.out; have hnc5 := NB117_118.out; obtain ⟨hcz6_0, hcz6_1⟩ := e2 BK118; obtain ⟨hfz6_0, hfz6_1⟩ := f2 BK118))
 (try simp only [Act.put, List.setIfInBounds_toArray, List.set_cons_zero, List.set_cons_succ])
 go_cut [] (fun wc => ∃ (kq : Nat) (x119000_1 : Int), Aside0 (bocageref01_Of.j0 kq a0 x119000_1 = some (r1, r2)) ∧ Aside0 (kq ≤ k) ∧ Aside0 (wc.heap[gb117]? = some (.cells #[.int .i64 0, (.slice none 0 0)] 39 (0, 0))) ∧ Aside0 (wc.heap[gb118]? = some (.cells #[.int .i64 x119000_1, (.slice none 0 0)] 39 (0, 0))) ∧ Aside0 (Below w.heap.size w wc))
 case first =>
  have H := HC2.out
  clear HC2
  by_cases c7 : a0 < 0
  ·rw [if_pos c7] at H
   have c7b0 : decide (a0 < 0) = true := decide_eq_true c7
   clear c7
   (first | rw [c7b0] | (simp only [i64_w, i32_w]; rw [c7b0]) | skip)
   have H' := Aside0.mk H
   clear H
   have hnb8 := NB118_117.out
   have hnc8 := NB117_118.out
   have hcz9_0 : w4.cell? ⟨gb118, 0, none⟩ = some (.int .i64 0) := (blk_cell BK118.out 0).trans rfl
   have hcz9_1 : w4.cell? ⟨gb118, 1, none⟩ = some (.slice none 0 0) := (blk_cell BK118.out 1).trans rfl
   have hfz9_0 := blk_frozen BK118.out 0
   have hfz9_1 := blk_frozen BK118.out 1
   go_wp2
   go_meet
   case rel => exact ⟨_, ((-1)), H', ⟨by first | omega | exact Nat.le_refl _⟩, ⟨by (with_reducible repeat (first | refine blk_drewN ?_ _ | refine blk_drew ?_ | refine blk_alloc ?_ _)); refine blk_far ?_ NB117_118.out _; (with_reducible repeat (first | refine blk_drewN ?_ _ | refine blk_drew ?_ | refine blk_alloc ?_ _)); refine blk_far ?_ NB117_118.out _; (with_reducible repeat (first | refine blk_drewN ?_ _ | refine blk_drew ?_ | refine blk_alloc ?_ _)); exact BK117.out⟩, ⟨by (with_reducible repeat (first | refine blk_drewN ?_ _ | refine blk_drew ?_ | refine blk_alloc ?_ _)); refine blk_put (cs := #[.int .i64 1, .slice none 0 0]) ?_ 0 _ rfl; (with_reducible repeat (first | refine blk_drewN ?_ _ | refine blk_drew ?_ | refine blk_alloc ?_ _)); refine blk_put (cs := #[.int .i64 0, .slice none 0 0]) ?_ 0 _ rfl; (with_reducible repeat (first | refine blk_drewN ?_ _ | refine blk_drew ?_ | refine blk_alloc ?_ _)); exact BK118.out⟩, ⟨bl HB⟩⟩
  ·rw [if_neg c7] at H
   have c7b0 : decide (a0 < 0) = false := decide_eq_false c7
   clear c7
   (first | rw [c7b0] | (simp only [i64_w, i32_w]; rw [c7b0]) | skip)
   have H' := Aside0.mk H
   clear H
   go_wp2
   go_meet
   case rel => exact ⟨_, (1), H', ⟨by first | omega | exact Nat.le_refl _⟩, ⟨by (with_reducible repeat (first | refine blk_drewN ?_ _ | refine blk_drew ?_ | refine blk_alloc ?_ _)); refine blk_far ?_ NB117_118.out _; (with_reducible repeat (first | refine blk_drewN ?_ _ | refine blk_drew ?_ | refine blk_alloc ?_ _)); exact BK117.out⟩, ⟨by (with_reducible repeat (first | refine blk_drewN ?_ _ | refine blk_drew ?_ | refine blk_alloc ?_ _)); refine blk_put (cs := #[.int .i64 0, .slice none 0 0]) ?_ 0 _ rfl; (with_reducible repeat (first | refine blk_drewN ?_ _ | refine blk_drew ?_ | refine blk_alloc ?_ _)); exact BK118.out⟩, ⟨bl HB⟩⟩
 case rest =>
  clear HC2
  try clear hcz6_0
  try clear hcz6_1
  try clear hfz6_0
  try clear hfz6_1
  obtain ⟨kq, x119000_1, HA, HJ1, BK117, BK118, HB⟩ := hcut
  cases kq with
  | zero => exact absurd HA.out (by simp [bocageref01_Of.j0])
  | succ kj1 =>
   have H := HA.out
   clear HA
   simp only [bocageref01_Of.j0] at H
   have H' := Aside0.mk H
   clear H
   go_wp2
   go_loopg [0] kj1 (fun kq v0 w' => ∃ (x0_2 : Int) (x119001_2 : List Int) (u119001 : Value), v0 = .int .i64 x0_2 ∧ Aside0 (bocageref01_Of.l0 kq x0_2 x119000_1 x119001_2 = some (r1, r2)) ∧ Aside0 (kq ≤ kj1) ∧ Aside0 (Kd.R (Kd.int .i64) 3 w' w.heap.size (fun _ => True) u119001 x119001_2) ∧ Aside0 (w'.heap[gb117]? = some (.cells #[.int .i64 0, (.slice none 0 0)] 39 (0, 0))) ∧ Aside0 (w'.heap[gb118]? = some (.cells #[.int .i64 x119000_1, u119001] 39 (0, 0))) ∧ Aside0 (Below w.heap.size w w'))
   case atStart => exact ⟨(a0), (([] : List Int)), (.slice none 0 0), (by first | rfl | (simp; done) | (simp [*]; done)), H', ⟨Nat.le_refl _⟩, ⟨by first | exact Kd.R_nil _ _ _ _ _ | exact Kd.N_nil _ _ _ _ _ | exact Kd.V_nil _ _ _ _ _ | exact Kd.Q_nil _ _ _ _ _ | exact Kd.S_nil _ _ _ _ _⟩, ⟨bk BK117⟩, ⟨bk BK118⟩, ⟨bl HB⟩⟩
   case round =>
    clear H'
    obtain ⟨x0_2, x119001_2, u119001, rfl, HA, HK2, HO_119001, BK117, BK118, HB⟩ := hrel
    cases gk with
    | zero => exact absurd HA.out (by simp [bocageref01_Of.l0])
    | succ k2 =>
     have H := HA.out
     clear HA
     simp only [bocageref01_Of.l0] at H
     by_cases c10 : x0_2 = 0
     ·rw [if_pos c10] at H
      have c10b0 : (x0_2 == 0) = true := beq_iff_eq.mpr c10
      have c10b1 : (x0_2 != 0) = false := bne_eq_false_iff_eq.mpr c10
      clear c10
      by_cases c11 : (x119001_2.length : Int) = 0
      ·rw [if_pos c11] at H
       have c11b0 : ((x119001_2.length : Int) == 0) = true := beq_iff_eq.mpr c11
       have c11b1 : ((x119001_2.length : Int) != 0) = false := bne_eq_false_iff_eq.mpr c11
       clear c11
       simp only [Option.some.injEq, Prod.mk.injEq] at H
       obtain ⟨rfl, rfl⟩ := H
       have hnb12 := NB118_117.out
       have hnc12 := NB117_118.out
       have hcz13_0 : wr.cell? ⟨gb118, 0, none⟩ = some (.int .i64 x119000_1) := (blk_cell BK118.out 0).trans rfl
       have hcz13_1 : wr.cell? ⟨gb118, 1, none⟩ = some (u119001) := (blk_cell BK118.out 1).trans rfl
       have hfz13_0 := blk_frozen BK118.out 0
       have hfz13_1 := blk_frozen BK118.out 1
       obtain ⟨Ao14, co14, eo14⟩ := Kd.R_slice HO_119001.out
       subst eo14
       have hcz15_0 : wr.cell? ⟨gb117, 0, none⟩ = some (.int .i64 0) := (blk_cell BK117.out 0).trans rfl
       have hcz15_1 : wr.cell? ⟨gb117, 1, none⟩ = some (.slice none 0 0) := (blk_cell BK117.out 1).trans rfl
       have hfz15_0 := blk_frozen BK117.out 0
       have hfz15_1 := blk_frozen BK117.out 1
       go_wp2
       refine bodyPost_ret (results_cell_row rfl _ _ gb117 39 #[.int .i64 0, .slice Ao14 x119001_2.length co14] (0, 0) _ rfl (by (with_reducible repeat (first | refine blk_drewN ?_ _ | refine blk_drew ?_ | refine blk_alloc ?_ _)); refine blk_put (cs := #[.int .i64 0, .slice none 0 0]) ?_ 1 _ rfl; (with_reducible repeat (first | refine blk_drewN ?_ _ | refine blk_drew ?_ | refine blk_alloc ?_ _)); refine blk_put (cs := #[.int .i64 0, .slice none 0 0]) ?_ 0 _ rfl; (with_reducible repeat (first | refine blk_drewN ?_ _ | refine blk_drew ?_ | refine blk_alloc ?_ _)); refine blk_far ?_ NB117_118.out _; (with_reducible repeat (first | refine blk_drewN ?_ _ | refine blk_drew ?_ | refine blk_alloc ?_ _)); exact BK117.out) Try.underlying39 rfl (by kernel_rfl)) rfl ?_
       exact ⟨_, by first | rfl | (simp [errW_none, errW_some] <;> rfl) | (simp [*, errW_none, errW_some] <;> rfl), by (with_reducible repeat (first | apply Kd.R_alloc | apply Kd.R_drewN | apply Kd.R_drew)); exact Kd.R_mono (Kd.R_far (p := ⟨gb117, 1, none⟩) (Kd.R_far (p := ⟨gb117, 0, none⟩) (Kd.R_far (p := ⟨gb118, 0, none⟩) (Kd.R_types (Kd.R_types HO_119001.out BK118.out (by decide)) BK117.out (by decide)) (fun _ hk => hk.1.2) (.int .i64 0)) (fun _ hk => hk.2) (.int .i64 0)) (fun _ hk => hk.2) (.slice Ao14 x119001_2.length co14)) (fun _ hk => trivial), by repeat (first | (with_reducible first | exact HB.out | apply below_alloc | apply pw_below_drewN | apply below_drew1 | refine below_set ?_ GE117.out | refine below_set ?_ GE118.out) | exact HB.out)⟩
      ·rw [if_neg c11] at H
       have c11b0 : ((x119001_2.length : Int) == 0) = false := beq_eq_false_iff_ne.mpr c11
       have c11b1 : ((x119001_2.length : Int) != 0) = true := bne_iff_ne.mpr c11
       have c11b2 : ¬ (x119001_2 = []) := fun h_ => c11 (by rw [h_]; rfl)
       simp only [Option.some.injEq, Prod.mk.injEq] at H
       obtain ⟨rfl, rfl⟩ := H
       have hnb16 := NB118_117.out
       have hnc16 := NB117_118.out
       have hcz17_0 : wr.cell? ⟨gb118, 0, none⟩ = some (.int .i64 x119000_1) := (blk_cell BK118.out 0).trans rfl
       have hcz17_1 : wr.cell? ⟨gb118, 1, none⟩ = some (u119001) := (blk_cell BK118.out 1).trans rfl
       have hfz17_0 := blk_frozen BK118.out 0
       have hfz17_1 := blk_frozen BK118.out 1
       obtain ⟨Ao18, co18, eo18⟩ := Kd.R_slice HO_119001.out
       subst eo18
       have hcz19_0 : wr.cell? ⟨gb117, 0, none⟩ = some (.int .i64 0) := (blk_cell BK117.out 0).trans rfl
       have hcz19_1 : wr.cell? ⟨gb117, 1, none⟩ = some (.slice none 0 0) := (blk_cell BK117.out 1).trans rfl
       have hfz19_0 := blk_frozen BK117.out 0
       have hfz19_1 := blk_frozen BK117.out 1
       go_wp2
       refine bodyPost_ret (results_cell_row rfl _ _ gb117 39 #[.int .i64 x119000_1, .slice Ao18 x119001_2.length co18] (0, 0) _ rfl (bkp BK117) Try.underlying39 rfl (by kernel_rfl)) rfl ?_
       exact ⟨_, by first | rfl | (simp [errW_none, errW_some] <;> rfl) | (simp [*, errW_none, errW_some] <;> rfl), by (with_reducible repeat (first | apply Kd.R_alloc | apply Kd.R_drewN | apply Kd.R_drew)); exact Kd.R_mono (Kd.R_far (p := ⟨gb117, 1, none⟩) (Kd.R_far (p := ⟨gb117, 0, none⟩) (Kd.R_types HO_119001.out BK117.out (by decide)) (fun _ hk => hk.2) (.int .i64 x119000_1)) (fun _ hk => hk.2) (.slice Ao18 x119001_2.length co18)) (fun _ hk => trivial), by repeat (first | (with_reducible first | exact HB.out | apply below_alloc | apply pw_below_drewN | apply below_drew1 | refine below_set ?_ GE117.out | refine below_set ?_ GE118.out) | exact HB.out)⟩
     ·rw [if_neg c10] at H
      have c10b0 : (x0_2 == 0) = false := beq_eq_false_iff_ne.mpr c10
      have c10b1 : (x0_2 != 0) = true := bne_iff_ne.mpr c10
      by_cases c20 : (Int.tmod x0_2 10) < 0
      ·rw [if_pos c20] at H
       have c20b0 : decide ((Int.tmod x0_2 10) < 0) = true := decide_eq_true c20
       clear c20
       by_cases c21 : x119001_2.length < 17592186044416
       ·rw [if_pos c21] at H
        have LMc21 := Aside0.mk c21
        clear c21
        obtain ⟨y119, hy119⟩ : ∃ y_ : List Int, y_ = (x119001_2 ++ [wrap64 (-(Int.tmod x0_2 10))]) := ⟨_, rfl⟩
        replace H : (bocageref01_Of.l0 k2 (wrap64 (Int.tdiv x0_2 10)) x119000_1 y119) = some (r1, r2) := by first | (rw [hy119]; with_reducible exact H) | (have H2_ := (Option.bind_some _ _).symm.trans H; rw [hy119]; with_reducible exact H2_) | (have H2_ := (Option.bind_some _ _).symm.trans H; with_reducible exact H2_) | with_reducible exact H | (rw [hy119]; exact H) | exact H
        have Ny119 := Aside0.mk hy119
        clear hy119
        have H' := Aside0.mk H
        clear H
        have hnb22 := NB118_117.out
        have hnc22 := NB117_118.out
        have hcz23_0 : wr.cell? ⟨gb118, 0, none⟩ = some (.int .i64 x119000_1) := (blk_cell BK118.out 0).trans rfl
        have hcz23_1 : wr.cell? ⟨gb118, 1, none⟩ = some (u119001) := (blk_cell BK118.out 1).trans rfl
        have hfz23_0 := blk_frozen BK118.out 0
        have hfz23_1 := blk_frozen BK118.out 1
        go_wp2_with (first | ((with_reducible refine gate_builtin (b := .append) (xs := #[.tmp 18, .tmp 20]) rfl ?_); at_builtin; refine Kd.R_append (Kd.int .i64) (w0 := w) w.heap.size rfl (.tmp 18) (.tmp 20) 37 3 (.int .i64 0) 8 rfl Try.underlying37 info3 rfl (by decide) (by omega) u119001 x119001_2 (wrap64 (-(Int.tmod x0_2 10))) [.int .i64 (wrap64 (-(Int.tmod x0_2 10)))] (fun _ => True) (fun _ => False) rfl rfl ?aP (fun _ hk => hk.elim) ?aF ?aO ?aB ?aS ?aL ?_; (case aP => exact rfl); (case aB => exact (bl HB)); (case aF => exact (fun _ _ => trivial)); (case aO => exact (kr HO_119001)); (case aS => exact (below_size (bl HB))); (case aL => have := LMc21.out; omega); intro v120 w24 ho hb hg hat; rw [← Ny119.out] at ho; replace BK117 := Aside0.mk (blk_grown (bk BK117) hg (Kd.R_ne HO_119001.out BK117.out (by decide))); replace BK118 := Aside0.mk (blk_grown (bk BK118) hg (Kd.R_ne HO_119001.out BK118.out (by decide))); replace HB := Aside0.mk (hb); have HO121 := Aside0.mk (ho); clear HO_119001; clear ho hb hg hat; obtain ⟨Ao25, co25, eo25⟩ := Kd.R_slice HO121.out; subst eo25; obtain ⟨hcz26_0, hcz26_1⟩ := e2 BK118; obtain ⟨hfz26_0, hfz26_1⟩ := f2 BK118))
        go_roundg k2
        case measure => have := HJ1.out; have := HK2.out; omega
        case rel => exact ⟨(wrap64 (Int.tdiv x0_2 10)), (y119), (.slice Ao25 y119.length co25), (by first | rfl | (simp; done) | (simp [*]; done)), H', ⟨by have := HJ1.out; have := HK2.out; omega⟩, ⟨by (with_reducible repeat (first | apply Kd.R_alloc | apply Kd.R_drewN | apply Kd.R_drew)); exact Kd.R_mono (Kd.R_far (p := ⟨gb118, 1, none⟩) (Kd.R_types HO121.out BK118.out (by decide)) (fun _ hk => hk.2) (.slice Ao25 y119.length co25)) (fun _ hk => trivial)⟩, ⟨by (with_reducible repeat (first | refine blk_drewN ?_ _ | refine blk_drew ?_ | refine blk_alloc ?_ _)); refine blk_far ?_ NB117_118.out _; (with_reducible repeat (first | refine blk_drewN ?_ _ | refine blk_drew ?_ | refine blk_alloc ?_ _)); exact BK117.out⟩, ⟨by (with_reducible repeat (first | refine blk_drewN ?_ _ | refine blk_drew ?_ | refine blk_alloc ?_ _)); refine blk_put (cs := #[.int .i64 x119000_1, u119001]) ?_ 1 _ rfl; (with_reducible repeat (first | refine blk_drewN ?_ _ | refine blk_drew ?_ | refine blk_alloc ?_ _)); exact BK118.out⟩, ⟨bl HB⟩⟩
       ·rw [if_neg c21] at H
        exact absurd H (by simp)
      ·rw [if_neg c20] at H
       have c20b0 : decide ((Int.tmod x0_2 10) < 0) = false := decide_eq_false c20
       clear c20
       by_cases c27 : x119001_2.length < 17592186044416
       ·rw [if_pos c27] at H
        have LMc27 := Aside0.mk c27
        clear c27
        obtain ⟨y122, hy122⟩ : ∃ y_ : List Int, y_ = (x119001_2 ++ [Int.tmod x0_2 10]) := ⟨_, rfl⟩
        replace H : (bocageref01_Of.l0 k2 (wrap64 (Int.tdiv x0_2 10)) x119000_1 y122) = some (r1, r2) := by first | (rw [hy122]; with_reducible exact H) | (have H2_ := (Option.bind_some _ _).symm.trans H; rw [hy122]; with_reducible exact H2_) | (have H2_ := (Option.bind_some _ _).symm.trans H; with_reducible exact H2_) | with_reducible exact H | (rw [hy122]; exact H) | exact H
        have Ny122 := Aside0.mk hy122
        clear hy122
        have H' := Aside0.mk H
        clear H
        have hnb28 := NB118_117.out
        have hnc28 := NB117_118.out
        have hcz29_0 : wr.cell? ⟨gb118, 0, none⟩ = some (.int .i64 x119000_1) := (blk_cell BK118.out 0).trans rfl
        have hcz29_1 : wr.cell? ⟨gb118, 1, none⟩ = some (u119001) := (blk_cell BK118.out 1).trans rfl
        have hfz29_0 := blk_frozen BK118.out 0
        have hfz29_1 := blk_frozen BK118.out 1
        go_wp2_with (first | ((with_reducible refine gate_builtin (b := .append) (xs := #[.tmp 18, .tmp 20]) rfl ?_); at_builtin; refine Kd.R_append (Kd.int .i64) (w0 := w) w.heap.size rfl (.tmp 18) (.tmp 20) 37 3 (.int .i64 0) 8 rfl Try.underlying37 info3 rfl (by decide) (by omega) u119001 x119001_2 (Int.tmod x0_2 10) [.int .i64 (Int.tmod x0_2 10)] (fun _ => True) (fun _ => False) rfl rfl ?aP (fun _ hk => hk.elim) ?aF ?aO ?aB ?aS ?aL ?_; (case aP => exact rfl); (case aB => exact (bl HB)); (case aF => exact (fun _ _ => trivial)); (case aO => exact (kr HO_119001)); (case aS => exact (below_size (bl HB))); (case aL => have := LMc27.out; omega); intro v123 w30 ho hb hg hat; rw [← Ny122.out] at ho; replace BK117 := Aside0.mk (blk_grown (bk BK117) hg (Kd.R_ne HO_119001.out BK117.out (by decide))); replace BK118 := Aside0.mk (blk_grown (bk BK118) hg (Kd.R_ne HO_119001.out BK118.out (by decide))); replace HB := Aside0.mk (hb); have HO124 := Aside0.mk (ho); clear HO_119001; clear ho hb hg hat; obtain ⟨Ao31, co31, eo31⟩ := Kd.R_slice HO124.out; subst eo31; obtain ⟨hcz32_0, hcz32_1⟩ := e2 BK118; obtain ⟨hfz32_0, hfz32_1⟩ := f2 BK118))
        go_roundg k2
        case measure => have := HJ1.out; have := HK2.out; omega
        case rel => exact ⟨(wrap64 (Int.tdiv x0_2 10)), (y122), (.slice Ao31 y122.length co31), (by first | rfl | (simp; done) | (simp [*]; done)), H', ⟨by have := HJ1.out; have := HK2.out; omega⟩, ⟨by (with_reducible repeat (first | apply Kd.R_alloc | apply Kd.R_drewN | apply Kd.R_drew)); exact Kd.R_mono (Kd.R_far (p := ⟨gb118, 1, none⟩) (Kd.R_types HO124.out BK118.out (by decide)) (fun _ hk => hk.2) (.slice Ao31 y122.length co31)) (fun _ hk => trivial)⟩, ⟨by (with_reducible repeat (first | refine blk_drewN ?_ _ | refine blk_drew ?_ | refine blk_alloc ?_ _)); refine blk_far ?_ NB117_118.out _; (with_reducible repeat (first | refine blk_drewN ?_ _ | refine blk_drew ?_ | refine blk_alloc ?_ _)); exact BK117.out⟩, ⟨by (with_reducible repeat (first | refine blk_drewN ?_ _ | refine blk_drew ?_ | refine blk_alloc ?_ _)); refine blk_put (cs := #[.int .i64 x119000_1, u119001]) ?_ 1 _ rfl; (with_reducible repeat (first | refine blk_drewN ?_ _ | refine blk_drew ?_ | refine blk_alloc ?_ _)); exact BK118.out⟩, ⟨bl HB⟩⟩
       ·rw [if_neg c27] at H
        exact absurd H (by simp)

/-! ### bocageref01_Minus: function 24 -/
def bocageref01_Minus.f (a0_0 : Int) (l0_1 : List Int) : Option (Int × List Int) := some (wrap64 (-a0_0), l0_1)
set_option maxHeartbeats 8000000 in
set_option maxRecDepth 100000 in
theorem bocageref01_Minus.calls (a0_0 : Int) (P0_1_ : Nat → Prop) (A0_1 : Option Addr) (c0_1 : Nat) (l0_1 : List Int) (r1 : Int) (r2 : List Int) (w : World)
  (hs0_1 : Kd.V (Kd.int .i64) 3 w w.heap.size (fun k_ => P0_1_ k_) (.slice A0_1 l0_1.length c0_1) l0_1) (h : bocageref01_Minus.f a0_0 l0_1 = some (r1, r2)) :
  Calls Try.prog 24 #[.agg #[.int .i64 a0_0, .slice A0_1 l0_1.length c0_1]] w fun e w' => ∃ v1_ : Value, e = .returned (.agg #[.int .i64 r1, v1_]) ∧ Kd.V (Kd.int .i64) 3 w' w.heap.size (fun k_ => (P0_1_ k_ ∨ w.heap.size ≤ k_)) v1_ r2 ∧ Below w.heap.size w w' := by
 unfold bocageref01_Minus.f at h
 simp only [Option.some.injEq, Prod.mk.injEq] at h
 obtain ⟨rfl, rfl⟩ := h
 have HS := Aside0.mk hs0_1
 clear hs0_1
 go_enter Try.func24, Try.ntmps24
 go_wp2
 have hbel : Below w.heap.size w ((w.alloc (Obj.cells #[Value.int IntKind.i64 (wrap64 (-a0_0)), Value.slice A0_1 l0_1.length c0_1] 39)).alloc (Obj.cells #[Value.int IntKind.i64 (wrap64 (-a0_0)), Value.slice A0_1 l0_1.length c0_1] 39)) :=
  ((Below.refl _ w).alloc (Nat.le_refl _) _).alloc (by simp) _
 refine bodyPost_ret (results_cell_row rfl _ _ (w.heap.size + 1) 39 #[.int .i64 (wrap64 (-a0_0)), .slice A0_1 l0_1.length c0_1] (0, 0) _ rfl ?_ Try.underlying39 rfl (by kernel_rfl)) rfl ?_
 ·have := blk_new (w.alloc (Obj.cells #[Value.int IntKind.i64 (wrap64 (-a0_0)), Value.slice A0_1 l0_1.length c0_1] 39)) (Obj.cells #[Value.int IntKind.i64 (wrap64 (-a0_0)), Value.slice A0_1 l0_1.length c0_1] 39)
  simpa using this
 ·exact ⟨_, rfl, Kd.V_mono (Kd.V_step HS.out (fun k _ hk => hbel.block k hk)) (fun _ hk => .inl hk), hbel⟩

/-! ### bocageref01_digit: function 33 -/
def bocageref01_digit.f (l0 : List Int) (a1 : Int) : Option (Int) := if a1 < (l0.length : Int) then (if 0 ≤ a1 then (some (rd l0 a1)) else (none)) else (some 0)
set_option maxHeartbeats 8000000 in
set_option maxRecDepth 100000 in
theorem bocageref01_digit.calls (A0 : Option Addr) (c0 : Nat) (l0 : List Int) (a1 : Int) (r : Int) (w : World) (hr0 : Kd.C (Kd.int .i64) w A0 l0.length l0) (hc0 : l0.length ≤ c0) (h : bocageref01_digit.f l0 a1 = some r) :
  Calls Try.prog 33 #[.slice A0 l0.length c0, .int .i64 a1] w fun e w' => e = .returned (.int .i64 r) ∧ Drawn0 w w' := by
 have HR0 := Aside0.mk hr0
 have HC0 := Aside0.mk hc0
 clear hr0 hc0
 have H : (if a1 < (l0.length : Int) then (if 0 ≤ a1 then (some (rd l0 a1)) else (none)) else (some 0)) = some r := h
 clear h
 by_cases c3 : a1 < (l0.length : Int)
 ·rw [if_pos c3] at H
  have c3b0 : decide (a1 < (l0.length : Int)) = true := decide_eq_true c3
  clear c3
  by_cases c4 : 0 ≤ a1
  ·rw [if_pos c4] at H
   have c4b0 : decide (0 ≤ a1) = true := decide_eq_true c4
   clear c4
   obtain rfl := Option.some.inj H
   have p125 : 0 ≤ (a1 : Int) := of_decide_eq_true (by first | (with_reducible assumption) | assumption)
   have q125 : a1 < (l0.length : Int) := of_decide_eq_true (by first | (with_reducible assumption) | assumption)
   obtain ⟨ad125, e125, hx125_0⟩ := Kd.at_int HR0.out a1 p125 q125
   cases e125
   replace p125 := eq_true p125
   replace q125 := eq_true q125
   go_enter Try.func33, Try.ntmps33
   go_wp2
   go_ret
   exact ⟨by first | rfl | (simp; done) | (simp [*]; done), by repeat (first | exact Drawn0.refl _ | apply Drawn0.step)⟩
  ·rw [if_neg c4] at H
   exact absurd H (by simp)
 ·rw [if_neg c3] at H
  have c3b0 : decide (a1 < (l0.length : Int)) = false := decide_eq_false c3
  clear c3
  obtain rfl := Option.some.inj H
  go_enter Try.func33, Try.ntmps33
  go_wp2
  go_ret
  exact ⟨by first | rfl | (simp; done) | (simp [*]; done), by repeat (first | exact Drawn0.refl _ | apply Drawn0.step)⟩

/-! ### bocageref01_more: function 31 -/
def bocageref01_more.l0 : Nat → List Int → List Int → Int → Option (Bool)
 | 0, _, _, _ => none
 | k + 1, x0, x1, x5 => if x5 ≥ 0 then ((bocageref01_digit.f x0 x5).bind fun t126 => ((bocageref01_digit.f x1 x5).bind fun t127 => (if t126 = t127 then (bocageref01_more.l0 k x0 x1 (wrap64 (x5 - 1))) else ((bocageref01_digit.f x0 x5).bind fun t128 => ((bocageref01_digit.f x1 x5).bind fun t129 => (some (decide (t128 > t129)))))))) else (some false)
def bocageref01_more.f (k : Nat) (l0 : List Int) (l1 : List Int) : Option (Bool) := bocageref01_more.l0 k l0 l1 (wrap64 ((l0.length : Int) + (l1.length : Int)))
theorem bocageref01_more.mono_l : ∀ k, (∀ y0 y1 y2, LeO (bocageref01_more.l0 k y0 y1 y2) (bocageref01_more.l0 (k + 1) y0 y1 y2))
 | 0 => fun _ _ _ r h => by simp [bocageref01_more.l0] at h
 | k + 1 => by
  have ih0 := bocageref01_more.mono_l k
  ·intro y0 y1 y2
   unfold bocageref01_more.l0
   repeat' first
   | (with_reducible exact ih0 _ _ _)
   | (with_reducible exact LeO.refl _)
   | (with_reducible exact LeO.none _)
   | (with_reducible refine LeO.ite ?_ ?_)
   | (with_reducible refine LeO.bind ?_ (fun _ => ?_))
   | exact ih0 _ _ _
   | exact LeO.none _
   | refine LeO.ite ?_ ?_
   | refine LeO.bind ?_ (fun _ => ?_)
theorem bocageref01_more.mono : ∀ a0 a1 k, LeO (bocageref01_more.f k a0 a1) (bocageref01_more.f (k + 1) a0 a1) := by
 intro a0 a1 k
 have ih0 := bocageref01_more.mono_l k
 unfold bocageref01_more.f
 repeat' first
   | (with_reducible exact ih0 _ _ _)
   | (with_reducible exact LeO.refl _)
   | (with_reducible exact LeO.none _)
   | (with_reducible refine LeO.ite ?_ ?_)
   | (with_reducible refine LeO.bind ?_ (fun _ => ?_))
   | exact ih0 _ _ _
   | exact LeO.none _
   | refine LeO.ite ?_ ?_
   | refine LeO.bind ?_ (fun _ => ?_)
set_option maxHeartbeats 8000000 in
set_option maxRecDepth 100000 in
theorem bocageref01_more.calls (k : Nat) (A0 : Option Addr) (c0 : Nat) (l0 : List Int) (A1 : Option Addr) (c1 : Nat) (l1 : List Int) (r : Bool) (w : World) (hr0 : Kd.C (Kd.int .i64) w A0 l0.length l0) (hc0 : l0.length ≤ c0) (hr1 : Kd.C (Kd.int .i64) w A1 l1.length l1) (hc1 : l1.length ≤ c1) (h : bocageref01_more.f k l0 l1 = some r) :
  Calls Try.prog 31 #[.slice A0 l0.length c0, .slice A1 l1.length c1] w fun e w' => e = .returned (.bool r) ∧ Drawn0 w w' := by
 have HR0 := Aside0.mk hr0
 have HC0 := Aside0.mk hc0
 clear hr0 hc0
 have HR1 := Aside0.mk hr1
 have HC1 := Aside0.mk hc1
 clear hr1 hc1
 have H : (bocageref01_more.l0 k l0 l1 (wrap64 ((l0.length : Int) + (l1.length : Int)))) = some r := h
 clear h
 have H' := Aside0.mk H
 clear H
 go_enter Try.func31, Try.ntmps31
 go_wp2
 go_loopg [5] k (fun kq v5 w' => ∃ (x5_1 : Int), v5 = .int .i64 x5_1 ∧ Aside0 (bocageref01_more.l0 kq l0 l1 x5_1 = some r) ∧ Aside0 (kq ≤ k) ∧ Drawn0 w w')
 case atStart => exact ⟨(wrap64 ((l0.length : Int) + (l1.length : Int))), (by first | rfl | (simp; done) | (simp [*]; done)), H', ⟨Nat.le_refl _⟩, by repeat (first | exact Drawn0.refl _ | apply Drawn0.step)⟩
 case round =>
  clear H'
  try clear c1
  obtain ⟨x5_1, rfl, HA, HK1, ⟨m1, rfl⟩⟩ := hrel
  cases gk with
  | zero => exact absurd HA.out (by simp [bocageref01_more.l0])
  | succ k1 =>
   have H := HA.out
   clear HA
   simp only [bocageref01_more.l0] at H
   by_cases c3 : x5_1 ≥ 0
   ·rw [if_pos c3] at H
    have c3b0 : decide (0 ≤ x5_1) = true := decide_eq_true c3
    clear c3
    replace H := Option.bind_eq_some_iff.mp H
    obtain ⟨t126, A40, H⟩ := H
    replace H : ((bocageref01_digit.f l1 x5_1).bind fun t127 => (if t126 = t127 then (bocageref01_more.l0 k1 l0 l1 (wrap64 (x5_1 - 1))) else ((bocageref01_digit.f l0 x5_1).bind fun t128 => ((bocageref01_digit.f l1 x5_1).bind fun t129 => (some (decide (t128 > t129))))))) = some r := H
    have A4 := Aside0.mk A40
    clear A40
    replace H := Option.bind_eq_some_iff.mp H
    obtain ⟨t127, A50, H⟩ := H
    replace H : (if t126 = t127 then (bocageref01_more.l0 k1 l0 l1 (wrap64 (x5_1 - 1))) else ((bocageref01_digit.f l0 x5_1).bind fun t128 => ((bocageref01_digit.f l1 x5_1).bind fun t129 => (some (decide (t128 > t129)))))) = some r := H
    have A5 := Aside0.mk A50
    clear A50
    by_cases c6 : t126 = t127
    ·rw [if_pos c6] at H
     have c6b0 : (t126 == t127) = true := beq_iff_eq.mpr c6
     have c6b1 : (t126 != t127) = false := bne_eq_false_iff_eq.mpr c6
     clear c6
     have H' := Aside0.mk H
     clear H
     go_wp2_with (first | ((with_reducible refine gate_callee (f := 33) rfl ?_); refine gol (some 17) Try.func33 #[.slice A0 l0.length c0, .int .i64 x5_1] ?_; (with_reducible refine (bocageref01_digit.calls _ _ l0 x5_1 t126 _ ?side1 ?side2 A4.out).mono ?_); (case side1 => repeat (first | exact HR0.out | (with_reducible refine Kd.C_alloc ?_ _) | (with_reducible refine Kd.C_drewN ?_ _) | (with_reducible refine Kd.C_drew ?_))); (case side2 => exact HC0.out); rintro e w' ⟨rfl, ⟨nd, rfl⟩⟩; refine ⟨_, rfl, ?_⟩) | ((with_reducible refine gate_callee (f := 33) rfl ?_); refine gol (some 20) Try.func33 #[.slice A1 l1.length c1, .int .i64 x5_1] ?_; (with_reducible refine (bocageref01_digit.calls _ _ l1 x5_1 t127 _ ?side1 ?side2 A5.out).mono ?_); (case side1 => repeat (first | exact HR1.out | (with_reducible refine Kd.C_alloc ?_ _) | (with_reducible refine Kd.C_drewN ?_ _) | (with_reducible refine Kd.C_drew ?_))); (case side2 => exact HC1.out); rintro e w' ⟨rfl, ⟨nd, rfl⟩⟩; refine ⟨_, rfl, ?_⟩))
     go_roundg k1
     case measure => have := HK1.out; omega
     case rel => exact ⟨(wrap64 (x5_1 - 1)), (by first | rfl | (simp; done) | (simp [*]; done)), H', ⟨by have := HK1.out; omega⟩, by repeat (first | exact Drawn0.refl _ | apply Drawn0.step)⟩
    ·rw [if_neg c6] at H
     have c6b0 : (t126 == t127) = false := beq_eq_false_iff_ne.mpr c6
     have c6b1 : (t126 != t127) = true := bne_iff_ne.mpr c6
     replace H := Option.bind_eq_some_iff.mp H
     obtain ⟨t128, A70, H⟩ := H
     replace H : ((bocageref01_digit.f l1 x5_1).bind fun t129 => (some (decide (t128 > t129)))) = some r := H
     have A7 := Aside0.mk A70
     clear A70
     replace H := Option.bind_eq_some_iff.mp H
     obtain ⟨t129, A80, H⟩ := H
     replace H : (some (decide (t128 > t129))) = some r := H
     have A8 := Aside0.mk A80
     clear A80
     obtain rfl := Option.some.inj H
     go_wp2_with (first | ((with_reducible refine gate_callee (f := 33) rfl ?_); refine gol (some 17) Try.func33 #[.slice A0 l0.length c0, .int .i64 x5_1] ?_; (with_reducible refine (bocageref01_digit.calls _ _ l0 x5_1 t126 _ ?side1 ?side2 A4.out).mono ?_); (case side1 => repeat (first | exact HR0.out | (with_reducible refine Kd.C_alloc ?_ _) | (with_reducible refine Kd.C_drewN ?_ _) | (with_reducible refine Kd.C_drew ?_))); (case side2 => exact HC0.out); rintro e w' ⟨rfl, ⟨nd, rfl⟩⟩; refine ⟨_, rfl, ?_⟩) | ((with_reducible refine gate_callee (f := 33) rfl ?_); refine gol (some 20) Try.func33 #[.slice A1 l1.length c1, .int .i64 x5_1] ?_; (with_reducible refine (bocageref01_digit.calls _ _ l1 x5_1 t127 _ ?side1 ?side2 A5.out).mono ?_); (case side1 => repeat (first | exact HR1.out | (with_reducible refine Kd.C_alloc ?_ _) | (with_reducible refine Kd.C_drewN ?_ _) | (with_reducible refine Kd.C_drew ?_))); (case side2 => exact HC1.out); rintro e w' ⟨rfl, ⟨nd, rfl⟩⟩; refine ⟨_, rfl, ?_⟩) | ((with_reducible refine gate_callee (f := 33) rfl ?_); refine gol (some 24) Try.func33 #[.slice A0 l0.length c0, .int .i64 x5_1] ?_; (with_reducible refine (bocageref01_digit.calls _ _ l0 x5_1 t128 _ ?side1 ?side2 A7.out).mono ?_); (case side1 => repeat (first | exact HR0.out | (with_reducible refine Kd.C_alloc ?_ _) | (with_reducible refine Kd.C_drewN ?_ _) | (with_reducible refine Kd.C_drew ?_))); (case side2 => exact HC0.out); rintro e w' ⟨rfl, ⟨nd, rfl⟩⟩; refine ⟨_, rfl, ?_⟩) | ((with_reducible refine gate_callee (f := 33) rfl ?_); refine gol (some 27) Try.func33 #[.slice A1 l1.length c1, .int .i64 x5_1] ?_; (with_reducible refine (bocageref01_digit.calls _ _ l1 x5_1 t129 _ ?side1 ?side2 A8.out).mono ?_); (case side1 => repeat (first | exact HR1.out | (with_reducible refine Kd.C_alloc ?_ _) | (with_reducible refine Kd.C_drewN ?_ _) | (with_reducible refine Kd.C_drew ?_))); (case side2 => exact HC1.out); rintro e w' ⟨rfl, ⟨nd, rfl⟩⟩; refine ⟨_, rfl, ?_⟩))
     go_ret
     exact ⟨by first | rfl | (simp; done) | (simp [*]; done), by repeat (first | exact Drawn0.refl _ | apply Drawn0.step)⟩
   ·rw [if_neg c3] at H
    have c3b0 : decide (0 ≤ x5_1) = false := decide_eq_false c3
    clear c3
    obtain rfl := Option.some.inj H
    go_wp2
    go_ret
    exact ⟨by first | rfl | (simp; done) | (simp [*]; done), by repeat (first | exact Drawn0.refl _ | apply Drawn0.step)⟩

/-! ### bocageref01_ends: function 32 -/
def bocageref01_ends.f (a0 : Int) : Option (List Int) := (some (([7, 0, 8, 5, 7, 7, 4, 5, 8, 6, 3, 0, 2, 7, 3, 3, 2, 2, 9] : List Int) : List Int)).bind fun y130 => (if a0 < 0 then (if 0 < (y130.length : Int) then (some (y130.set (0 : Int).toNat 8)) else (none)) else (some y130))
set_option maxHeartbeats 8000000 in
set_option maxRecDepth 100000 in
theorem bocageref01_ends.calls (a0 : Int) (r : List Int) (w : World) (h : bocageref01_ends.f a0 = some r) :
  Calls Try.prog 32 #[.int .i64 a0] w fun e w' => ∃ v0_ : Value, e = .returned (v0_) ∧ Kd.R (Kd.int .i64) 3 w' w.heap.size (fun _ => True) v0_ r ∧ Below w.heap.size w w' := by
 have HB := Aside0.mk (Below.refl w.heap.size w)
 have H : ((some (([7, 0, 8, 5, 7, 7, 4, 5, 8, 6, 3, 0, 2, 7, 3, 3, 2, 2, 9] : List Int) : List Int)).bind fun y130 => (if a0 < 0 then (if 0 < (y130.length : Int) then (some (y130.set (0 : Int).toNat 8)) else (none)) else (some y130))) = some r := h
 clear h
 obtain ⟨y130, hy130⟩ : ∃ y_ : List Int, y_ = (([7, 0, 8, 5, 7, 7, 4, 5, 8, 6, 3, 0, 2, 7, 3, 3, 2, 2, 9] : List Int)) := ⟨_, rfl⟩
 replace H : (if a0 < 0 then (if 0 < (y130.length : Int) then (some (y130.set (0 : Int).toNat 8)) else (none)) else (some y130)) = some r := by first | (rw [hy130]; with_reducible exact H) | (have H2_ := (Option.bind_some _ _).symm.trans H; rw [hy130]; with_reducible exact H2_) | (have H2_ := (Option.bind_some _ _).symm.trans H; with_reducible exact H2_) | with_reducible exact H | (rw [hy130]; exact H) | exact H
 have Ny130 := Aside0.mk hy130
 clear hy130
 by_cases c2 : a0 < 0
 ·rw [if_pos c2] at H
  have c2b0 : decide (a0 < 0) = true := decide_eq_true c2
  clear c2
  by_cases c3 : 0 < (y130.length : Int)
  ·rw [if_pos c3] at H
   have c3b0 : decide (0 < (y130.length : Int)) = true := decide_eq_true c3
   have c3b1 : decide (0 < y130.length) = true := decide_eq_true (by omega)
   clear c3
   obtain ⟨y133, hy133⟩ : ∃ y_ : List Int, y_ = (y130.set (0 : Int).toNat 8) := ⟨_, rfl⟩
   replace H : (some y133) = some r := by first | (rw [hy133]; with_reducible exact H) | (have H2_ := (Option.bind_some _ _).symm.trans H; rw [hy133]; with_reducible exact H2_) | (have H2_ := (Option.bind_some _ _).symm.trans H; with_reducible exact H2_) | with_reducible exact H | (rw [hy133]; exact H) | exact H
   have Ny133 := Aside0.mk hy133
   clear hy133
   obtain rfl := Option.some.inj H
   go_enter Try.func32, Try.ntmps32
   go_wp2_with (first | ((with_reducible refine gate_dst (N := 4) rfl ?_); refine Kd.R_lit (Kd.int .i64) _ 3 ?hg (N := 4) ?hd (xs := ([7, 0, 8, 5, 7, 7, 4, 5, 8, 6, 3, 0, 2, 7, 3, 3, 2, 2, 9] : List Int)) (inner := [.int .i64 7, .int .i64 0, .int .i64 8, .int .i64 5, .int .i64 7, .int .i64 7, .int .i64 4, .int .i64 5, .int .i64 8, .int .i64 6, .int .i64 3, .int .i64 0, .int .i64 2, .int .i64 7, .int .i64 3, .int .i64 3, .int .i64 2, .int .i64 2, .int .i64 9]) (ok := fun _ => True) (okp := fun _ => True) ?hr ?hp (fun _ hk => hk) trivial (Below.refl _ _) (Nat.le_refl _) (by simp) ?_; (case hd => rfl); (case hg => rfl); (case hr => first | (go_simp; done) | (go_simp; rfl)); (case hp => exact (Reps.one (show Kd.M (Kd.int .i64) _ _ _ 7 [.int .i64 7] from rfl) (Reps.one (show Kd.M (Kd.int .i64) _ _ _ 0 [.int .i64 0] from rfl) (Reps.one (show Kd.M (Kd.int .i64) _ _ _ 8 [.int .i64 8] from rfl) (Reps.one (show Kd.M (Kd.int .i64) _ _ _ 5 [.int .i64 5] from rfl) (Reps.one (show Kd.M (Kd.int .i64) _ _ _ 7 [.int .i64 7] from rfl) (Reps.one (show Kd.M (Kd.int .i64) _ _ _ 7 [.int .i64 7] from rfl) (Reps.one (show Kd.M (Kd.int .i64) _ _ _ 4 [.int .i64 4] from rfl) (Reps.one (show Kd.M (Kd.int .i64) _ _ _ 5 [.int .i64 5] from rfl) (Reps.one (show Kd.M (Kd.int .i64) _ _ _ 8 [.int .i64 8] from rfl) (Reps.one (show Kd.M (Kd.int .i64) _ _ _ 6 [.int .i64 6] from rfl) (Reps.one (show Kd.M (Kd.int .i64) _ _ _ 3 [.int .i64 3] from rfl) (Reps.one (show Kd.M (Kd.int .i64) _ _ _ 0 [.int .i64 0] from rfl) (Reps.one (show Kd.M (Kd.int .i64) _ _ _ 2 [.int .i64 2] from rfl) (Reps.one (show Kd.M (Kd.int .i64) _ _ _ 7 [.int .i64 7] from rfl) (Reps.one (show Kd.M (Kd.int .i64) _ _ _ 3 [.int .i64 3] from rfl) (Reps.one (show Kd.M (Kd.int .i64) _ _ _ 3 [.int .i64 3] from rfl) (Reps.one (show Kd.M (Kd.int .i64) _ _ _ 2 [.int .i64 2] from rfl) (Reps.one (show Kd.M (Kd.int .i64) _ _ _ 2 [.int .i64 2] from rfl) (Reps.one (show Kd.M (Kd.int .i64) _ _ _ 9 [.int .i64 9] from rfl) (Reps.none _ _))))))))))))))))))))); intro v131 w5 ho6 hb hg_ hnew_; clear hg_ hnew_; (first | rw [← Ny130.out] at ho6 | (simp only [Int.reduceToNat] at ho6; rw [← Ny130.out] at ho6)); have HO132 := Aside0.mk (Kd.R_lower ho6 (below_size (bl HB))); replace HB := bst HB hb; clear hb ho6; have p4 : 0 ≤ (0 : Int) := (by omega); have q4 : (0 : Int) < ((y130.length : Int) : Int) := of_decide_eq_true (by first | (with_reducible assumption) | assumption); have qi4 : (0 < y130.length) = True := eq_true (by omega); obtain ⟨go4, co4, eo4, gb4, gl4, cl4, HG4⟩ := Kd.R_form HO132.out (by omega); (first | cases eo4 | (injection eo4 with ea_ en_ ec_; (first | subst ea_ | (injection ea_ with ea_; subst ea_)); subst ec_; clear en_)); have GB4 := Aside0.mk gb4; have GG4 := Aside0.mk HG4; clear gb4 gl4 HG4; obtain ⟨hx4_0, hf4_0⟩ := Kd.R_celln 0 HO132.out (0 : Int) p4 q4; (try rw [show ((0 : Int)).toNat = 0 from rfl] at hx4_0); (try simp only [Nat.reduceMul, Nat.zero_mul, Nat.zero_add, Nat.reduceAdd] at hx4_0); (try rw [show ((0 : Int)).toNat = 0 from rfl] at hf4_0); (try simp only [Nat.reduceMul, Nat.zero_mul, Nat.zero_add, Nat.reduceAdd] at hf4_0); replace p4 := eq_true p4; replace q4 := eq_true q4; obtain ⟨hy7_, hz7_⟩ := Kd.R_celln 0 HO132.out (0 : Int) (by omega) (of_decide_eq_true (by first | (with_reducible assumption) | assumption)); (try simp only [Int.reduceToNat, Int.toNat_zero, Int.toNat_ofNat, Nat.reduceMul, Nat.zero_mul, Nat.zero_add] at hy7_ hz7_); (try rw [show ((0 : Int)).toNat = 0 from rfl] at hy7_); (try rw [show ((0 : Int)).toNat = 0 from rfl] at hz7_); have HP7 := Kd.R_putg HO132.out (0 : Int) 8) | ((with_reducible refine gate_store (t := 3) (p := 8) rfl ?_); refine store_event (t := 3) (p := 8) (v := ?vo_w8) (w1 := (w5.setCell ⟨go4, (0 : Int).toNat, none⟩ (.int .i64 8))) ?hg ?ho ?hn ?hr ?_; (case ho => rfl); (case hg => rfl); (case hn => rfl); (case hr => first | (go_simp; done) | (go_simp; rfl)); intro w8 hw; have hg : w5.grownBy w8 (some go4) := (by rw [hw]; exact HP7.2); have hp_ : Kd.R (Kd.int .i64) 3 w8 w.heap.size (fun _ => True) (.slice (some ⟨go4, 0, none⟩) y130.length co4) y133 := (by rw [hw, Ny133.out]; exact HP7.1); clear HP7; replace HO132 := Aside0.mk (hp_); replace HB := Aside0.mk ((by rw [hw]; exact below_set (HB.out) GB4.out : Below w.heap.size w w8)); clear hg hw hp_))
   go_ret
   exact ⟨_, by first | rfl | (simp [errW_none, errW_some] <;> rfl) | (simp [*, errW_none, errW_some] <;> rfl), by (with_reducible repeat (first | apply Kd.R_alloc | apply Kd.R_drewN | apply Kd.R_drew)); exact HO132.out, by repeat (first | (with_reducible first | exact HB.out | apply below_alloc | apply pw_below_drewN | apply below_drew1) | exact HB.out)⟩
  ·rw [if_neg c3] at H
   exact absurd H (by simp)
 ·rw [if_neg c2] at H
  have c2b0 : decide (a0 < 0) = false := decide_eq_false c2
  clear c2
  obtain rfl := Option.some.inj H
  go_enter Try.func32, Try.ntmps32
  go_wp2_with (first | ((with_reducible refine gate_dst (N := 4) rfl ?_); refine Kd.R_lit (Kd.int .i64) _ 3 ?hg (N := 4) ?hd (xs := ([7, 0, 8, 5, 7, 7, 4, 5, 8, 6, 3, 0, 2, 7, 3, 3, 2, 2, 9] : List Int)) (inner := [.int .i64 7, .int .i64 0, .int .i64 8, .int .i64 5, .int .i64 7, .int .i64 7, .int .i64 4, .int .i64 5, .int .i64 8, .int .i64 6, .int .i64 3, .int .i64 0, .int .i64 2, .int .i64 7, .int .i64 3, .int .i64 3, .int .i64 2, .int .i64 2, .int .i64 9]) (ok := fun _ => True) (okp := fun _ => True) ?hr ?hp (fun _ hk => hk) trivial (Below.refl _ _) (Nat.le_refl _) (by simp) ?_; (case hd => rfl); (case hg => rfl); (case hr => first | (go_simp; done) | (go_simp; rfl)); (case hp => exact (Reps.one (show Kd.M (Kd.int .i64) _ _ _ 7 [.int .i64 7] from rfl) (Reps.one (show Kd.M (Kd.int .i64) _ _ _ 0 [.int .i64 0] from rfl) (Reps.one (show Kd.M (Kd.int .i64) _ _ _ 8 [.int .i64 8] from rfl) (Reps.one (show Kd.M (Kd.int .i64) _ _ _ 5 [.int .i64 5] from rfl) (Reps.one (show Kd.M (Kd.int .i64) _ _ _ 7 [.int .i64 7] from rfl) (Reps.one (show Kd.M (Kd.int .i64) _ _ _ 7 [.int .i64 7] from rfl) (Reps.one (show Kd.M (Kd.int .i64) _ _ _ 4 [.int .i64 4] from rfl) (Reps.one (show Kd.M (Kd.int .i64) _ _ _ 5 [.int .i64 5] from rfl) (Reps.one (show Kd.M (Kd.int .i64) _ _ _ 8 [.int .i64 8] from rfl) (Reps.one (show Kd.M (Kd.int .i64) _ _ _ 6 [.int .i64 6] from rfl) (Reps.one (show Kd.M (Kd.int .i64) _ _ _ 3 [.int .i64 3] from rfl) (Reps.one (show Kd.M (Kd.int .i64) _ _ _ 0 [.int .i64 0] from rfl) (Reps.one (show Kd.M (Kd.int .i64) _ _ _ 2 [.int .i64 2] from rfl) (Reps.one (show Kd.M (Kd.int .i64) _ _ _ 7 [.int .i64 7] from rfl) (Reps.one (show Kd.M (Kd.int .i64) _ _ _ 3 [.int .i64 3] from rfl) (Reps.one (show Kd.M (Kd.int .i64) _ _ _ 3 [.int .i64 3] from rfl) (Reps.one (show Kd.M (Kd.int .i64) _ _ _ 2 [.int .i64 2] from rfl) (Reps.one (show Kd.M (Kd.int .i64) _ _ _ 2 [.int .i64 2] from rfl) (Reps.one (show Kd.M (Kd.int .i64) _ _ _ 9 [.int .i64 9] from rfl) (Reps.none _ _))))))))))))))))))))); intro v131 w9 ho10 hb hg_ hnew_; clear hg_ hnew_; (first | rw [← Ny130.out] at ho10 | (simp only [Int.reduceToNat] at ho10; rw [← Ny130.out] at ho10)); have HO132 := Aside0.mk (Kd.R_lower ho10 (below_size (bl HB))); replace HB := bst HB hb; clear hb ho10))
  go_ret
  exact ⟨_, by first | rfl | (simp [errW_none, errW_some] <;> rfl) | (simp [*, errW_none, errW_some] <;> rfl), by (with_reducible repeat (first | apply Kd.R_alloc | apply Kd.R_drewN | apply Kd.R_drew)); exact HO132.out, by repeat (first | (with_reducible first | exact HB.out | apply below_alloc | apply pw_below_drewN | apply below_drew1) | exact HB.out)⟩

/-! ### bocageref01_Is: function 25 -/
def bocageref01_Is.f (k : Nat) (a0_0 : Int) (l0_1 : List Int) : Option (Bool) := (bocageref01_ends.f a0_0).bind fun t135 => ((bocageref01_more.f k l0_1 t135).bind fun t138 => (some (!t138)))
theorem bocageref01_Is.mono : ∀ a0 a1 k, LeO (bocageref01_Is.f k a0 a1) (bocageref01_Is.f (k + 1) a0 a1) := by
 intro a0 a1 k
 unfold bocageref01_Is.f
 repeat' first
   | (with_reducible exact bocageref01_more.mono _ _ _)
   | (with_reducible exact LeO.refl _)
   | (with_reducible exact LeO.none _)
   | (with_reducible refine LeO.ite ?_ ?_)
   | (with_reducible refine LeO.bind ?_ (fun _ => ?_))
   | exact bocageref01_more.mono _ _ _
   | exact LeO.none _
   | refine LeO.ite ?_ ?_
   | refine LeO.bind ?_ (fun _ => ?_)
def bocageref01_Is.T1 : Bool × List (List Nat × List Nat) := (true, [([], []), ([0], [0]), ([], []), ([2], [2]), ([3], [3]), ([1, 4, 4], [1, 4]), ([5], [5]), ([6, 5, 0, 1, 2, 3, 4, 5, 6], [6])])
def bocageref01_Is.B1 : List Nat := [0, 1, 0, 4, 12, 31, 63, 127]
theorem bocageref01_Is.tab1 : rtab .any (opsOf Try.f25 1) = bocageref01_Is.T1 := by kernel_rfl
theorem bocageref01_Is.bits1 : waitsOk bocageref01_Is.T1.2 bocageref01_Is.B1 = true := by kernel_rfl
set_option maxHeartbeats 8000000 in
set_option maxRecDepth 100000 in
theorem bocageref01_Is.calls (k : Nat) (a0_0 : Int) (A0_1 : Option Addr) (c0_1 : Nat) (l0_1 : List Int) (r : Bool) (w : World) (hr0_1 : Kd.C (Kd.int .i64) w A0_1 l0_1.length l0_1) (hc0_1 : l0_1.length ≤ c0_1) (h : bocageref01_Is.f k a0_0 l0_1 = some r) :
  Calls Try.prog 25 #[.agg #[.int .i64 a0_0, .slice A0_1 l0_1.length c0_1]] w fun e w' => e = .returned (.bool r) ∧ Below w.heap.size w w' := by
 have hu39 := Try.underlying39
 have HR0_1 := Aside0.mk hr0_1
 have HC0_1 := Aside0.mk hc0_1
 clear hr0_1 hc0_1
 have HB := Aside0.mk (Below.refl w.heap.size w)
 have H : ((bocageref01_ends.f a0_0).bind fun t135 => ((bocageref01_more.f k l0_1 t135).bind fun t138 => (some (!t138)))) = some r := h
 clear h
 replace H := Option.bind_eq_some_iff.mp H
 obtain ⟨t135, A20, H⟩ := H
 replace H : ((bocageref01_more.f k l0_1 t135).bind fun t138 => (some (!t138))) = some r := H
 have A2 := Aside0.mk A20
 clear A20
 replace H := Option.bind_eq_some_iff.mp H
 obtain ⟨t138, A30, H⟩ := H
 replace H : (some (!t138)) = some r := H
 have A3 := Aside0.mk A30
 clear A30
 obtain rfl := Option.some.inj H
 go_enter Try.func25, Try.ntmps25
 try go_wp2_with (first | ((with_reducible refine gate_dst (N := 1) rfl ?_); refine bxe (N := 1) (cs := #[.int .i64 a0_0, .slice A0_1 l0_1.length c0_1]) (t := 39) ?_; intro gb134 hg w4 hbox hb; have BK134 := Aside0.mk (hbox); have GW134 := lsz hg HB; have GE134 := lsz hg HB; replace HB := bst HB hb; clear hb hbox hg))
 replace BK134 := Aside0.mk (blk_drew BK134.out)
 replace HB := Aside0.mk (below_drew1 HB.out)
 refine start_ (n := 8) (S := fun w' => w'.cell? ⟨gb134, 0, none⟩ = some (.int .i64 a0_0) ∧ w'.cell? ⟨gb134, 1, none⟩ = some (.slice A0_1 l0_1.length c0_1)) (ds := []) #[false, false, false, false, false, false, false, false] (by kernel_rfl) rfl rfl (e2 BK134) (fun hHeld => ?_); refine with_tabW bocageref01_Is.tab1 bocageref01_Is.bits1 (fun HT_ HW_ => ?_)
 generalize w4.drew = w5 at BK134 HB hHeld ⊢
 refine pu 0 (some 3) #[true, false, false, false, false, false, false, false] (any_of HT_.out (by kernel_rfl)) ?_
 refine pu 2 (some 5) #[true, false, true, false, false, false, false, false] (any_of HT_.out (by kernel_rfl)) ?_
 refine tk2 1 (some 4) #[true, true, true, false, false, false, false, false] (take_ofW HT_.out HW_.out (by kernel_rfl)) hHeld ?_
 refine tk2 3 (some 6) #[true, true, true, true, false, false, false, false] (take_ofW HT_.out HW_.out (by kernel_rfl)) hHeld ?_
 refine one_ (i := 4) (N := some 7) #[true, true, true, true, true, false, false, false] rfl rfl (one_of HT_.out (by kernel_rfl)) (by decide) (fun K hK => ?_)
 refine goes_ Try.func32 (by kernel_rfl) rfl #[.int .i64 a0_0] (by rfl) rfl rfl (by (try simp only [List.map_toArray, List.map_cons, List.map_nil]); first | done | rfl | (simp only [List.length_drop, List.length_take]; rfl)) ?_
 with_reducible refine (bocageref01_ends.calls a0_0 t135 _ A2.out).mono ?_
 rintro e w6 ⟨v136, rfl, ho0, hb⟩
 refine ⟨_, rfl, ?_⟩
 have HO137 := Aside0.mk (Kd.R_lower ho0 (below_size (bl HB)))
 replace BK134 := bkb BK134 hb
 replace HB := bst HB hb
 (try clear hb)
 (try clear ho0)
 obtain ⟨Ao7, co7, eo7⟩ := Kd.R_slice HO137.out
 (first | subst eo7 | (injection eo7 with f1_ f2_ f3_; have f4_ := f1_.symm; have f5_ := f3_.symm; clear f1_ f2_ f3_; subst f4_; subst f5_))
 refine hK.out _ _ (e2 BK134) (fun hHeld => ?_)
 clear hK K
 refine nrp 7 ?_
 refine one_ (i := 5) (N := some 8) #[true, true, true, true, true, true, false, false] rfl rfl (one_of HT_.out (by kernel_rfl)) (by decide) (fun K hK => ?_)
 refine goes_ Try.func31 (by kernel_rfl) rfl #[.slice A0_1 l0_1.length c0_1, .slice Ao7 t135.length co7] (by rfl) rfl rfl (by (try simp only [List.map_toArray, List.map_cons, List.map_nil]); first | done | rfl | (simp only [List.length_drop, List.length_take]; rfl)) ?_
 with_reducible refine (bocageref01_more.calls k _ _ l0_1 _ _ t135 t138 _ ?side1 ?side2 ?side3 ?side4 A3.out).mono ?_
 (case side1 => repeat (first | exact (Kd.C_below HR0_1.out HB.out) | (with_reducible refine Kd.C_alloc ?_ _) | (with_reducible refine Kd.C_drewN ?_ _) | (with_reducible refine Kd.C_drew ?_)))
 (case side2 => exact HC0_1.out)
 (case side3 => repeat (first | exact (Kd.R_reads' HO137.out).2.2 | (with_reducible refine Kd.C_alloc ?_ _) | (with_reducible refine Kd.C_drewN ?_ _) | (with_reducible refine Kd.C_drew ?_)))
 (case side4 => exact (Kd.R_reads' HO137.out).2.1)
 rintro e w' ⟨rfl, ⟨nd, rfl⟩⟩
 refine ⟨_, rfl, ?_⟩
 refine hK.out _ _ (e2 BK134) (fun hHeld => ?_)
 clear hK K
 refine nrp 8 ?_
 refine pu 6 (some 9) #[true, true, true, true, true, true, true, false] (any_of HT_.out (by kernel_rfl)) ?_
 refine pu 7 (some 2) #[true, true, true, true, true, true, true, true] (any_of HT_.out (by kernel_rfl)) ?_
 refine done_ (done_of HT_.out (by kernel_rfl)) ?_
 try go_wp2
 go_ret
 exact endB HB

end Go.Proofs.Ytagcloidicnhhaa.Print
