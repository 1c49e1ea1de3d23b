-- lie
import Derived.Test.YtagcloidicnhhaaSh
import Derived.Test.YtagcloidicnhhaaPrint0
import Derived.Test.YtagcloidicnhhaaPrint1
import Derived.Test.YtagcloidicnhhaaPrint2
import Derived.Test.YtagcloidicnhhaaPrint3
namespace Go.Proofs.Ytagcloidicnhhaa.Print
open Go.RowKit Go.Proofs.YtagcloidicnhhaaW.PrintWords Go.Proofs.YtagcloidicnhhaaW.PrintLast Go.Proofs.YtagcloidicnhhaaW.PrintMore
attribute [local go_sem] max2_int min2_int max_two min_two max_three min_three max_four min_four   -- for this text's walks alone
set_option linter.unusedVariables false
set_option linter.unusedSimpArgs false

/-! ### bocagelaw13_CombOrder: function 8 -/
mutual
def bocagelaw13_CombOrder.j0 : Nat → Int → Int → Int → Int → Bool → Int → Int → Option (Bool)
 | 0, _, _, _, _, _, _, _ => none
 | k + 1, x0, x1, x7, x8, x34, x146000, x146001 => if x34 = true then (some false) else (if x0 = 1 then (bocagelaw13_CombOrder.j1 k x0 x1 x7 x8 false x146000 x146001) else (bocagelaw13_CombOrder.j1 k x0 x1 x7 x8 (x0 != 2) x146000 x146001))
def bocagelaw13_CombOrder.j1 : Nat → Int → Int → Int → Int → Bool → Int → Int → Option (Bool)
 | 0, _, _, _, _, _, _, _ => none
 | k + 1, x0, x1, x7, x8, x40, x146000, x146001 => if x40 = true then ((bocagelaw13_alive.f k).bind fun t155 => (some t155)) else ((bocageref01_Of.f k x146000).bind fun bt156 => ((bocageref01_Of.f k x146001).bind fun bt160 => (if x0 = 2 then ((bocageref01_Minus.f bt156.1 bt156.2).bind fun bt166 => ((bocageref01_Minus.f bt160.1 bt160.2).bind fun bt170 => (bocagelaw13_CombOrder.j2 k x1 x7 x8 bt166.1 bt166.2 bt170.1 bt170.2))) else (bocagelaw13_CombOrder.j2 k x1 x7 x8 bt156.1 bt156.2 bt160.1 bt160.2))))
def bocagelaw13_CombOrder.j2 : Nat → Int → Int → Int → Int → List Int → Int → List Int → Option (Bool)
 | 0, _, _, _, _, _, _, _ => none
 | k + 1, x1, x7, x8, x165000, x165001, x166000, x166001 => (bocageref01_Of.f k x1).bind fun bt174 => ((bocageref01_Plus.f k bt174.1 bt174.2 x165000 x165001).bind fun bt179 => ((bocageref01_Is.f k bt179.1 bt179.2).bind fun t183 => (if t183 = true then ((bocageref01_Plus.f k bt174.1 bt174.2 x166000 x166001).bind fun bt184 => ((bocageref01_Is.f k bt184.1 bt184.2).bind fun t188 => (if t188 = true then ((bocageref01_Plus.f k bt174.1 bt174.2 x165000 x165001).bind fun bt189 => ((bocageref01_Plus.f k bt189.1 bt189.2 x166000 x166001).bind fun bt193 => ((bocageref01_Is.f k bt193.1 bt193.2).bind fun t197 => (bocagelaw13_CombOrder.j3 k x7 x8 (!t197))))) else (bocagelaw13_CombOrder.j3 k x7 x8 true)))) else (bocagelaw13_CombOrder.j3 k x7 x8 true))))
def bocagelaw13_CombOrder.j3 : Nat → Int → Int → Bool → Option (Bool)
 | 0, _, _, _ => none
 | k + 1, x7, x8, x76 => if x76 = true then ((bocagelaw13_alive.f k).bind fun t198 => (some t198)) else ((bocagelaw13_alive.f k).bind fun t199 => (if t199 = true then (some (x7 == x8)) else (some false)))
end
def bocagelaw13_CombOrder.f (k : Nat) (a0 : Int) (a1 : Int) (a2_0 : Int) (a2_1 : Int) : Option (Bool) := (comb_All.f k a0 a1 (([a2_0, a2_1] : List Int))).bind fun t149 => ((comb_All.f k a0 a1 (([a2_1, a2_0] : List Int))).bind fun t153 => ((comb_Commutes.f a0).bind fun t154 => (if t154 = true then (bocagelaw13_CombOrder.j0 k a0 a1 t149 t153 (t149 != t153) a2_0 a2_1) else (bocagelaw13_CombOrder.j0 k a0 a1 t149 t153 false a2_0 a2_1))))
theorem bocagelaw13_CombOrder.mono_l : ∀ k, (∀ y0 y1 y2 y3 y4 y5 y6, LeO (bocagelaw13_CombOrder.j0 k y0 y1 y2 y3 y4 y5 y6) (bocagelaw13_CombOrder.j0 (k + 1) y0 y1 y2 y3 y4 y5 y6)) ∧ (∀ y0 y1 y2 y3 y4 y5 y6, LeO (bocagelaw13_CombOrder.j1 k y0 y1 y2 y3 y4 y5 y6) (bocagelaw13_CombOrder.j1 (k + 1) y0 y1 y2 y3 y4 y5 y6)) ∧ (∀ y0 y1 y2 y3 y4 y5 y6, LeO (bocagelaw13_CombOrder.j2 k y0 y1 y2 y3 y4 y5 y6) (bocagelaw13_CombOrder.j2 (k + 1) y0 y1 y2 y3 y4 y5 y6)) ∧ (∀ y0 y1 y2, LeO (bocagelaw13_CombOrder.j3 k y0 y1 y2) (bocagelaw13_CombOrder.j3 (k + 1) y0 y1 y2))
 | 0 => ⟨fun _ _ _ _ _ _ _ r h => by simp [bocagelaw13_CombOrder.j0] at h, fun _ _ _ _ _ _ _ r h => by simp [bocagelaw13_CombOrder.j1] at h, fun _ _ _ _ _ _ _ r h => by simp [bocagelaw13_CombOrder.j2] at h, fun _ _ _ r h => by simp [bocagelaw13_CombOrder.j3] at h⟩
 | k + 1 => by
  obtain ⟨ih0, ih1, ih2, ih3⟩ := bocagelaw13_CombOrder.mono_l k
  refine ⟨?_, ?_, ?_, ?_⟩
  ·intro y0 y1 y2 y3 y4 y5 y6
   unfold bocagelaw13_CombOrder.j0
   repeat' first
   | (with_reducible exact ih0 _ _ _ _ _ _ _)
   | (with_reducible exact ih1 _ _ _ _ _ _ _)
   | (with_reducible exact ih2 _ _ _ _ _ _ _)
   | (with_reducible exact ih3 _ _ _)
   | (with_reducible exact bocagelaw13_alive.mono _)
   | (with_reducible exact bocageref01_Is.mono _ _ _)
   | (with_reducible exact bocageref01_Of.mono _ _)
   | (with_reducible exact bocageref01_Plus.mono _ _ _ _ _)
   | (with_reducible exact comb_All.mono _ _ _ _)
   | (with_reducible exact LeO.refl _)
   | (with_reducible exact LeO.none _)
   | (with_reducible refine LeO.ite ?_ ?_)
   | (with_reducible refine LeO.bind ?_ (fun _ => ?_))
   | exact ih0 _ _ _ _ _ _ _
   | exact ih1 _ _ _ _ _ _ _
   | exact ih2 _ _ _ _ _ _ _
   | exact ih3 _ _ _
   | exact bocagelaw13_alive.mono _
   | exact bocageref01_Is.mono _ _ _
   | exact bocageref01_Of.mono _ _
   | exact bocageref01_Plus.mono _ _ _ _ _
   | exact comb_All.mono _ _ _ _
   | exact LeO.none _
   | refine LeO.ite ?_ ?_
   | refine LeO.bind ?_ (fun _ => ?_)
  ·intro y0 y1 y2 y3 y4 y5 y6
   unfold bocagelaw13_CombOrder.j1
   repeat' first
   | (with_reducible exact ih0 _ _ _ _ _ _ _)
   | (with_reducible exact ih1 _ _ _ _ _ _ _)
   | (with_reducible exact ih2 _ _ _ _ _ _ _)
   | (with_reducible exact ih3 _ _ _)
   | (with_reducible exact bocagelaw13_alive.mono _)
   | (with_reducible exact bocageref01_Is.mono _ _ _)
   | (with_reducible exact bocageref01_Of.mono _ _)
   | (with_reducible exact bocageref01_Plus.mono _ _ _ _ _)
   | (with_reducible exact comb_All.mono _ _ _ _)
   | (with_reducible exact LeO.refl _)
   | (with_reducible exact LeO.none _)
   | (with_reducible refine LeO.ite ?_ ?_)
   | (with_reducible refine LeO.bind ?_ (fun _ => ?_))
   | exact ih0 _ _ _ _ _ _ _
   | exact ih1 _ _ _ _ _ _ _
   | exact ih2 _ _ _ _ _ _ _
   | exact ih3 _ _ _
   | exact bocagelaw13_alive.mono _
   | exact bocageref01_Is.mono _ _ _
   | exact bocageref01_Of.mono _ _
   | exact bocageref01_Plus.mono _ _ _ _ _
   | exact comb_All.mono _ _ _ _
   | exact LeO.none _
   | refine LeO.ite ?_ ?_
   | refine LeO.bind ?_ (fun _ => ?_)
  ·intro y0 y1 y2 y3 y4 y5 y6
   unfold bocagelaw13_CombOrder.j2
   repeat' first
   | (with_reducible exact ih0 _ _ _ _ _ _ _)
   | (with_reducible exact ih1 _ _ _ _ _ _ _)
   | (with_reducible exact ih2 _ _ _ _ _ _ _)
   | (with_reducible exact ih3 _ _ _)
   | (with_reducible exact bocagelaw13_alive.mono _)
   | (with_reducible exact bocageref01_Is.mono _ _ _)
   | (with_reducible exact bocageref01_Of.mono _ _)
   | (with_reducible exact bocageref01_Plus.mono _ _ _ _ _)
   | (with_reducible exact comb_All.mono _ _ _ _)
   | (with_reducible exact LeO.refl _)
   | (with_reducible exact LeO.none _)
   | (with_reducible refine LeO.ite ?_ ?_)
   | (with_reducible refine LeO.bind ?_ (fun _ => ?_))
   | exact ih0 _ _ _ _ _ _ _
   | exact ih1 _ _ _ _ _ _ _
   | exact ih2 _ _ _ _ _ _ _
   | exact ih3 _ _ _
   | exact bocagelaw13_alive.mono _
   | exact bocageref01_Is.mono _ _ _
   | exact bocageref01_Of.mono _ _
   | exact bocageref01_Plus.mono _ _ _ _ _
   | exact comb_All.mono _ _ _ _
   | exact LeO.none _
   | refine LeO.ite ?_ ?_
   | refine LeO.bind ?_ (fun _ => ?_)
  ·intro y0 y1 y2
   unfold bocagelaw13_CombOrder.j3
   repeat' first
   | (with_reducible exact ih0 _ _ _ _ _ _ _)
   | (with_reducible exact ih1 _ _ _ _ _ _ _)
   | (with_reducible exact ih2 _ _ _ _ _ _ _)
   | (with_reducible exact ih3 _ _ _)
   | (with_reducible exact bocagelaw13_alive.mono _)
   | (with_reducible exact bocageref01_Is.mono _ _ _)
   | (with_reducible exact bocageref01_Of.mono _ _)
   | (with_reducible exact bocageref01_Plus.mono _ _ _ _ _)
   | (with_reducible exact comb_All.mono _ _ _ _)
   | (with_reducible exact LeO.refl _)
   | (with_reducible exact LeO.none _)
   | (with_reducible refine LeO.ite ?_ ?_)
   | (with_reducible refine LeO.bind ?_ (fun _ => ?_))
   | exact ih0 _ _ _ _ _ _ _
   | exact ih1 _ _ _ _ _ _ _
   | exact ih2 _ _ _ _ _ _ _
   | exact ih3 _ _ _
   | exact bocagelaw13_alive.mono _
   | exact bocageref01_Is.mono _ _ _
   | exact bocageref01_Of.mono _ _
   | exact bocageref01_Plus.mono _ _ _ _ _
   | exact comb_All.mono _ _ _ _
   | exact LeO.none _
   | refine LeO.ite ?_ ?_
   | refine LeO.bind ?_ (fun _ => ?_)
theorem bocagelaw13_CombOrder.mono : ∀ a0 a1 a2 a3 k, LeO (bocagelaw13_CombOrder.f k a0 a1 a2 a3) (bocagelaw13_CombOrder.f (k + 1) a0 a1 a2 a3) := by
 intro a0 a1 a2 a3 k
 obtain ⟨ih0, ih1, ih2, ih3⟩ := bocagelaw13_CombOrder.mono_l k
 unfold bocagelaw13_CombOrder.f
 repeat' first
   | (with_reducible exact ih0 _ _ _ _ _ _ _)
   | (with_reducible exact ih1 _ _ _ _ _ _ _)
   | (with_reducible exact ih2 _ _ _ _ _ _ _)
   | (with_reducible exact ih3 _ _ _)
   | (with_reducible exact bocagelaw13_alive.mono _)
   | (with_reducible exact bocageref01_Is.mono _ _ _)
   | (with_reducible exact bocageref01_Of.mono _ _)
   | (with_reducible exact bocageref01_Plus.mono _ _ _ _ _)
   | (with_reducible exact comb_All.mono _ _ _ _)
   | (with_reducible exact LeO.refl _)
   | (with_reducible exact LeO.none _)
   | (with_reducible refine LeO.ite ?_ ?_)
   | (with_reducible refine LeO.bind ?_ (fun _ => ?_))
   | exact ih0 _ _ _ _ _ _ _
   | exact ih1 _ _ _ _ _ _ _
   | exact ih2 _ _ _ _ _ _ _
   | exact ih3 _ _ _
   | exact bocagelaw13_alive.mono _
   | exact bocageref01_Is.mono _ _ _
   | exact bocageref01_Of.mono _ _
   | exact bocageref01_Plus.mono _ _ _ _ _
   | exact comb_All.mono _ _ _ _
   | exact LeO.none _
   | refine LeO.ite ?_ ?_
   | refine LeO.bind ?_ (fun _ => ?_)
def bocagelaw13_CombOrder.T7 : Bool × List (List Nat × List Nat) := (true, [([], []), ([0], [0]), ([1], [1]), ([], []), ([3], [3]), ([4, 2], [4]), ([], []), ([], []), ([6, 2, 5, 0, 1, 2, 6, 7], [2, 6]), ([7, 5, 8, 0, 1, 2, 3, 4, 5, 6, 7, 8], [5, 7])])
def bocagelaw13_CombOrder.B7 : List Nat := [0, 1, 3, 0, 8, 31, 0, 0, 255, 511]
theorem bocagelaw13_CombOrder.tab7 : rtab .any (opsOf Try.f8 7) = bocagelaw13_CombOrder.T7 := by kernel_rfl
theorem bocagelaw13_CombOrder.bits7 : waitsOk bocagelaw13_CombOrder.T7.2 bocagelaw13_CombOrder.B7 = true := by kernel_rfl
def bocagelaw13_CombOrder.T11 : Bool × List (List Nat × List Nat) := (true, [([], []), ([], []), ([0, 1], [0, 1]), ([2, 2], [2]), ([3], [3]), ([4, 3], [4]), ([5], [5]), ([5], [5]), ([6, 7, 5, 5], [5, 6, 7]), ([8, 8, 5], [5, 8]), ([9, 5], [5, 9]), ([5, 10], [5, 10]), ([11, 9], [11]), ([12], [12]), ([12], [12]), ([13, 14, 12, 12], [12, 13, 14]), ([12], [12]), ([15, 16, 15, 12], [12, 15, 16]), ([17, 17, 12], [12, 17]), ([18, 12], [12, 18]), ([12, 19], [12, 19])])
def bocagelaw13_CombOrder.B11 : List Nat := [0, 0, 3, 7, 15, 31, 63, 63, 255, 511, 1023, 2047, 4095, 8191, 8191, 32767, 8191, 131071, 262143, 524287, 1048575]
theorem bocagelaw13_CombOrder.tab11 : rtab .any (opsOf Try.f8 11) = bocagelaw13_CombOrder.T11 := by kernel_rfl
theorem bocagelaw13_CombOrder.bits11 : waitsOk bocagelaw13_CombOrder.T11.2 bocagelaw13_CombOrder.B11 = true := by kernel_rfl
set_option maxHeartbeats 8000000 in
set_option maxRecDepth 100000 in
theorem bocagelaw13_CombOrder.calls (k : Nat) (a0 : Int) (a1 : Int) (a2_0 : Int) (a2_1 : Int) (r : Bool) (w : World) (h : bocagelaw13_CombOrder.f k a0 a1 a2_0 a2_1 = some r) (hr : r = true) :
  Calls Try.prog 8 #[.int .i64 a0, .int .i64 a1, .agg #[.int .i64 a2_0, .int .i64 a2_1]] w fun e w' => e = .returned (.bool r) ∧ Below w.heap.size w w' := by
 have HRT := Aside0.mk hr
 clear hr
 have hu33 := Try.underlying33
 have hu39 := Try.underlying39
 have HB := Aside0.mk (Below.refl w.heap.size w)
 have H : ((comb_All.f k a0 a1 (([a2_0, a2_1] : List Int))).bind fun t149 => ((comb_All.f k a0 a1 (([a2_1, a2_0] : List Int))).bind fun t153 => ((comb_Commutes.f a0).bind fun t154 => (if t154 = true then (bocagelaw13_CombOrder.j0 k a0 a1 t149 t153 (t149 != t153) a2_0 a2_1) else (bocagelaw13_CombOrder.j0 k a0 a1 t149 t153 false a2_0 a2_1))))) = some r := h
 clear h
 obtain ⟨y146, hy146⟩ : ∃ y_ : List Int, y_ = (([a2_0, a2_1] : List Int)) := ⟨_, rfl⟩
 replace H : ((comb_All.f k a0 a1 y146).bind fun t149 => ((comb_All.f k a0 a1 (([a2_1, a2_0] : List Int))).bind fun t153 => ((comb_Commutes.f a0).bind fun t154 => (if t154 = true then (bocagelaw13_CombOrder.j0 k a0 a1 t149 t153 (t149 != t153) a2_0 a2_1) else (bocagelaw13_CombOrder.j0 k a0 a1 t149 t153 false a2_0 a2_1))))) = some r := by first | (rw [hy146]; with_reducible exact H) | (have H2_ := (Option.bind_some _ _).symm.trans H; rw [hy146]; with_reducible exact H2_) | (have H2_ := (Option.bind_some _ _).symm.trans H; with_reducible exact H2_) | with_reducible exact H | (rw [hy146]; exact H) | exact H
 have Ny146 := Aside0.mk hy146
 clear hy146
 replace H := Option.bind_eq_some_iff.mp H
 obtain ⟨t149, A40, H⟩ := H
 (try (set_option simprocs false in dsimp only at H))
 have A4 := Aside0.mk A40
 clear A40
 obtain ⟨y150, hy150⟩ : ∃ y_ : List Int, y_ = (([a2_1, a2_0] : List Int)) := ⟨_, rfl⟩
 replace H : ((comb_All.f k a0 a1 y150).bind fun t153 => ((comb_Commutes.f a0).bind fun t154 => (if t154 = true then (bocagelaw13_CombOrder.j0 k a0 a1 t149 t153 (t149 != t153) a2_0 a2_1) else (bocagelaw13_CombOrder.j0 k a0 a1 t149 t153 false a2_0 a2_1)))) = some r := by first | (rw [hy150]; with_reducible exact H) | (have H2_ := (Option.bind_some _ _).symm.trans H; rw [hy150]; with_reducible exact H2_) | (have H2_ := (Option.bind_some _ _).symm.trans H; with_reducible exact H2_) | with_reducible exact H | (rw [hy150]; exact H) | exact H
 have Ny150 := Aside0.mk hy150
 clear hy150
 replace H := Option.bind_eq_some_iff.mp H
 obtain ⟨t153, A50, H⟩ := H
 (try (set_option simprocs false in dsimp only at H))
 have A5 := Aside0.mk A50
 clear A50
 have HC6 := Aside0.mk H
 clear H
 go_enter Try.func8, Try.ntmps8
 go_upto_region 3 with (first | ((with_reducible refine gate_dst (N := 5) rfl ?_); refine bxe (N := 5) (cs := #[.int .i64 a2_0, .int .i64 a2_1]) (t := 33) ?_; intro gb145 hg w7 hbox hb; have BK145 := Aside0.mk (hbox); have GW145 := lsz hg HB; have GE145 := lsz hg HB; replace HB := bst HB hb; clear hb hbox hg; obtain ⟨hcz8_0, hcz8_1⟩ := e2 BK145; obtain ⟨hfz8_0, hfz8_1⟩ := f2 BK145) | ((with_reducible refine gate_dst (N := 18) rfl ?_); refine Kd.R_lit (Kd.int .i64) _ 2 ?hg (N := 18) ?hd (xs := ([a2_0, a2_1] : List Int)) (inner := [.int .i64 a2_0, .int .i64 a2_1]) (ok := fun _ => True) (okp := fun _ => True) ?hr ?hp (fun _ hk => hk) trivial (Below.refl _ _) (Nat.le_refl _) (by simp) ?_; (case hd => rfl); (case hg => rfl); (case hr => first | (go_simp; done) | (go_simp; rfl)); (case hp => exact (Reps.one (show Kd.M (Kd.int .i64) _ _ _ a2_0 [.int .i64 a2_0] from rfl) (Reps.one (show Kd.M (Kd.int .i64) _ _ _ a2_1 [.int .i64 a2_1] from rfl) (Reps.none _ _)))); intro v147 w9 ho10 hb hg_ hnew_; clear hg_ hnew_; (first | rw [← Ny146.out] at ho10 | (simp only [Int.reduceToNat] at ho10; rw [← Ny146.out] at ho10)); have HO148 := Aside0.mk (Kd.R_lower ho10 (below_size (bl HB))); replace BK145 := bkb BK145 hb; replace HB := bst HB hb; clear hb ho10; obtain ⟨Ao11, co11, eo11⟩ := Kd.R_slice HO148.out; subst eo11) | ((with_reducible refine gate_callee (f := 16) rfl ?_); refine gol (some 19) Try.func16 #[.int .i64 a0, .int .i64 a1, .slice Ao11 y146.length co11] ?_; (with_reducible refine (comb_All.calls k a0 a1 _ _ y146 t149 _ ?side1 ?side2 A4.out).mono ?_); (case side1 => repeat (first | exact (Kd.R_reads' HO148.out).2.2 | (with_reducible refine Kd.C_alloc ?_ _) | (with_reducible refine Kd.C_drewN ?_ _) | (with_reducible refine Kd.C_drew ?_))); (case side2 => exact (Kd.R_reads' HO148.out).2.1); rintro e w12 ⟨rfl, hb⟩; refine ⟨_, rfl, ?_⟩; replace HO148 := krb HO148 hb; replace BK145 := bkb BK145 hb; replace HB := bst HB hb; (try clear hb); (try clear hb2); (try clear hk); (try clear hi); obtain ⟨hcz13_0, hcz13_1⟩ := e2 BK145; obtain ⟨hfz13_0, hfz13_1⟩ := f2 BK145) | ((with_reducible refine gate_dst (N := 26) rfl ?_); refine Kd.R_lit (Kd.int .i64) _ 2 ?hg (N := 26) ?hd (xs := ([a2_1, a2_0] : List Int)) (inner := [.int .i64 a2_1, .int .i64 a2_0]) (ok := fun _ => True) (okp := fun _ => True) ?hr ?hp (fun _ hk => hk) trivial (Below.refl _ _) (Nat.le_refl _) (by simp) ?_; (case hd => rfl); (case hg => rfl); (case hr => first | (go_simp; done) | (go_simp; rfl)); (case hp => exact (Reps.one (show Kd.M (Kd.int .i64) _ _ _ a2_1 [.int .i64 a2_1] from rfl) (Reps.one (show Kd.M (Kd.int .i64) _ _ _ a2_0 [.int .i64 a2_0] from rfl) (Reps.none _ _)))); intro v151 w14 ho15 hb hg_ hnew_; clear hg_ hnew_; (first | rw [← Ny150.out] at ho15 | (simp only [Int.reduceToNat] at ho15; rw [← Ny150.out] at ho15)); have HO152 := Aside0.mk (Kd.R_lower (Kd.R_new' ho15 (Kd.R_lt (kr HO148))) (below_size (bl HB))); replace HO148 := Aside0.mk (Kd.R_elder' (kr HO148) (Kd.R_base ho15) hb); replace BK145 := bkb BK145 hb; replace HB := bst HB hb; clear hb ho15; obtain ⟨Ao16, co16, eo16⟩ := Kd.R_slice HO152.out; subst eo16) | ((with_reducible refine gate_callee (f := 16) rfl ?_); refine gol (some 27) Try.func16 #[.int .i64 a0, .int .i64 a1, .slice Ao16 y150.length co16] ?_; (with_reducible refine (comb_All.calls k a0 a1 _ _ y150 t153 _ ?side1 ?side2 A5.out).mono ?_); (case side1 => repeat (first | exact (Kd.R_reads' HO152.out).2.2 | (with_reducible refine Kd.C_alloc ?_ _) | (with_reducible refine Kd.C_drewN ?_ _) | (with_reducible refine Kd.C_drew ?_))); (case side2 => exact (Kd.R_reads' HO152.out).2.1); rintro e w17 ⟨rfl, hb⟩; refine ⟨_, rfl, ?_⟩; replace HO148 := krb HO148 hb; replace HO152 := krb HO152 hb; replace BK145 := bkb BK145 hb; replace HB := bst HB hb; (try clear hb); (try clear hb2); (try clear hk); (try clear hi)))
 (try simp only [Act.put, List.setIfInBounds_toArray, List.set_cons_zero, List.set_cons_succ])
 go_cut [34] (fun v34 wc => ∃ (kq : Nat) (x34_5 : Bool), v34 = .bool x34_5 ∧ Aside0 (bocagelaw13_CombOrder.j0 kq a0 a1 t149 t153 x34_5 a2_0 a2_1 = some r) ∧ Aside0 (kq ≤ k) ∧ Aside0 (wc.heap[gb145]? = some (.cells #[.int .i64 a2_0, .int .i64 a2_1] 33 (0, 0))) ∧ Aside0 (Below w.heap.size w wc))
 case first =>
  have H := HC6.out
  clear HC6
  replace H := Option.bind_eq_some_iff.mp H
  obtain ⟨t154, A180, H⟩ := H
  (try (set_option simprocs false in dsimp only at H))
  have A18 := Aside0.mk A180
  clear A180
  by_cases c19 : t154 = true
  ·subst c19
   have H1 : (bocagelaw13_CombOrder.j0 k a0 a1 t149 t153 (t149 != t153) a2_0 a2_1) = some r := by rw [if_pos rfl] at H; exact H
   clear H
   have H := H1
   clear H1
   have H' := Aside0.mk H
   clear H
   go_wp2_with (first | ((with_reducible refine gate_callee (f := 22) rfl ?_); refine gol (some 29) Try.func22 #[.int .i64 a0] ?_; (with_reducible refine (comb_Commutes.calls a0 true _ A18.out).mono ?_); rintro e w' ⟨rfl, ⟨nd, rfl⟩⟩; refine ⟨_, rfl, ?_⟩))
   go_meet
   case rel => exact ⟨_, ((t149 != t153)), (by first | rfl | (simp; done) | (simp [*]; done)), H', ⟨by first | omega | exact Nat.le_refl _⟩, ⟨bk BK145⟩, ⟨bl HB⟩⟩
  ·replace c19 := Bool.eq_false_iff.mpr c19
   subst c19
   have H1 : (bocagelaw13_CombOrder.j0 k a0 a1 t149 t153 false a2_0 a2_1) = some r := by rw [if_neg (show ¬ (false = true) by decide)] at H; exact H
   clear H
   have H := H1
   clear H1
   have H' := Aside0.mk H
   clear H
   go_wp2_with (first | ((with_reducible refine gate_callee (f := 22) rfl ?_); refine gol (some 29) Try.func22 #[.int .i64 a0] ?_; (with_reducible refine (comb_Commutes.calls a0 false _ A18.out).mono ?_); rintro e w' ⟨rfl, ⟨nd, rfl⟩⟩; refine ⟨_, rfl, ?_⟩))
   go_meet
   case rel => exact ⟨_, (false), (by first | rfl | (simp; done) | (simp [*]; done)), H', ⟨by first | omega | exact Nat.le_refl _⟩, ⟨bk BK145⟩, ⟨bl HB⟩⟩
 case rest =>
  clear HC6
  try clear hcz13_0
  try clear hcz13_1
  try clear hcz8_0
  try clear hcz8_1
  try clear hfz13_0
  try clear hfz13_1
  try clear hfz8_0
  try clear hfz8_1
  obtain ⟨kq, x34_5, rfl, HA, HJ5, BK145, HB⟩ := hcut
  cases kq with
  | zero => exact absurd HA.out (by simp [bocagelaw13_CombOrder.j0])
  | succ kj5 =>
   have H := HA.out
   clear HA
   simp only [bocagelaw13_CombOrder.j0] at H
   by_cases c20 : x34_5 = true
   ·subst c20
    have H1 : (some false) = some r := by rw [if_pos rfl] at H; exact H
    exact absurd ((Option.some.inj H1).trans HRT.out) Bool.false_ne_true
   ·replace c20 := Bool.eq_false_iff.mpr c20
    subst c20
    have H1 : (if a0 = 1 then (bocagelaw13_CombOrder.j1 kj5 a0 a1 t149 t153 false a2_0 a2_1) else (bocagelaw13_CombOrder.j1 kj5 a0 a1 t149 t153 (a0 != 2) a2_0 a2_1)) = some r := by rw [if_neg (show ¬ (false = true) by decide)] at H; exact H
    clear H
    have H := H1
    clear H1
    have HC21 := Aside0.mk H
    clear H
    go_upto_region 5 with (fail)
    go_cut [40] (fun v40 wc => ∃ (kq : Nat) (x40_20 : Bool), v40 = .bool x40_20 ∧ Aside0 (bocagelaw13_CombOrder.j1 kq a0 a1 t149 t153 x40_20 a2_0 a2_1 = some r) ∧ Aside0 (kq ≤ kj5) ∧ Aside0 (wc.heap[gb145]? = some (.cells #[.int .i64 a2_0, .int .i64 a2_1] 33 (0, 0))) ∧ Aside0 (Below w.heap.size w wc))
    case first =>
     have H := HC21.out
     clear HC21
     by_cases c22 : a0 = 1
     ·rw [if_pos c22] at H
      have c22b0 : (a0 == 1) = true := beq_iff_eq.mpr c22
      have c22b1 : (a0 != 1) = false := bne_eq_false_iff_eq.mpr c22
      clear c22
      (first | rw [c22b0] | (simp only [i64_w, i32_w]; rw [c22b0]) | skip)
      have H' := Aside0.mk H
      clear H
      go_wp2
      go_meet
      case rel => exact ⟨_, (false), (by first | rfl | (simp; done) | (simp [*]; done)), H', ⟨by have := HJ5.out; first | omega | exact Nat.le_refl _⟩, ⟨bk BK145⟩, ⟨bl HB⟩⟩
     ·rw [if_neg c22] at H
      have c22b0 : (a0 == 1) = false := beq_eq_false_iff_ne.mpr c22
      have c22b1 : (a0 != 1) = true := bne_iff_ne.mpr c22
      (first | rw [c22b0] | (simp only [i64_w, i32_w]; rw [c22b0]) | skip)
      have H' := Aside0.mk H
      clear H
      go_wp2
      go_meet
      case rel => exact ⟨_, ((a0 != 2)), (by first | rfl | (simp; done) | (simp [*]; done)), H', ⟨by have := HJ5.out; first | omega | exact Nat.le_refl _⟩, ⟨bk BK145⟩, ⟨bl HB⟩⟩
    case rest =>
     clear HC21
     try clear c20
     obtain ⟨kq, x40_20, rfl, HA, HJ20, BK145, HB⟩ := hcut
     cases kq with
     | zero => exact absurd HA.out (by simp [bocagelaw13_CombOrder.j1])
     | succ kj20 =>
      have H := HA.out
      clear HA
      simp only [bocagelaw13_CombOrder.j1] at H
      by_cases c23 : x40_20 = true
      ·subst c23
       have H1 : ((bocagelaw13_alive.f kj20).bind fun t155 => (some t155)) = some r := by rw [if_pos rfl] at H; exact H
       clear H
       have H := H1
       clear H1
       replace H := Option.bind_eq_some_iff.mp H
       obtain ⟨t155, A240, H⟩ := H
       (try (set_option simprocs false in dsimp only at H))
       have A24 := Aside0.mk A240
       clear A240
       obtain rfl := Option.some.inj H
       go_wp2_with (first | ((with_reducible refine gate_callee (f := 10) rfl ?_); refine gol (some 41) Try.func10 #[] ?_; (with_reducible refine (bocagelaw13_alive.calls kj20  t155 _ A24.out HRT.out).mono ?_); rintro e w25 ⟨rfl, hb⟩; refine ⟨_, rfl, ?_⟩; replace BK145 := bkb BK145 hb; replace HB := bst HB hb; (try clear hb); (try clear hb2); (try clear hk); (try clear hi)))
       go_ret
       exact endB HB
      ·replace c23 := Bool.eq_false_iff.mpr c23
       subst c23
       have H1 : ((bocageref01_Of.f kj20 a2_0).bind fun bt156 => ((bocageref01_Of.f kj20 a2_1).bind fun bt160 => (if a0 = 2 then ((bocageref01_Minus.f bt156.1 bt156.2).bind fun bt166 => ((bocageref01_Minus.f bt160.1 bt160.2).bind fun bt170 => (bocagelaw13_CombOrder.j2 kj20 a1 t149 t153 bt166.1 bt166.2 bt170.1 bt170.2))) else (bocagelaw13_CombOrder.j2 kj20 a1 t149 t153 bt156.1 bt156.2 bt160.1 bt160.2)))) = some r := by rw [if_neg (show ¬ (false = true) by decide)] at H; exact H
       clear H
       have H := H1
       clear H1
       replace H := Option.bind_eq_some_iff.mp H
       obtain ⟨⟨t156, t157⟩, A260, H⟩ := H
       (try (set_option simprocs false in dsimp only at H))
       have A26 := Aside0.mk A260
       clear A260
       replace H := Option.bind_eq_some_iff.mp H
       obtain ⟨⟨t160, t161⟩, A270, H⟩ := H
       (try (set_option simprocs false in dsimp only at H))
       have A27 := Aside0.mk A270
       clear A270
       have HC28 := Aside0.mk H
       clear H
       try go_wp2
       replace BK145 := Aside0.mk (blk_drew BK145.out)
       replace HB := Aside0.mk (below_drew1 HB.out)
       refine start_ (n := 10) (S := fun w' => w'.cell? ⟨gb145, 0, none⟩ = some (.int .i64 a2_0) ∧ w'.cell? ⟨gb145, 1, none⟩ = some (.int .i64 a2_1)) (ds := []) #[false, false, false, false, false, false, false, false, false, false] (by kernel_rfl) rfl rfl (e2 BK145) (fun hHeld => ?_); refine with_tabW bocagelaw13_CombOrder.tab7 bocagelaw13_CombOrder.bits7 (fun HT_ HW_ => ?_)
       generalize wc.drew = w29 at BK145 HB hHeld ⊢
       refine pu 0 (some 42) #[true, false, false, false, false, false, false, false, false, false] (any_of HT_.out (by kernel_rfl)) ?_
       refine pu 3 (some 45) #[true, false, false, true, false, false, false, false, false, false] (any_of HT_.out (by kernel_rfl)) ?_
       refine tk2 1 (some 43) #[true, true, false, true, false, false, false, false, false, false] (take_ofW HT_.out HW_.out (by kernel_rfl)) hHeld ?_
       refine tk2 4 (some 46) #[true, true, false, true, true, false, false, false, false, false] (take_ofW HT_.out HW_.out (by kernel_rfl)) hHeld ?_
       refine join_ (σ := Value × Value × Nat × Nat) 2 #[true, true, true, true, true, true, true, true, false, false] (fun s_ => [(44, .agg #[.int .i64 t156, s_.1]), (47, .agg #[.int .i64 t160, s_.2.1]), (9, .pointer (some ⟨s_.2.2.1, 0, none⟩)), (10, .pointer (some ⟨s_.2.2.2, 0, none⟩))]) (fun s_ w' => (w'.cell? ⟨gb145, 0, none⟩ = some (.int .i64 a2_0) ∧ w'.cell? ⟨gb145, 1, none⟩ = some (.int .i64 a2_1)) ∧ (Kd.R (Kd.int .i64) 3 w' w.heap.size (fun k_ => some k_ ≠ (s_.2.1 : Value).ownBlock) s_.1 t157) ∧ (Kd.R (Kd.int .i64) 3 w' w.heap.size (fun k_ => some k_ ≠ (s_.1 : Value).ownBlock) s_.2.1 t161) ∧ (w'.heap[gb145]? = some (.cells #[.int .i64 a2_0, .int .i64 a2_1] 33 (0, 0))) ∧ (w'.heap[s_.2.2.1]? = some (.cells #[.int .i64 0, .slice none 0 0] 39 (0, 0))) ∧ (w'.heap[s_.2.2.2]? = some (.cells #[.int .i64 0, .slice none 0 0] 39 (0, 0))) ∧ (w.heap.size ≤ s_.2.2.1) ∧ (w.heap.size ≤ s_.2.2.1) ∧ (gb145 ≠ s_.2.2.1) ∧ (s_.2.2.1 ≠ gb145) ∧ (s_.2.2.2 ≠ s_.2.2.1) ∧ (s_.2.2.1 ≠ s_.2.2.2) ∧ (w.heap.size ≤ s_.2.2.2) ∧ (w.heap.size ≤ s_.2.2.2) ∧ (gb145 ≠ s_.2.2.2) ∧ (s_.2.2.2 ≠ gb145) ∧ (Below w.heap.size w w')) ?_ ?_
       rotate_left
       ·intro hJ2_5_6_7
        refine join_ (σ := Value × Value × Nat) 3 #[true, true, true, true, true, true, true, false, false, false] (fun s_ => [(44, .agg #[.int .i64 t156, s_.1]), (47, .agg #[.int .i64 t160, s_.2.1]), (9, .pointer (some ⟨s_.2.2, 0, none⟩))]) (fun s_ w' => (w'.cell? ⟨gb145, 0, none⟩ = some (.int .i64 a2_0) ∧ w'.cell? ⟨gb145, 1, none⟩ = some (.int .i64 a2_1)) ∧ (Kd.R (Kd.int .i64) 3 w' w.heap.size (fun k_ => some k_ ≠ (s_.2.1 : Value).ownBlock) s_.1 t157) ∧ (Kd.R (Kd.int .i64) 3 w' w.heap.size (fun k_ => some k_ ≠ (s_.1 : Value).ownBlock) s_.2.1 t161) ∧ (w'.heap[gb145]? = some (.cells #[.int .i64 a2_0, .int .i64 a2_1] 33 (0, 0))) ∧ (w'.heap[s_.2.2]? = some (.cells #[.int .i64 0, .slice none 0 0] 39 (0, 0))) ∧ (w.heap.size ≤ s_.2.2) ∧ (w.heap.size ≤ s_.2.2) ∧ (gb145 ≠ s_.2.2) ∧ (s_.2.2 ≠ gb145) ∧ (Below w.heap.size w w')) ?_ ?_
        rotate_left
        ·intro hJ2_5_6
         refine join_ (σ := Value × Value × Nat) 3 #[true, true, true, true, true, true, false, true, false, false] (fun s_ => [(44, .agg #[.int .i64 t156, s_.1]), (47, .agg #[.int .i64 t160, s_.2.1]), (10, .pointer (some ⟨s_.2.2, 0, none⟩))]) (fun s_ w' => (w'.cell? ⟨gb145, 0, none⟩ = some (.int .i64 a2_0) ∧ w'.cell? ⟨gb145, 1, none⟩ = some (.int .i64 a2_1)) ∧ (Kd.R (Kd.int .i64) 3 w' w.heap.size (fun k_ => some k_ ≠ (s_.2.1 : Value).ownBlock) s_.1 t157) ∧ (Kd.R (Kd.int .i64) 3 w' w.heap.size (fun k_ => some k_ ≠ (s_.1 : Value).ownBlock) s_.2.1 t161) ∧ (w'.heap[gb145]? = some (.cells #[.int .i64 a2_0, .int .i64 a2_1] 33 (0, 0))) ∧ (w'.heap[s_.2.2]? = some (.cells #[.int .i64 0, .slice none 0 0] 39 (0, 0))) ∧ (w.heap.size ≤ s_.2.2) ∧ (w.heap.size ≤ s_.2.2) ∧ (gb145 ≠ s_.2.2) ∧ (s_.2.2 ≠ gb145) ∧ (Below w.heap.size w w')) ?_ ?_
         rotate_left
         ·intro hJ2_5_7
          refine join_ (σ := Value × Nat × Nat) 3 #[true, true, true, true, true, false, true, true, false, false] (fun s_ => [(44, .agg #[.int .i64 t156, s_.1]), (9, .pointer (some ⟨s_.2.1, 0, none⟩)), (10, .pointer (some ⟨s_.2.2, 0, none⟩))]) (fun s_ w' => (w'.cell? ⟨gb145, 0, none⟩ = some (.int .i64 a2_0) ∧ w'.cell? ⟨gb145, 1, none⟩ = some (.int .i64 a2_1)) ∧ (Kd.R (Kd.int .i64) 3 w' w.heap.size (fun _ => True) s_.1 t157) ∧ (w'.heap[gb145]? = some (.cells #[.int .i64 a2_0, .int .i64 a2_1] 33 (0, 0))) ∧ (w'.heap[s_.2.1]? = some (.cells #[.int .i64 0, .slice none 0 0] 39 (0, 0))) ∧ (w'.heap[s_.2.2]? = some (.cells #[.int .i64 0, .slice none 0 0] 39 (0, 0))) ∧ (w.heap.size ≤ s_.2.1) ∧ (w.heap.size ≤ s_.2.1) ∧ (gb145 ≠ s_.2.1) ∧ (s_.2.1 ≠ gb145) ∧ (s_.2.2 ≠ s_.2.1) ∧ (s_.2.1 ≠ s_.2.2) ∧ (w.heap.size ≤ s_.2.2) ∧ (w.heap.size ≤ s_.2.2) ∧ (gb145 ≠ s_.2.2) ∧ (s_.2.2 ≠ gb145) ∧ (Below w.heap.size w w')) ?_ ?_
          rotate_left
          ·intro hJ2_6_7
           refine join_ (σ := Value × Value) 4 #[true, true, true, true, true, true, false, false, false, false] (fun s_ => [(44, .agg #[.int .i64 t156, s_.1]), (47, .agg #[.int .i64 t160, s_.2])]) (fun s_ w' => (w'.cell? ⟨gb145, 0, none⟩ = some (.int .i64 a2_0) ∧ w'.cell? ⟨gb145, 1, none⟩ = some (.int .i64 a2_1)) ∧ (Kd.R (Kd.int .i64) 3 w' w.heap.size (fun k_ => some k_ ≠ (s_.2 : Value).ownBlock) s_.1 t157) ∧ (Kd.R (Kd.int .i64) 3 w' w.heap.size (fun k_ => some k_ ≠ (s_.1 : Value).ownBlock) s_.2 t161) ∧ (w'.heap[gb145]? = some (.cells #[.int .i64 a2_0, .int .i64 a2_1] 33 (0, 0))) ∧ (Below w.heap.size w w')) ?_ ?_
           rotate_left
           ·intro hJ2_5
            refine join_ (σ := Value × Nat) 4 #[true, true, true, true, true, false, true, false, false, false] (fun s_ => [(44, .agg #[.int .i64 t156, s_.1]), (9, .pointer (some ⟨s_.2, 0, none⟩))]) (fun s_ w' => (w'.cell? ⟨gb145, 0, none⟩ = some (.int .i64 a2_0) ∧ w'.cell? ⟨gb145, 1, none⟩ = some (.int .i64 a2_1)) ∧ (Kd.R (Kd.int .i64) 3 w' w.heap.size (fun _ => True) s_.1 t157) ∧ (w'.heap[gb145]? = some (.cells #[.int .i64 a2_0, .int .i64 a2_1] 33 (0, 0))) ∧ (w'.heap[s_.2]? = some (.cells #[.int .i64 0, .slice none 0 0] 39 (0, 0))) ∧ (w.heap.size ≤ s_.2) ∧ (w.heap.size ≤ s_.2) ∧ (gb145 ≠ s_.2) ∧ (s_.2 ≠ gb145) ∧ (Below w.heap.size w w')) ?_ ?_
            rotate_left
            ·intro hJ2_6
             refine join_ (σ := Value × Nat) 4 #[true, true, true, true, true, false, false, true, false, false] (fun s_ => [(44, .agg #[.int .i64 t156, s_.1]), (10, .pointer (some ⟨s_.2, 0, none⟩))]) (fun s_ w' => (w'.cell? ⟨gb145, 0, none⟩ = some (.int .i64 a2_0) ∧ w'.cell? ⟨gb145, 1, none⟩ = some (.int .i64 a2_1)) ∧ (Kd.R (Kd.int .i64) 3 w' w.heap.size (fun _ => True) s_.1 t157) ∧ (w'.heap[gb145]? = some (.cells #[.int .i64 a2_0, .int .i64 a2_1] 33 (0, 0))) ∧ (w'.heap[s_.2]? = some (.cells #[.int .i64 0, .slice none 0 0] 39 (0, 0))) ∧ (w.heap.size ≤ s_.2) ∧ (w.heap.size ≤ s_.2) ∧ (gb145 ≠ s_.2) ∧ (s_.2 ≠ gb145) ∧ (Below w.heap.size w w')) ?_ ?_
             rotate_left
             ·intro hJ2_7
              refine join_ (σ := Nat × Nat) 4 #[true, true, false, true, true, false, true, true, false, false] (fun s_ => [(9, .pointer (some ⟨s_.1, 0, none⟩)), (10, .pointer (some ⟨s_.2, 0, none⟩))]) (fun s_ w' => (w'.cell? ⟨gb145, 0, none⟩ = some (.int .i64 a2_0) ∧ w'.cell? ⟨gb145, 1, none⟩ = some (.int .i64 a2_1)) ∧ (w'.heap[gb145]? = some (.cells #[.int .i64 a2_0, .int .i64 a2_1] 33 (0, 0))) ∧ (w'.heap[s_.1]? = some (.cells #[.int .i64 0, .slice none 0 0] 39 (0, 0))) ∧ (w'.heap[s_.2]? = some (.cells #[.int .i64 0, .slice none 0 0] 39 (0, 0))) ∧ (w.heap.size ≤ s_.1) ∧ (w.heap.size ≤ s_.1) ∧ (gb145 ≠ s_.1) ∧ (s_.1 ≠ gb145) ∧ (s_.2 ≠ s_.1) ∧ (s_.1 ≠ s_.2) ∧ (w.heap.size ≤ s_.2) ∧ (w.heap.size ≤ s_.2) ∧ (gb145 ≠ s_.2) ∧ (s_.2 ≠ gb145) ∧ (Below w.heap.size w w')) ?_ ?_
              rotate_left
              ·intro hJ6_7
               refine join_ (σ := Value) 5 #[true, true, true, true, true, false, false, false, false, false] (fun s_ => [(44, .agg #[.int .i64 t156, s_])]) (fun s_ w' => (w'.cell? ⟨gb145, 0, none⟩ = some (.int .i64 a2_0) ∧ w'.cell? ⟨gb145, 1, none⟩ = some (.int .i64 a2_1)) ∧ (Kd.R (Kd.int .i64) 3 w' w.heap.size (fun _ => True) s_ t157) ∧ (w'.heap[gb145]? = some (.cells #[.int .i64 a2_0, .int .i64 a2_1] 33 (0, 0))) ∧ (Below w.heap.size w w')) ?_ ?_
               rotate_left
               ·intro hJ2
                refine join_ (σ := Nat) 5 #[true, true, false, true, true, false, true, false, false, false] (fun s_ => [(9, .pointer (some ⟨s_, 0, none⟩))]) (fun s_ w' => (w'.cell? ⟨gb145, 0, none⟩ = some (.int .i64 a2_0) ∧ w'.cell? ⟨gb145, 1, none⟩ = some (.int .i64 a2_1)) ∧ (w'.heap[gb145]? = some (.cells #[.int .i64 a2_0, .int .i64 a2_1] 33 (0, 0))) ∧ (w'.heap[s_]? = some (.cells #[.int .i64 0, .slice none 0 0] 39 (0, 0))) ∧ (w.heap.size ≤ s_) ∧ (w.heap.size ≤ s_) ∧ (gb145 ≠ s_) ∧ (s_ ≠ gb145) ∧ (Below w.heap.size w w')) ?_ ?_
                rotate_left
                ·intro hJ6
                 refine join_ (σ := Nat) 5 #[true, true, false, true, true, false, false, true, false, false] (fun s_ => [(10, .pointer (some ⟨s_, 0, none⟩))]) (fun s_ w' => (w'.cell? ⟨gb145, 0, none⟩ = some (.int .i64 a2_0) ∧ w'.cell? ⟨gb145, 1, none⟩ = some (.int .i64 a2_1)) ∧ (w'.heap[gb145]? = some (.cells #[.int .i64 a2_0, .int .i64 a2_1] 33 (0, 0))) ∧ (w'.heap[s_]? = some (.cells #[.int .i64 0, .slice none 0 0] 39 (0, 0))) ∧ (w.heap.size ≤ s_) ∧ (w.heap.size ≤ s_) ∧ (gb145 ≠ s_) ∧ (s_ ≠ gb145) ∧ (Below w.heap.size w w')) ?_ ?_
                 rotate_left
                 ·intro hJ7
                  refine three_ (i := 2) (j := 6) (k := 7) (Ni := some 44) (Nj := some 9) (Nk := some 10) #[true, true, true, true, true, false, false, false, false, false] #[true, true, false, true, true, false, true, false, false, false] #[true, true, false, true, true, false, false, true, false, false] rfl rfl rfl rfl rfl rfl (three_of HT_.out (by kernel_rfl)) (by decide) (by decide) (by decide) (fun K hK => ?_) (fun K hK => ?_) (fun K hK => ?_)
                  ·skip
                   refine goes_ Try.func23 (by kernel_rfl) rfl #[.int .i64 a2_0] (by rfl) rfl rfl (by (try simp only [List.map_toArray, List.map_cons, List.map_nil]); first | done | rfl | (simp only [List.length_drop, List.length_take]; rfl)) ?_
                   with_reducible refine (bocageref01_Of.calls kj20 a2_0 t156 t157 _ A26.out).mono ?_
                   rintro e w30 ⟨v158, rfl, ho0, hb⟩
                   refine ⟨_, rfl, ?_⟩
                   have HO159 := Aside0.mk (Kd.R_lower ho0 (below_size (bl HB)))
                   replace BK145 := bkb BK145 hb
                   replace HB := bst HB hb
                   (try clear hb)
                   (try clear hb2)
                   (try clear hk)
                   (try clear hi)
                   (try clear ho0)
                   refine hK.out _ _ (e2 BK145) (fun hHeld => ?_)
                   clear hK K
                   refine nrp 44 ?_
                   exact nrm (hJ2 (v158) _ ⟨hHeld, (kr HO159), (bk BK145), (bl HB)⟩)
                  ·skip
                   refine box_step ?hg (N := 9) ?hd (cs := #[.int .i64 0, .slice none 0 0]) (t := 39) ?hr ?_; (case hd => rfl); (case hg => rfl); (case hr => first | (go_simp; done) | (go_simp; rfl))
                   intro gb164 hg w30 hbox hb
                   have BK164 := Aside0.mk (hbox)
                   have GW164 := lsz hg HB
                   have GE164 := lsz hg HB
                   replace HB := bst HB hb
                   have NB145_164 := nlt hg BK145
                   have NB164_145 := ngt hg BK145
                   replace BK145 := bkb BK145 hb
                   clear hb hbox hg
                   refine hK.out _ _ (e2 BK145) (fun hHeld => ?_)
                   clear hK K
                   refine nrp 9 ?_
                   exact nrm (hJ6 (gb164) _ ⟨hHeld, (bk BK145), (bk BK164), GW164.out, GE164.out, NB145_164.out, NB164_145.out, (bl HB)⟩)
                  ·skip
                   refine box_step ?hg (N := 10) ?hd (cs := #[.int .i64 0, .slice none 0 0]) (t := 39) ?hr ?_; (case hd => rfl); (case hg => rfl); (case hr => first | (go_simp; done) | (go_simp; rfl))
                   intro gb165 hg w30 hbox hb
                   have BK165 := Aside0.mk (hbox)
                   have GW165 := lsz hg HB
                   have GE165 := lsz hg HB
                   replace HB := bst HB hb
                   have NB145_165 := nlt hg BK145
                   have NB165_145 := ngt hg BK145
                   replace BK145 := bkb BK145 hb
                   clear hb hbox hg
                   refine hK.out _ _ (e2 BK145) (fun hHeld => ?_)
                   clear hK K
                   refine nrp 10 ?_
                   exact nrm (hJ7 (gb165) _ ⟨hHeld, (bk BK145), (bk BK165), GW165.out, GE165.out, NB145_165.out, NB165_145.out, (bl HB)⟩)
                 ·skip
                  rintro gb165 w31 ⟨hS_, h0_, h1_, h2_, h3_, h4_, h5_, h6_⟩
                  replace BK145 : Aside0 (w31.heap[gb145]? = some (.cells #[.int .i64 a2_0, .int .i64 a2_1] 33 (0, 0))) := ⟨h0_⟩
                  have BK165 : Aside0 (w31.heap[gb165]? = some (.cells #[.int .i64 0, .slice none 0 0] 39 (0, 0))) := ⟨h1_⟩
                  have GW165 : Aside0 (w.heap.size ≤ gb165) := ⟨h2_⟩
                  have GE165 : Aside0 (w.heap.size ≤ gb165) := ⟨h3_⟩
                  have NB145_165 : Aside0 (gb145 ≠ gb165) := ⟨h4_⟩
                  have NB165_145 : Aside0 (gb165 ≠ gb145) := ⟨h5_⟩
                  replace HB : Aside0 (Below w.heap.size w w31) := ⟨h6_⟩
                  clear h0_ h1_ h2_ h3_ h4_ h5_ h6_
                  have hHeld : w31.cell? ⟨gb145, 0, none⟩ = some (.int .i64 a2_0) ∧ w31.cell? ⟨gb145, 1, none⟩ = some (.int .i64 a2_1) := hS_
                  refine nra ?_
                  refine two_ (i := 2) (j := 6) (Ni := some 44) (Nj := some 9) #[true, true, true, true, true, false, false, true, false, false] #[true, true, false, true, true, false, true, true, false, false] rfl rfl rfl rfl (two_of HT_.out (by kernel_rfl)) (by decide) (by decide) (fun K hK => ?_) (fun K hK => ?_)
                  ·skip
                   refine goes_ Try.func23 (by kernel_rfl) rfl #[.int .i64 a2_0] (by rfl) rfl rfl (by (try simp only [List.map_toArray, List.map_cons, List.map_nil]); first | done | rfl | (simp only [List.length_drop, List.length_take]; rfl)) ?_
                   with_reducible refine (bocageref01_Of.calls kj20 a2_0 t156 t157 _ A26.out).mono ?_
                   rintro e w32 ⟨v158, rfl, ho0, hb⟩
                   refine ⟨_, rfl, ?_⟩
                   have HO159 := Aside0.mk (Kd.R_lower ho0 (below_size (bl HB)))
                   replace BK145 := bkb BK145 hb
                   replace BK165 := bkb BK165 hb
                   replace HB := bst HB hb
                   (try clear hb)
                   (try clear hb2)
                   (try clear hk)
                   (try clear hi)
                   (try clear ho0)
                   refine hK.out _ _ (e2 BK145) (fun hHeld => ?_)
                   clear hK K
                   refine nrp 44 ?_
                   exact nrm (hJ2_7 (v158, gb165) _ ⟨hHeld, (kr HO159), (bk BK145), (bk BK165), GW165.out, GE165.out, NB145_165.out, NB165_145.out, (bl HB)⟩)
                  ·skip
                   refine box_step ?hg (N := 9) ?hd (cs := #[.int .i64 0, .slice none 0 0]) (t := 39) ?hr ?_; (case hd => rfl); (case hg => rfl); (case hr => first | (go_simp; done) | (go_simp; rfl))
                   intro gb164 hg w32 hbox hb
                   have BK164 := Aside0.mk (hbox)
                   have GW164 := lsz hg HB
                   have GE164 := lsz hg HB
                   replace HB := bst HB hb
                   have NB145_164 := nlt hg BK145
                   have NB164_145 := ngt hg BK145
                   replace BK145 := bkb BK145 hb
                   have NB165_164 := nlt hg BK165
                   have NB164_165 := ngt hg BK165
                   replace BK165 := bkb BK165 hb
                   clear hb hbox hg
                   refine hK.out _ _ (e2 BK145) (fun hHeld => ?_)
                   clear hK K
                   refine nrp 9 ?_
                   exact nrm (hJ6_7 (gb164, gb165) _ ⟨hHeld, (bk BK145), (bk BK164), (bk BK165), GW164.out, GE164.out, NB145_164.out, NB164_145.out, NB165_164.out, NB164_165.out, GW165.out, GE165.out, NB145_165.out, NB165_145.out, (bl HB)⟩)
                ·skip
                 rintro gb164 w31 ⟨hS_, h0_, h1_, h2_, h3_, h4_, h5_, h6_⟩
                 replace BK145 : Aside0 (w31.heap[gb145]? = some (.cells #[.int .i64 a2_0, .int .i64 a2_1] 33 (0, 0))) := ⟨h0_⟩
                 have BK164 : Aside0 (w31.heap[gb164]? = some (.cells #[.int .i64 0, .slice none 0 0] 39 (0, 0))) := ⟨h1_⟩
                 have GW164 : Aside0 (w.heap.size ≤ gb164) := ⟨h2_⟩
                 have GE164 : Aside0 (w.heap.size ≤ gb164) := ⟨h3_⟩
                 have NB145_164 : Aside0 (gb145 ≠ gb164) := ⟨h4_⟩
                 have NB164_145 : Aside0 (gb164 ≠ gb145) := ⟨h5_⟩
                 replace HB : Aside0 (Below w.heap.size w w31) := ⟨h6_⟩
                 clear h0_ h1_ h2_ h3_ h4_ h5_ h6_
                 have hHeld : w31.cell? ⟨gb145, 0, none⟩ = some (.int .i64 a2_0) ∧ w31.cell? ⟨gb145, 1, none⟩ = some (.int .i64 a2_1) := hS_
                 refine nra ?_
                 refine two_ (i := 2) (j := 7) (Ni := some 44) (Nj := some 10) #[true, true, true, true, true, false, true, false, false, false] #[true, true, false, true, true, false, true, true, false, false] rfl rfl rfl rfl (two_of HT_.out (by kernel_rfl)) (by decide) (by decide) (fun K hK => ?_) (fun K hK => ?_)
                 ·skip
                  refine goes_ Try.func23 (by kernel_rfl) rfl #[.int .i64 a2_0] (by rfl) rfl rfl (by (try simp only [List.map_toArray, List.map_cons, List.map_nil]); first | done | rfl | (simp only [List.length_drop, List.length_take]; rfl)) ?_
                  with_reducible refine (bocageref01_Of.calls kj20 a2_0 t156 t157 _ A26.out).mono ?_
                  rintro e w32 ⟨v158, rfl, ho0, hb⟩
                  refine ⟨_, rfl, ?_⟩
                  have HO159 := Aside0.mk (Kd.R_lower ho0 (below_size (bl HB)))
                  replace BK145 := bkb BK145 hb
                  replace BK164 := bkb BK164 hb
                  replace HB := bst HB hb
                  (try clear hb)
                  (try clear hb2)
                  (try clear hk)
                  (try clear hi)
                  (try clear ho0)
                  refine hK.out _ _ (e2 BK145) (fun hHeld => ?_)
                  clear hK K
                  refine nrp 44 ?_
                  exact nrm (hJ2_6 (v158, gb164) _ ⟨hHeld, (kr HO159), (bk BK145), (bk BK164), GW164.out, GE164.out, NB145_164.out, NB164_145.out, (bl HB)⟩)
                 ·skip
                  refine box_step ?hg (N := 10) ?hd (cs := #[.int .i64 0, .slice none 0 0]) (t := 39) ?hr ?_; (case hd => rfl); (case hg => rfl); (case hr => first | (go_simp; done) | (go_simp; rfl))
                  intro gb165 hg w32 hbox hb
                  have BK165 := Aside0.mk (hbox)
                  have GW165 := lsz hg HB
                  have GE165 := lsz hg HB
                  replace HB := bst HB hb
                  have NB145_165 := nlt hg BK145
                  have NB165_145 := ngt hg BK145
                  replace BK145 := bkb BK145 hb
                  have NB164_165 := nlt hg BK164
                  have NB165_164 := ngt hg BK164
                  replace BK164 := bkb BK164 hb
                  clear hb hbox hg
                  refine hK.out _ _ (e2 BK145) (fun hHeld => ?_)
                  clear hK K
                  refine nrp 10 ?_
                  exact nrm (hJ6_7 (gb164, gb165) _ ⟨hHeld, (bk BK145), (bk BK164), (bk BK165), GW164.out, GE164.out, NB145_164.out, NB164_145.out, NB165_164.out, NB164_165.out, GW165.out, GE165.out, NB145_165.out, NB165_145.out, (bl HB)⟩)
               ·skip
                rintro v158 w31 ⟨hS_, h0_, h1_, h2_⟩
                have HO159 : Aside0 (Kd.R (Kd.int .i64) 3 w31 w.heap.size (fun _ => True) v158 t157) := ⟨h0_⟩
                replace BK145 : Aside0 (w31.heap[gb145]? = some (.cells #[.int .i64 a2_0, .int .i64 a2_1] 33 (0, 0))) := ⟨h1_⟩
                replace HB : Aside0 (Below w.heap.size w w31) := ⟨h2_⟩
                clear h0_ h1_ h2_
                have hHeld : w31.cell? ⟨gb145, 0, none⟩ = some (.int .i64 a2_0) ∧ w31.cell? ⟨gb145, 1, none⟩ = some (.int .i64 a2_1) := hS_
                refine nra ?_
                refine three_ (i := 5) (j := 6) (k := 7) (Ni := some 47) (Nj := some 9) (Nk := some 10) #[true, true, true, true, true, true, false, false, false, false] #[true, true, true, true, true, false, true, false, false, false] #[true, true, true, true, true, false, false, true, false, false] rfl rfl rfl rfl rfl rfl (three_of HT_.out (by kernel_rfl)) (by decide) (by decide) (by decide) (fun K hK => ?_) (fun K hK => ?_) (fun K hK => ?_)
                ·skip
                 refine goes_ Try.func23 (by kernel_rfl) rfl #[.int .i64 a2_1] (by rfl) rfl rfl (by (try simp only [List.map_toArray, List.map_cons, List.map_nil]); first | done | rfl | (simp only [List.length_drop, List.length_take]; rfl)) ?_
                 with_reducible refine (bocageref01_Of.calls kj20 a2_1 t160 t161 _ A27.out).mono ?_
                 rintro e w32 ⟨v162, rfl, ho0, hb⟩
                 refine ⟨_, rfl, ?_⟩
                 have HO163 := Aside0.mk (Kd.R_lower (Kd.R_new' ho0 (Kd.R_lt (kr HO159))) (below_size (bl HB)))
                 replace HO159 := Aside0.mk (Kd.R_elder' (kr HO159) (Kd.R_base ho0) hb)
                 replace BK145 := bkb BK145 hb
                 replace HB := bst HB hb
                 (try clear hb)
                 (try clear hb2)
                 (try clear hk)
                 (try clear hi)
                 (try clear ho0)
                 refine hK.out _ _ (e2 BK145) (fun hHeld => ?_)
                 clear hK K
                 refine nrp 47 ?_
                 exact nrm (hJ2_5 (v158, v162) _ ⟨hHeld, (by (with_reducible repeat (first | apply Kd.R_alloc | apply Kd.R_drewN | apply Kd.R_drew)); exact Kd.R_mono HO159.out (fun _ hk => hk.2)), (by (with_reducible repeat (first | apply Kd.R_alloc | apply Kd.R_drewN | apply Kd.R_drew)); exact Kd.R_mono HO163.out (fun _ hk => hk.2)), (bk BK145), (bl HB)⟩)
                ·skip
                 refine box_step ?hg (N := 9) ?hd (cs := #[.int .i64 0, .slice none 0 0]) (t := 39) ?hr ?_; (case hd => rfl); (case hg => rfl); (case hr => first | (go_simp; done) | (go_simp; rfl))
                 intro gb164 hg w32 hbox hb
                 replace HO159 := krb HO159 hb
                 have BK164 := Aside0.mk (hbox)
                 have GW164 := lsz hg HB
                 have GE164 := lsz hg HB
                 replace HB := bst HB hb
                 have NB145_164 := nlt hg BK145
                 have NB164_145 := ngt hg BK145
                 replace BK145 := bkb BK145 hb
                 clear hb hbox hg
                 refine hK.out _ _ (e2 BK145) (fun hHeld => ?_)
                 clear hK K
                 refine nrp 9 ?_
                 exact nrm (hJ2_6 (v158, gb164) _ ⟨hHeld, (kr HO159), (bk BK145), (bk BK164), GW164.out, GE164.out, NB145_164.out, NB164_145.out, (bl HB)⟩)
                ·skip
                 refine box_step ?hg (N := 10) ?hd (cs := #[.int .i64 0, .slice none 0 0]) (t := 39) ?hr ?_; (case hd => rfl); (case hg => rfl); (case hr => first | (go_simp; done) | (go_simp; rfl))
                 intro gb165 hg w32 hbox hb
                 replace HO159 := krb HO159 hb
                 have BK165 := Aside0.mk (hbox)
                 have GW165 := lsz hg HB
                 have GE165 := lsz hg HB
                 replace HB := bst HB hb
                 have NB145_165 := nlt hg BK145
                 have NB165_145 := ngt hg BK145
                 replace BK145 := bkb BK145 hb
                 clear hb hbox hg
                 refine hK.out _ _ (e2 BK145) (fun hHeld => ?_)
                 clear hK K
                 refine nrp 10 ?_
                 exact nrm (hJ2_7 (v158, gb165) _ ⟨hHeld, (kr HO159), (bk BK145), (bk BK165), GW165.out, GE165.out, NB145_165.out, NB165_145.out, (bl HB)⟩)
              ·skip
               rintro ⟨gb164, gb165⟩ w32 ⟨hS_, h0_, h1_, h2_, h3_, h4_, h5_, h6_, h7_, h8_, h9_, h10_, h11_, h12_, h13_⟩
               replace BK145 : Aside0 (w32.heap[gb145]? = some (.cells #[.int .i64 a2_0, .int .i64 a2_1] 33 (0, 0))) := ⟨h0_⟩
               have BK164 : Aside0 (w32.heap[gb164]? = some (.cells #[.int .i64 0, .slice none 0 0] 39 (0, 0))) := ⟨h1_⟩
               have BK165 : Aside0 (w32.heap[gb165]? = some (.cells #[.int .i64 0, .slice none 0 0] 39 (0, 0))) := ⟨h2_⟩
               have GW164 : Aside0 (w.heap.size ≤ gb164) := ⟨h3_⟩
               have GE164 : Aside0 (w.heap.size ≤ gb164) := ⟨h4_⟩
               have NB145_164 : Aside0 (gb145 ≠ gb164) := ⟨h5_⟩
               have NB164_145 : Aside0 (gb164 ≠ gb145) := ⟨h6_⟩
               have NB165_164 : Aside0 (gb165 ≠ gb164) := ⟨h7_⟩
               have NB164_165 : Aside0 (gb164 ≠ gb165) := ⟨h8_⟩
               have GW165 : Aside0 (w.heap.size ≤ gb165) := ⟨h9_⟩
               have GE165 : Aside0 (w.heap.size ≤ gb165) := ⟨h10_⟩
               have NB145_165 : Aside0 (gb145 ≠ gb165) := ⟨h11_⟩
               have NB165_145 : Aside0 (gb165 ≠ gb145) := ⟨h12_⟩
               replace HB : Aside0 (Below w.heap.size w w32) := ⟨h13_⟩
               clear h0_ h1_ h2_ h3_ h4_ h5_ h6_ h7_ h8_ h9_ h10_ h11_ h12_ h13_
               have hHeld : w32.cell? ⟨gb145, 0, none⟩ = some (.int .i64 a2_0) ∧ w32.cell? ⟨gb145, 1, none⟩ = some (.int .i64 a2_1) := hS_
               refine nra ?_
               refine one_ (i := 2) (N := some 44) #[true, true, true, true, true, false, true, true, false, false] rfl rfl (one_of HT_.out (by kernel_rfl)) (by decide) (fun K hK => ?_)
               refine goes_ Try.func23 (by kernel_rfl) rfl #[.int .i64 a2_0] (by rfl) rfl rfl (by (try simp only [List.map_toArray, List.map_cons, List.map_nil]); first | done | rfl | (simp only [List.length_drop, List.length_take]; rfl)) ?_
               with_reducible refine (bocageref01_Of.calls kj20 a2_0 t156 t157 _ A26.out).mono ?_
               rintro e w33 ⟨v158, rfl, ho0, hb⟩
               refine ⟨_, rfl, ?_⟩
               have HO159 := Aside0.mk (Kd.R_lower ho0 (below_size (bl HB)))
               replace BK145 := bkb BK145 hb
               replace BK164 := bkb BK164 hb
               replace BK165 := bkb BK165 hb
               replace HB := bst HB hb
               (try clear hb)
               (try clear hb2)
               (try clear hk)
               (try clear hi)
               (try clear ho0)
               refine hK.out _ _ (e2 BK145) (fun hHeld => ?_)
               clear hK K
               refine nrp 44 ?_
               exact nrm (hJ2_6_7 (v158, gb164, gb165) _ ⟨hHeld, (kr HO159), (bk BK145), (bk BK164), (bk BK165), GW164.out, GE164.out, NB145_164.out, NB164_145.out, NB165_164.out, NB164_165.out, GW165.out, GE165.out, NB145_165.out, NB165_145.out, (bl HB)⟩)
             ·skip
              rintro ⟨v158, gb165⟩ w32 ⟨hS_, h0_, h1_, h2_, h3_, h4_, h5_, h6_, h7_⟩
              have HO159 : Aside0 (Kd.R (Kd.int .i64) 3 w32 w.heap.size (fun _ => True) v158 t157) := ⟨h0_⟩
              replace BK145 : Aside0 (w32.heap[gb145]? = some (.cells #[.int .i64 a2_0, .int .i64 a2_1] 33 (0, 0))) := ⟨h1_⟩
              have BK165 : Aside0 (w32.heap[gb165]? = some (.cells #[.int .i64 0, .slice none 0 0] 39 (0, 0))) := ⟨h2_⟩
              have GW165 : Aside0 (w.heap.size ≤ gb165) := ⟨h3_⟩
              have GE165 : Aside0 (w.heap.size ≤ gb165) := ⟨h4_⟩
              have NB145_165 : Aside0 (gb145 ≠ gb165) := ⟨h5_⟩
              have NB165_145 : Aside0 (gb165 ≠ gb145) := ⟨h6_⟩
              replace HB : Aside0 (Below w.heap.size w w32) := ⟨h7_⟩
              clear h0_ h1_ h2_ h3_ h4_ h5_ h6_ h7_
              have hHeld : w32.cell? ⟨gb145, 0, none⟩ = some (.int .i64 a2_0) ∧ w32.cell? ⟨gb145, 1, none⟩ = some (.int .i64 a2_1) := hS_
              refine nra ?_
              refine two_ (i := 5) (j := 6) (Ni := some 47) (Nj := some 9) #[true, true, true, true, true, true, false, true, false, false] #[true, true, true, true, true, false, true, true, false, false] rfl rfl rfl rfl (two_of HT_.out (by kernel_rfl)) (by decide) (by decide) (fun K hK => ?_) (fun K hK => ?_)
              ·skip
               refine goes_ Try.func23 (by kernel_rfl) rfl #[.int .i64 a2_1] (by rfl) rfl rfl (by (try simp only [List.map_toArray, List.map_cons, List.map_nil]); first | done | rfl | (simp only [List.length_drop, List.length_take]; rfl)) ?_
               with_reducible refine (bocageref01_Of.calls kj20 a2_1 t160 t161 _ A27.out).mono ?_
               rintro e w33 ⟨v162, rfl, ho0, hb⟩
               refine ⟨_, rfl, ?_⟩
               have HO163 := Aside0.mk (Kd.R_lower (Kd.R_new' ho0 (Kd.R_lt (kr HO159))) (below_size (bl HB)))
               replace HO159 := Aside0.mk (Kd.R_elder' (kr HO159) (Kd.R_base ho0) hb)
               replace BK145 := bkb BK145 hb
               replace BK165 := bkb BK165 hb
               replace HB := bst HB hb
               (try clear hb)
               (try clear hb2)
               (try clear hk)
               (try clear hi)
               (try clear ho0)
               refine hK.out _ _ (e2 BK145) (fun hHeld => ?_)
               clear hK K
               refine nrp 47 ?_
               exact nrm (hJ2_5_7 (v158, v162, gb165) _ ⟨hHeld, (by (with_reducible repeat (first | apply Kd.R_alloc | apply Kd.R_drewN | apply Kd.R_drew)); exact Kd.R_mono HO159.out (fun _ hk => hk.2)), (by (with_reducible repeat (first | apply Kd.R_alloc | apply Kd.R_drewN | apply Kd.R_drew)); exact Kd.R_mono HO163.out (fun _ hk => hk.2)), (bk BK145), (bk BK165), GW165.out, GE165.out, NB145_165.out, NB165_145.out, (bl HB)⟩)
              ·skip
               refine box_step ?hg (N := 9) ?hd (cs := #[.int .i64 0, .slice none 0 0]) (t := 39) ?hr ?_; (case hd => rfl); (case hg => rfl); (case hr => first | (go_simp; done) | (go_simp; rfl))
               intro gb164 hg w33 hbox hb
               replace HO159 := krb HO159 hb
               have BK164 := Aside0.mk (hbox)
               have GW164 := lsz hg HB
               have GE164 := lsz hg HB
               replace HB := bst HB hb
               have NB145_164 := nlt hg BK145
               have NB164_145 := ngt hg BK145
               replace BK145 := bkb BK145 hb
               have NB165_164 := nlt hg BK165
               have NB164_165 := ngt hg BK165
               replace BK165 := bkb BK165 hb
               clear hb hbox hg
               refine hK.out _ _ (e2 BK145) (fun hHeld => ?_)
               clear hK K
               refine nrp 9 ?_
               exact nrm (hJ2_6_7 (v158, gb164, gb165) _ ⟨hHeld, (kr HO159), (bk BK145), (bk BK164), (bk BK165), GW164.out, GE164.out, NB145_164.out, NB164_145.out, NB165_164.out, NB164_165.out, GW165.out, GE165.out, NB145_165.out, NB165_145.out, (bl HB)⟩)
            ·skip
             rintro ⟨v158, gb164⟩ w32 ⟨hS_, h0_, h1_, h2_, h3_, h4_, h5_, h6_, h7_⟩
             have HO159 : Aside0 (Kd.R (Kd.int .i64) 3 w32 w.heap.size (fun _ => True) v158 t157) := ⟨h0_⟩
             replace BK145 : Aside0 (w32.heap[gb145]? = some (.cells #[.int .i64 a2_0, .int .i64 a2_1] 33 (0, 0))) := ⟨h1_⟩
             have BK164 : Aside0 (w32.heap[gb164]? = some (.cells #[.int .i64 0, .slice none 0 0] 39 (0, 0))) := ⟨h2_⟩
             have GW164 : Aside0 (w.heap.size ≤ gb164) := ⟨h3_⟩
             have GE164 : Aside0 (w.heap.size ≤ gb164) := ⟨h4_⟩
             have NB145_164 : Aside0 (gb145 ≠ gb164) := ⟨h5_⟩
             have NB164_145 : Aside0 (gb164 ≠ gb145) := ⟨h6_⟩
             replace HB : Aside0 (Below w.heap.size w w32) := ⟨h7_⟩
             clear h0_ h1_ h2_ h3_ h4_ h5_ h6_ h7_
             have hHeld : w32.cell? ⟨gb145, 0, none⟩ = some (.int .i64 a2_0) ∧ w32.cell? ⟨gb145, 1, none⟩ = some (.int .i64 a2_1) := hS_
             refine nra ?_
             refine two_ (i := 5) (j := 7) (Ni := some 47) (Nj := some 10) #[true, true, true, true, true, true, true, false, false, false] #[true, true, true, true, true, false, true, true, false, false] rfl rfl rfl rfl (two_of HT_.out (by kernel_rfl)) (by decide) (by decide) (fun K hK => ?_) (fun K hK => ?_)
             ·skip
              refine goes_ Try.func23 (by kernel_rfl) rfl #[.int .i64 a2_1] (by rfl) rfl rfl (by (try simp only [List.map_toArray, List.map_cons, List.map_nil]); first | done | rfl | (simp only [List.length_drop, List.length_take]; rfl)) ?_
              with_reducible refine (bocageref01_Of.calls kj20 a2_1 t160 t161 _ A27.out).mono ?_
              rintro e w33 ⟨v162, rfl, ho0, hb⟩
              refine ⟨_, rfl, ?_⟩
              have HO163 := Aside0.mk (Kd.R_lower (Kd.R_new' ho0 (Kd.R_lt (kr HO159))) (below_size (bl HB)))
              replace HO159 := Aside0.mk (Kd.R_elder' (kr HO159) (Kd.R_base ho0) hb)
              replace BK145 := bkb BK145 hb
              replace BK164 := bkb BK164 hb
              replace HB := bst HB hb
              (try clear hb)
              (try clear hb2)
              (try clear hk)
              (try clear hi)
              (try clear ho0)
              refine hK.out _ _ (e2 BK145) (fun hHeld => ?_)
              clear hK K
              refine nrp 47 ?_
              exact nrm (hJ2_5_6 (v158, v162, gb164) _ ⟨hHeld, (by (with_reducible repeat (first | apply Kd.R_alloc | apply Kd.R_drewN | apply Kd.R_drew)); exact Kd.R_mono HO159.out (fun _ hk => hk.2)), (by (with_reducible repeat (first | apply Kd.R_alloc | apply Kd.R_drewN | apply Kd.R_drew)); exact Kd.R_mono HO163.out (fun _ hk => hk.2)), (bk BK145), (bk BK164), GW164.out, GE164.out, NB145_164.out, NB164_145.out, (bl HB)⟩)
             ·skip
              refine box_step ?hg (N := 10) ?hd (cs := #[.int .i64 0, .slice none 0 0]) (t := 39) ?hr ?_; (case hd => rfl); (case hg => rfl); (case hr => first | (go_simp; done) | (go_simp; rfl))
              intro gb165 hg w33 hbox hb
              replace HO159 := krb HO159 hb
              have BK165 := Aside0.mk (hbox)
              have GW165 := lsz hg HB
              have GE165 := lsz hg HB
              replace HB := bst HB hb
              have NB145_165 := nlt hg BK145
              have NB165_145 := ngt hg BK145
              replace BK145 := bkb BK145 hb
              have NB164_165 := nlt hg BK164
              have NB165_164 := ngt hg BK164
              replace BK164 := bkb BK164 hb
              clear hb hbox hg
              refine hK.out _ _ (e2 BK145) (fun hHeld => ?_)
              clear hK K
              refine nrp 10 ?_
              exact nrm (hJ2_6_7 (v158, gb164, gb165) _ ⟨hHeld, (kr HO159), (bk BK145), (bk BK164), (bk BK165), GW164.out, GE164.out, NB145_164.out, NB164_145.out, NB165_164.out, NB164_165.out, GW165.out, GE165.out, NB145_165.out, NB165_145.out, (bl HB)⟩)
           ·skip
            rintro ⟨v158, v162⟩ w32 ⟨hS_, h0_, h1_, h2_, h3_⟩
            have HO159 : Aside0 (Kd.R (Kd.int .i64) 3 w32 w.heap.size (fun k_ => some k_ ≠ (v162 : Value).ownBlock) v158 t157) := ⟨h0_⟩
            have HO163 : Aside0 (Kd.R (Kd.int .i64) 3 w32 w.heap.size (fun k_ => some k_ ≠ (v158 : Value).ownBlock) v162 t161) := ⟨h1_⟩
            replace BK145 : Aside0 (w32.heap[gb145]? = some (.cells #[.int .i64 a2_0, .int .i64 a2_1] 33 (0, 0))) := ⟨h2_⟩
            replace HB : Aside0 (Below w.heap.size w w32) := ⟨h3_⟩
            clear h0_ h1_ h2_ h3_
            have hHeld : w32.cell? ⟨gb145, 0, none⟩ = some (.int .i64 a2_0) ∧ w32.cell? ⟨gb145, 1, none⟩ = some (.int .i64 a2_1) := hS_
            refine nra ?_
            refine two_ (i := 6) (j := 7) (Ni := some 9) (Nj := some 10) #[true, true, true, true, true, true, true, false, false, false] #[true, true, true, true, true, true, false, true, false, false] rfl rfl rfl rfl (two_of HT_.out (by kernel_rfl)) (by decide) (by decide) (fun K hK => ?_) (fun K hK => ?_)
            ·skip
             refine box_step ?hg (N := 9) ?hd (cs := #[.int .i64 0, .slice none 0 0]) (t := 39) ?hr ?_; (case hd => rfl); (case hg => rfl); (case hr => first | (go_simp; done) | (go_simp; rfl))
             intro gb164 hg w33 hbox hb
             replace HO159 := krb HO159 hb
             replace HO163 := krb HO163 hb
             have BK164 := Aside0.mk (hbox)
             have GW164 := lsz hg HB
             have GE164 := lsz hg HB
             replace HB := bst HB hb
             have NB145_164 := nlt hg BK145
             have NB164_145 := ngt hg BK145
             replace BK145 := bkb BK145 hb
             clear hb hbox hg
             refine hK.out _ _ (e2 BK145) (fun hHeld => ?_)
             clear hK K
             refine nrp 9 ?_
             exact nrm (hJ2_5_6 (v158, v162, gb164) _ ⟨hHeld, (kr HO159), (kr HO163), (bk BK145), (bk BK164), GW164.out, GE164.out, NB145_164.out, NB164_145.out, (bl HB)⟩)
            ·skip
             refine box_step ?hg (N := 10) ?hd (cs := #[.int .i64 0, .slice none 0 0]) (t := 39) ?hr ?_; (case hd => rfl); (case hg => rfl); (case hr => first | (go_simp; done) | (go_simp; rfl))
             intro gb165 hg w33 hbox hb
             replace HO159 := krb HO159 hb
             replace HO163 := krb HO163 hb
             have BK165 := Aside0.mk (hbox)
             have GW165 := lsz hg HB
             have GE165 := lsz hg HB
             replace HB := bst HB hb
             have NB145_165 := nlt hg BK145
             have NB165_145 := ngt hg BK145
             replace BK145 := bkb BK145 hb
             clear hb hbox hg
             refine hK.out _ _ (e2 BK145) (fun hHeld => ?_)
             clear hK K
             refine nrp 10 ?_
             exact nrm (hJ2_5_7 (v158, v162, gb165) _ ⟨hHeld, (kr HO159), (kr HO163), (bk BK145), (bk BK165), GW165.out, GE165.out, NB145_165.out, NB165_145.out, (bl HB)⟩)
          ·skip
           rintro ⟨v158, gb164, gb165⟩ w33 ⟨hS_, h0_, h1_, h2_, h3_, h4_, h5_, h6_, h7_, h8_, h9_, h10_, h11_, h12_, h13_, h14_⟩
           have HO159 : Aside0 (Kd.R (Kd.int .i64) 3 w33 w.heap.size (fun _ => True) v158 t157) := ⟨h0_⟩
           replace BK145 : Aside0 (w33.heap[gb145]? = some (.cells #[.int .i64 a2_0, .int .i64 a2_1] 33 (0, 0))) := ⟨h1_⟩
           have BK164 : Aside0 (w33.heap[gb164]? = some (.cells #[.int .i64 0, .slice none 0 0] 39 (0, 0))) := ⟨h2_⟩
           have BK165 : Aside0 (w33.heap[gb165]? = some (.cells #[.int .i64 0, .slice none 0 0] 39 (0, 0))) := ⟨h3_⟩
           have GW164 : Aside0 (w.heap.size ≤ gb164) := ⟨h4_⟩
           have GE164 : Aside0 (w.heap.size ≤ gb164) := ⟨h5_⟩
           have NB145_164 : Aside0 (gb145 ≠ gb164) := ⟨h6_⟩
           have NB164_145 : Aside0 (gb164 ≠ gb145) := ⟨h7_⟩
           have NB165_164 : Aside0 (gb165 ≠ gb164) := ⟨h8_⟩
           have NB164_165 : Aside0 (gb164 ≠ gb165) := ⟨h9_⟩
           have GW165 : Aside0 (w.heap.size ≤ gb165) := ⟨h10_⟩
           have GE165 : Aside0 (w.heap.size ≤ gb165) := ⟨h11_⟩
           have NB145_165 : Aside0 (gb145 ≠ gb165) := ⟨h12_⟩
           have NB165_145 : Aside0 (gb165 ≠ gb145) := ⟨h13_⟩
           replace HB : Aside0 (Below w.heap.size w w33) := ⟨h14_⟩
           clear h0_ h1_ h2_ h3_ h4_ h5_ h6_ h7_ h8_ h9_ h10_ h11_ h12_ h13_ h14_
           have hHeld : w33.cell? ⟨gb145, 0, none⟩ = some (.int .i64 a2_0) ∧ w33.cell? ⟨gb145, 1, none⟩ = some (.int .i64 a2_1) := hS_
           refine nra ?_
           refine one_ (i := 5) (N := some 47) #[true, true, true, true, true, true, true, true, false, false] rfl rfl (one_of HT_.out (by kernel_rfl)) (by decide) (fun K hK => ?_)
           refine goes_ Try.func23 (by kernel_rfl) rfl #[.int .i64 a2_1] (by rfl) rfl rfl (by (try simp only [List.map_toArray, List.map_cons, List.map_nil]); first | done | rfl | (simp only [List.length_drop, List.length_take]; rfl)) ?_
           with_reducible refine (bocageref01_Of.calls kj20 a2_1 t160 t161 _ A27.out).mono ?_
           rintro e w34 ⟨v162, rfl, ho0, hb⟩
           refine ⟨_, rfl, ?_⟩
           have HO163 := Aside0.mk (Kd.R_lower (Kd.R_new' ho0 (Kd.R_lt (kr HO159))) (below_size (bl HB)))
           replace HO159 := Aside0.mk (Kd.R_elder' (kr HO159) (Kd.R_base ho0) hb)
           replace BK145 := bkb BK145 hb
           replace BK164 := bkb BK164 hb
           replace BK165 := bkb BK165 hb
           replace HB := bst HB hb
           (try clear hb)
           (try clear hb2)
           (try clear hk)
           (try clear hi)
           (try clear ho0)
           refine hK.out _ _ (e2 BK145) (fun hHeld => ?_)
           clear hK K
           refine nrp 47 ?_
           exact nrm (hJ2_5_6_7 (v158, v162, gb164, gb165) _ ⟨hHeld, (by (with_reducible repeat (first | apply Kd.R_alloc | apply Kd.R_drewN | apply Kd.R_drew)); exact Kd.R_mono HO159.out (fun _ hk => hk.2)), (by (with_reducible repeat (first | apply Kd.R_alloc | apply Kd.R_drewN | apply Kd.R_drew)); exact Kd.R_mono HO163.out (fun _ hk => hk.2)), (bk BK145), (bk BK164), (bk BK165), GW164.out, GE164.out, NB145_164.out, NB164_145.out, NB165_164.out, NB164_165.out, GW165.out, GE165.out, NB145_165.out, NB165_145.out, (bl HB)⟩)
         ·skip
          rintro ⟨v158, v162, gb165⟩ w33 ⟨hS_, h0_, h1_, h2_, h3_, h4_, h5_, h6_, h7_, h8_⟩
          have HO159 : Aside0 (Kd.R (Kd.int .i64) 3 w33 w.heap.size (fun k_ => some k_ ≠ (v162 : Value).ownBlock) v158 t157) := ⟨h0_⟩
          have HO163 : Aside0 (Kd.R (Kd.int .i64) 3 w33 w.heap.size (fun k_ => some k_ ≠ (v158 : Value).ownBlock) v162 t161) := ⟨h1_⟩
          replace BK145 : Aside0 (w33.heap[gb145]? = some (.cells #[.int .i64 a2_0, .int .i64 a2_1] 33 (0, 0))) := ⟨h2_⟩
          have BK165 : Aside0 (w33.heap[gb165]? = some (.cells #[.int .i64 0, .slice none 0 0] 39 (0, 0))) := ⟨h3_⟩
          have GW165 : Aside0 (w.heap.size ≤ gb165) := ⟨h4_⟩
          have GE165 : Aside0 (w.heap.size ≤ gb165) := ⟨h5_⟩
          have NB145_165 : Aside0 (gb145 ≠ gb165) := ⟨h6_⟩
          have NB165_145 : Aside0 (gb165 ≠ gb145) := ⟨h7_⟩
          replace HB : Aside0 (Below w.heap.size w w33) := ⟨h8_⟩
          clear h0_ h1_ h2_ h3_ h4_ h5_ h6_ h7_ h8_
          have hHeld : w33.cell? ⟨gb145, 0, none⟩ = some (.int .i64 a2_0) ∧ w33.cell? ⟨gb145, 1, none⟩ = some (.int .i64 a2_1) := hS_
          refine nra ?_
          refine one_ (i := 6) (N := some 9) #[true, true, true, true, true, true, true, true, false, false] rfl rfl (one_of HT_.out (by kernel_rfl)) (by decide) (fun K hK => ?_)
          refine box_step ?hg (N := 9) ?hd (cs := #[.int .i64 0, .slice none 0 0]) (t := 39) ?hr ?_; (case hd => rfl); (case hg => rfl); (case hr => first | (go_simp; done) | (go_simp; rfl))
          intro gb164 hg w34 hbox hb
          replace HO159 := krb HO159 hb
          replace HO163 := krb HO163 hb
          have BK164 := Aside0.mk (hbox)
          have GW164 := lsz hg HB
          have GE164 := lsz hg HB
          replace HB := bst HB hb
          have NB145_164 := nlt hg BK145
          have NB164_145 := ngt hg BK145
          replace BK145 := bkb BK145 hb
          have NB165_164 := nlt hg BK165
          have NB164_165 := ngt hg BK165
          replace BK165 := bkb BK165 hb
          clear hb hbox hg
          refine hK.out _ _ (e2 BK145) (fun hHeld => ?_)
          clear hK K
          refine nrp 9 ?_
          exact nrm (hJ2_5_6_7 (v158, v162, gb164, gb165) _ ⟨hHeld, (kr HO159), (kr HO163), (bk BK145), (bk BK164), (bk BK165), GW164.out, GE164.out, NB145_164.out, NB164_145.out, NB165_164.out, NB164_165.out, GW165.out, GE165.out, NB145_165.out, NB165_145.out, (bl HB)⟩)
        ·skip
         rintro ⟨v158, v162, gb164⟩ w33 ⟨hS_, h0_, h1_, h2_, h3_, h4_, h5_, h6_, h7_, h8_⟩
         have HO159 : Aside0 (Kd.R (Kd.int .i64) 3 w33 w.heap.size (fun k_ => some k_ ≠ (v162 : Value).ownBlock) v158 t157) := ⟨h0_⟩
         have HO163 : Aside0 (Kd.R (Kd.int .i64) 3 w33 w.heap.size (fun k_ => some k_ ≠ (v158 : Value).ownBlock) v162 t161) := ⟨h1_⟩
         replace BK145 : Aside0 (w33.heap[gb145]? = some (.cells #[.int .i64 a2_0, .int .i64 a2_1] 33 (0, 0))) := ⟨h2_⟩
         have BK164 : Aside0 (w33.heap[gb164]? = some (.cells #[.int .i64 0, .slice none 0 0] 39 (0, 0))) := ⟨h3_⟩
         have GW164 : Aside0 (w.heap.size ≤ gb164) := ⟨h4_⟩
         have GE164 : Aside0 (w.heap.size ≤ gb164) := ⟨h5_⟩
         have NB145_164 : Aside0 (gb145 ≠ gb164) := ⟨h6_⟩
         have NB164_145 : Aside0 (gb164 ≠ gb145) := ⟨h7_⟩
         replace HB : Aside0 (Below w.heap.size w w33) := ⟨h8_⟩
         clear h0_ h1_ h2_ h3_ h4_ h5_ h6_ h7_ h8_
         have hHeld : w33.cell? ⟨gb145, 0, none⟩ = some (.int .i64 a2_0) ∧ w33.cell? ⟨gb145, 1, none⟩ = some (.int .i64 a2_1) := hS_
         refine nra ?_
         refine one_ (i := 7) (N := some 10) #[true, true, true, true, true, true, true, true, false, false] rfl rfl (one_of HT_.out (by kernel_rfl)) (by decide) (fun K hK => ?_)
         refine box_step ?hg (N := 10) ?hd (cs := #[.int .i64 0, .slice none 0 0]) (t := 39) ?hr ?_; (case hd => rfl); (case hg => rfl); (case hr => first | (go_simp; done) | (go_simp; rfl))
         intro gb165 hg w34 hbox hb
         replace HO159 := krb HO159 hb
         replace HO163 := krb HO163 hb
         have BK165 := Aside0.mk (hbox)
         have GW165 := lsz hg HB
         have GE165 := lsz hg HB
         replace HB := bst HB hb
         have NB145_165 := nlt hg BK145
         have NB165_145 := ngt hg BK145
         replace BK145 := bkb BK145 hb
         have NB164_165 := nlt hg BK164
         have NB165_164 := ngt hg BK164
         replace BK164 := bkb BK164 hb
         clear hb hbox hg
         refine hK.out _ _ (e2 BK145) (fun hHeld => ?_)
         clear hK K
         refine nrp 10 ?_
         exact nrm (hJ2_5_6_7 (v158, v162, gb164, gb165) _ ⟨hHeld, (kr HO159), (kr HO163), (bk BK145), (bk BK164), (bk BK165), GW164.out, GE164.out, NB145_164.out, NB164_145.out, NB165_164.out, NB164_165.out, GW165.out, GE165.out, NB145_165.out, NB165_145.out, (bl HB)⟩)
       rintro ⟨v158, v162, gb164, gb165⟩ w34 ⟨hS_, h0_, h1_, h2_, h3_, h4_, h5_, h6_, h7_, h8_, h9_, h10_, h11_, h12_, h13_, h14_, h15_⟩
       have HO159 : Aside0 (Kd.R (Kd.int .i64) 3 w34 w.heap.size (fun k_ => some k_ ≠ (v162 : Value).ownBlock) v158 t157) := ⟨h0_⟩
       have HO163 : Aside0 (Kd.R (Kd.int .i64) 3 w34 w.heap.size (fun k_ => some k_ ≠ (v158 : Value).ownBlock) v162 t161) := ⟨h1_⟩
       replace BK145 : Aside0 (w34.heap[gb145]? = some (.cells #[.int .i64 a2_0, .int .i64 a2_1] 33 (0, 0))) := ⟨h2_⟩
       have BK164 : Aside0 (w34.heap[gb164]? = some (.cells #[.int .i64 0, .slice none 0 0] 39 (0, 0))) := ⟨h3_⟩
       have BK165 : Aside0 (w34.heap[gb165]? = some (.cells #[.int .i64 0, .slice none 0 0] 39 (0, 0))) := ⟨h4_⟩
       have GW164 : Aside0 (w.heap.size ≤ gb164) := ⟨h5_⟩
       have GE164 : Aside0 (w.heap.size ≤ gb164) := ⟨h6_⟩
       have NB145_164 : Aside0 (gb145 ≠ gb164) := ⟨h7_⟩
       have NB164_145 : Aside0 (gb164 ≠ gb145) := ⟨h8_⟩
       have NB165_164 : Aside0 (gb165 ≠ gb164) := ⟨h9_⟩
       have NB164_165 : Aside0 (gb164 ≠ gb165) := ⟨h10_⟩
       have GW165 : Aside0 (w.heap.size ≤ gb165) := ⟨h11_⟩
       have GE165 : Aside0 (w.heap.size ≤ gb165) := ⟨h12_⟩
       have NB145_165 : Aside0 (gb145 ≠ gb165) := ⟨h13_⟩
       have NB165_145 : Aside0 (gb165 ≠ gb145) := ⟨h14_⟩
       replace HB : Aside0 (Below w.heap.size w w34) := ⟨h15_⟩
       clear h0_ h1_ h2_ h3_ h4_ h5_ h6_ h7_ h8_ h9_ h10_ h11_ h12_ h13_ h14_ h15_
       have hHeld : w34.cell? ⟨gb145, 0, none⟩ = some (.int .i64 a2_0) ∧ w34.cell? ⟨gb145, 1, none⟩ = some (.int .i64 a2_1) := hS_
       obtain ⟨Ao36, co36, eo36⟩ := Kd.R_slice HO159.out
       (first | subst eo36 | (injection eo36 with f1_ f2_ f3_; have f4_ := f1_.symm; have f5_ := f3_.symm; clear f1_ f2_ f3_; subst f4_; subst f5_))
       obtain ⟨Ao39, co39, eo39⟩ := Kd.R_slice HO163.out
       (first | subst eo39 | (injection eo39 with f1_ f2_ f3_; have f4_ := f1_.symm; have f5_ := f3_.symm; clear f1_ f2_ f3_; subst f4_; subst f5_))
       refine nra ?_
       refine one_ (i := 8) (N := none) #[true, true, true, true, true, true, true, true, true, false] rfl rfl (one_of HT_.out (by kernel_rfl)) (by decide) (fun K hK => ?_)
       have hs35 : w34.cell? ⟨gb164, 0, none⟩ = some (.int .i64 0) := (blk_cell BK164.out 0).trans rfl
       have hfs35 := blk_frozen BK164.out 0
       have hns35_0 := NB145_164.out
       have hns35_2 := NB165_164.out
       have hms35_0 := NB164_145.out
       have hms35_2 := NB164_165.out
       have hs37 : w34.cell? ⟨gb164, 1, none⟩ = some (.slice none 0 0) := (blk_cell BK164.out 1).trans rfl
       have hfs37 := blk_frozen BK164.out 1
       have hns37_0 := NB145_164.out
       have hns37_2 := NB165_164.out
       have hms37_0 := NB164_145.out
       have hms37_2 := NB164_165.out
       refine skip_ (w1 := ?_) (by rfl) rfl ?_ ?_
       rotate_left
       ·go_simp
        rfl
       refine hK.out _ _ ⟨((cell_far (p := ⟨gb164, _, none⟩) NB145_164.out _).trans (((cell_far (p := ⟨gb164, _, none⟩) NB145_164.out _).trans (hHeld.1)))), ((cell_far (p := ⟨gb164, _, none⟩) NB145_164.out _).trans (((cell_far (p := ⟨gb164, _, none⟩) NB145_164.out _).trans (hHeld.2))))⟩ (fun hHeld => ?_)
       clear hK K
       refine one_ (i := 9) (N := none) #[true, true, true, true, true, true, true, true, true, true] rfl rfl (one_of HT_.out (by kernel_rfl)) (by decide) (fun K hK => ?_)
       have hs38 : w34.cell? ⟨gb165, 0, none⟩ = some (.int .i64 0) := (blk_cell BK165.out 0).trans rfl
       have hfs38 := blk_frozen BK165.out 0
       have hns38_0 := NB145_165.out
       have hns38_1 := NB164_165.out
       have hms38_0 := NB165_145.out
       have hms38_1 := NB165_164.out
       have hs40 : w34.cell? ⟨gb165, 1, none⟩ = some (.slice none 0 0) := (blk_cell BK165.out 1).trans rfl
       have hfs40 := blk_frozen BK165.out 1
       have hns40_0 := NB145_165.out
       have hns40_1 := NB164_165.out
       have hms40_0 := NB165_145.out
       have hms40_1 := NB165_164.out
       refine skip_ (w1 := ?_) (by rfl) rfl ?_ ?_
       rotate_left
       ·go_simp
        rfl
       refine hK.out _ _ ⟨((cell_far (p := ⟨gb165, _, none⟩) NB145_165.out _).trans (((cell_far (p := ⟨gb165, _, none⟩) NB145_165.out _).trans (hHeld.1)))), ((cell_far (p := ⟨gb165, _, none⟩) NB145_165.out _).trans (((cell_far (p := ⟨gb165, _, none⟩) NB145_165.out _).trans (hHeld.2))))⟩ (fun hHeld => ?_)
       clear hK K
       refine done_ (done_of HT_.out (by kernel_rfl)) ?_
       go_upto_if 49 with (fail)
       go_cut [] (fun wc => ∃ (kq : Nat) (x165000_27 : Int) (x165001_27 : List Int) (x166000_27 : Int) (x166001_27 : List Int) (u165001 : Value) (u166001 : Value), Aside0 (bocagelaw13_CombOrder.j2 kq a1 t149 t153 x165000_27 x165001_27 x166000_27 x166001_27 = some r) ∧ Aside0 (kq ≤ kj20) ∧ Aside0 (Kd.V (Kd.int .i64) 3 wc w.heap.size (fun k_ => k_ ≠ gb145 ∧ k_ ≠ gb164 ∧ k_ ≠ gb165) u165001 x165001_27) ∧ Aside0 (Kd.V (Kd.int .i64) 3 wc w.heap.size (fun k_ => k_ ≠ gb145 ∧ k_ ≠ gb164 ∧ k_ ≠ gb165) u166001 x166001_27) ∧ Aside0 (wc.heap[gb145]? = some (.cells #[.int .i64 a2_0, .int .i64 a2_1] 33 (0, 0))) ∧ Aside0 (wc.heap[gb164]? = some (.cells #[.int .i64 x165000_27, u165001] 39 (0, 0))) ∧ Aside0 (wc.heap[gb165]? = some (.cells #[.int .i64 x166000_27, u166001] 39 (0, 0))) ∧ Aside0 (Below w.heap.size w wc))
       case first =>
        have H := HC28.out
        clear HC28
        by_cases c41 : a0 = 2
        ·rw [if_pos c41] at H
         have c41b0 : (a0 == 2) = true := beq_iff_eq.mpr c41
         have c41b1 : (a0 != 2) = false := bne_eq_false_iff_eq.mpr c41
         clear c41
         (first | rw [c41b0] | (simp only [i64_w, i32_w]; rw [c41b0]) | skip)
         replace H := Option.bind_eq_some_iff.mp H
         obtain ⟨⟨t166, t167⟩, A420, H⟩ := H
         (try (set_option simprocs false in dsimp only at H))
         have A42 := Aside0.mk A420
         clear A420
         replace H := Option.bind_eq_some_iff.mp H
         obtain ⟨⟨t170, t171⟩, A430, H⟩ := H
         (try (set_option simprocs false in dsimp only at H))
         have A43 := Aside0.mk A430
         clear A430
         have H' := Aside0.mk H
         clear H
         try go_wp2
         have n0_ : Aside0 (Kd.R (Kd.int .i64) 3 ((((w34.setCell ⟨gb164, 0, none⟩ (.int .i64 t156)).setCell ⟨gb164, 1, none⟩ (.slice Ao36 t157.length co36)).setCell ⟨gb165, 0, none⟩ (.int .i64 t160)).setCell ⟨gb165, 1, none⟩ (.slice Ao39 t161.length co39)) w.heap.size (fun k_ => some k_ ≠ (.slice Ao39 t161.length co39 : Value).ownBlock) (.slice Ao36 t157.length co36) t157) := ⟨by (with_reducible repeat (first | apply Kd.R_alloc | apply Kd.R_drewN | apply Kd.R_drew)); exact Kd.R_mono (Kd.R_far (p := ⟨gb165, 1, none⟩) (Kd.R_far (p := ⟨gb165, 0, none⟩) (Kd.R_far (p := ⟨gb164, 1, none⟩) (Kd.R_far (p := ⟨gb164, 0, none⟩) (Kd.R_types (Kd.R_types HO159.out BK164.out (by decide)) BK165.out (by decide)) (fun _ hk => hk.1.2) (.int .i64 t156)) (fun _ hk => hk.1.2) (.slice Ao36 t157.length co36)) (fun _ hk => hk.2) (.int .i64 t160)) (fun _ hk => hk.2) (.slice Ao39 t161.length co39)) (fun _ hk => hk.1.1)⟩
         have n1_ : Aside0 (Kd.R (Kd.int .i64) 3 ((((w34.setCell ⟨gb164, 0, none⟩ (.int .i64 t156)).setCell ⟨gb164, 1, none⟩ (.slice Ao36 t157.length co36)).setCell ⟨gb165, 0, none⟩ (.int .i64 t160)).setCell ⟨gb165, 1, none⟩ (.slice Ao39 t161.length co39)) w.heap.size (fun k_ => some k_ ≠ (.slice Ao36 t157.length co36 : Value).ownBlock) (.slice Ao39 t161.length co39) t161) := ⟨by (with_reducible repeat (first | apply Kd.R_alloc | apply Kd.R_drewN | apply Kd.R_drew)); exact Kd.R_mono (Kd.R_far (p := ⟨gb165, 1, none⟩) (Kd.R_far (p := ⟨gb165, 0, none⟩) (Kd.R_far (p := ⟨gb164, 1, none⟩) (Kd.R_far (p := ⟨gb164, 0, none⟩) (Kd.R_types (Kd.R_types HO163.out BK164.out (by decide)) BK165.out (by decide)) (fun _ hk => hk.1.2) (.int .i64 t156)) (fun _ hk => hk.1.2) (.slice Ao36 t157.length co36)) (fun _ hk => hk.2) (.int .i64 t160)) (fun _ hk => hk.2) (.slice Ao39 t161.length co39)) (fun _ hk => hk.1.1)⟩
         have n2_ : Aside0 (((((w34.setCell ⟨gb164, 0, none⟩ (.int .i64 t156)).setCell ⟨gb164, 1, none⟩ (.slice Ao36 t157.length co36)).setCell ⟨gb165, 0, none⟩ (.int .i64 t160)).setCell ⟨gb165, 1, none⟩ (.slice Ao39 t161.length co39)).heap[gb145]? = some (.cells #[.int .i64 a2_0, .int .i64 a2_1] 33 (0, 0))) := ⟨by (with_reducible repeat (first | refine blk_drewN ?_ _ | refine blk_drew ?_ | refine blk_alloc ?_ _)); refine blk_far ?_ NB145_165.out _; (with_reducible repeat (first | refine blk_drewN ?_ _ | refine blk_drew ?_ | refine blk_alloc ?_ _)); refine blk_far ?_ NB145_165.out _; (with_reducible repeat (first | refine blk_drewN ?_ _ | refine blk_drew ?_ | refine blk_alloc ?_ _)); refine blk_far ?_ NB145_164.out _; (with_reducible repeat (first | refine blk_drewN ?_ _ | refine blk_drew ?_ | refine blk_alloc ?_ _)); refine blk_far ?_ NB145_164.out _; (with_reducible repeat (first | refine blk_drewN ?_ _ | refine blk_drew ?_ | refine blk_alloc ?_ _)); exact BK145.out⟩
         have n3_ : Aside0 (((((w34.setCell ⟨gb164, 0, none⟩ (.int .i64 t156)).setCell ⟨gb164, 1, none⟩ (.slice Ao36 t157.length co36)).setCell ⟨gb165, 0, none⟩ (.int .i64 t160)).setCell ⟨gb165, 1, none⟩ (.slice Ao39 t161.length co39)).heap[gb164]? = some (.cells #[.int .i64 t156, .slice Ao36 t157.length co36] 39 (0, 0))) := ⟨by (with_reducible repeat (first | refine blk_drewN ?_ _ | refine blk_drew ?_ | refine blk_alloc ?_ _)); refine blk_far ?_ NB164_165.out _; (with_reducible repeat (first | refine blk_drewN ?_ _ | refine blk_drew ?_ | refine blk_alloc ?_ _)); refine blk_far ?_ NB164_165.out _; (with_reducible repeat (first | refine blk_drewN ?_ _ | refine blk_drew ?_ | refine blk_alloc ?_ _)); refine blk_put (cs := #[.int .i64 t156, .slice none 0 0]) ?_ 1 _ rfl; (with_reducible repeat (first | refine blk_drewN ?_ _ | refine blk_drew ?_ | refine blk_alloc ?_ _)); refine blk_put (cs := #[.int .i64 0, .slice none 0 0]) ?_ 0 _ rfl; (with_reducible repeat (first | refine blk_drewN ?_ _ | refine blk_drew ?_ | refine blk_alloc ?_ _)); exact BK164.out⟩
         have n4_ : Aside0 (((((w34.setCell ⟨gb164, 0, none⟩ (.int .i64 t156)).setCell ⟨gb164, 1, none⟩ (.slice Ao36 t157.length co36)).setCell ⟨gb165, 0, none⟩ (.int .i64 t160)).setCell ⟨gb165, 1, none⟩ (.slice Ao39 t161.length co39)).heap[gb165]? = some (.cells #[.int .i64 t160, .slice Ao39 t161.length co39] 39 (0, 0))) := ⟨by (with_reducible repeat (first | refine blk_drewN ?_ _ | refine blk_drew ?_ | refine blk_alloc ?_ _)); refine blk_put (cs := #[.int .i64 t160, .slice none 0 0]) ?_ 1 _ rfl; (with_reducible repeat (first | refine blk_drewN ?_ _ | refine blk_drew ?_ | refine blk_alloc ?_ _)); refine blk_put (cs := #[.int .i64 0, .slice none 0 0]) ?_ 0 _ rfl; (with_reducible repeat (first | refine blk_drewN ?_ _ | refine blk_drew ?_ | refine blk_alloc ?_ _)); refine blk_far ?_ NB165_164.out _; (with_reducible repeat (first | refine blk_drewN ?_ _ | refine blk_drew ?_ | refine blk_alloc ?_ _)); refine blk_far ?_ NB165_164.out _; (with_reducible repeat (first | refine blk_drewN ?_ _ | refine blk_drew ?_ | refine blk_alloc ?_ _)); exact BK165.out⟩
         have n5_ : Aside0 (Below w.heap.size w ((((w34.setCell ⟨gb164, 0, none⟩ (.int .i64 t156)).setCell ⟨gb164, 1, none⟩ (.slice Ao36 t157.length co36)).setCell ⟨gb165, 0, none⟩ (.int .i64 t160)).setCell ⟨gb165, 1, none⟩ (.slice Ao39 t161.length co39))) := ⟨bl HB⟩
         (try clear HO159)
         (try clear HO163)
         (try clear BK145)
         (try clear BK164)
         (try clear BK165)
         (try clear HB)
         generalize ((((w34.setCell ⟨gb164, 0, none⟩ (.int .i64 t156)).setCell ⟨gb164, 1, none⟩ (.slice Ao36 t157.length co36)).setCell ⟨gb165, 0, none⟩ (.int .i64 t160)).setCell ⟨gb165, 1, none⟩ (.slice Ao39 t161.length co39)) = w44 at n0_ n1_ n2_ n3_ n4_ n5_ ⊢
         have HO159 := n0_
         have HO163 := n1_
         have BK145 := n2_
         have BK164 := n3_
         have BK165 := n4_
         have HB := n5_
         clear n0_ n1_ n2_ n3_ n4_ n5_
         replace HO159 := Aside0.mk (Kd.R_drew HO159.out)
         replace HO163 := Aside0.mk (Kd.R_drew HO163.out)
         replace BK145 := Aside0.mk (blk_drew BK145.out)
         replace BK164 := Aside0.mk (blk_drew BK164.out)
         replace BK165 := Aside0.mk (blk_drew BK165.out)
         replace HB := Aside0.mk (below_drew1 HB.out)
         refine start_ (n := 6) (S := fun w' => w'.cell? ⟨gb164, 0, none⟩ = some (.int .i64 t156) ∧ w'.cell? ⟨gb164, 1, none⟩ = some (.slice Ao36 t157.length co36) ∧ w'.cell? ⟨gb165, 0, none⟩ = some (.int .i64 t160) ∧ w'.cell? ⟨gb165, 1, none⟩ = some (.slice Ao39 t161.length co39)) (ds := [4, 5]) #[false, false, false, false, false, false] (by kernel_rfl) rfl rfl (c2 BK164 (e2 BK165)) (fun hHeld => ?_)
         generalize w44.drew = w45 at HO159 HO163 BK145 BK164 BK165 HB hHeld ⊢
         refine tk4 0 (some 50) #[true, false, false, false, false, false] (by kernel_rfl) hHeld ?_
         refine tk4 2 (some 52) #[true, false, true, false, false, false] (by kernel_rfl) hHeld ?_
         refine one_ (i := 1) (N := some 51) #[true, true, true, false, false, false] rfl rfl (by kernel_rfl) (by decide) (fun K hK => ?_)
         refine goes_ Try.func24 (by kernel_rfl) rfl #[.agg #[.int .i64 t156, .slice Ao36 t157.length co36]] (by rfl) rfl rfl (by (try simp only [List.map_toArray, List.map_cons, List.map_nil]); first | done | rfl | (simp only [List.length_drop, List.length_take]; rfl)) ?_
         with_reducible refine (bocageref01_Minus.calls t156 (fun k_ => some k_ = (.slice Ao36 t157.length co36 : Value).ownBlock) _ _ t157 t166 t167 _ ?side1 A42.out).mono ?_
         (case side1 => exact Kd.R_V (Kd.R_tight rfl (Kd.R_types (Kd.R_types (Kd.R_types (HO159.out) BK145.out (by decide)) BK164.out (by decide)) BK165.out (by decide))))
         rintro e w46 ⟨v168, rfl, ho0, hb⟩
         refine ⟨_, rfl, ?_⟩
         have HO169 := Aside0.mk (Kd.V_lower (Kd.V_mono (ok' := fun k_ => some k_ ≠ (.slice Ao39 t161.length co39 : Value).ownBlock ∧ k_ ≠ gb145 ∧ k_ ≠ gb164 ∧ k_ ≠ gb165) ho0 (fun k_ hk_ => ⟨Or.elim hk_ (fun hs_ => ((Kd.R_types (Kd.R_types (Kd.R_types (HO159.out) BK145.out (by decide)) BK164.out (by decide)) BK165.out (by decide)).1 k_ hs_.symm).1.1.1) (fun hn_ => (Kd.fresh' (Kd.R_lt (kr HO163)) k_ hn_)), Or.elim hk_ (fun hs_ => ((Kd.R_types (Kd.R_types (Kd.R_types (HO159.out) BK145.out (by decide)) BK164.out (by decide)) BK165.out (by decide)).1 k_ hs_.symm).1.1.2) (fun hn_ => (Kd.freshB (bk BK145) k_ hn_)), Or.elim hk_ (fun hs_ => ((Kd.R_types (Kd.R_types (Kd.R_types (HO159.out) BK145.out (by decide)) BK164.out (by decide)) BK165.out (by decide)).1 k_ hs_.symm).1.2) (fun hn_ => (Kd.freshB (bk BK164) k_ hn_)), Or.elim hk_ (fun hs_ => ((Kd.R_types (Kd.R_types (Kd.R_types (HO159.out) BK145.out (by decide)) BK164.out (by decide)) BK165.out (by decide)).1 k_ hs_.symm).2) (fun hn_ => (Kd.freshB (bk BK165) k_ hn_))⟩)) (below_size (bl HB)))
         replace HO159 := krb HO159 hb
         replace HO163 := krb HO163 hb
         replace BK145 := bkb BK145 hb
         replace BK164 := bkb BK164 hb
         replace BK165 := bkb BK165 hb
         replace HB := bst HB hb
         (try clear hb)
         (try clear hb2)
         (try clear hk)
         (try clear hi)
         (try clear ho0)
         refine hK.out _ _ (c2 BK164 (e2 BK165)) (fun hHeld => ?_)
         clear hK K
         refine nrp 51 ?_
         refine one_ (i := 3) (N := some 53) #[true, true, true, true, false, false] rfl rfl (by kernel_rfl) (by decide) (fun K hK => ?_)
         refine goes_ Try.func24 (by kernel_rfl) rfl #[.agg #[.int .i64 t160, .slice Ao39 t161.length co39]] (by rfl) rfl rfl (by (try simp only [List.map_toArray, List.map_cons, List.map_nil]); first | done | rfl | (simp only [List.length_drop, List.length_take]; rfl)) ?_
         with_reducible refine (bocageref01_Minus.calls t160 (fun k_ => some k_ = (.slice Ao39 t161.length co39 : Value).ownBlock) _ _ t161 t170 t171 _ ?side1 A43.out).mono ?_
         (case side1 => exact Kd.R_V (Kd.R_tight rfl (Kd.R_types (Kd.R_types (Kd.R_types (HO163.out) BK145.out (by decide)) BK164.out (by decide)) BK165.out (by decide))))
         rintro e w47 ⟨v172, rfl, ho0, hb⟩
         refine ⟨_, rfl, ?_⟩
         replace HO169 := Aside0.mk (Kd.V_below (by (with_reducible repeat (first | apply Kd.V_alloc | apply Kd.V_drewN | apply Kd.V_drew)); exact HO169.out) hb)
         have HO173 := Aside0.mk (Kd.V_lower (Kd.V_mono (ok' := fun k_ => some k_ ≠ (.slice Ao36 t157.length co36 : Value).ownBlock ∧ k_ ≠ gb145 ∧ k_ ≠ gb164 ∧ k_ ≠ gb165) ho0 (fun k_ hk_ => ⟨Or.elim hk_ (fun hs_ => ((Kd.R_types (Kd.R_types (Kd.R_types (HO163.out) BK145.out (by decide)) BK164.out (by decide)) BK165.out (by decide)).1 k_ hs_.symm).1.1.1) (fun hn_ => (Kd.fresh' (Kd.R_lt (kr HO159)) k_ hn_)), Or.elim hk_ (fun hs_ => ((Kd.R_types (Kd.R_types (Kd.R_types (HO163.out) BK145.out (by decide)) BK164.out (by decide)) BK165.out (by decide)).1 k_ hs_.symm).1.1.2) (fun hn_ => (Kd.freshB (bk BK145) k_ hn_)), Or.elim hk_ (fun hs_ => ((Kd.R_types (Kd.R_types (Kd.R_types (HO163.out) BK145.out (by decide)) BK164.out (by decide)) BK165.out (by decide)).1 k_ hs_.symm).1.2) (fun hn_ => (Kd.freshB (bk BK164) k_ hn_)), Or.elim hk_ (fun hs_ => ((Kd.R_types (Kd.R_types (Kd.R_types (HO163.out) BK145.out (by decide)) BK164.out (by decide)) BK165.out (by decide)).1 k_ hs_.symm).2) (fun hn_ => (Kd.freshB (bk BK165) k_ hn_))⟩)) (below_size (bl HB)))
         replace HO159 := krb HO159 hb
         replace HO163 := krb HO163 hb
         replace BK145 := bkb BK145 hb
         replace BK164 := bkb BK164 hb
         replace BK165 := bkb BK165 hb
         replace HB := bst HB hb
         (try clear hb)
         (try clear ho0)
         obtain ⟨Ao49, co49, eo49⟩ := Kd.V_slice HO169.out
         (first | subst eo49 | (injection eo49 with f1_ f2_ f3_; have f4_ := f1_.symm; have f5_ := f3_.symm; clear f1_ f2_ f3_; subst f4_; subst f5_))
         obtain ⟨Ao52, co52, eo52⟩ := Kd.V_slice HO173.out
         (first | subst eo52 | (injection eo52 with f1_ f2_ f3_; have f4_ := f1_.symm; have f5_ := f3_.symm; clear f1_ f2_ f3_; subst f4_; subst f5_))
         refine hK.out _ _ (c2 BK164 (e2 BK165)) (fun hHeld => ?_)
         clear hK K
         refine nrp 53 ?_
         refine last_ (i := 4) (N := none) #[true, true, true, true, true, false] rfl rfl (by kernel_rfl) (by decide) (fun K hK => ?_)
         have hs48 : w47.cell? ⟨gb164, 0, none⟩ = some (.int .i64 t156) := (blk_cell BK164.out 0).trans rfl
         have hfs48 := blk_frozen BK164.out 0
         have hns48_0 := NB145_164.out
         have hns48_2 := NB165_164.out
         have hms48_0 := NB164_145.out
         have hms48_2 := NB164_165.out
         have hs50 : w47.cell? ⟨gb164, 1, none⟩ = some (.slice Ao36 t157.length co36) := (blk_cell BK164.out 1).trans rfl
         have hfs50 := blk_frozen BK164.out 1
         have hns50_0 := NB145_164.out
         have hns50_2 := NB165_164.out
         have hms50_0 := NB164_145.out
         have hms50_2 := NB164_165.out
         refine skip_ (w1 := ?_) (by rfl) rfl ?_ ?_
         rotate_left
         ·go_simp
          rfl
         refine hK.out _ _ ?_
         clear hK K
         refine last_ (i := 5) (N := none) #[true, true, true, true, true, true] rfl rfl (by kernel_rfl) (by decide) (fun K hK => ?_)
         have hs51 : w47.cell? ⟨gb165, 0, none⟩ = some (.int .i64 t160) := (blk_cell BK165.out 0).trans rfl
         have hfs51 := blk_frozen BK165.out 0
         have hns51_0 := NB145_165.out
         have hns51_1 := NB164_165.out
         have hms51_0 := NB165_145.out
         have hms51_1 := NB165_164.out
         have hs53 : w47.cell? ⟨gb165, 1, none⟩ = some (.slice Ao39 t161.length co39) := (blk_cell BK165.out 1).trans rfl
         have hfs53 := blk_frozen BK165.out 1
         have hns53_0 := NB145_165.out
         have hns53_1 := NB164_165.out
         have hms53_0 := NB165_145.out
         have hms53_1 := NB165_164.out
         refine skip_ (w1 := ?_) (by rfl) rfl ?_ ?_
         rotate_left
         ·go_simp
          rfl
         refine hK.out _ _ ?_
         clear hK K
         refine done_ (by kernel_rfl) ?_
         try go_wp2
         go_meet
         case rel => exact ⟨_, (t166), (t167), (t170), (t171), (.slice Ao49 t167.length co49), (.slice Ao52 t171.length co52), H', ⟨by have := HJ5.out; have := HJ20.out; first | omega | exact Nat.le_refl _⟩, ⟨by (with_reducible repeat (first | apply Kd.V_alloc | apply Kd.V_drewN | apply Kd.V_drew)); exact Kd.V_mono (Kd.V_far (p := ⟨gb165, 1, none⟩) (Kd.V_far (p := ⟨gb165, 0, none⟩) (Kd.V_far (p := ⟨gb164, 1, none⟩) (Kd.V_far (p := ⟨gb164, 0, none⟩) (Kd.V_mono (Kd.V_mono HO169.out (fun k_ hk => (⟨hk, hk.2.2.1⟩ : _ ∧ k_ ≠ gb164))) (fun k_ hk => (⟨hk, hk.1.2.2.2⟩ : _ ∧ k_ ≠ gb165))) (fun _ hk => hk.1.2) (.int .i64 t166)) (fun _ hk => hk.1.2) (.slice Ao49 t167.length co49)) (fun _ hk => hk.2) (.int .i64 t170)) (fun _ hk => hk.2) (.slice Ao52 t171.length co52)) (fun _ hk => ⟨hk.1.1.2.1, ⟨hk.1.1.2.2.1, hk.1.1.2.2.2⟩⟩)⟩, ⟨by (with_reducible repeat (first | apply Kd.V_alloc | apply Kd.V_drewN | apply Kd.V_drew)); exact Kd.V_mono (Kd.V_far (p := ⟨gb165, 1, none⟩) (Kd.V_far (p := ⟨gb165, 0, none⟩) (Kd.V_far (p := ⟨gb164, 1, none⟩) (Kd.V_far (p := ⟨gb164, 0, none⟩) (Kd.V_mono (Kd.V_mono HO173.out (fun k_ hk => (⟨hk, hk.2.2.1⟩ : _ ∧ k_ ≠ gb164))) (fun k_ hk => (⟨hk, hk.1.2.2.2⟩ : _ ∧ k_ ≠ gb165))) (fun _ hk => hk.1.2) (.int .i64 t166)) (fun _ hk => hk.1.2) (.slice Ao49 t167.length co49)) (fun _ hk => hk.2) (.int .i64 t170)) (fun _ hk => hk.2) (.slice Ao52 t171.length co52)) (fun _ hk => ⟨hk.1.1.2.1, ⟨hk.1.1.2.2.1, hk.1.1.2.2.2⟩⟩)⟩, ⟨by (with_reducible repeat (first | refine blk_drewN ?_ _ | refine blk_drew ?_ | refine blk_alloc ?_ _)); refine blk_far ?_ NB145_165.out _; (with_reducible repeat (first | refine blk_drewN ?_ _ | refine blk_drew ?_ | refine blk_alloc ?_ _)); refine blk_far ?_ NB145_165.out _; (with_reducible repeat (first | refine blk_drewN ?_ _ | refine blk_drew ?_ | refine blk_alloc ?_ _)); refine blk_far ?_ NB145_164.out _; (with_reducible repeat (first | refine blk_drewN ?_ _ | refine blk_drew ?_ | refine blk_alloc ?_ _)); refine blk_far ?_ NB145_164.out _; (with_reducible repeat (first | refine blk_drewN ?_ _ | refine blk_drew ?_ | refine blk_alloc ?_ _)); exact BK145.out⟩, ⟨by (with_reducible repeat (first | refine blk_drewN ?_ _ | refine blk_drew ?_ | refine blk_alloc ?_ _)); refine blk_far ?_ NB164_165.out _; (with_reducible repeat (first | refine blk_drewN ?_ _ | refine blk_drew ?_ | refine blk_alloc ?_ _)); refine blk_far ?_ NB164_165.out _; (with_reducible repeat (first | refine blk_drewN ?_ _ | refine blk_drew ?_ | refine blk_alloc ?_ _)); refine blk_put (cs := #[.int .i64 t166, .slice Ao36 t157.length co36]) ?_ 1 _ rfl; (with_reducible repeat (first | refine blk_drewN ?_ _ | refine blk_drew ?_ | refine blk_alloc ?_ _)); refine blk_put (cs := #[.int .i64 t156, .slice Ao36 t157.length co36]) ?_ 0 _ rfl; (with_reducible repeat (first | refine blk_drewN ?_ _ | refine blk_drew ?_ | refine blk_alloc ?_ _)); exact BK164.out⟩, ⟨by (with_reducible repeat (first | refine blk_drewN ?_ _ | refine blk_drew ?_ | refine blk_alloc ?_ _)); refine blk_put (cs := #[.int .i64 t170, .slice Ao39 t161.length co39]) ?_ 1 _ rfl; (with_reducible repeat (first | refine blk_drewN ?_ _ | refine blk_drew ?_ | refine blk_alloc ?_ _)); refine blk_put (cs := #[.int .i64 t160, .slice Ao39 t161.length co39]) ?_ 0 _ rfl; (with_reducible repeat (first | refine blk_drewN ?_ _ | refine blk_drew ?_ | refine blk_alloc ?_ _)); refine blk_far ?_ NB165_164.out _; (with_reducible repeat (first | refine blk_drewN ?_ _ | refine blk_drew ?_ | refine blk_alloc ?_ _)); refine blk_far ?_ NB165_164.out _; (with_reducible repeat (first | refine blk_drewN ?_ _ | refine blk_drew ?_ | refine blk_alloc ?_ _)); exact BK165.out⟩, ⟨bl HB⟩⟩
        ·rw [if_neg c41] at H
         have c41b0 : (a0 == 2) = false := beq_eq_false_iff_ne.mpr c41
         have c41b1 : (a0 != 2) = true := bne_iff_ne.mpr c41
         (first | rw [c41b0] | (simp only [i64_w, i32_w]; rw [c41b0]) | skip)
         have H' := Aside0.mk H
         clear H
         go_wp2
         go_meet
         case rel => exact ⟨_, (t156), (t157), (t160), (t161), (.slice Ao36 t157.length co36), (.slice Ao39 t161.length co39), H', ⟨by have := HJ5.out; have := HJ20.out; first | omega | exact Nat.le_refl _⟩, ⟨Kd.R_V (by (with_reducible repeat (first | apply Kd.R_alloc | apply Kd.R_drewN | apply Kd.R_drew)); exact Kd.R_mono (Kd.R_far (p := ⟨gb165, 1, none⟩) (Kd.R_far (p := ⟨gb165, 0, none⟩) (Kd.R_far (p := ⟨gb164, 1, none⟩) (Kd.R_far (p := ⟨gb164, 0, none⟩) (Kd.R_types (Kd.R_types (Kd.R_types (Kd.R_types (Kd.R_types HO159.out BK145.out (by decide)) BK164.out (by decide)) BK165.out (by decide)) BK164.out (by decide)) BK165.out (by decide)) (fun _ hk => hk.1.2) (.int .i64 t156)) (fun _ hk => hk.1.2) (.slice Ao36 t157.length co36)) (fun _ hk => hk.2) (.int .i64 t160)) (fun _ hk => hk.2) (.slice Ao39 t161.length co39)) (fun _ hk => ⟨hk.1.1.1.1.2, ⟨hk.1.1.1.2, hk.1.1.2⟩⟩))⟩, ⟨Kd.R_V (by (with_reducible repeat (first | apply Kd.R_alloc | apply Kd.R_drewN | apply Kd.R_drew)); exact Kd.R_mono (Kd.R_far (p := ⟨gb165, 1, none⟩) (Kd.R_far (p := ⟨gb165, 0, none⟩) (Kd.R_far (p := ⟨gb164, 1, none⟩) (Kd.R_far (p := ⟨gb164, 0, none⟩) (Kd.R_types (Kd.R_types (Kd.R_types (Kd.R_types (Kd.R_types HO163.out BK145.out (by decide)) BK164.out (by decide)) BK165.out (by decide)) BK164.out (by decide)) BK165.out (by decide)) (fun _ hk => hk.1.2) (.int .i64 t156)) (fun _ hk => hk.1.2) (.slice Ao36 t157.length co36)) (fun _ hk => hk.2) (.int .i64 t160)) (fun _ hk => hk.2) (.slice Ao39 t161.length co39)) (fun _ hk => ⟨hk.1.1.1.1.2, ⟨hk.1.1.1.2, hk.1.1.2⟩⟩))⟩, ⟨by (with_reducible repeat (first | refine blk_drewN ?_ _ | refine blk_drew ?_ | refine blk_alloc ?_ _)); refine blk_far ?_ NB145_165.out _; (with_reducible repeat (first | refine blk_drewN ?_ _ | refine blk_drew ?_ | refine blk_alloc ?_ _)); refine blk_far ?_ NB145_165.out _; (with_reducible repeat (first | refine blk_drewN ?_ _ | refine blk_drew ?_ | refine blk_alloc ?_ _)); refine blk_far ?_ NB145_164.out _; (with_reducible repeat (first | refine blk_drewN ?_ _ | refine blk_drew ?_ | refine blk_alloc ?_ _)); refine blk_far ?_ NB145_164.out _; (with_reducible repeat (first | refine blk_drewN ?_ _ | refine blk_drew ?_ | refine blk_alloc ?_ _)); exact BK145.out⟩, ⟨by (with_reducible repeat (first | refine blk_drewN ?_ _ | refine blk_drew ?_ | refine blk_alloc ?_ _)); refine blk_far ?_ NB164_165.out _; (with_reducible repeat (first | refine blk_drewN ?_ _ | refine blk_drew ?_ | refine blk_alloc ?_ _)); refine blk_far ?_ NB164_165.out _; (with_reducible repeat (first | refine blk_drewN ?_ _ | refine blk_drew ?_ | refine blk_alloc ?_ _)); refine blk_put (cs := #[.int .i64 t156, .slice none 0 0]) ?_ 1 _ rfl; (with_reducible repeat (first | refine blk_drewN ?_ _ | refine blk_drew ?_ | refine blk_alloc ?_ _)); refine blk_put (cs := #[.int .i64 0, .slice none 0 0]) ?_ 0 _ rfl; (with_reducible repeat (first | refine blk_drewN ?_ _ | refine blk_drew ?_ | refine blk_alloc ?_ _)); exact BK164.out⟩, ⟨by (with_reducible repeat (first | refine blk_drewN ?_ _ | refine blk_drew ?_ | refine blk_alloc ?_ _)); refine blk_put (cs := #[.int .i64 t160, .slice none 0 0]) ?_ 1 _ rfl; (with_reducible repeat (first | refine blk_drewN ?_ _ | refine blk_drew ?_ | refine blk_alloc ?_ _)); refine blk_put (cs := #[.int .i64 0, .slice none 0 0]) ?_ 0 _ rfl; (with_reducible repeat (first | refine blk_drewN ?_ _ | refine blk_drew ?_ | refine blk_alloc ?_ _)); refine blk_far ?_ NB165_164.out _; (with_reducible repeat (first | refine blk_drewN ?_ _ | refine blk_drew ?_ | refine blk_alloc ?_ _)); refine blk_far ?_ NB165_164.out _; (with_reducible repeat (first | refine blk_drewN ?_ _ | refine blk_drew ?_ | refine blk_alloc ?_ _)); exact BK165.out⟩, ⟨bl HB⟩⟩
       case rest =>
        clear HC28
        try clear c23
        obtain ⟨kq, x165000_27, x165001_27, x166000_27, x166001_27, u165001, u166001, HA, HJ27, HO_165001, HO_166001, BK145, BK164, BK165, HB⟩ := hcut
        cases kq with
        | zero => exact absurd HA.out (by simp [bocagelaw13_CombOrder.j2])
        | succ kj27 =>
         have H := HA.out
         clear HA
         simp only [bocagelaw13_CombOrder.j2] at H
         replace H := Option.bind_eq_some_iff.mp H
         obtain ⟨⟨t174, t175⟩, A540, H⟩ := H
         (try (set_option simprocs false in dsimp only at H))
         have A54 := Aside0.mk A540
         clear A540
         have HC55 := Aside0.mk H
         clear H
         go_upto_region 11 with (first | ((with_reducible refine gate_callee (f := 23) rfl ?_); refine gol (some 55) Try.func23 #[.int .i64 a1] ?_; (with_reducible refine (bocageref01_Of.calls kj27 a1 t174 t175 _ A54.out).mono ?_); rintro e w56 ⟨v176, rfl, ho0, hb⟩; refine ⟨_, rfl, ?_⟩; replace HO_165001 := Aside0.mk (Kd.V_elder' (by (with_reducible repeat (first | apply Kd.V_alloc | apply Kd.V_drewN | apply Kd.V_drew)); exact HO_165001.out) (Kd.R_base ho0) hb); replace HO_166001 := Aside0.mk (Kd.V_elder' (by (with_reducible repeat (first | apply Kd.V_alloc | apply Kd.V_drewN | apply Kd.V_drew)); exact HO_166001.out) (Kd.R_base ho0) hb); have HO177 := Aside0.mk (Kd.R_lower ho0 (below_size (bl HB))); replace BK145 := bkb BK145 hb; replace BK164 := bkb BK164 hb; replace BK165 := bkb BK165 hb; replace HB := bst HB hb; (try clear hb); (try clear hb2); (try clear hk); (try clear hi); (try clear ho0)) | ((with_reducible refine gate_dst (N := 11) rfl ?_); refine bxe (N := 11) (cs := #[.int .i64 0, .slice none 0 0]) (t := 39) ?_; intro gb178 hg w57 hbox hb; replace HO_165001 := Aside0.mk (Kd.V_below (Kd.V_elderB (by (with_reducible repeat (first | apply Kd.V_alloc | apply Kd.V_drewN | apply Kd.V_drew)); exact HO_165001.out) gb178 (Nat.le_of_eq hg.symm)) hb); replace HO_166001 := Aside0.mk (Kd.V_below (Kd.V_elderB (by (with_reducible repeat (first | apply Kd.V_alloc | apply Kd.V_drewN | apply Kd.V_drew)); exact HO_166001.out) gb178 (Nat.le_of_eq hg.symm)) hb); replace HO177 := krb HO177 hb; have BK178 := Aside0.mk (hbox); have GW178 := lsz hg HB; have GE178 := lsz hg HB; replace HB := bst HB hb; have NB145_178 := nlt hg BK145; have NB178_145 := ngt hg BK145; replace BK145 := bkb BK145 hb; have NB164_178 := nlt hg BK164; have NB178_164 := ngt hg BK164; replace BK164 := bkb BK164 hb; have NB165_178 := nlt hg BK165; have NB178_165 := ngt hg BK165; replace BK165 := bkb BK165 hb; clear hb hbox hg; have hnb58 := NB178_145.out; have hnc58 := NB145_178.out; have hnb59 := NB178_164.out; have hnc59 := NB164_178.out; have hnb60 := NB178_165.out; have hnc60 := NB165_178.out; obtain ⟨hcz61_0, hcz61_1⟩ := e2 BK178; obtain ⟨hfz61_0, hfz61_1⟩ := f2 BK178; obtain ⟨Ao62, co62, eo62⟩ := Kd.R_slice HO177.out; subst eo62))
         (try simp only [Act.put, List.setIfInBounds_toArray, List.set_cons_zero, List.set_cons_succ])
         go_cut [76] (fun v76 wc => ∃ (kq : Nat) (x76_54 : Bool), v76 = .bool x76_54 ∧ Aside0 (bocagelaw13_CombOrder.j3 kq t149 t153 x76_54 = some r) ∧ Aside0 (kq ≤ kj27) ∧ Aside0 (Kd.V (Kd.int .i64) 3 wc w.heap.size (fun k_ => some k_ ≠ ((.slice Ao62 t175.length co62) : Value).ownBlock ∧ k_ ≠ gb145 ∧ k_ ≠ gb164 ∧ k_ ≠ gb165 ∧ k_ ≠ gb178) u165001 x165001_27) ∧ Aside0 (Kd.V (Kd.int .i64) 3 wc w.heap.size (fun k_ => some k_ ≠ ((.slice Ao62 t175.length co62) : Value).ownBlock ∧ k_ ≠ gb145 ∧ k_ ≠ gb164 ∧ k_ ≠ gb165 ∧ k_ ≠ gb178) u166001 x166001_27) ∧ Aside0 (Kd.R (Kd.int .i64) 3 wc w.heap.size (fun _ => True) (.slice Ao62 t175.length co62) t175) ∧ Aside0 (wc.heap[gb145]? = some (.cells #[.int .i64 a2_0, .int .i64 a2_1] 33 (0, 0))) ∧ Aside0 (wc.heap[gb164]? = some (.cells #[.int .i64 x165000_27, u165001] 39 (0, 0))) ∧ Aside0 (wc.heap[gb165]? = some (.cells #[.int .i64 x166000_27, u166001] 39 (0, 0))) ∧ Aside0 (wc.heap[gb178]? = some (.cells #[.int .i64 t174, (.slice Ao62 t175.length co62)] 39 (0, 0))) ∧ Aside0 (Below w.heap.size w wc))
         case first =>
          have H := HC55.out
          clear HC55
          replace H := Option.bind_eq_some_iff.mp H
          obtain ⟨⟨t179, t180⟩, A630, H⟩ := H
          (try (set_option simprocs false in dsimp only at H))
          have A63 := Aside0.mk A630
          clear A630
          replace H := Option.bind_eq_some_iff.mp H
          obtain ⟨t183, A640, H⟩ := H
          (try (set_option simprocs false in dsimp only at H))
          have A64 := Aside0.mk A640
          clear A640
          by_cases c65 : t183 = true
          ·subst c65
           have H1 : ((bocageref01_Plus.f kj27 t174 t175 x166000_27 x166001_27).bind fun bt184 => ((bocageref01_Is.f kj27 bt184.1 bt184.2).bind fun t188 => (if t188 = true then ((bocageref01_Plus.f kj27 t174 t175 x165000_27 x165001_27).bind fun bt189 => ((bocageref01_Plus.f kj27 bt189.1 bt189.2 x166000_27 x166001_27).bind fun bt193 => ((bocageref01_Is.f kj27 bt193.1 bt193.2).bind fun t197 => (bocagelaw13_CombOrder.j3 kj27 t149 t153 (!t197))))) else (bocagelaw13_CombOrder.j3 kj27 t149 t153 true)))) = some r := by rw [if_pos rfl] at H; exact H
           clear H
           have H := H1
           clear H1
           replace H := Option.bind_eq_some_iff.mp H
           obtain ⟨⟨t184, t185⟩, A660, H⟩ := H
           (try (set_option simprocs false in dsimp only at H))
           have A66 := Aside0.mk A660
           clear A660
           replace H := Option.bind_eq_some_iff.mp H
           obtain ⟨t188, A670, H⟩ := H
           (try (set_option simprocs false in dsimp only at H))
           have A67 := Aside0.mk A670
           clear A670
           by_cases c68 : t188 = true
           ·subst c68
            have H1 : ((bocageref01_Plus.f kj27 t174 t175 x165000_27 x165001_27).bind fun bt189 => ((bocageref01_Plus.f kj27 bt189.1 bt189.2 x166000_27 x166001_27).bind fun bt193 => ((bocageref01_Is.f kj27 bt193.1 bt193.2).bind fun t197 => (bocagelaw13_CombOrder.j3 kj27 t149 t153 (!t197))))) = some r := by rw [if_pos rfl] at H; exact H
            clear H
            have H := H1
            clear H1
            replace H := Option.bind_eq_some_iff.mp H
            obtain ⟨⟨t189, t190⟩, A690, H⟩ := H
            (try (set_option simprocs false in dsimp only at H))
            have A69 := Aside0.mk A690
            clear A690
            replace H := Option.bind_eq_some_iff.mp H
            obtain ⟨⟨t193, t194⟩, A700, H⟩ := H
            (try (set_option simprocs false in dsimp only at H))
            have A70 := Aside0.mk A700
            clear A700
            replace H := Option.bind_eq_some_iff.mp H
            obtain ⟨t197, A710, H⟩ := H
            (try (set_option simprocs false in dsimp only at H))
            have A71 := Aside0.mk A710
            clear A710
            have H' := Aside0.mk H
            clear H
            try go_wp2
            have n0_ : Aside0 (Kd.V (Kd.int .i64) 3 ((w57.setCell ⟨gb178, 0, none⟩ (.int .i64 t174)).setCell ⟨gb178, 1, none⟩ (.slice Ao62 t175.length co62)) w.heap.size (fun k_ => some k_ ≠ (.slice Ao62 t175.length co62 : Value).ownBlock ∧ k_ ≠ gb145 ∧ k_ ≠ gb164 ∧ k_ ≠ gb165 ∧ k_ ≠ gb178) u165001 x165001_27) := ⟨by (with_reducible repeat (first | apply Kd.V_alloc | apply Kd.V_drewN | apply Kd.V_drew)); exact Kd.V_mono (Kd.V_far (p := ⟨gb178, 1, none⟩) (Kd.V_far (p := ⟨gb178, 0, none⟩) (Kd.V_mono HO_165001.out (fun k_ hk => (⟨hk, hk.2⟩ : _ ∧ k_ ≠ gb178))) (fun _ hk => hk.2) (.int .i64 t174)) (fun _ hk => hk.2) (.slice Ao62 t175.length co62)) (fun _ hk => ⟨hk.1.1.2, ⟨hk.1.1.1.1, ⟨hk.1.1.1.2.1, ⟨hk.1.1.1.2.2, hk.1.2⟩⟩⟩⟩)⟩
            have n1_ : Aside0 (Kd.V (Kd.int .i64) 3 ((w57.setCell ⟨gb178, 0, none⟩ (.int .i64 t174)).setCell ⟨gb178, 1, none⟩ (.slice Ao62 t175.length co62)) w.heap.size (fun k_ => some k_ ≠ (.slice Ao62 t175.length co62 : Value).ownBlock ∧ k_ ≠ gb145 ∧ k_ ≠ gb164 ∧ k_ ≠ gb165 ∧ k_ ≠ gb178) u166001 x166001_27) := ⟨by (with_reducible repeat (first | apply Kd.V_alloc | apply Kd.V_drewN | apply Kd.V_drew)); exact Kd.V_mono (Kd.V_far (p := ⟨gb178, 1, none⟩) (Kd.V_far (p := ⟨gb178, 0, none⟩) (Kd.V_mono HO_166001.out (fun k_ hk => (⟨hk, hk.2⟩ : _ ∧ k_ ≠ gb178))) (fun _ hk => hk.2) (.int .i64 t174)) (fun _ hk => hk.2) (.slice Ao62 t175.length co62)) (fun _ hk => ⟨hk.1.1.2, ⟨hk.1.1.1.1, ⟨hk.1.1.1.2.1, ⟨hk.1.1.1.2.2, hk.1.2⟩⟩⟩⟩)⟩
            have n2_ : Aside0 (Kd.R (Kd.int .i64) 3 ((w57.setCell ⟨gb178, 0, none⟩ (.int .i64 t174)).setCell ⟨gb178, 1, none⟩ (.slice Ao62 t175.length co62)) w.heap.size (fun _ => True) (.slice Ao62 t175.length co62) t175) := ⟨by (with_reducible repeat (first | apply Kd.R_alloc | apply Kd.R_drewN | apply Kd.R_drew)); exact Kd.R_mono (Kd.R_far (p := ⟨gb178, 1, none⟩) (Kd.R_far (p := ⟨gb178, 0, none⟩) (Kd.R_types HO177.out BK178.out (by decide)) (fun _ hk => hk.2) (.int .i64 t174)) (fun _ hk => hk.2) (.slice Ao62 t175.length co62)) (fun _ hk => trivial)⟩
            have n3_ : Aside0 (((w57.setCell ⟨gb178, 0, none⟩ (.int .i64 t174)).setCell ⟨gb178, 1, none⟩ (.slice Ao62 t175.length co62)).heap[gb145]? = some (.cells #[.int .i64 a2_0, .int .i64 a2_1] 33 (0, 0))) := ⟨by (with_reducible repeat (first | refine blk_drewN ?_ _ | refine blk_drew ?_ | refine blk_alloc ?_ _)); refine blk_far ?_ NB145_178.out _; (with_reducible repeat (first | refine blk_drewN ?_ _ | refine blk_drew ?_ | refine blk_alloc ?_ _)); refine blk_far ?_ NB145_178.out _; (with_reducible repeat (first | refine blk_drewN ?_ _ | refine blk_drew ?_ | refine blk_alloc ?_ _)); exact BK145.out⟩
            have n4_ : Aside0 (((w57.setCell ⟨gb178, 0, none⟩ (.int .i64 t174)).setCell ⟨gb178, 1, none⟩ (.slice Ao62 t175.length co62)).heap[gb164]? = some (.cells #[.int .i64 x165000_27, u165001] 39 (0, 0))) := ⟨by (with_reducible repeat (first | refine blk_drewN ?_ _ | refine blk_drew ?_ | refine blk_alloc ?_ _)); refine blk_far ?_ NB164_178.out _; (with_reducible repeat (first | refine blk_drewN ?_ _ | refine blk_drew ?_ | refine blk_alloc ?_ _)); refine blk_far ?_ NB164_178.out _; (with_reducible repeat (first | refine blk_drewN ?_ _ | refine blk_drew ?_ | refine blk_alloc ?_ _)); exact BK164.out⟩
            have n5_ : Aside0 (((w57.setCell ⟨gb178, 0, none⟩ (.int .i64 t174)).setCell ⟨gb178, 1, none⟩ (.slice Ao62 t175.length co62)).heap[gb165]? = some (.cells #[.int .i64 x166000_27, u166001] 39 (0, 0))) := ⟨by (with_reducible repeat (first | refine blk_drewN ?_ _ | refine blk_drew ?_ | refine blk_alloc ?_ _)); refine blk_far ?_ NB165_178.out _; (with_reducible repeat (first | refine blk_drewN ?_ _ | refine blk_drew ?_ | refine blk_alloc ?_ _)); refine blk_far ?_ NB165_178.out _; (with_reducible repeat (first | refine blk_drewN ?_ _ | refine blk_drew ?_ | refine blk_alloc ?_ _)); exact BK165.out⟩
            have n6_ : Aside0 (((w57.setCell ⟨gb178, 0, none⟩ (.int .i64 t174)).setCell ⟨gb178, 1, none⟩ (.slice Ao62 t175.length co62)).heap[gb178]? = some (.cells #[.int .i64 t174, .slice Ao62 t175.length co62] 39 (0, 0))) := ⟨by (with_reducible repeat (first | refine blk_drewN ?_ _ | refine blk_drew ?_ | refine blk_alloc ?_ _)); refine blk_put (cs := #[.int .i64 t174, .slice none 0 0]) ?_ 1 _ rfl; (with_reducible repeat (first | refine blk_drewN ?_ _ | refine blk_drew ?_ | refine blk_alloc ?_ _)); refine blk_put (cs := #[.int .i64 0, .slice none 0 0]) ?_ 0 _ rfl; (with_reducible repeat (first | refine blk_drewN ?_ _ | refine blk_drew ?_ | refine blk_alloc ?_ _)); exact BK178.out⟩
            have n7_ : Aside0 (Below w.heap.size w ((w57.setCell ⟨gb178, 0, none⟩ (.int .i64 t174)).setCell ⟨gb178, 1, none⟩ (.slice Ao62 t175.length co62))) := ⟨bl HB⟩
            (try clear HO_165001)
            (try clear HO_166001)
            (try clear HO177)
            (try clear BK145)
            (try clear BK164)
            (try clear BK165)
            (try clear BK178)
            (try clear HB)
            generalize ((w57.setCell ⟨gb178, 0, none⟩ (.int .i64 t174)).setCell ⟨gb178, 1, none⟩ (.slice Ao62 t175.length co62)) = w72 at n0_ n1_ n2_ n3_ n4_ n5_ n6_ n7_ ⊢
            have HO_165001 := n0_
            have HO_166001 := n1_
            have HO177 := n2_
            have BK145 := n3_
            have BK164 := n4_
            have BK165 := n5_
            have BK178 := n6_
            have HB := n7_
            clear n0_ n1_ n2_ n3_ n4_ n5_ n6_ n7_
            replace HO_165001 := Aside0.mk (Kd.V_drew HO_165001.out)
            replace HO_166001 := Aside0.mk (Kd.V_drew HO_166001.out)
            replace HO177 := Aside0.mk (Kd.R_drew HO177.out)
            replace BK145 := Aside0.mk (blk_drew BK145.out)
            replace BK164 := Aside0.mk (blk_drew BK164.out)
            replace BK165 := Aside0.mk (blk_drew BK165.out)
            replace BK178 := Aside0.mk (blk_drew BK178.out)
            replace HB := Aside0.mk (below_drew1 HB.out)
            obtain ⟨Ao74, co74, eo74⟩ := Kd.V_slice HO_165001.out
            (first | subst eo74 | (injection eo74 with f1_ f2_ f3_; have f4_ := f1_.symm; have f5_ := f3_.symm; clear f1_ f2_ f3_; subst f4_; subst f5_))
            refine start_ (n := 21) (S := fun w' => w'.cell? ⟨gb178, 0, none⟩ = some (.int .i64 t174) ∧ w'.cell? ⟨gb178, 1, none⟩ = some (.slice Ao62 t175.length co62) ∧ w'.cell? ⟨gb164, 0, none⟩ = some (.int .i64 x165000_27) ∧ w'.cell? ⟨gb164, 1, none⟩ = some (.slice Ao74 x165001_27.length co74) ∧ w'.cell? ⟨gb165, 0, none⟩ = some (.int .i64 x166000_27) ∧ w'.cell? ⟨gb165, 1, none⟩ = some (u166001)) (ds := []) #[false, false, false, false, false, false, false, false, false, false, false, false, false, false, false, false, false, false, false, false, false] (by kernel_rfl) rfl rfl (c2 BK178 (c2 BK164 (e2 BK165))) (fun hHeld => ?_); refine with_tabW bocagelaw13_CombOrder.tab11 bocagelaw13_CombOrder.bits11 (fun HT_ HW_ => ?_)
            generalize w72.drew = w73 at HO_165001 HO_166001 HO177 BK145 BK164 BK165 BK178 HB hHeld ⊢
            refine tk6 0 (some 56) #[true, false, false, false, false, false, false, false, false, false, false, false, false, false, false, false, false, false, false, false, false] (take_ofW HT_.out HW_.out (by kernel_rfl)) hHeld ?_
            refine tk6 1 (some 57) #[true, true, false, false, false, false, false, false, false, false, false, false, false, false, false, false, false, false, false, false, false] (take_ofW HT_.out HW_.out (by kernel_rfl)) hHeld ?_
            refine one_ (i := 2) (N := some 58) #[true, true, true, false, false, false, false, false, false, false, false, false, false, false, false, false, false, false, false, false, false] rfl rfl (one_of HT_.out (by kernel_rfl)) (by decide) (fun K hK => ?_)
            refine goes_ Try.func26 (by kernel_rfl) rfl #[.agg #[.int .i64 t174, .slice Ao62 t175.length co62], .agg #[.int .i64 x165000_27, .slice Ao74 x165001_27.length co74]] (by rfl) rfl rfl (by (try simp only [List.map_toArray, List.map_cons, List.map_nil]); first | done | rfl | (simp only [List.length_drop, List.length_take]; rfl)) ?_
            with_reducible refine (bocageref01_Plus.calls kj27 t174 (fun k_ => some k_ = (.slice Ao62 t175.length co62 : Value).ownBlock) _ _ t175 x165000_27 (fun k_ => (some k_ ≠ (.slice Ao62 t175.length co62 : Value).ownBlock ∧ (k_ ≠ gb145 ∧ (k_ ≠ gb164 ∧ (k_ ≠ gb165 ∧ k_ ≠ gb178))))) _ _ x165001_27 t179 t180 _ ?side1 ?side2 A63.out).mono ?_
            (case side1 => exact Kd.R_V (Kd.R_tight rfl (Kd.R_types (Kd.R_types (Kd.R_types (Kd.R_types (HO177.out) BK145.out (by decide)) BK164.out (by decide)) BK165.out (by decide)) BK178.out (by decide))))
            (case side2 => exact HO_165001.out)
            rintro e w75 ⟨v181, rfl, ho0, hb⟩
            refine ⟨_, rfl, ?_⟩
            replace HO_165001 := Aside0.mk (Kd.V_below (by (with_reducible repeat (first | apply Kd.V_alloc | apply Kd.V_drewN | apply Kd.V_drew)); exact HO_165001.out) hb)
            replace HO_166001 := Aside0.mk (Kd.V_below (by (with_reducible repeat (first | apply Kd.V_alloc | apply Kd.V_drewN | apply Kd.V_drew)); exact HO_166001.out) hb)
            have HO182 := Aside0.mk (Kd.V_lower (Kd.V_mono (ok' := fun k_ => k_ ≠ gb145 ∧ k_ ≠ gb164 ∧ k_ ≠ gb165 ∧ k_ ≠ gb178) ho0 (fun k_ hk_ => ⟨Or.elim hk_ (fun hs_ => Or.elim hs_ (fun hs_ => ((Kd.R_types (Kd.R_types (Kd.R_types (Kd.R_types (HO177.out) BK145.out (by decide)) BK164.out (by decide)) BK165.out (by decide)) BK178.out (by decide)).1 k_ hs_.symm).1.1.1.2) (fun hs_ => hs_.2.1)) (fun hn_ => (Kd.freshB (bk BK145) k_ hn_)), Or.elim hk_ (fun hs_ => Or.elim hs_ (fun hs_ => ((Kd.R_types (Kd.R_types (Kd.R_types (Kd.R_types (HO177.out) BK145.out (by decide)) BK164.out (by decide)) BK165.out (by decide)) BK178.out (by decide)).1 k_ hs_.symm).1.1.2) (fun hs_ => hs_.2.2.1)) (fun hn_ => (Kd.freshB (bk BK164) k_ hn_)), Or.elim hk_ (fun hs_ => Or.elim hs_ (fun hs_ => ((Kd.R_types (Kd.R_types (Kd.R_types (Kd.R_types (HO177.out) BK145.out (by decide)) BK164.out (by decide)) BK165.out (by decide)) BK178.out (by decide)).1 k_ hs_.symm).1.2) (fun hs_ => hs_.2.2.2.1)) (fun hn_ => (Kd.freshB (bk BK165) k_ hn_)), Or.elim hk_ (fun hs_ => Or.elim hs_ (fun hs_ => ((Kd.R_types (Kd.R_types (Kd.R_types (Kd.R_types (HO177.out) BK145.out (by decide)) BK164.out (by decide)) BK165.out (by decide)) BK178.out (by decide)).1 k_ hs_.symm).2) (fun hs_ => hs_.2.2.2.2)) (fun hn_ => (Kd.freshB (bk BK178) k_ hn_))⟩)) (below_size (bl HB)))
            replace HO177 := krb HO177 hb
            replace BK145 := bkb BK145 hb
            replace BK164 := bkb BK164 hb
            replace BK165 := bkb BK165 hb
            replace BK178 := bkb BK178 hb
            replace HB := bst HB hb
            (try clear hb)
            (try clear hb2)
            (try clear hk)
            (try clear hi)
            (try clear ho0)
            obtain ⟨Ao76, co76, eo76⟩ := Kd.V_slice HO182.out
            (first | subst eo76 | (injection eo76 with f1_ f2_ f3_; have f4_ := f1_.symm; have f5_ := f3_.symm; clear f1_ f2_ f3_; subst f4_; subst f5_))
            refine hK.out _ _ (c2 BK178 (c2 BK164 (e2 BK165))) (fun hHeld => ?_)
            clear hK K
            refine nrp 58 ?_
            refine one_ (i := 3) (N := some 59) #[true, true, true, true, false, false, false, false, false, false, false, false, false, false, false, false, false, false, false, false, false] rfl rfl (one_of HT_.out (by kernel_rfl)) (by decide) (fun K hK => ?_)
            refine goes_ Try.func25 (by kernel_rfl) rfl #[.agg #[.int .i64 t179, .slice Ao76 t180.length co76]] (by rfl) rfl rfl (by (try simp only [List.map_toArray, List.map_cons, List.map_nil]); first | done | rfl | (simp only [List.length_drop, List.length_take]; rfl)) ?_
            with_reducible refine (bocageref01_Is.calls kj27 t179 _ _ t180 true _ ?side1 ?side2 A64.out).mono ?_
            (case side1 => repeat (first | exact (Kd.V_reads' HO182.out).2.2 | (with_reducible refine Kd.C_alloc ?_ _) | (with_reducible refine Kd.C_drewN ?_ _) | (with_reducible refine Kd.C_drew ?_)))
            (case side2 => exact (Kd.V_reads' HO182.out).2.1)
            rintro e w77 ⟨rfl, hb⟩
            refine ⟨_, rfl, ?_⟩
            replace HO_165001 := Aside0.mk (Kd.V_below (by (with_reducible repeat (first | apply Kd.V_alloc | apply Kd.V_drewN | apply Kd.V_drew)); exact HO_165001.out) hb)
            replace HO_166001 := Aside0.mk (Kd.V_below (by (with_reducible repeat (first | apply Kd.V_alloc | apply Kd.V_drewN | apply Kd.V_drew)); exact HO_166001.out) hb)
            replace HO177 := krb HO177 hb
            replace HO182 := Aside0.mk (Kd.V_below (by (with_reducible repeat (first | apply Kd.V_alloc | apply Kd.V_drewN | apply Kd.V_drew)); exact HO182.out) hb)
            replace BK145 := bkb BK145 hb
            replace BK164 := bkb BK164 hb
            replace BK165 := bkb BK165 hb
            replace BK178 := bkb BK178 hb
            replace HB := bst HB hb
            (try clear hb)
            obtain ⟨Ao78, co78, eo78⟩ := Kd.V_slice HO_166001.out
            (first | subst eo78 | (injection eo78 with f1_ f2_ f3_; have f4_ := f1_.symm; have f5_ := f3_.symm; clear f1_ f2_ f3_; subst f4_; subst f5_))
            refine hK.out _ _ (c2 BK178 (c2 BK164 (e2 BK165))) (fun hHeld => ?_)
            clear hK K
            refine nrp 59 ?_
            refine pu 4 (some 60) #[true, true, true, true, true, false, false, false, false, false, false, false, false, false, false, false, false, false, false, false, false] (any_of HT_.out (by kernel_rfl)) ?_
            refine pu 5 (some 61) #[true, true, true, true, true, true, false, false, false, false, false, false, false, false, false, false, false, false, false, false, false] (any_of HT_.out (by kernel_rfl)) ?_
            refine tk6 6 (some 62) #[true, true, true, true, true, true, true, false, false, false, false, false, false, false, false, false, false, false, false, false, false] (take_ofW HT_.out HW_.out (by kernel_rfl)) hHeld ?_
            refine tk6 7 (some 63) #[true, true, true, true, true, true, true, true, false, false, false, false, false, false, false, false, false, false, false, false, false] (take_ofW HT_.out HW_.out (by kernel_rfl)) hHeld ?_
            refine one_ (i := 8) (N := some 64) #[true, true, true, true, true, true, true, true, true, false, false, false, false, false, false, false, false, false, false, false, false] rfl rfl (one_of HT_.out (by kernel_rfl)) (by decide) (fun K hK => ?_)
            refine goes_ Try.func26 (by kernel_rfl) rfl #[.agg #[.int .i64 t174, .slice Ao62 t175.length co62], .agg #[.int .i64 x166000_27, .slice Ao78 x166001_27.length co78]] (by rfl) rfl rfl (by (try simp only [List.map_toArray, List.map_cons, List.map_nil]); first | done | rfl | (simp only [List.length_drop, List.length_take]; rfl)) ?_
            with_reducible refine (bocageref01_Plus.calls kj27 t174 (fun k_ => some k_ = (.slice Ao62 t175.length co62 : Value).ownBlock) _ _ t175 x166000_27 (fun k_ => (some k_ ≠ (.slice Ao62 t175.length co62 : Value).ownBlock ∧ (k_ ≠ gb145 ∧ (k_ ≠ gb164 ∧ (k_ ≠ gb165 ∧ k_ ≠ gb178))))) _ _ x166001_27 t184 t185 _ ?side1 ?side2 A66.out).mono ?_
            (case side1 => exact Kd.R_V (Kd.R_tight rfl (Kd.R_types (Kd.R_types (Kd.R_types (Kd.R_types (HO177.out) BK145.out (by decide)) BK164.out (by decide)) BK165.out (by decide)) BK178.out (by decide))))
            (case side2 => exact HO_166001.out)
            rintro e w79 ⟨v186, rfl, ho0, hb⟩
            refine ⟨_, rfl, ?_⟩
            replace HO_165001 := Aside0.mk (Kd.V_below (by (with_reducible repeat (first | apply Kd.V_alloc | apply Kd.V_drewN | apply Kd.V_drew)); exact HO_165001.out) hb)
            replace HO_166001 := Aside0.mk (Kd.V_below (by (with_reducible repeat (first | apply Kd.V_alloc | apply Kd.V_drewN | apply Kd.V_drew)); exact HO_166001.out) hb)
            replace HO182 := Aside0.mk (Kd.V_below (by (with_reducible repeat (first | apply Kd.V_alloc | apply Kd.V_drewN | apply Kd.V_drew)); exact HO182.out) hb)
            have HO187 := Aside0.mk (Kd.V_lower (Kd.V_mono (ok' := fun k_ => k_ ≠ gb145 ∧ k_ ≠ gb164 ∧ k_ ≠ gb165 ∧ k_ ≠ gb178) ho0 (fun k_ hk_ => ⟨Or.elim hk_ (fun hs_ => Or.elim hs_ (fun hs_ => ((Kd.R_types (Kd.R_types (Kd.R_types (Kd.R_types (HO177.out) BK145.out (by decide)) BK164.out (by decide)) BK165.out (by decide)) BK178.out (by decide)).1 k_ hs_.symm).1.1.1.2) (fun hs_ => hs_.2.1)) (fun hn_ => (Kd.freshB (bk BK145) k_ hn_)), Or.elim hk_ (fun hs_ => Or.elim hs_ (fun hs_ => ((Kd.R_types (Kd.R_types (Kd.R_types (Kd.R_types (HO177.out) BK145.out (by decide)) BK164.out (by decide)) BK165.out (by decide)) BK178.out (by decide)).1 k_ hs_.symm).1.1.2) (fun hs_ => hs_.2.2.1)) (fun hn_ => (Kd.freshB (bk BK164) k_ hn_)), Or.elim hk_ (fun hs_ => Or.elim hs_ (fun hs_ => ((Kd.R_types (Kd.R_types (Kd.R_types (Kd.R_types (HO177.out) BK145.out (by decide)) BK164.out (by decide)) BK165.out (by decide)) BK178.out (by decide)).1 k_ hs_.symm).1.2) (fun hs_ => hs_.2.2.2.1)) (fun hn_ => (Kd.freshB (bk BK165) k_ hn_)), Or.elim hk_ (fun hs_ => Or.elim hs_ (fun hs_ => ((Kd.R_types (Kd.R_types (Kd.R_types (Kd.R_types (HO177.out) BK145.out (by decide)) BK164.out (by decide)) BK165.out (by decide)) BK178.out (by decide)).1 k_ hs_.symm).2) (fun hs_ => hs_.2.2.2.2)) (fun hn_ => (Kd.freshB (bk BK178) k_ hn_))⟩)) (below_size (bl HB)))
            replace HO177 := krb HO177 hb
            replace BK145 := bkb BK145 hb
            replace BK164 := bkb BK164 hb
            replace BK165 := bkb BK165 hb
            replace BK178 := bkb BK178 hb
            replace HB := bst HB hb
            (try clear hb)
            (try clear ho0)
            obtain ⟨Ao80, co80, eo80⟩ := Kd.V_slice HO187.out
            (first | subst eo80 | (injection eo80 with f1_ f2_ f3_; have f4_ := f1_.symm; have f5_ := f3_.symm; clear f1_ f2_ f3_; subst f4_; subst f5_))
            refine hK.out _ _ (c2 BK178 (c2 BK164 (e2 BK165))) (fun hHeld => ?_)
            clear hK K
            refine nrp 64 ?_
            refine one_ (i := 9) (N := some 65) #[true, true, true, true, true, true, true, true, true, true, false, false, false, false, false, false, false, false, false, false, false] rfl rfl (one_of HT_.out (by kernel_rfl)) (by decide) (fun K hK => ?_)
            refine goes_ Try.func25 (by kernel_rfl) rfl #[.agg #[.int .i64 t184, .slice Ao80 t185.length co80]] (by rfl) rfl rfl (by (try simp only [List.map_toArray, List.map_cons, List.map_nil]); first | done | rfl | (simp only [List.length_drop, List.length_take]; rfl)) ?_
            with_reducible refine (bocageref01_Is.calls kj27 t184 _ _ t185 true _ ?side1 ?side2 A67.out).mono ?_
            (case side1 => repeat (first | exact (Kd.V_reads' HO187.out).2.2 | (with_reducible refine Kd.C_alloc ?_ _) | (with_reducible refine Kd.C_drewN ?_ _) | (with_reducible refine Kd.C_drew ?_)))
            (case side2 => exact (Kd.V_reads' HO187.out).2.1)
            rintro e w81 ⟨rfl, hb⟩
            refine ⟨_, rfl, ?_⟩
            replace HO_165001 := Aside0.mk (Kd.V_below (by (with_reducible repeat (first | apply Kd.V_alloc | apply Kd.V_drewN | apply Kd.V_drew)); exact HO_165001.out) hb)
            replace HO_166001 := Aside0.mk (Kd.V_below (by (with_reducible repeat (first | apply Kd.V_alloc | apply Kd.V_drewN | apply Kd.V_drew)); exact HO_166001.out) hb)
            replace HO177 := krb HO177 hb
            replace HO182 := Aside0.mk (Kd.V_below (by (with_reducible repeat (first | apply Kd.V_alloc | apply Kd.V_drewN | apply Kd.V_drew)); exact HO182.out) hb)
            replace HO187 := Aside0.mk (Kd.V_below (by (with_reducible repeat (first | apply Kd.V_alloc | apply Kd.V_drewN | apply Kd.V_drew)); exact HO187.out) hb)
            replace BK145 := bkb BK145 hb
            replace BK164 := bkb BK164 hb
            replace BK165 := bkb BK165 hb
            replace BK178 := bkb BK178 hb
            replace HB := bst HB hb
            (try clear hb)
            refine hK.out _ _ (c2 BK178 (c2 BK164 (e2 BK165))) (fun hHeld => ?_)
            clear hK K
            refine nrp 65 ?_
            refine pu 10 (some 66) #[true, true, true, true, true, true, true, true, true, true, true, false, false, false, false, false, false, false, false, false, false] (any_of HT_.out (by kernel_rfl)) ?_
            refine pu 11 (some 67) #[true, true, true, true, true, true, true, true, true, true, true, true, false, false, false, false, false, false, false, false, false] (any_of HT_.out (by kernel_rfl)) ?_
            refine pu 12 (some 68) #[true, true, true, true, true, true, true, true, true, true, true, true, true, false, false, false, false, false, false, false, false] (any_of HT_.out (by kernel_rfl)) ?_
            refine tk6 13 (some 69) #[true, true, true, true, true, true, true, true, true, true, true, true, true, true, false, false, false, false, false, false, false] (take_ofW HT_.out HW_.out (by kernel_rfl)) hHeld ?_
            refine tk6 14 (some 70) #[true, true, true, true, true, true, true, true, true, true, true, true, true, true, true, false, false, false, false, false, false] (take_ofW HT_.out HW_.out (by kernel_rfl)) hHeld ?_
            refine tk6 16 (some 72) #[true, true, true, true, true, true, true, true, true, true, true, true, true, true, true, false, true, false, false, false, false] (take_ofW HT_.out HW_.out (by kernel_rfl)) hHeld ?_
            refine one_ (i := 15) (N := some 71) #[true, true, true, true, true, true, true, true, true, true, true, true, true, true, true, true, true, false, false, false, false] rfl rfl (one_of HT_.out (by kernel_rfl)) (by decide) (fun K hK => ?_)
            refine goes_ Try.func26 (by kernel_rfl) rfl #[.agg #[.int .i64 t174, .slice Ao62 t175.length co62], .agg #[.int .i64 x165000_27, .slice Ao74 x165001_27.length co74]] (by rfl) rfl rfl (by (try simp only [List.map_toArray, List.map_cons, List.map_nil]); first | done | rfl | (simp only [List.length_drop, List.length_take]; rfl)) ?_
            with_reducible refine (bocageref01_Plus.calls kj27 t174 (fun k_ => some k_ = (.slice Ao62 t175.length co62 : Value).ownBlock) _ _ t175 x165000_27 (fun k_ => (some k_ ≠ (.slice Ao62 t175.length co62 : Value).ownBlock ∧ (k_ ≠ gb145 ∧ (k_ ≠ gb164 ∧ (k_ ≠ gb165 ∧ k_ ≠ gb178))))) _ _ x165001_27 t189 t190 _ ?side1 ?side2 A69.out).mono ?_
            (case side1 => exact Kd.R_V (Kd.R_tight rfl (Kd.R_types (Kd.R_types (Kd.R_types (Kd.R_types (HO177.out) BK145.out (by decide)) BK164.out (by decide)) BK165.out (by decide)) BK178.out (by decide))))
            (case side2 => exact HO_165001.out)
            rintro e w82 ⟨v191, rfl, ho0, hb⟩
            refine ⟨_, rfl, ?_⟩
            replace HO_165001 := Aside0.mk (Kd.V_below (by (with_reducible repeat (first | apply Kd.V_alloc | apply Kd.V_drewN | apply Kd.V_drew)); exact HO_165001.out) hb)
            replace HO_166001 := Aside0.mk (Kd.V_below (by (with_reducible repeat (first | apply Kd.V_alloc | apply Kd.V_drewN | apply Kd.V_drew)); exact HO_166001.out) hb)
            replace HO182 := Aside0.mk (Kd.V_below (by (with_reducible repeat (first | apply Kd.V_alloc | apply Kd.V_drewN | apply Kd.V_drew)); exact HO182.out) hb)
            replace HO187 := Aside0.mk (Kd.V_below (by (with_reducible repeat (first | apply Kd.V_alloc | apply Kd.V_drewN | apply Kd.V_drew)); exact HO187.out) hb)
            have HO192 := Aside0.mk (Kd.V_lower (Kd.V_mono (ok' := fun k_ => k_ ≠ gb145 ∧ k_ ≠ gb164 ∧ k_ ≠ gb165 ∧ k_ ≠ gb178) ho0 (fun k_ hk_ => ⟨Or.elim hk_ (fun hs_ => Or.elim hs_ (fun hs_ => ((Kd.R_types (Kd.R_types (Kd.R_types (Kd.R_types (HO177.out) BK145.out (by decide)) BK164.out (by decide)) BK165.out (by decide)) BK178.out (by decide)).1 k_ hs_.symm).1.1.1.2) (fun hs_ => hs_.2.1)) (fun hn_ => (Kd.freshB (bk BK145) k_ hn_)), Or.elim hk_ (fun hs_ => Or.elim hs_ (fun hs_ => ((Kd.R_types (Kd.R_types (Kd.R_types (Kd.R_types (HO177.out) BK145.out (by decide)) BK164.out (by decide)) BK165.out (by decide)) BK178.out (by decide)).1 k_ hs_.symm).1.1.2) (fun hs_ => hs_.2.2.1)) (fun hn_ => (Kd.freshB (bk BK164) k_ hn_)), Or.elim hk_ (fun hs_ => Or.elim hs_ (fun hs_ => ((Kd.R_types (Kd.R_types (Kd.R_types (Kd.R_types (HO177.out) BK145.out (by decide)) BK164.out (by decide)) BK165.out (by decide)) BK178.out (by decide)).1 k_ hs_.symm).1.2) (fun hs_ => hs_.2.2.2.1)) (fun hn_ => (Kd.freshB (bk BK165) k_ hn_)), Or.elim hk_ (fun hs_ => Or.elim hs_ (fun hs_ => ((Kd.R_types (Kd.R_types (Kd.R_types (Kd.R_types (HO177.out) BK145.out (by decide)) BK164.out (by decide)) BK165.out (by decide)) BK178.out (by decide)).1 k_ hs_.symm).2) (fun hs_ => hs_.2.2.2.2)) (fun hn_ => (Kd.freshB (bk BK178) k_ hn_))⟩)) (below_size (bl HB)))
            replace HO177 := krb HO177 hb
            replace BK145 := bkb BK145 hb
            replace BK164 := bkb BK164 hb
            replace BK165 := bkb BK165 hb
            replace BK178 := bkb BK178 hb
            replace HB := bst HB hb
            (try clear hb)
            (try clear ho0)
            obtain ⟨Ao83, co83, eo83⟩ := Kd.V_slice HO192.out
            (first | subst eo83 | (injection eo83 with f1_ f2_ f3_; have f4_ := f1_.symm; have f5_ := f3_.symm; clear f1_ f2_ f3_; subst f4_; subst f5_))
            refine hK.out _ _ (c2 BK178 (c2 BK164 (e2 BK165))) (fun hHeld => ?_)
            clear hK K
            refine nrp 71 ?_
            refine one_ (i := 17) (N := some 73) #[true, true, true, true, true, true, true, true, true, true, true, true, true, true, true, true, true, true, false, false, false] rfl rfl (one_of HT_.out (by kernel_rfl)) (by decide) (fun K hK => ?_)
            refine goes_ Try.func26 (by kernel_rfl) rfl #[.agg #[.int .i64 t189, .slice Ao83 t190.length co83], .agg #[.int .i64 x166000_27, .slice Ao78 x166001_27.length co78]] (by rfl) rfl rfl (by (try simp only [List.map_toArray, List.map_cons, List.map_nil]); first | done | rfl | (simp only [List.length_drop, List.length_take]; rfl)) ?_
            with_reducible refine (bocageref01_Plus.calls kj27 t189 (fun k_ => (k_ ≠ gb145 ∧ (k_ ≠ gb164 ∧ (k_ ≠ gb165 ∧ k_ ≠ gb178)))) _ _ t190 x166000_27 (fun k_ => (some k_ ≠ (.slice Ao62 t175.length co62 : Value).ownBlock ∧ (k_ ≠ gb145 ∧ (k_ ≠ gb164 ∧ (k_ ≠ gb165 ∧ k_ ≠ gb178))))) _ _ x166001_27 t193 t194 _ ?side1 ?side2 A70.out).mono ?_
            (case side1 => exact HO192.out)
            (case side2 => exact HO_166001.out)
            rintro e w84 ⟨v195, rfl, ho0, hb⟩
            refine ⟨_, rfl, ?_⟩
            replace HO_165001 := Aside0.mk (Kd.V_below (by (with_reducible repeat (first | apply Kd.V_alloc | apply Kd.V_drewN | apply Kd.V_drew)); exact HO_165001.out) hb)
            replace HO_166001 := Aside0.mk (Kd.V_below (by (with_reducible repeat (first | apply Kd.V_alloc | apply Kd.V_drewN | apply Kd.V_drew)); exact HO_166001.out) hb)
            replace HO177 := krb HO177 hb
            replace HO182 := Aside0.mk (Kd.V_below (by (with_reducible repeat (first | apply Kd.V_alloc | apply Kd.V_drewN | apply Kd.V_drew)); exact HO182.out) hb)
            replace HO187 := Aside0.mk (Kd.V_below (by (with_reducible repeat (first | apply Kd.V_alloc | apply Kd.V_drewN | apply Kd.V_drew)); exact HO187.out) hb)
            replace HO192 := Aside0.mk (Kd.V_below (by (with_reducible repeat (first | apply Kd.V_alloc | apply Kd.V_drewN | apply Kd.V_drew)); exact HO192.out) hb)
            have HO196 := Aside0.mk (Kd.V_lower (Kd.V_mono (ok' := fun k_ => k_ ≠ gb145 ∧ k_ ≠ gb164 ∧ k_ ≠ gb165 ∧ k_ ≠ gb178) ho0 (fun k_ hk_ => ⟨Or.elim hk_ (fun hs_ => Or.elim hs_ (fun hs_ => hs_.1) (fun hs_ => hs_.2.1)) (fun hn_ => (Kd.freshB (bk BK145) k_ hn_)), Or.elim hk_ (fun hs_ => Or.elim hs_ (fun hs_ => hs_.2.1) (fun hs_ => hs_.2.2.1)) (fun hn_ => (Kd.freshB (bk BK164) k_ hn_)), Or.elim hk_ (fun hs_ => Or.elim hs_ (fun hs_ => hs_.2.2.1) (fun hs_ => hs_.2.2.2.1)) (fun hn_ => (Kd.freshB (bk BK165) k_ hn_)), Or.elim hk_ (fun hs_ => Or.elim hs_ (fun hs_ => hs_.2.2.2) (fun hs_ => hs_.2.2.2.2)) (fun hn_ => (Kd.freshB (bk BK178) k_ hn_))⟩)) (below_size (bl HB)))
            replace BK145 := bkb BK145 hb
            replace BK164 := bkb BK164 hb
            replace BK165 := bkb BK165 hb
            replace BK178 := bkb BK178 hb
            replace HB := bst HB hb
            (try clear hb)
            (try clear ho0)
            obtain ⟨Ao85, co85, eo85⟩ := Kd.V_slice HO196.out
            (first | subst eo85 | (injection eo85 with f1_ f2_ f3_; have f4_ := f1_.symm; have f5_ := f3_.symm; clear f1_ f2_ f3_; subst f4_; subst f5_))
            refine hK.out _ _ (c2 BK178 (c2 BK164 (e2 BK165))) (fun hHeld => ?_)
            clear hK K
            refine nrp 73 ?_
            refine one_ (i := 18) (N := some 74) #[true, true, true, true, true, true, true, true, true, true, true, true, true, true, true, true, true, true, true, false, false] rfl rfl (one_of HT_.out (by kernel_rfl)) (by decide) (fun K hK => ?_)
            refine goes_ Try.func25 (by kernel_rfl) rfl #[.agg #[.int .i64 t193, .slice Ao85 t194.length co85]] (by rfl) rfl rfl (by (try simp only [List.map_toArray, List.map_cons, List.map_nil]); first | done | rfl | (simp only [List.length_drop, List.length_take]; rfl)) ?_
            with_reducible refine (bocageref01_Is.calls kj27 t193 _ _ t194 t197 _ ?side1 ?side2 A71.out).mono ?_
            (case side1 => repeat (first | exact (Kd.V_reads' HO196.out).2.2 | (with_reducible refine Kd.C_alloc ?_ _) | (with_reducible refine Kd.C_drewN ?_ _) | (with_reducible refine Kd.C_drew ?_)))
            (case side2 => exact (Kd.V_reads' HO196.out).2.1)
            rintro e w86 ⟨rfl, hb⟩
            refine ⟨_, rfl, ?_⟩
            replace HO_165001 := Aside0.mk (Kd.V_below (by (with_reducible repeat (first | apply Kd.V_alloc | apply Kd.V_drewN | apply Kd.V_drew)); exact HO_165001.out) hb)
            replace HO_166001 := Aside0.mk (Kd.V_below (by (with_reducible repeat (first | apply Kd.V_alloc | apply Kd.V_drewN | apply Kd.V_drew)); exact HO_166001.out) hb)
            replace HO177 := krb HO177 hb
            replace HO182 := Aside0.mk (Kd.V_below (by (with_reducible repeat (first | apply Kd.V_alloc | apply Kd.V_drewN | apply Kd.V_drew)); exact HO182.out) hb)
            replace HO187 := Aside0.mk (Kd.V_below (by (with_reducible repeat (first | apply Kd.V_alloc | apply Kd.V_drewN | apply Kd.V_drew)); exact HO187.out) hb)
            replace HO192 := Aside0.mk (Kd.V_below (by (with_reducible repeat (first | apply Kd.V_alloc | apply Kd.V_drewN | apply Kd.V_drew)); exact HO192.out) hb)
            replace HO196 := Aside0.mk (Kd.V_below (by (with_reducible repeat (first | apply Kd.V_alloc | apply Kd.V_drewN | apply Kd.V_drew)); exact HO196.out) hb)
            replace BK145 := bkb BK145 hb
            replace BK164 := bkb BK164 hb
            replace BK165 := bkb BK165 hb
            replace BK178 := bkb BK178 hb
            replace HB := bst HB hb
            (try clear hb)
            refine hK.out _ _ (c2 BK178 (c2 BK164 (e2 BK165))) (fun hHeld => ?_)
            clear hK K
            refine nrp 74 ?_
            refine pu 19 (some 75) #[true, true, true, true, true, true, true, true, true, true, true, true, true, true, true, true, true, true, true, true, false] (any_of HT_.out (by kernel_rfl)) ?_
            refine pu 20 (some 76) #[true, true, true, true, true, true, true, true, true, true, true, true, true, true, true, true, true, true, true, true, true] (any_of HT_.out (by kernel_rfl)) ?_
            refine done_ (done_of HT_.out (by kernel_rfl)) ?_
            try go_wp2
            go_meet
            case rel => exact ⟨_, (!t197), (by first | rfl | (simp; done) | (simp [*]; done)), H', ⟨by have := HJ5.out; have := HJ20.out; have := HJ27.out; first | omega | exact Nat.le_refl _⟩, ⟨by (with_reducible repeat (first | apply Kd.V_alloc | apply Kd.V_drewN | apply Kd.V_drew)); exact HO_165001.out⟩, ⟨by (with_reducible repeat (first | apply Kd.V_alloc | apply Kd.V_drewN | apply Kd.V_drew)); exact HO_166001.out⟩, ⟨kr HO177⟩, ⟨bk BK145⟩, ⟨bk BK164⟩, ⟨bk BK165⟩, ⟨bk BK178⟩, ⟨bl HB⟩⟩
           ·replace c68 := Bool.eq_false_iff.mpr c68
            subst c68
            have H1 : (bocagelaw13_CombOrder.j3 kj27 t149 t153 true) = some r := by rw [if_neg (show ¬ (false = true) by decide)] at H; exact H
            clear H
            have H := H1
            clear H1
            have H' := Aside0.mk H
            clear H
            try go_wp2
            have n0_ : Aside0 (Kd.V (Kd.int .i64) 3 ((w57.setCell ⟨gb178, 0, none⟩ (.int .i64 t174)).setCell ⟨gb178, 1, none⟩ (.slice Ao62 t175.length co62)) w.heap.size (fun k_ => some k_ ≠ (.slice Ao62 t175.length co62 : Value).ownBlock ∧ k_ ≠ gb145 ∧ k_ ≠ gb164 ∧ k_ ≠ gb165 ∧ k_ ≠ gb178) u165001 x165001_27) := ⟨by (with_reducible repeat (first | apply Kd.V_alloc | apply Kd.V_drewN | apply Kd.V_drew)); exact Kd.V_mono (Kd.V_far (p := ⟨gb178, 1, none⟩) (Kd.V_far (p := ⟨gb178, 0, none⟩) (Kd.V_mono HO_165001.out (fun k_ hk => (⟨hk, hk.2⟩ : _ ∧ k_ ≠ gb178))) (fun _ hk => hk.2) (.int .i64 t174)) (fun _ hk => hk.2) (.slice Ao62 t175.length co62)) (fun _ hk => ⟨hk.1.1.2, ⟨hk.1.1.1.1, ⟨hk.1.1.1.2.1, ⟨hk.1.1.1.2.2, hk.1.2⟩⟩⟩⟩)⟩
            have n1_ : Aside0 (Kd.V (Kd.int .i64) 3 ((w57.setCell ⟨gb178, 0, none⟩ (.int .i64 t174)).setCell ⟨gb178, 1, none⟩ (.slice Ao62 t175.length co62)) w.heap.size (fun k_ => some k_ ≠ (.slice Ao62 t175.length co62 : Value).ownBlock ∧ k_ ≠ gb145 ∧ k_ ≠ gb164 ∧ k_ ≠ gb165 ∧ k_ ≠ gb178) u166001 x166001_27) := ⟨by (with_reducible repeat (first | apply Kd.V_alloc | apply Kd.V_drewN | apply Kd.V_drew)); exact Kd.V_mono (Kd.V_far (p := ⟨gb178, 1, none⟩) (Kd.V_far (p := ⟨gb178, 0, none⟩) (Kd.V_mono HO_166001.out (fun k_ hk => (⟨hk, hk.2⟩ : _ ∧ k_ ≠ gb178))) (fun _ hk => hk.2) (.int .i64 t174)) (fun _ hk => hk.2) (.slice Ao62 t175.length co62)) (fun _ hk => ⟨hk.1.1.2, ⟨hk.1.1.1.1, ⟨hk.1.1.1.2.1, ⟨hk.1.1.1.2.2, hk.1.2⟩⟩⟩⟩)⟩
            have n2_ : Aside0 (Kd.R (Kd.int .i64) 3 ((w57.setCell ⟨gb178, 0, none⟩ (.int .i64 t174)).setCell ⟨gb178, 1, none⟩ (.slice Ao62 t175.length co62)) w.heap.size (fun _ => True) (.slice Ao62 t175.length co62) t175) := ⟨by (with_reducible repeat (first | apply Kd.R_alloc | apply Kd.R_drewN | apply Kd.R_drew)); exact Kd.R_mono (Kd.R_far (p := ⟨gb178, 1, none⟩) (Kd.R_far (p := ⟨gb178, 0, none⟩) (Kd.R_types HO177.out BK178.out (by decide)) (fun _ hk => hk.2) (.int .i64 t174)) (fun _ hk => hk.2) (.slice Ao62 t175.length co62)) (fun _ hk => trivial)⟩
            have n3_ : Aside0 (((w57.setCell ⟨gb178, 0, none⟩ (.int .i64 t174)).setCell ⟨gb178, 1, none⟩ (.slice Ao62 t175.length co62)).heap[gb145]? = some (.cells #[.int .i64 a2_0, .int .i64 a2_1] 33 (0, 0))) := ⟨by (with_reducible repeat (first | refine blk_drewN ?_ _ | refine blk_drew ?_ | refine blk_alloc ?_ _)); refine blk_far ?_ NB145_178.out _; (with_reducible repeat (first | refine blk_drewN ?_ _ | refine blk_drew ?_ | refine blk_alloc ?_ _)); refine blk_far ?_ NB145_178.out _; (with_reducible repeat (first | refine blk_drewN ?_ _ | refine blk_drew ?_ | refine blk_alloc ?_ _)); exact BK145.out⟩
            have n4_ : Aside0 (((w57.setCell ⟨gb178, 0, none⟩ (.int .i64 t174)).setCell ⟨gb178, 1, none⟩ (.slice Ao62 t175.length co62)).heap[gb164]? = some (.cells #[.int .i64 x165000_27, u165001] 39 (0, 0))) := ⟨by (with_reducible repeat (first | refine blk_drewN ?_ _ | refine blk_drew ?_ | refine blk_alloc ?_ _)); refine blk_far ?_ NB164_178.out _; (with_reducible repeat (first | refine blk_drewN ?_ _ | refine blk_drew ?_ | refine blk_alloc ?_ _)); refine blk_far ?_ NB164_178.out _; (with_reducible repeat (first | refine blk_drewN ?_ _ | refine blk_drew ?_ | refine blk_alloc ?_ _)); exact BK164.out⟩
            have n5_ : Aside0 (((w57.setCell ⟨gb178, 0, none⟩ (.int .i64 t174)).setCell ⟨gb178, 1, none⟩ (.slice Ao62 t175.length co62)).heap[gb165]? = some (.cells #[.int .i64 x166000_27, u166001] 39 (0, 0))) := ⟨by (with_reducible repeat (first | refine blk_drewN ?_ _ | refine blk_drew ?_ | refine blk_alloc ?_ _)); refine blk_far ?_ NB165_178.out _; (with_reducible repeat (first | refine blk_drewN ?_ _ | refine blk_drew ?_ | refine blk_alloc ?_ _)); refine blk_far ?_ NB165_178.out _; (with_reducible repeat (first | refine blk_drewN ?_ _ | refine blk_drew ?_ | refine blk_alloc ?_ _)); exact BK165.out⟩
            have n6_ : Aside0 (((w57.setCell ⟨gb178, 0, none⟩ (.int .i64 t174)).setCell ⟨gb178, 1, none⟩ (.slice Ao62 t175.length co62)).heap[gb178]? = some (.cells #[.int .i64 t174, .slice Ao62 t175.length co62] 39 (0, 0))) := ⟨by (with_reducible repeat (first | refine blk_drewN ?_ _ | refine blk_drew ?_ | refine blk_alloc ?_ _)); refine blk_put (cs := #[.int .i64 t174, .slice none 0 0]) ?_ 1 _ rfl; (with_reducible repeat (first | refine blk_drewN ?_ _ | refine blk_drew ?_ | refine blk_alloc ?_ _)); refine blk_put (cs := #[.int .i64 0, .slice none 0 0]) ?_ 0 _ rfl; (with_reducible repeat (first | refine blk_drewN ?_ _ | refine blk_drew ?_ | refine blk_alloc ?_ _)); exact BK178.out⟩
            have n7_ : Aside0 (Below w.heap.size w ((w57.setCell ⟨gb178, 0, none⟩ (.int .i64 t174)).setCell ⟨gb178, 1, none⟩ (.slice Ao62 t175.length co62))) := ⟨bl HB⟩
            (try clear HO_165001)
            (try clear HO_166001)
            (try clear HO177)
            (try clear BK145)
            (try clear BK164)
            (try clear BK165)
            (try clear BK178)
            (try clear HB)
            generalize ((w57.setCell ⟨gb178, 0, none⟩ (.int .i64 t174)).setCell ⟨gb178, 1, none⟩ (.slice Ao62 t175.length co62)) = w87 at n0_ n1_ n2_ n3_ n4_ n5_ n6_ n7_ ⊢
            have HO_165001 := n0_
            have HO_166001 := n1_
            have HO177 := n2_
            have BK145 := n3_
            have BK164 := n4_
            have BK165 := n5_
            have BK178 := n6_
            have HB := n7_
            clear n0_ n1_ n2_ n3_ n4_ n5_ n6_ n7_
            replace HO_165001 := Aside0.mk (Kd.V_drew HO_165001.out)
            replace HO_166001 := Aside0.mk (Kd.V_drew HO_166001.out)
            replace HO177 := Aside0.mk (Kd.R_drew HO177.out)
            replace BK145 := Aside0.mk (blk_drew BK145.out)
            replace BK164 := Aside0.mk (blk_drew BK164.out)
            replace BK165 := Aside0.mk (blk_drew BK165.out)
            replace BK178 := Aside0.mk (blk_drew BK178.out)
            replace HB := Aside0.mk (below_drew1 HB.out)
            obtain ⟨Ao89, co89, eo89⟩ := Kd.V_slice HO_165001.out
            (first | subst eo89 | (injection eo89 with f1_ f2_ f3_; have f4_ := f1_.symm; have f5_ := f3_.symm; clear f1_ f2_ f3_; subst f4_; subst f5_))
            refine start_ (n := 21) (S := fun w' => w'.cell? ⟨gb178, 0, none⟩ = some (.int .i64 t174) ∧ w'.cell? ⟨gb178, 1, none⟩ = some (.slice Ao62 t175.length co62) ∧ w'.cell? ⟨gb164, 0, none⟩ = some (.int .i64 x165000_27) ∧ w'.cell? ⟨gb164, 1, none⟩ = some (.slice Ao89 x165001_27.length co89) ∧ w'.cell? ⟨gb165, 0, none⟩ = some (.int .i64 x166000_27) ∧ w'.cell? ⟨gb165, 1, none⟩ = some (u166001)) (ds := []) #[false, false, false, false, false, false, false, false, false, false, false, false, false, false, false, false, false, false, false, false, false] (by kernel_rfl) rfl rfl (c2 BK178 (c2 BK164 (e2 BK165))) (fun hHeld => ?_); refine with_tabW bocagelaw13_CombOrder.tab11 bocagelaw13_CombOrder.bits11 (fun HT_ HW_ => ?_)
            generalize w87.drew = w88 at HO_165001 HO_166001 HO177 BK145 BK164 BK165 BK178 HB hHeld ⊢
            refine tk6 0 (some 56) #[true, false, false, false, false, false, false, false, false, false, false, false, false, false, false, false, false, false, false, false, false] (take_ofW HT_.out HW_.out (by kernel_rfl)) hHeld ?_
            refine tk6 1 (some 57) #[true, true, false, false, false, false, false, false, false, false, false, false, false, false, false, false, false, false, false, false, false] (take_ofW HT_.out HW_.out (by kernel_rfl)) hHeld ?_
            refine one_ (i := 2) (N := some 58) #[true, true, true, false, false, false, false, false, false, false, false, false, false, false, false, false, false, false, false, false, false] rfl rfl (one_of HT_.out (by kernel_rfl)) (by decide) (fun K hK => ?_)
            refine goes_ Try.func26 (by kernel_rfl) rfl #[.agg #[.int .i64 t174, .slice Ao62 t175.length co62], .agg #[.int .i64 x165000_27, .slice Ao89 x165001_27.length co89]] (by rfl) rfl rfl (by (try simp only [List.map_toArray, List.map_cons, List.map_nil]); first | done | rfl | (simp only [List.length_drop, List.length_take]; rfl)) ?_
            with_reducible refine (bocageref01_Plus.calls kj27 t174 (fun k_ => some k_ = (.slice Ao62 t175.length co62 : Value).ownBlock) _ _ t175 x165000_27 (fun k_ => (some k_ ≠ (.slice Ao62 t175.length co62 : Value).ownBlock ∧ (k_ ≠ gb145 ∧ (k_ ≠ gb164 ∧ (k_ ≠ gb165 ∧ k_ ≠ gb178))))) _ _ x165001_27 t179 t180 _ ?side1 ?side2 A63.out).mono ?_
            (case side1 => exact Kd.R_V (Kd.R_tight rfl (Kd.R_types (Kd.R_types (Kd.R_types (Kd.R_types (HO177.out) BK145.out (by decide)) BK164.out (by decide)) BK165.out (by decide)) BK178.out (by decide))))
            (case side2 => exact HO_165001.out)
            rintro e w90 ⟨v181, rfl, ho0, hb⟩
            refine ⟨_, rfl, ?_⟩
            replace HO_165001 := Aside0.mk (Kd.V_below (by (with_reducible repeat (first | apply Kd.V_alloc | apply Kd.V_drewN | apply Kd.V_drew)); exact HO_165001.out) hb)
            replace HO_166001 := Aside0.mk (Kd.V_below (by (with_reducible repeat (first | apply Kd.V_alloc | apply Kd.V_drewN | apply Kd.V_drew)); exact HO_166001.out) hb)
            have HO182 := Aside0.mk (Kd.V_lower (Kd.V_mono (ok' := fun k_ => k_ ≠ gb145 ∧ k_ ≠ gb164 ∧ k_ ≠ gb165 ∧ k_ ≠ gb178) ho0 (fun k_ hk_ => ⟨Or.elim hk_ (fun hs_ => Or.elim hs_ (fun hs_ => ((Kd.R_types (Kd.R_types (Kd.R_types (Kd.R_types (HO177.out) BK145.out (by decide)) BK164.out (by decide)) BK165.out (by decide)) BK178.out (by decide)).1 k_ hs_.symm).1.1.1.2) (fun hs_ => hs_.2.1)) (fun hn_ => (Kd.freshB (bk BK145) k_ hn_)), Or.elim hk_ (fun hs_ => Or.elim hs_ (fun hs_ => ((Kd.R_types (Kd.R_types (Kd.R_types (Kd.R_types (HO177.out) BK145.out (by decide)) BK164.out (by decide)) BK165.out (by decide)) BK178.out (by decide)).1 k_ hs_.symm).1.1.2) (fun hs_ => hs_.2.2.1)) (fun hn_ => (Kd.freshB (bk BK164) k_ hn_)), Or.elim hk_ (fun hs_ => Or.elim hs_ (fun hs_ => ((Kd.R_types (Kd.R_types (Kd.R_types (Kd.R_types (HO177.out) BK145.out (by decide)) BK164.out (by decide)) BK165.out (by decide)) BK178.out (by decide)).1 k_ hs_.symm).1.2) (fun hs_ => hs_.2.2.2.1)) (fun hn_ => (Kd.freshB (bk BK165) k_ hn_)), Or.elim hk_ (fun hs_ => Or.elim hs_ (fun hs_ => ((Kd.R_types (Kd.R_types (Kd.R_types (Kd.R_types (HO177.out) BK145.out (by decide)) BK164.out (by decide)) BK165.out (by decide)) BK178.out (by decide)).1 k_ hs_.symm).2) (fun hs_ => hs_.2.2.2.2)) (fun hn_ => (Kd.freshB (bk BK178) k_ hn_))⟩)) (below_size (bl HB)))
            replace HO177 := krb HO177 hb
            replace BK145 := bkb BK145 hb
            replace BK164 := bkb BK164 hb
            replace BK165 := bkb BK165 hb
            replace BK178 := bkb BK178 hb
            replace HB := bst HB hb
            (try clear hb)
            (try clear hb2)
            (try clear hk)
            (try clear hi)
            (try clear ho0)
            obtain ⟨Ao91, co91, eo91⟩ := Kd.V_slice HO182.out
            (first | subst eo91 | (injection eo91 with f1_ f2_ f3_; have f4_ := f1_.symm; have f5_ := f3_.symm; clear f1_ f2_ f3_; subst f4_; subst f5_))
            refine hK.out _ _ (c2 BK178 (c2 BK164 (e2 BK165))) (fun hHeld => ?_)
            clear hK K
            refine nrp 58 ?_
            refine one_ (i := 3) (N := some 59) #[true, true, true, true, false, false, false, false, false, false, false, false, false, false, false, false, false, false, false, false, false] rfl rfl (one_of HT_.out (by kernel_rfl)) (by decide) (fun K hK => ?_)
            refine goes_ Try.func25 (by kernel_rfl) rfl #[.agg #[.int .i64 t179, .slice Ao91 t180.length co91]] (by rfl) rfl rfl (by (try simp only [List.map_toArray, List.map_cons, List.map_nil]); first | done | rfl | (simp only [List.length_drop, List.length_take]; rfl)) ?_
            with_reducible refine (bocageref01_Is.calls kj27 t179 _ _ t180 true _ ?side1 ?side2 A64.out).mono ?_
            (case side1 => repeat (first | exact (Kd.V_reads' HO182.out).2.2 | (with_reducible refine Kd.C_alloc ?_ _) | (with_reducible refine Kd.C_drewN ?_ _) | (with_reducible refine Kd.C_drew ?_)))
            (case side2 => exact (Kd.V_reads' HO182.out).2.1)
            rintro e w92 ⟨rfl, hb⟩
            refine ⟨_, rfl, ?_⟩
            replace HO_165001 := Aside0.mk (Kd.V_below (by (with_reducible repeat (first | apply Kd.V_alloc | apply Kd.V_drewN | apply Kd.V_drew)); exact HO_165001.out) hb)
            replace HO_166001 := Aside0.mk (Kd.V_below (by (with_reducible repeat (first | apply Kd.V_alloc | apply Kd.V_drewN | apply Kd.V_drew)); exact HO_166001.out) hb)
            replace HO177 := krb HO177 hb
            replace HO182 := Aside0.mk (Kd.V_below (by (with_reducible repeat (first | apply Kd.V_alloc | apply Kd.V_drewN | apply Kd.V_drew)); exact HO182.out) hb)
            replace BK145 := bkb BK145 hb
            replace BK164 := bkb BK164 hb
            replace BK165 := bkb BK165 hb
            replace BK178 := bkb BK178 hb
            replace HB := bst HB hb
            (try clear hb)
            obtain ⟨Ao93, co93, eo93⟩ := Kd.V_slice HO_166001.out
            (first | subst eo93 | (injection eo93 with f1_ f2_ f3_; have f4_ := f1_.symm; have f5_ := f3_.symm; clear f1_ f2_ f3_; subst f4_; subst f5_))
            refine hK.out _ _ (c2 BK178 (c2 BK164 (e2 BK165))) (fun hHeld => ?_)
            clear hK K
            refine nrp 59 ?_
            refine pu 4 (some 60) #[true, true, true, true, true, false, false, false, false, false, false, false, false, false, false, false, false, false, false, false, false] (any_of HT_.out (by kernel_rfl)) ?_
            refine pu 5 (some 61) #[true, true, true, true, true, true, false, false, false, false, false, false, false, false, false, false, false, false, false, false, false] (any_of HT_.out (by kernel_rfl)) ?_
            refine tk6 6 (some 62) #[true, true, true, true, true, true, true, false, false, false, false, false, false, false, false, false, false, false, false, false, false] (take_ofW HT_.out HW_.out (by kernel_rfl)) hHeld ?_
            refine tk6 7 (some 63) #[true, true, true, true, true, true, true, true, false, false, false, false, false, false, false, false, false, false, false, false, false] (take_ofW HT_.out HW_.out (by kernel_rfl)) hHeld ?_
            refine one_ (i := 8) (N := some 64) #[true, true, true, true, true, true, true, true, true, false, false, false, false, false, false, false, false, false, false, false, false] rfl rfl (one_of HT_.out (by kernel_rfl)) (by decide) (fun K hK => ?_)
            refine goes_ Try.func26 (by kernel_rfl) rfl #[.agg #[.int .i64 t174, .slice Ao62 t175.length co62], .agg #[.int .i64 x166000_27, .slice Ao93 x166001_27.length co93]] (by rfl) rfl rfl (by (try simp only [List.map_toArray, List.map_cons, List.map_nil]); first | done | rfl | (simp only [List.length_drop, List.length_take]; rfl)) ?_
            with_reducible refine (bocageref01_Plus.calls kj27 t174 (fun k_ => some k_ = (.slice Ao62 t175.length co62 : Value).ownBlock) _ _ t175 x166000_27 (fun k_ => (some k_ ≠ (.slice Ao62 t175.length co62 : Value).ownBlock ∧ (k_ ≠ gb145 ∧ (k_ ≠ gb164 ∧ (k_ ≠ gb165 ∧ k_ ≠ gb178))))) _ _ x166001_27 t184 t185 _ ?side1 ?side2 A66.out).mono ?_
            (case side1 => exact Kd.R_V (Kd.R_tight rfl (Kd.R_types (Kd.R_types (Kd.R_types (Kd.R_types (HO177.out) BK145.out (by decide)) BK164.out (by decide)) BK165.out (by decide)) BK178.out (by decide))))
            (case side2 => exact HO_166001.out)
            rintro e w94 ⟨v186, rfl, ho0, hb⟩
            refine ⟨_, rfl, ?_⟩
            replace HO_165001 := Aside0.mk (Kd.V_below (by (with_reducible repeat (first | apply Kd.V_alloc | apply Kd.V_drewN | apply Kd.V_drew)); exact HO_165001.out) hb)
            replace HO_166001 := Aside0.mk (Kd.V_below (by (with_reducible repeat (first | apply Kd.V_alloc | apply Kd.V_drewN | apply Kd.V_drew)); exact HO_166001.out) hb)
            replace HO182 := Aside0.mk (Kd.V_below (by (with_reducible repeat (first | apply Kd.V_alloc | apply Kd.V_drewN | apply Kd.V_drew)); exact HO182.out) hb)
            have HO187 := Aside0.mk (Kd.V_lower (Kd.V_mono (ok' := fun k_ => k_ ≠ gb145 ∧ k_ ≠ gb164 ∧ k_ ≠ gb165 ∧ k_ ≠ gb178) ho0 (fun k_ hk_ => ⟨Or.elim hk_ (fun hs_ => Or.elim hs_ (fun hs_ => ((Kd.R_types (Kd.R_types (Kd.R_types (Kd.R_types (HO177.out) BK145.out (by decide)) BK164.out (by decide)) BK165.out (by decide)) BK178.out (by decide)).1 k_ hs_.symm).1.1.1.2) (fun hs_ => hs_.2.1)) (fun hn_ => (Kd.freshB (bk BK145) k_ hn_)), Or.elim hk_ (fun hs_ => Or.elim hs_ (fun hs_ => ((Kd.R_types (Kd.R_types (Kd.R_types (Kd.R_types (HO177.out) BK145.out (by decide)) BK164.out (by decide)) BK165.out (by decide)) BK178.out (by decide)).1 k_ hs_.symm).1.1.2) (fun hs_ => hs_.2.2.1)) (fun hn_ => (Kd.freshB (bk BK164) k_ hn_)), Or.elim hk_ (fun hs_ => Or.elim hs_ (fun hs_ => ((Kd.R_types (Kd.R_types (Kd.R_types (Kd.R_types (HO177.out) BK145.out (by decide)) BK164.out (by decide)) BK165.out (by decide)) BK178.out (by decide)).1 k_ hs_.symm).1.2) (fun hs_ => hs_.2.2.2.1)) (fun hn_ => (Kd.freshB (bk BK165) k_ hn_)), Or.elim hk_ (fun hs_ => Or.elim hs_ (fun hs_ => ((Kd.R_types (Kd.R_types (Kd.R_types (Kd.R_types (HO177.out) BK145.out (by decide)) BK164.out (by decide)) BK165.out (by decide)) BK178.out (by decide)).1 k_ hs_.symm).2) (fun hs_ => hs_.2.2.2.2)) (fun hn_ => (Kd.freshB (bk BK178) k_ hn_))⟩)) (below_size (bl HB)))
            replace HO177 := krb HO177 hb
            replace BK145 := bkb BK145 hb
            replace BK164 := bkb BK164 hb
            replace BK165 := bkb BK165 hb
            replace BK178 := bkb BK178 hb
            replace HB := bst HB hb
            (try clear hb)
            (try clear ho0)
            obtain ⟨Ao95, co95, eo95⟩ := Kd.V_slice HO187.out
            (first | subst eo95 | (injection eo95 with f1_ f2_ f3_; have f4_ := f1_.symm; have f5_ := f3_.symm; clear f1_ f2_ f3_; subst f4_; subst f5_))
            refine hK.out _ _ (c2 BK178 (c2 BK164 (e2 BK165))) (fun hHeld => ?_)
            clear hK K
            refine nrp 64 ?_
            refine one_ (i := 9) (N := some 65) #[true, true, true, true, true, true, true, true, true, true, false, false, false, false, false, false, false, false, false, false, false] rfl rfl (one_of HT_.out (by kernel_rfl)) (by decide) (fun K hK => ?_)
            refine goes_ Try.func25 (by kernel_rfl) rfl #[.agg #[.int .i64 t184, .slice Ao95 t185.length co95]] (by rfl) rfl rfl (by (try simp only [List.map_toArray, List.map_cons, List.map_nil]); first | done | rfl | (simp only [List.length_drop, List.length_take]; rfl)) ?_
            with_reducible refine (bocageref01_Is.calls kj27 t184 _ _ t185 false _ ?side1 ?side2 A67.out).mono ?_
            (case side1 => repeat (first | exact (Kd.V_reads' HO187.out).2.2 | (with_reducible refine Kd.C_alloc ?_ _) | (with_reducible refine Kd.C_drewN ?_ _) | (with_reducible refine Kd.C_drew ?_)))
            (case side2 => exact (Kd.V_reads' HO187.out).2.1)
            rintro e w96 ⟨rfl, hb⟩
            refine ⟨_, rfl, ?_⟩
            replace HO_165001 := Aside0.mk (Kd.V_below (by (with_reducible repeat (first | apply Kd.V_alloc | apply Kd.V_drewN | apply Kd.V_drew)); exact HO_165001.out) hb)
            replace HO_166001 := Aside0.mk (Kd.V_below (by (with_reducible repeat (first | apply Kd.V_alloc | apply Kd.V_drewN | apply Kd.V_drew)); exact HO_166001.out) hb)
            replace HO177 := krb HO177 hb
            replace HO182 := Aside0.mk (Kd.V_below (by (with_reducible repeat (first | apply Kd.V_alloc | apply Kd.V_drewN | apply Kd.V_drew)); exact HO182.out) hb)
            replace HO187 := Aside0.mk (Kd.V_below (by (with_reducible repeat (first | apply Kd.V_alloc | apply Kd.V_drewN | apply Kd.V_drew)); exact HO187.out) hb)
            replace BK145 := bkb BK145 hb
            replace BK164 := bkb BK164 hb
            replace BK165 := bkb BK165 hb
            replace BK178 := bkb BK178 hb
            replace HB := bst HB hb
            (try clear hb)
            refine hK.out _ _ (c2 BK178 (c2 BK164 (e2 BK165))) (fun hHeld => ?_)
            clear hK K
            refine nrp 65 ?_
            refine pu 10 (some 66) #[true, true, true, true, true, true, true, true, true, true, true, false, false, false, false, false, false, false, false, false, false] (any_of HT_.out (by kernel_rfl)) ?_
            refine pu 11 (some 67) #[true, true, true, true, true, true, true, true, true, true, true, true, false, false, false, false, false, false, false, false, false] (any_of HT_.out (by kernel_rfl)) ?_
            refine pu 12 (some 68) #[true, true, true, true, true, true, true, true, true, true, true, true, true, false, false, false, false, false, false, false, false] (any_of HT_.out (by kernel_rfl)) ?_
            refine pv 13 (some 69) #[true, true, true, true, true, true, true, true, true, true, true, true, true, true, false, false, false, false, false, false, false] (any_of HT_.out (by kernel_rfl)) ?_
            refine pv 14 (some 70) #[true, true, true, true, true, true, true, true, true, true, true, true, true, true, true, false, false, false, false, false, false] (any_of HT_.out (by kernel_rfl)) ?_
            refine pv 15 (some 71) #[true, true, true, true, true, true, true, true, true, true, true, true, true, true, true, true, false, false, false, false, false] (any_of HT_.out (by kernel_rfl)) ?_
            refine pv 16 (some 72) #[true, true, true, true, true, true, true, true, true, true, true, true, true, true, true, true, true, false, false, false, false] (any_of HT_.out (by kernel_rfl)) ?_
            refine pv 17 (some 73) #[true, true, true, true, true, true, true, true, true, true, true, true, true, true, true, true, true, true, false, false, false] (any_of HT_.out (by kernel_rfl)) ?_
            refine pv 18 (some 74) #[true, true, true, true, true, true, true, true, true, true, true, true, true, true, true, true, true, true, true, false, false] (any_of HT_.out (by kernel_rfl)) ?_
            refine pv 19 (some 75) #[true, true, true, true, true, true, true, true, true, true, true, true, true, true, true, true, true, true, true, true, false] (any_of HT_.out (by kernel_rfl)) ?_
            refine pu 20 (some 76) #[true, true, true, true, true, true, true, true, true, true, true, true, true, true, true, true, true, true, true, true, true] (any_of HT_.out (by kernel_rfl)) ?_
            refine done_ (done_of HT_.out (by kernel_rfl)) ?_
            try go_wp2
            go_meet
            case rel => exact ⟨_, (true), (by first | rfl | (simp; done) | (simp [*]; done)), H', ⟨by have := HJ5.out; have := HJ20.out; have := HJ27.out; first | omega | exact Nat.le_refl _⟩, ⟨by (with_reducible repeat (first | apply Kd.V_alloc | apply Kd.V_drewN | apply Kd.V_drew)); exact HO_165001.out⟩, ⟨by (with_reducible repeat (first | apply Kd.V_alloc | apply Kd.V_drewN | apply Kd.V_drew)); exact HO_166001.out⟩, ⟨kr HO177⟩, ⟨bk BK145⟩, ⟨bk BK164⟩, ⟨bk BK165⟩, ⟨bk BK178⟩, ⟨bl HB⟩⟩
          ·replace c65 := Bool.eq_false_iff.mpr c65
           subst c65
           have H1 : (bocagelaw13_CombOrder.j3 kj27 t149 t153 true) = some r := by rw [if_neg (show ¬ (false = true) by decide)] at H; exact H
           clear H
           have H := H1
           clear H1
           have H' := Aside0.mk H
           clear H
           try go_wp2
           have n0_ : Aside0 (Kd.V (Kd.int .i64) 3 ((w57.setCell ⟨gb178, 0, none⟩ (.int .i64 t174)).setCell ⟨gb178, 1, none⟩ (.slice Ao62 t175.length co62)) w.heap.size (fun k_ => some k_ ≠ (.slice Ao62 t175.length co62 : Value).ownBlock ∧ k_ ≠ gb145 ∧ k_ ≠ gb164 ∧ k_ ≠ gb165 ∧ k_ ≠ gb178) u165001 x165001_27) := ⟨by (with_reducible repeat (first | apply Kd.V_alloc | apply Kd.V_drewN | apply Kd.V_drew)); exact Kd.V_mono (Kd.V_far (p := ⟨gb178, 1, none⟩) (Kd.V_far (p := ⟨gb178, 0, none⟩) (Kd.V_mono HO_165001.out (fun k_ hk => (⟨hk, hk.2⟩ : _ ∧ k_ ≠ gb178))) (fun _ hk => hk.2) (.int .i64 t174)) (fun _ hk => hk.2) (.slice Ao62 t175.length co62)) (fun _ hk => ⟨hk.1.1.2, ⟨hk.1.1.1.1, ⟨hk.1.1.1.2.1, ⟨hk.1.1.1.2.2, hk.1.2⟩⟩⟩⟩)⟩
           have n1_ : Aside0 (Kd.V (Kd.int .i64) 3 ((w57.setCell ⟨gb178, 0, none⟩ (.int .i64 t174)).setCell ⟨gb178, 1, none⟩ (.slice Ao62 t175.length co62)) w.heap.size (fun k_ => some k_ ≠ (.slice Ao62 t175.length co62 : Value).ownBlock ∧ k_ ≠ gb145 ∧ k_ ≠ gb164 ∧ k_ ≠ gb165 ∧ k_ ≠ gb178) u166001 x166001_27) := ⟨by (with_reducible repeat (first | apply Kd.V_alloc | apply Kd.V_drewN | apply Kd.V_drew)); exact Kd.V_mono (Kd.V_far (p := ⟨gb178, 1, none⟩) (Kd.V_far (p := ⟨gb178, 0, none⟩) (Kd.V_mono HO_166001.out (fun k_ hk => (⟨hk, hk.2⟩ : _ ∧ k_ ≠ gb178))) (fun _ hk => hk.2) (.int .i64 t174)) (fun _ hk => hk.2) (.slice Ao62 t175.length co62)) (fun _ hk => ⟨hk.1.1.2, ⟨hk.1.1.1.1, ⟨hk.1.1.1.2.1, ⟨hk.1.1.1.2.2, hk.1.2⟩⟩⟩⟩)⟩
           have n2_ : Aside0 (Kd.R (Kd.int .i64) 3 ((w57.setCell ⟨gb178, 0, none⟩ (.int .i64 t174)).setCell ⟨gb178, 1, none⟩ (.slice Ao62 t175.length co62)) w.heap.size (fun _ => True) (.slice Ao62 t175.length co62) t175) := ⟨by (with_reducible repeat (first | apply Kd.R_alloc | apply Kd.R_drewN | apply Kd.R_drew)); exact Kd.R_mono (Kd.R_far (p := ⟨gb178, 1, none⟩) (Kd.R_far (p := ⟨gb178, 0, none⟩) (Kd.R_types HO177.out BK178.out (by decide)) (fun _ hk => hk.2) (.int .i64 t174)) (fun _ hk => hk.2) (.slice Ao62 t175.length co62)) (fun _ hk => trivial)⟩
           have n3_ : Aside0 (((w57.setCell ⟨gb178, 0, none⟩ (.int .i64 t174)).setCell ⟨gb178, 1, none⟩ (.slice Ao62 t175.length co62)).heap[gb145]? = some (.cells #[.int .i64 a2_0, .int .i64 a2_1] 33 (0, 0))) := ⟨by (with_reducible repeat (first | refine blk_drewN ?_ _ | refine blk_drew ?_ | refine blk_alloc ?_ _)); refine blk_far ?_ NB145_178.out _; (with_reducible repeat (first | refine blk_drewN ?_ _ | refine blk_drew ?_ | refine blk_alloc ?_ _)); refine blk_far ?_ NB145_178.out _; (with_reducible repeat (first | refine blk_drewN ?_ _ | refine blk_drew ?_ | refine blk_alloc ?_ _)); exact BK145.out⟩
           have n4_ : Aside0 (((w57.setCell ⟨gb178, 0, none⟩ (.int .i64 t174)).setCell ⟨gb178, 1, none⟩ (.slice Ao62 t175.length co62)).heap[gb164]? = some (.cells #[.int .i64 x165000_27, u165001] 39 (0, 0))) := ⟨by (with_reducible repeat (first | refine blk_drewN ?_ _ | refine blk_drew ?_ | refine blk_alloc ?_ _)); refine blk_far ?_ NB164_178.out _; (with_reducible repeat (first | refine blk_drewN ?_ _ | refine blk_drew ?_ | refine blk_alloc ?_ _)); refine blk_far ?_ NB164_178.out _; (with_reducible repeat (first | refine blk_drewN ?_ _ | refine blk_drew ?_ | refine blk_alloc ?_ _)); exact BK164.out⟩
           have n5_ : Aside0 (((w57.setCell ⟨gb178, 0, none⟩ (.int .i64 t174)).setCell ⟨gb178, 1, none⟩ (.slice Ao62 t175.length co62)).heap[gb165]? = some (.cells #[.int .i64 x166000_27, u166001] 39 (0, 0))) := ⟨by (with_reducible repeat (first | refine blk_drewN ?_ _ | refine blk_drew ?_ | refine blk_alloc ?_ _)); refine blk_far ?_ NB165_178.out _; (with_reducible repeat (first | refine blk_drewN ?_ _ | refine blk_drew ?_ | refine blk_alloc ?_ _)); refine blk_far ?_ NB165_178.out _; (with_reducible repeat (first | refine blk_drewN ?_ _ | refine blk_drew ?_ | refine blk_alloc ?_ _)); exact BK165.out⟩
           have n6_ : Aside0 (((w57.setCell ⟨gb178, 0, none⟩ (.int .i64 t174)).setCell ⟨gb178, 1, none⟩ (.slice Ao62 t175.length co62)).heap[gb178]? = some (.cells #[.int .i64 t174, .slice Ao62 t175.length co62] 39 (0, 0))) := ⟨by (with_reducible repeat (first | refine blk_drewN ?_ _ | refine blk_drew ?_ | refine blk_alloc ?_ _)); refine blk_put (cs := #[.int .i64 t174, .slice none 0 0]) ?_ 1 _ rfl; (with_reducible repeat (first | refine blk_drewN ?_ _ | refine blk_drew ?_ | refine blk_alloc ?_ _)); refine blk_put (cs := #[.int .i64 0, .slice none 0 0]) ?_ 0 _ rfl; (with_reducible repeat (first | refine blk_drewN ?_ _ | refine blk_drew ?_ | refine blk_alloc ?_ _)); exact BK178.out⟩
           have n7_ : Aside0 (Below w.heap.size w ((w57.setCell ⟨gb178, 0, none⟩ (.int .i64 t174)).setCell ⟨gb178, 1, none⟩ (.slice Ao62 t175.length co62))) := ⟨bl HB⟩
           (try clear HO_165001)
           (try clear HO_166001)
           (try clear HO177)
           (try clear BK145)
           (try clear BK164)
           (try clear BK165)
           (try clear BK178)
           (try clear HB)
           generalize ((w57.setCell ⟨gb178, 0, none⟩ (.int .i64 t174)).setCell ⟨gb178, 1, none⟩ (.slice Ao62 t175.length co62)) = w97 at n0_ n1_ n2_ n3_ n4_ n5_ n6_ n7_ ⊢
           have HO_165001 := n0_
           have HO_166001 := n1_
           have HO177 := n2_
           have BK145 := n3_
           have BK164 := n4_
           have BK165 := n5_
           have BK178 := n6_
           have HB := n7_
           clear n0_ n1_ n2_ n3_ n4_ n5_ n6_ n7_
           replace HO_165001 := Aside0.mk (Kd.V_drew HO_165001.out)
           replace HO_166001 := Aside0.mk (Kd.V_drew HO_166001.out)
           replace HO177 := Aside0.mk (Kd.R_drew HO177.out)
           replace BK145 := Aside0.mk (blk_drew BK145.out)
           replace BK164 := Aside0.mk (blk_drew BK164.out)
           replace BK165 := Aside0.mk (blk_drew BK165.out)
           replace BK178 := Aside0.mk (blk_drew BK178.out)
           replace HB := Aside0.mk (below_drew1 HB.out)
           obtain ⟨Ao99, co99, eo99⟩ := Kd.V_slice HO_165001.out
           (first | subst eo99 | (injection eo99 with f1_ f2_ f3_; have f4_ := f1_.symm; have f5_ := f3_.symm; clear f1_ f2_ f3_; subst f4_; subst f5_))
           refine start_ (n := 21) (S := fun w' => w'.cell? ⟨gb178, 0, none⟩ = some (.int .i64 t174) ∧ w'.cell? ⟨gb178, 1, none⟩ = some (.slice Ao62 t175.length co62) ∧ w'.cell? ⟨gb164, 0, none⟩ = some (.int .i64 x165000_27) ∧ w'.cell? ⟨gb164, 1, none⟩ = some (.slice Ao99 x165001_27.length co99)) (ds := []) #[false, false, false, false, false, false, false, false, false, false, false, false, false, false, false, false, false, false, false, false, false] (by kernel_rfl) rfl rfl (c2 BK178 (e2 BK164)) (fun hHeld => ?_); refine with_tabW bocagelaw13_CombOrder.tab11 bocagelaw13_CombOrder.bits11 (fun HT_ HW_ => ?_)
           generalize w97.drew = w98 at HO_165001 HO_166001 HO177 BK145 BK164 BK165 BK178 HB hHeld ⊢
           refine tk4 0 (some 56) #[true, false, false, false, false, false, false, false, false, false, false, false, false, false, false, false, false, false, false, false, false] (take_ofW HT_.out HW_.out (by kernel_rfl)) hHeld ?_
           refine tk4 1 (some 57) #[true, true, false, false, false, false, false, false, false, false, false, false, false, false, false, false, false, false, false, false, false] (take_ofW HT_.out HW_.out (by kernel_rfl)) hHeld ?_
           refine one_ (i := 2) (N := some 58) #[true, true, true, false, false, false, false, false, false, false, false, false, false, false, false, false, false, false, false, false, false] rfl rfl (one_of HT_.out (by kernel_rfl)) (by decide) (fun K hK => ?_)
           refine goes_ Try.func26 (by kernel_rfl) rfl #[.agg #[.int .i64 t174, .slice Ao62 t175.length co62], .agg #[.int .i64 x165000_27, .slice Ao99 x165001_27.length co99]] (by rfl) rfl rfl (by (try simp only [List.map_toArray, List.map_cons, List.map_nil]); first | done | rfl | (simp only [List.length_drop, List.length_take]; rfl)) ?_
           with_reducible refine (bocageref01_Plus.calls kj27 t174 (fun k_ => some k_ = (.slice Ao62 t175.length co62 : Value).ownBlock) _ _ t175 x165000_27 (fun k_ => (some k_ ≠ (.slice Ao62 t175.length co62 : Value).ownBlock ∧ (k_ ≠ gb145 ∧ (k_ ≠ gb164 ∧ (k_ ≠ gb165 ∧ k_ ≠ gb178))))) _ _ x165001_27 t179 t180 _ ?side1 ?side2 A63.out).mono ?_
           (case side1 => exact Kd.R_V (Kd.R_tight rfl (Kd.R_types (Kd.R_types (Kd.R_types (Kd.R_types (HO177.out) BK145.out (by decide)) BK164.out (by decide)) BK165.out (by decide)) BK178.out (by decide))))
           (case side2 => exact HO_165001.out)
           rintro e w100 ⟨v181, rfl, ho0, hb⟩
           refine ⟨_, rfl, ?_⟩
           replace HO_165001 := Aside0.mk (Kd.V_below (by (with_reducible repeat (first | apply Kd.V_alloc | apply Kd.V_drewN | apply Kd.V_drew)); exact HO_165001.out) hb)
           replace HO_166001 := Aside0.mk (Kd.V_below (by (with_reducible repeat (first | apply Kd.V_alloc | apply Kd.V_drewN | apply Kd.V_drew)); exact HO_166001.out) hb)
           have HO182 := Aside0.mk (Kd.V_lower (Kd.V_mono (ok' := fun k_ => k_ ≠ gb145 ∧ k_ ≠ gb164 ∧ k_ ≠ gb165 ∧ k_ ≠ gb178) ho0 (fun k_ hk_ => ⟨Or.elim hk_ (fun hs_ => Or.elim hs_ (fun hs_ => ((Kd.R_types (Kd.R_types (Kd.R_types (Kd.R_types (HO177.out) BK145.out (by decide)) BK164.out (by decide)) BK165.out (by decide)) BK178.out (by decide)).1 k_ hs_.symm).1.1.1.2) (fun hs_ => hs_.2.1)) (fun hn_ => (Kd.freshB (bk BK145) k_ hn_)), Or.elim hk_ (fun hs_ => Or.elim hs_ (fun hs_ => ((Kd.R_types (Kd.R_types (Kd.R_types (Kd.R_types (HO177.out) BK145.out (by decide)) BK164.out (by decide)) BK165.out (by decide)) BK178.out (by decide)).1 k_ hs_.symm).1.1.2) (fun hs_ => hs_.2.2.1)) (fun hn_ => (Kd.freshB (bk BK164) k_ hn_)), Or.elim hk_ (fun hs_ => Or.elim hs_ (fun hs_ => ((Kd.R_types (Kd.R_types (Kd.R_types (Kd.R_types (HO177.out) BK145.out (by decide)) BK164.out (by decide)) BK165.out (by decide)) BK178.out (by decide)).1 k_ hs_.symm).1.2) (fun hs_ => hs_.2.2.2.1)) (fun hn_ => (Kd.freshB (bk BK165) k_ hn_)), Or.elim hk_ (fun hs_ => Or.elim hs_ (fun hs_ => ((Kd.R_types (Kd.R_types (Kd.R_types (Kd.R_types (HO177.out) BK145.out (by decide)) BK164.out (by decide)) BK165.out (by decide)) BK178.out (by decide)).1 k_ hs_.symm).2) (fun hs_ => hs_.2.2.2.2)) (fun hn_ => (Kd.freshB (bk BK178) k_ hn_))⟩)) (below_size (bl HB)))
           replace HO177 := krb HO177 hb
           replace BK145 := bkb BK145 hb
           replace BK164 := bkb BK164 hb
           replace BK165 := bkb BK165 hb
           replace BK178 := bkb BK178 hb
           replace HB := bst HB hb
           (try clear hb)
           (try clear hb2)
           (try clear hk)
           (try clear hi)
           (try clear ho0)
           obtain ⟨Ao101, co101, eo101⟩ := Kd.V_slice HO182.out
           (first | subst eo101 | (injection eo101 with f1_ f2_ f3_; have f4_ := f1_.symm; have f5_ := f3_.symm; clear f1_ f2_ f3_; subst f4_; subst f5_))
           refine hK.out _ _ (c2 BK178 (e2 BK164)) (fun hHeld => ?_)
           clear hK K
           refine nrp 58 ?_
           refine one_ (i := 3) (N := some 59) #[true, true, true, true, false, false, false, false, false, false, false, false, false, false, false, false, false, false, false, false, false] rfl rfl (one_of HT_.out (by kernel_rfl)) (by decide) (fun K hK => ?_)
           refine goes_ Try.func25 (by kernel_rfl) rfl #[.agg #[.int .i64 t179, .slice Ao101 t180.length co101]] (by rfl) rfl rfl (by (try simp only [List.map_toArray, List.map_cons, List.map_nil]); first | done | rfl | (simp only [List.length_drop, List.length_take]; rfl)) ?_
           with_reducible refine (bocageref01_Is.calls kj27 t179 _ _ t180 false _ ?side1 ?side2 A64.out).mono ?_
           (case side1 => repeat (first | exact (Kd.V_reads' HO182.out).2.2 | (with_reducible refine Kd.C_alloc ?_ _) | (with_reducible refine Kd.C_drewN ?_ _) | (with_reducible refine Kd.C_drew ?_)))
           (case side2 => exact (Kd.V_reads' HO182.out).2.1)
           rintro e w102 ⟨rfl, hb⟩
           refine ⟨_, rfl, ?_⟩
           replace HO_165001 := Aside0.mk (Kd.V_below (by (with_reducible repeat (first | apply Kd.V_alloc | apply Kd.V_drewN | apply Kd.V_drew)); exact HO_165001.out) hb)
           replace HO_166001 := Aside0.mk (Kd.V_below (by (with_reducible repeat (first | apply Kd.V_alloc | apply Kd.V_drewN | apply Kd.V_drew)); exact HO_166001.out) hb)
           replace HO177 := krb HO177 hb
           replace HO182 := Aside0.mk (Kd.V_below (by (with_reducible repeat (first | apply Kd.V_alloc | apply Kd.V_drewN | apply Kd.V_drew)); exact HO182.out) hb)
           replace BK145 := bkb BK145 hb
           replace BK164 := bkb BK164 hb
           replace BK165 := bkb BK165 hb
           replace BK178 := bkb BK178 hb
           replace HB := bst HB hb
           (try clear hb)
           refine hK.out _ _ (c2 BK178 (e2 BK164)) (fun hHeld => ?_)
           clear hK K
           refine nrp 59 ?_
           refine pu 4 (some 60) #[true, true, true, true, true, false, false, false, false, false, false, false, false, false, false, false, false, false, false, false, false] (any_of HT_.out (by kernel_rfl)) ?_
           refine pu 5 (some 61) #[true, true, true, true, true, true, false, false, false, false, false, false, false, false, false, false, false, false, false, false, false] (any_of HT_.out (by kernel_rfl)) ?_
           refine pv 6 (some 62) #[true, true, true, true, true, true, true, false, false, false, false, false, false, false, false, false, false, false, false, false, false] (any_of HT_.out (by kernel_rfl)) ?_
           refine pv 7 (some 63) #[true, true, true, true, true, true, true, true, false, false, false, false, false, false, false, false, false, false, false, false, false] (any_of HT_.out (by kernel_rfl)) ?_
           refine pv 8 (some 64) #[true, true, true, true, true, true, true, true, true, false, false, false, false, false, false, false, false, false, false, false, false] (any_of HT_.out (by kernel_rfl)) ?_
           refine pv 9 (some 65) #[true, true, true, true, true, true, true, true, true, true, false, false, false, false, false, false, false, false, false, false, false] (any_of HT_.out (by kernel_rfl)) ?_
           refine pv 10 (some 66) #[true, true, true, true, true, true, true, true, true, true, true, false, false, false, false, false, false, false, false, false, false] (any_of HT_.out (by kernel_rfl)) ?_
           refine pu 11 (some 67) #[true, true, true, true, true, true, true, true, true, true, true, true, false, false, false, false, false, false, false, false, false] (any_of HT_.out (by kernel_rfl)) ?_
           refine pu 12 (some 68) #[true, true, true, true, true, true, true, true, true, true, true, true, true, false, false, false, false, false, false, false, false] (any_of HT_.out (by kernel_rfl)) ?_
           refine pv 13 (some 69) #[true, true, true, true, true, true, true, true, true, true, true, true, true, true, false, false, false, false, false, false, false] (any_of HT_.out (by kernel_rfl)) ?_
           refine pv 14 (some 70) #[true, true, true, true, true, true, true, true, true, true, true, true, true, true, true, false, false, false, false, false, false] (any_of HT_.out (by kernel_rfl)) ?_
           refine pv 15 (some 71) #[true, true, true, true, true, true, true, true, true, true, true, true, true, true, true, true, false, false, false, false, false] (any_of HT_.out (by kernel_rfl)) ?_
           refine pv 16 (some 72) #[true, true, true, true, true, true, true, true, true, true, true, true, true, true, true, true, true, false, false, false, false] (any_of HT_.out (by kernel_rfl)) ?_
           refine pv 17 (some 73) #[true, true, true, true, true, true, true, true, true, true, true, true, true, true, true, true, true, true, false, false, false] (any_of HT_.out (by kernel_rfl)) ?_
           refine pv 18 (some 74) #[true, true, true, true, true, true, true, true, true, true, true, true, true, true, true, true, true, true, true, false, false] (any_of HT_.out (by kernel_rfl)) ?_
           refine pv 19 (some 75) #[true, true, true, true, true, true, true, true, true, true, true, true, true, true, true, true, true, true, true, true, false] (any_of HT_.out (by kernel_rfl)) ?_
           refine pu 20 (some 76) #[true, true, true, true, true, true, true, true, true, true, true, true, true, true, true, true, true, true, true, true, true] (any_of HT_.out (by kernel_rfl)) ?_
           refine done_ (done_of HT_.out (by kernel_rfl)) ?_
           try go_wp2
           go_meet
           case rel => exact ⟨_, (true), (by first | rfl | (simp; done) | (simp [*]; done)), H', ⟨by have := HJ5.out; have := HJ20.out; have := HJ27.out; first | omega | exact Nat.le_refl _⟩, ⟨by (with_reducible repeat (first | apply Kd.V_alloc | apply Kd.V_drewN | apply Kd.V_drew)); exact HO_165001.out⟩, ⟨by (with_reducible repeat (first | apply Kd.V_alloc | apply Kd.V_drewN | apply Kd.V_drew)); exact HO_166001.out⟩, ⟨kr HO177⟩, ⟨bk BK145⟩, ⟨bk BK164⟩, ⟨bk BK165⟩, ⟨bk BK178⟩, ⟨bl HB⟩⟩
         case rest =>
          clear HC55
          obtain ⟨kq, x76_54, rfl, HA, HJ54, HO_165001, HO_166001, HO_179001, BK145, BK164, BK165, BK178, HB⟩ := hcut
          cases kq with
          | zero => exact absurd HA.out (by simp [bocagelaw13_CombOrder.j3])
          | succ kj54 =>
           have H := HA.out
           clear HA
           simp only [bocagelaw13_CombOrder.j3] at H
           by_cases c103 : x76_54 = true
           ·subst c103
            have H1 : ((bocagelaw13_alive.f kj54).bind fun t198 => (some t198)) = some r := by rw [if_pos rfl] at H; exact H
            clear H
            have H := H1
            clear H1
            replace H := Option.bind_eq_some_iff.mp H
            obtain ⟨t198, A1040, H⟩ := H
            (try (set_option simprocs false in dsimp only at H))
            have A104 := Aside0.mk A1040
            clear A1040
            obtain rfl := Option.some.inj H
            go_wp2_with (first | ((with_reducible refine gate_callee (f := 10) rfl ?_); refine gol (some 77) Try.func10 #[] ?_; (with_reducible refine (bocagelaw13_alive.calls kj54  t198 _ A104.out HRT.out).mono ?_); rintro e w105 ⟨rfl, hb⟩; refine ⟨_, rfl, ?_⟩; replace HO_165001 := Aside0.mk (Kd.V_below (by (with_reducible repeat (first | apply Kd.V_alloc | apply Kd.V_drewN | apply Kd.V_drew)); exact HO_165001.out) hb); replace HO_166001 := Aside0.mk (Kd.V_below (by (with_reducible repeat (first | apply Kd.V_alloc | apply Kd.V_drewN | apply Kd.V_drew)); exact HO_166001.out) hb); replace HO_179001 := krb HO_179001 hb; replace BK145 := bkb BK145 hb; replace BK164 := bkb BK164 hb; replace BK165 := bkb BK165 hb; replace BK178 := bkb BK178 hb; replace HB := bst HB hb; (try clear hb); (try clear hb2); (try clear hk); (try clear hi)))
            go_ret
            exact endB HB
           ·replace c103 := Bool.eq_false_iff.mpr c103
            subst c103
            have H1 : ((bocagelaw13_alive.f kj54).bind fun t199 => (if t199 = true then (some (t149 == t153)) else (some false))) = some r := by rw [if_neg (show ¬ (false = true) by decide)] at H; exact H
            clear H
            have H := H1
            clear H1
            replace H := Option.bind_eq_some_iff.mp H
            obtain ⟨t199, A1060, H⟩ := H
            (try (set_option simprocs false in dsimp only at H))
            have A106 := Aside0.mk A1060
            clear A1060
            by_cases c107 : t199 = true
            ·subst c107
             have H1 : (some (t149 == t153)) = some r := by rw [if_pos rfl] at H; exact H
             clear H
             have H := H1
             clear H1
             obtain rfl := Option.some.inj H
             go_wp2_with (first | ((with_reducible refine gate_callee (f := 10) rfl ?_); refine gol (some 78) Try.func10 #[] ?_; (with_reducible refine (bocagelaw13_alive.calls kj54  true _ A106.out rfl).mono ?_); rintro e w108 ⟨rfl, hb⟩; refine ⟨_, rfl, ?_⟩; replace HO_165001 := Aside0.mk (Kd.V_below (by (with_reducible repeat (first | apply Kd.V_alloc | apply Kd.V_drewN | apply Kd.V_drew)); exact HO_165001.out) hb); replace HO_166001 := Aside0.mk (Kd.V_below (by (with_reducible repeat (first | apply Kd.V_alloc | apply Kd.V_drewN | apply Kd.V_drew)); exact HO_166001.out) hb); replace HO_179001 := krb HO_179001 hb; replace BK145 := bkb BK145 hb; replace BK164 := bkb BK164 hb; replace BK165 := bkb BK165 hb; replace BK178 := bkb BK178 hb; replace HB := bst HB hb; (try clear hb); (try clear hb2); (try clear hk); (try clear hi)))
             go_ret
             exact endB HB
            ·replace c107 := Bool.eq_false_iff.mpr c107
             subst c107
             have H1 : (some false) = some r := by rw [if_neg (show ¬ (false = true) by decide)] at H; exact H
             exact absurd ((Option.some.inj H1).trans HRT.out) Bool.false_ne_true
end Go.Proofs.Ytagcloidicnhhaa.Print
