-- Laid by wip/print/bprint.py of this repo, over the kit's printer, with functions given by hand; not trusted: Lean checks it.
import Derived.Test.YtkkbmjfhpngalaaHList
import Derived.Test.YtkkbmjfhpngalaaPrint0
import Derived.Test.YtkkbmjfhpngalaaPrint1
import Derived.Test.YtkkbmjfhpngalaaPrint2
import Derived.Test.YtkkbmjfhpngalaaPrint3
import Derived.Test.YtkkbmjfhpngalaaPrint6
import Derived.Test.YtkkbmjfhpngalaaPrint8
import Derived.Test.YtkkbmjfhpngalaaSh
namespace Go.Proofs.Ytkkbmjfhpngalaa.Print
open Go.RowKit Go.Proofs.YtkkbmjfhpngalaaW.PrintWords Go.Proofs.YtkkbmjfhpngalaaW.PrintLast Go.Proofs.YtkkbmjfhpngalaaW.PrintMore
attribute [local go_sem] max2_int min2_int max_two min_two max_three min_three max_four min_four   -- for this text's walks alone
set_option linter.unusedVariables false
set_option linter.unusedSimpArgs false
/-! ### bocagelaw03_SpanParts: function 5 -/
mutual
def bocagelaw03_SpanParts.j0 : Nat → Int → Bool → Int → Int → Int → Int → Int → Int → Int → Int → Option (Bool)
  | 0, _, _, _, _, _, _, _, _, _, _ => none
  | k + 1, x2, x21, x660000, x660001, x660002, x660003, x661000, x661001, x661002, x661003 => if x21 = true then ((bocagelaw03_alive.f k).bind fun t663 => (some t663)) else ((span_Meet.f k x660000 x660001 x660002 x660003 x661000 x661001 x661002 x661003).bind fun bt664 => (if bt664.2.2.2.2 = true then ((span_Has.f k bt664.1 bt664.2.1 bt664.2.2.1 bt664.2.2.2.1 x2).bind fun t670 => (bocagelaw03_SpanParts.j1 k x2 bt664.2.2.2.2 0 t670 x660000 x660001 x660002 x660003 x661000 x661001 x661002 x661003 bt664.1 bt664.2.1 bt664.2.2.1 bt664.2.2.2.1)) else (bocagelaw03_SpanParts.j1 k x2 bt664.2.2.2.2 0 false x660000 x660001 x660002 x660003 x661000 x661001 x661002 x661003 bt664.1 bt664.2.1 bt664.2.2.1 bt664.2.2.2.1)))
def bocagelaw03_SpanParts.j1 : Nat → Int → Bool → Int → Bool → Int → Int → Int → Int → Int → Int → Int → Int → Int → Int → Int → Int → Option (Bool)
  | 0, _, _, _, _, _, _, _, _, _, _, _, _, _, _, _, _ => none
  | k + 1, x2, x8, x9, x34, x660000, x660001, x660002, x660003, x661000, x661001, x661002, x661003, x670000, x670001, x670002, x670003 => if x34 = true then (bocagelaw03_SpanParts.j2 k x2 x8 (wrap64 (x9 + 1)) x660000 x660001 x660002 x660003 x661000 x661001 x661002 x661003 x670000 x670001 x670002 x670003) else (bocagelaw03_SpanParts.j2 k x2 x8 x9 x660000 x660001 x660002 x660003 x661000 x661001 x661002 x661003 x670000 x670001 x670002 x670003)
def bocagelaw03_SpanParts.j2 : Nat → Int → Bool → Int → Int → Int → Int → Int → Int → Int → Int → Int → Int → Int → Int → Int → Option (Bool)
  | 0, _, _, _, _, _, _, _, _, _, _, _, _, _, _, _ => none
  | k + 1, x2, x8, x9, x660000, x660001, x660002, x660003, x661000, x661001, x661002, x661003, x670000, x670001, x670002, x670003 => (span_Minus.f k x660000 x660001 x660002 x660003 x661000 x661001 x661002 x661003).bind fun t671 => (bocagelaw03_SpanParts.l0 k x2 x8 x9 t671 t671 (t671.length : Int) 0 x660000 x660001 x660002 x660003 x670000 x670001 x670002 x670003)
def bocagelaw03_SpanParts.l0 : Nat → Int → Bool → Int → List (S25) → List (S25) → Int → Int → Int → Int → Int → Int → Int → Int → Int → Int → Option (Bool)
  | 0, _, _, _, _, _, _, _, _, _, _, _, _, _, _, _ => none
  | k + 1, x2, x8, x9, x10, x40, x41, x42, x660000, x660001, x660002, x660003, x670000, x670001, x670002, x670003 => if x42 < x41 then (if 0 ≤ x42 then (if x42 < (x40.length : Int) then ((span_Has.f k ((rd_T25 x40 x42).f0.f0) ((rd_T25 x40 x42).f0.f1) ((rd_T25 x40 x42).f1.f0) ((rd_T25 x40 x42).f1.f1) x2).bind fun t676 => (if t676 = true then (bocagelaw03_SpanParts.l0 k x2 x8 (wrap64 (x9 + 1)) x10 x40 x41 (wrap64 (x42 + 1)) x660000 x660001 x660002 x660003 x670000 x670001 x670002 x670003) else (bocagelaw03_SpanParts.l0 k x2 x8 x9 x10 x40 x41 (wrap64 (x42 + 1)) x660000 x660001 x660002 x660003 x670000 x670001 x670002 x670003))) else (none)) else (none)) else ((bocageref03_Has.f k x660000 x660001 x660002 x660003 x2).bind fun t677 => (if t677 = true then (bocagelaw03_SpanParts.j4 k x8 x9 x10 1 x660000 x660001 x660002 x660003 x670000 x670001 x670002 x670003) else (bocagelaw03_SpanParts.j4 k x8 x9 x10 0 x660000 x660001 x660002 x660003 x670000 x670001 x670002 x670003)))
def bocagelaw03_SpanParts.j4 : Nat → Bool → Int → List (S25) → Int → Int → Int → Int → Int → Int → Int → Int → Int → Option (Bool)
  | 0, _, _, _, _, _, _, _, _, _, _, _, _ => none
  | k + 1, x8, x9, x10, x13, x660000, x660001, x660002, x660003, x670000, x670001, x670002, x670003 => if x8 = true then (if x10.length < 4398046511104 then (bocagelaw03_SpanParts.j5 k x9 (x10 ++ [(⟨(⟨x670000, x670001⟩ : S23), (⟨x670002, x670003⟩ : S23)⟩ : S25)]) x13 x660000 x660001 x660002 x660003) else (none)) else (bocagelaw03_SpanParts.j5 k x9 x10 x13 x660000 x660001 x660002 x660003)
def bocagelaw03_SpanParts.j5 : Nat → Int → List (S25) → Int → Int → Int → Int → Int → Option (Bool)
  | 0, _, _, _, _, _, _, _ => none
  | k + 1, x9, x10, x13, x660000, x660001, x660002, x660003 => (bocagelaw03_alive.f k).bind fun t681 => (if t681 = true then (if x9 = x13 then ((span_List.f k x10).bind fun t682 => ((bocageref03_One.f x660000 x660001 x660002 x660003).bind fun t685 => ((bocageref03_Same.f k t682 t685).bind fun t688 => (some t688)))) else (some false)) else (some false))
end
def bocagelaw03_SpanParts.f (k : Nat) (a0_0 : Int) (a0_1 : Int) (a0_2 : Int) (a0_3 : Int) (a1_0 : Int) (a1_1 : Int) (a1_2 : Int) (a1_3 : Int) (a2 : Int) : Option (Bool) := (span_Right.f k a0_0 a0_1 a0_2 a0_3).bind fun t661 => (if t661 = true then ((span_Right.f k a1_0 a1_1 a1_2 a1_3).bind fun t662 => (bocagelaw03_SpanParts.j0 k a2 (!t662) a0_0 a0_1 a0_2 a0_3 a1_0 a1_1 a1_2 a1_3)) else (bocagelaw03_SpanParts.j0 k a2 true a0_0 a0_1 a0_2 a0_3 a1_0 a1_1 a1_2 a1_3))
theorem bocagelaw03_SpanParts.mono_l : ∀ k, (∀ y0 y1 y2 y3 y4 y5 y6 y7 y8 y9, LeO (bocagelaw03_SpanParts.j0 k y0 y1 y2 y3 y4 y5 y6 y7 y8 y9) (bocagelaw03_SpanParts.j0 (k + 1) y0 y1 y2 y3 y4 y5 y6 y7 y8 y9)) ∧ (∀ y0 y1 y2 y3 y4 y5 y6 y7 y8 y9 y10 y11 y12 y13 y14 y15, LeO (bocagelaw03_SpanParts.j1 k y0 y1 y2 y3 y4 y5 y6 y7 y8 y9 y10 y11 y12 y13 y14 y15) (bocagelaw03_SpanParts.j1 (k + 1) y0 y1 y2 y3 y4 y5 y6 y7 y8 y9 y10 y11 y12 y13 y14 y15)) ∧ (∀ y0 y1 y2 y3 y4 y5 y6 y7 y8 y9 y10 y11 y12 y13 y14, LeO (bocagelaw03_SpanParts.j2 k y0 y1 y2 y3 y4 y5 y6 y7 y8 y9 y10 y11 y12 y13 y14) (bocagelaw03_SpanParts.j2 (k + 1) y0 y1 y2 y3 y4 y5 y6 y7 y8 y9 y10 y11 y12 y13 y14)) ∧ (∀ y0 y1 y2 y3 y4 y5 y6 y7 y8 y9 y10 y11 y12 y13 y14, LeO (bocagelaw03_SpanParts.l0 k y0 y1 y2 y3 y4 y5 y6 y7 y8 y9 y10 y11 y12 y13 y14) (bocagelaw03_SpanParts.l0 (k + 1) y0 y1 y2 y3 y4 y5 y6 y7 y8 y9 y10 y11 y12 y13 y14)) ∧ (∀ y0 y1 y2 y3 y4 y5 y6 y7 y8 y9 y10 y11, LeO (bocagelaw03_SpanParts.j4 k y0 y1 y2 y3 y4 y5 y6 y7 y8 y9 y10 y11) (bocagelaw03_SpanParts.j4 (k + 1) y0 y1 y2 y3 y4 y5 y6 y7 y8 y9 y10 y11)) ∧ (∀ y0 y1 y2 y3 y4 y5 y6, LeO (bocagelaw03_SpanParts.j5 k y0 y1 y2 y3 y4 y5 y6) (bocagelaw03_SpanParts.j5 (k + 1) y0 y1 y2 y3 y4 y5 y6))
  | 0 => ⟨fun _ _ _ _ _ _ _ _ _ _ r h => by simp [bocagelaw03_SpanParts.j0] at h, fun _ _ _ _ _ _ _ _ _ _ _ _ _ _ _ _ r h => by simp [bocagelaw03_SpanParts.j1] at h, fun _ _ _ _ _ _ _ _ _ _ _ _ _ _ _ r h => by simp [bocagelaw03_SpanParts.j2] at h, fun _ _ _ _ _ _ _ _ _ _ _ _ _ _ _ r h => by simp [bocagelaw03_SpanParts.l0] at h, fun _ _ _ _ _ _ _ _ _ _ _ _ r h => by simp [bocagelaw03_SpanParts.j4] at h, fun _ _ _ _ _ _ _ r h => by simp [bocagelaw03_SpanParts.j5] at h⟩
  | k + 1 => by
    obtain ⟨ih0, ih1, ih2, ih3, ih4, ih5⟩ := bocagelaw03_SpanParts.mono_l k
    refine ⟨?_, ?_, ?_, ?_, ?_, ?_⟩
    · intro y0 y1 y2 y3 y4 y5 y6 y7 y8 y9
      unfold bocagelaw03_SpanParts.j0
      repeat' first
      | (with_reducible exact ih0 _ _ _ _ _ _ _ _ _ _)
      | (with_reducible exact ih1 _ _ _ _ _ _ _ _ _ _ _ _ _ _ _ _)
      | (with_reducible exact ih2 _ _ _ _ _ _ _ _ _ _ _ _ _ _ _)
      | (with_reducible exact ih3 _ _ _ _ _ _ _ _ _ _ _ _ _ _ _)
      | (with_reducible exact ih4 _ _ _ _ _ _ _ _ _ _ _ _)
      | (with_reducible exact ih5 _ _ _ _ _ _ _)
      | (with_reducible exact bocagelaw03_alive.mono _)
      | (with_reducible exact bocageref03_Has.mono _ _ _ _ _ _)
      | (with_reducible exact bocageref03_Same.mono _ _ _)
      | (with_reducible exact span_Has.mono _ _ _ _ _ _)
      | (with_reducible exact span_List.mono _ _)
      | (with_reducible exact span_Meet.mono _ _ _ _ _ _ _ _ _)
      | (with_reducible exact span_Minus.mono _ _ _ _ _ _ _ _ _)
      | (with_reducible exact span_Right.mono _ _ _ _ _)
      | (with_reducible exact LeO.refl _)
      | (with_reducible exact LeO.none _)
      | (with_reducible refine LeO.ite ?_ ?_)
      | (with_reducible refine LeO.bind ?_ (fun _ => ?_))
      | exact ih0 _ _ _ _ _ _ _ _ _ _
      | exact ih1 _ _ _ _ _ _ _ _ _ _ _ _ _ _ _ _
      | exact ih2 _ _ _ _ _ _ _ _ _ _ _ _ _ _ _
      | exact ih3 _ _ _ _ _ _ _ _ _ _ _ _ _ _ _
      | exact ih4 _ _ _ _ _ _ _ _ _ _ _ _
      | exact ih5 _ _ _ _ _ _ _
      | exact bocagelaw03_alive.mono _
      | exact bocageref03_Has.mono _ _ _ _ _ _
      | exact bocageref03_Same.mono _ _ _
      | exact span_Has.mono _ _ _ _ _ _
      | exact span_List.mono _ _
      | exact span_Meet.mono _ _ _ _ _ _ _ _ _
      | exact span_Minus.mono _ _ _ _ _ _ _ _ _
      | exact span_Right.mono _ _ _ _ _
      | exact LeO.none _
      | refine LeO.ite ?_ ?_
      | refine LeO.bind ?_ (fun _ => ?_)
    · intro y0 y1 y2 y3 y4 y5 y6 y7 y8 y9 y10 y11 y12 y13 y14 y15
      unfold bocagelaw03_SpanParts.j1
      repeat' first
      | (with_reducible exact ih0 _ _ _ _ _ _ _ _ _ _)
      | (with_reducible exact ih1 _ _ _ _ _ _ _ _ _ _ _ _ _ _ _ _)
      | (with_reducible exact ih2 _ _ _ _ _ _ _ _ _ _ _ _ _ _ _)
      | (with_reducible exact ih3 _ _ _ _ _ _ _ _ _ _ _ _ _ _ _)
      | (with_reducible exact ih4 _ _ _ _ _ _ _ _ _ _ _ _)
      | (with_reducible exact ih5 _ _ _ _ _ _ _)
      | (with_reducible exact bocagelaw03_alive.mono _)
      | (with_reducible exact bocageref03_Has.mono _ _ _ _ _ _)
      | (with_reducible exact bocageref03_Same.mono _ _ _)
      | (with_reducible exact span_Has.mono _ _ _ _ _ _)
      | (with_reducible exact span_List.mono _ _)
      | (with_reducible exact span_Meet.mono _ _ _ _ _ _ _ _ _)
      | (with_reducible exact span_Minus.mono _ _ _ _ _ _ _ _ _)
      | (with_reducible exact span_Right.mono _ _ _ _ _)
      | (with_reducible exact LeO.refl _)
      | (with_reducible exact LeO.none _)
      | (with_reducible refine LeO.ite ?_ ?_)
      | (with_reducible refine LeO.bind ?_ (fun _ => ?_))
      | exact ih0 _ _ _ _ _ _ _ _ _ _
      | exact ih1 _ _ _ _ _ _ _ _ _ _ _ _ _ _ _ _
      | exact ih2 _ _ _ _ _ _ _ _ _ _ _ _ _ _ _
      | exact ih3 _ _ _ _ _ _ _ _ _ _ _ _ _ _ _
      | exact ih4 _ _ _ _ _ _ _ _ _ _ _ _
      | exact ih5 _ _ _ _ _ _ _
      | exact bocagelaw03_alive.mono _
      | exact bocageref03_Has.mono _ _ _ _ _ _
      | exact bocageref03_Same.mono _ _ _
      | exact span_Has.mono _ _ _ _ _ _
      | exact span_List.mono _ _
      | exact span_Meet.mono _ _ _ _ _ _ _ _ _
      | exact span_Minus.mono _ _ _ _ _ _ _ _ _
      | exact span_Right.mono _ _ _ _ _
      | exact LeO.none _
      | refine LeO.ite ?_ ?_
      | refine LeO.bind ?_ (fun _ => ?_)
    · intro y0 y1 y2 y3 y4 y5 y6 y7 y8 y9 y10 y11 y12 y13 y14
      unfold bocagelaw03_SpanParts.j2
      repeat' first
      | (with_reducible exact ih0 _ _ _ _ _ _ _ _ _ _)
      | (with_reducible exact ih1 _ _ _ _ _ _ _ _ _ _ _ _ _ _ _ _)
      | (with_reducible exact ih2 _ _ _ _ _ _ _ _ _ _ _ _ _ _ _)
      | (with_reducible exact ih3 _ _ _ _ _ _ _ _ _ _ _ _ _ _ _)
      | (with_reducible exact ih4 _ _ _ _ _ _ _ _ _ _ _ _)
      | (with_reducible exact ih5 _ _ _ _ _ _ _)
      | (with_reducible exact bocagelaw03_alive.mono _)
      | (with_reducible exact bocageref03_Has.mono _ _ _ _ _ _)
      | (with_reducible exact bocageref03_Same.mono _ _ _)
      | (with_reducible exact span_Has.mono _ _ _ _ _ _)
      | (with_reducible exact span_List.mono _ _)
      | (with_reducible exact span_Meet.mono _ _ _ _ _ _ _ _ _)
      | (with_reducible exact span_Minus.mono _ _ _ _ _ _ _ _ _)
      | (with_reducible exact span_Right.mono _ _ _ _ _)
      | (with_reducible exact LeO.refl _)
      | (with_reducible exact LeO.none _)
      | (with_reducible refine LeO.ite ?_ ?_)
      | (with_reducible refine LeO.bind ?_ (fun _ => ?_))
      | exact ih0 _ _ _ _ _ _ _ _ _ _
      | exact ih1 _ _ _ _ _ _ _ _ _ _ _ _ _ _ _ _
      | exact ih2 _ _ _ _ _ _ _ _ _ _ _ _ _ _ _
      | exact ih3 _ _ _ _ _ _ _ _ _ _ _ _ _ _ _
      | exact ih4 _ _ _ _ _ _ _ _ _ _ _ _
      | exact ih5 _ _ _ _ _ _ _
      | exact bocagelaw03_alive.mono _
      | exact bocageref03_Has.mono _ _ _ _ _ _
      | exact bocageref03_Same.mono _ _ _
      | exact span_Has.mono _ _ _ _ _ _
      | exact span_List.mono _ _
      | exact span_Meet.mono _ _ _ _ _ _ _ _ _
      | exact span_Minus.mono _ _ _ _ _ _ _ _ _
      | exact span_Right.mono _ _ _ _ _
      | exact LeO.none _
      | refine LeO.ite ?_ ?_
      | refine LeO.bind ?_ (fun _ => ?_)
    · intro y0 y1 y2 y3 y4 y5 y6 y7 y8 y9 y10 y11 y12 y13 y14
      unfold bocagelaw03_SpanParts.l0
      repeat' first
      | (with_reducible exact ih0 _ _ _ _ _ _ _ _ _ _)
      | (with_reducible exact ih1 _ _ _ _ _ _ _ _ _ _ _ _ _ _ _ _)
      | (with_reducible exact ih2 _ _ _ _ _ _ _ _ _ _ _ _ _ _ _)
      | (with_reducible exact ih3 _ _ _ _ _ _ _ _ _ _ _ _ _ _ _)
      | (with_reducible exact ih4 _ _ _ _ _ _ _ _ _ _ _ _)
      | (with_reducible exact ih5 _ _ _ _ _ _ _)
      | (with_reducible exact bocagelaw03_alive.mono _)
      | (with_reducible exact bocageref03_Has.mono _ _ _ _ _ _)
      | (with_reducible exact bocageref03_Same.mono _ _ _)
      | (with_reducible exact span_Has.mono _ _ _ _ _ _)
      | (with_reducible exact span_List.mono _ _)
      | (with_reducible exact span_Meet.mono _ _ _ _ _ _ _ _ _)
      | (with_reducible exact span_Minus.mono _ _ _ _ _ _ _ _ _)
      | (with_reducible exact span_Right.mono _ _ _ _ _)
      | (with_reducible exact LeO.refl _)
      | (with_reducible exact LeO.none _)
      | (with_reducible refine LeO.ite ?_ ?_)
      | (with_reducible refine LeO.bind ?_ (fun _ => ?_))
      | exact ih0 _ _ _ _ _ _ _ _ _ _
      | exact ih1 _ _ _ _ _ _ _ _ _ _ _ _ _ _ _ _
      | exact ih2 _ _ _ _ _ _ _ _ _ _ _ _ _ _ _
      | exact ih3 _ _ _ _ _ _ _ _ _ _ _ _ _ _ _
      | exact ih4 _ _ _ _ _ _ _ _ _ _ _ _
      | exact ih5 _ _ _ _ _ _ _
      | exact bocagelaw03_alive.mono _
      | exact bocageref03_Has.mono _ _ _ _ _ _
      | exact bocageref03_Same.mono _ _ _
      | exact span_Has.mono _ _ _ _ _ _
      | exact span_List.mono _ _
      | exact span_Meet.mono _ _ _ _ _ _ _ _ _
      | exact span_Minus.mono _ _ _ _ _ _ _ _ _
      | exact span_Right.mono _ _ _ _ _
      | exact LeO.none _
      | refine LeO.ite ?_ ?_
      | refine LeO.bind ?_ (fun _ => ?_)
    · intro y0 y1 y2 y3 y4 y5 y6 y7 y8 y9 y10 y11
      unfold bocagelaw03_SpanParts.j4
      repeat' first
      | (with_reducible exact ih0 _ _ _ _ _ _ _ _ _ _)
      | (with_reducible exact ih1 _ _ _ _ _ _ _ _ _ _ _ _ _ _ _ _)
      | (with_reducible exact ih2 _ _ _ _ _ _ _ _ _ _ _ _ _ _ _)
      | (with_reducible exact ih3 _ _ _ _ _ _ _ _ _ _ _ _ _ _ _)
      | (with_reducible exact ih4 _ _ _ _ _ _ _ _ _ _ _ _)
      | (with_reducible exact ih5 _ _ _ _ _ _ _)
      | (with_reducible exact bocagelaw03_alive.mono _)
      | (with_reducible exact bocageref03_Has.mono _ _ _ _ _ _)
      | (with_reducible exact bocageref03_Same.mono _ _ _)
      | (with_reducible exact span_Has.mono _ _ _ _ _ _)
      | (with_reducible exact span_List.mono _ _)
      | (with_reducible exact span_Meet.mono _ _ _ _ _ _ _ _ _)
      | (with_reducible exact span_Minus.mono _ _ _ _ _ _ _ _ _)
      | (with_reducible exact span_Right.mono _ _ _ _ _)
      | (with_reducible exact LeO.refl _)
      | (with_reducible exact LeO.none _)
      | (with_reducible refine LeO.ite ?_ ?_)
      | (with_reducible refine LeO.bind ?_ (fun _ => ?_))
      | exact ih0 _ _ _ _ _ _ _ _ _ _
      | exact ih1 _ _ _ _ _ _ _ _ _ _ _ _ _ _ _ _
      | exact ih2 _ _ _ _ _ _ _ _ _ _ _ _ _ _ _
      | exact ih3 _ _ _ _ _ _ _ _ _ _ _ _ _ _ _
      | exact ih4 _ _ _ _ _ _ _ _ _ _ _ _
      | exact ih5 _ _ _ _ _ _ _
      | exact bocagelaw03_alive.mono _
      | exact bocageref03_Has.mono _ _ _ _ _ _
      | exact bocageref03_Same.mono _ _ _
      | exact span_Has.mono _ _ _ _ _ _
      | exact span_List.mono _ _
      | exact span_Meet.mono _ _ _ _ _ _ _ _ _
      | exact span_Minus.mono _ _ _ _ _ _ _ _ _
      | exact span_Right.mono _ _ _ _ _
      | exact LeO.none _
      | refine LeO.ite ?_ ?_
      | refine LeO.bind ?_ (fun _ => ?_)
    · intro y0 y1 y2 y3 y4 y5 y6
      unfold bocagelaw03_SpanParts.j5
      repeat' first
      | (with_reducible exact ih0 _ _ _ _ _ _ _ _ _ _)
      | (with_reducible exact ih1 _ _ _ _ _ _ _ _ _ _ _ _ _ _ _ _)
      | (with_reducible exact ih2 _ _ _ _ _ _ _ _ _ _ _ _ _ _ _)
      | (with_reducible exact ih3 _ _ _ _ _ _ _ _ _ _ _ _ _ _ _)
      | (with_reducible exact ih4 _ _ _ _ _ _ _ _ _ _ _ _)
      | (with_reducible exact ih5 _ _ _ _ _ _ _)
      | (with_reducible exact bocagelaw03_alive.mono _)
      | (with_reducible exact bocageref03_Has.mono _ _ _ _ _ _)
      | (with_reducible exact bocageref03_Same.mono _ _ _)
      | (with_reducible exact span_Has.mono _ _ _ _ _ _)
      | (with_reducible exact span_List.mono _ _)
      | (with_reducible exact span_Meet.mono _ _ _ _ _ _ _ _ _)
      | (with_reducible exact span_Minus.mono _ _ _ _ _ _ _ _ _)
      | (with_reducible exact span_Right.mono _ _ _ _ _)
      | (with_reducible exact LeO.refl _)
      | (with_reducible exact LeO.none _)
      | (with_reducible refine LeO.ite ?_ ?_)
      | (with_reducible refine LeO.bind ?_ (fun _ => ?_))
      | exact ih0 _ _ _ _ _ _ _ _ _ _
      | exact ih1 _ _ _ _ _ _ _ _ _ _ _ _ _ _ _ _
      | exact ih2 _ _ _ _ _ _ _ _ _ _ _ _ _ _ _
      | exact ih3 _ _ _ _ _ _ _ _ _ _ _ _ _ _ _
      | exact ih4 _ _ _ _ _ _ _ _ _ _ _ _
      | exact ih5 _ _ _ _ _ _ _
      | exact bocagelaw03_alive.mono _
      | exact bocageref03_Has.mono _ _ _ _ _ _
      | exact bocageref03_Same.mono _ _ _
      | exact span_Has.mono _ _ _ _ _ _
      | exact span_List.mono _ _
      | exact span_Meet.mono _ _ _ _ _ _ _ _ _
      | exact span_Minus.mono _ _ _ _ _ _ _ _ _
      | exact span_Right.mono _ _ _ _ _
      | exact LeO.none _
      | refine LeO.ite ?_ ?_
      | refine LeO.bind ?_ (fun _ => ?_)
theorem bocagelaw03_SpanParts.mono : ∀ a0 a1 a2 a3 a4 a5 a6 a7 a8 k, LeO (bocagelaw03_SpanParts.f k a0 a1 a2 a3 a4 a5 a6 a7 a8) (bocagelaw03_SpanParts.f (k + 1) a0 a1 a2 a3 a4 a5 a6 a7 a8) := by
  intro a0 a1 a2 a3 a4 a5 a6 a7 a8 k
  obtain ⟨ih0, ih1, ih2, ih3, ih4, ih5⟩ := bocagelaw03_SpanParts.mono_l k
  unfold bocagelaw03_SpanParts.f
  repeat' first
      | (with_reducible exact ih0 _ _ _ _ _ _ _ _ _ _)
      | (with_reducible exact ih1 _ _ _ _ _ _ _ _ _ _ _ _ _ _ _ _)
      | (with_reducible exact ih2 _ _ _ _ _ _ _ _ _ _ _ _ _ _ _)
      | (with_reducible exact ih3 _ _ _ _ _ _ _ _ _ _ _ _ _ _ _)
      | (with_reducible exact ih4 _ _ _ _ _ _ _ _ _ _ _ _)
      | (with_reducible exact ih5 _ _ _ _ _ _ _)
      | (with_reducible exact bocagelaw03_alive.mono _)
      | (with_reducible exact bocageref03_Has.mono _ _ _ _ _ _)
      | (with_reducible exact bocageref03_Same.mono _ _ _)
      | (with_reducible exact span_Has.mono _ _ _ _ _ _)
      | (with_reducible exact span_List.mono _ _)
      | (with_reducible exact span_Meet.mono _ _ _ _ _ _ _ _ _)
      | (with_reducible exact span_Minus.mono _ _ _ _ _ _ _ _ _)
      | (with_reducible exact span_Right.mono _ _ _ _ _)
      | (with_reducible exact LeO.refl _)
      | (with_reducible exact LeO.none _)
      | (with_reducible refine LeO.ite ?_ ?_)
      | (with_reducible refine LeO.bind ?_ (fun _ => ?_))
      | exact ih0 _ _ _ _ _ _ _ _ _ _
      | exact ih1 _ _ _ _ _ _ _ _ _ _ _ _ _ _ _ _
      | exact ih2 _ _ _ _ _ _ _ _ _ _ _ _ _ _ _
      | exact ih3 _ _ _ _ _ _ _ _ _ _ _ _ _ _ _
      | exact ih4 _ _ _ _ _ _ _ _ _ _ _ _
      | exact ih5 _ _ _ _ _ _ _
      | exact bocagelaw03_alive.mono _
      | exact bocageref03_Has.mono _ _ _ _ _ _
      | exact bocageref03_Same.mono _ _ _
      | exact span_Has.mono _ _ _ _ _ _
      | exact span_List.mono _ _
      | exact span_Meet.mono _ _ _ _ _ _ _ _ _
      | exact span_Minus.mono _ _ _ _ _ _ _ _ _
      | exact span_Right.mono _ _ _ _ _
      | exact LeO.none _
      | refine LeO.ite ?_ ?_
      | refine LeO.bind ?_ (fun _ => ?_)
def bocagelaw03_SpanParts.T19 : Bool × List (List Nat × List Nat) := (true, [([], []), ([0, 0], [0]), ([1], [1]), ([1], [1]), ([2, 3, 1], [1, 2, 3]), ([1, 4], [1, 4]), ([5, 1], [5]), ([6], [6]), ([7, 6, 6], [6, 7]), ([6], [6]), ([9, 8, 6], [6, 9]), ([8, 10, 10, 6], [6, 8, 10]), ([6, 11], [6, 11]), ([12, 11, 0, 1, 2, 3, 4, 5, 6, 7, 8, 9, 10, 11, 12], [12])])
def bocagelaw03_SpanParts.B19 : List Nat := [0, 1, 3, 3, 15, 31, 63, 127, 255, 127, 1023, 2047, 4095, 8191]
theorem bocagelaw03_SpanParts.tab19 : rtab .any (opsOf Try.f5 19) = bocagelaw03_SpanParts.T19 := by kernel_rfl
theorem bocagelaw03_SpanParts.bits19 : waitsOk bocagelaw03_SpanParts.T19.2 bocagelaw03_SpanParts.B19 = true := by kernel_rfl
set_option maxHeartbeats 8000000 in
set_option maxRecDepth 100000 in
theorem bocagelaw03_SpanParts.calls (k : Nat) (a0_0 : Int) (a0_1 : Int) (a0_2 : Int) (a0_3 : Int) (a1_0 : Int) (a1_1 : Int) (a1_2 : Int) (a1_3 : Int) (a2 : Int) (r : Bool) (w : World) (h : bocagelaw03_SpanParts.f k a0_0 a0_1 a0_2 a0_3 a1_0 a1_1 a1_2 a1_3 a2 = some r) (hr : r = true) :
    Calls Try.prog 5 #[.agg #[.int .i64 a0_0, .int .i64 a0_1, .int .i64 a0_2, .int .i64 a0_3], .agg #[.int .i64 a1_0, .int .i64 a1_1, .int .i64 a1_2, .int .i64 a1_3], .int .i64 a2] w fun e w' => e = .returned (.bool r) ∧ Below w.heap.size w w' := by
  have HRT := Aside0.mk hr
  clear hr
  have hu25 := Try.underlying25
  have HB := Aside0.mk (Below.refl w.heap.size w)
  have H : ((span_Right.f k a0_0 a0_1 a0_2 a0_3).bind fun t661 => (if t661 = true then ((span_Right.f k a1_0 a1_1 a1_2 a1_3).bind fun t662 => (bocagelaw03_SpanParts.j0 k a2 (!t662) a0_0 a0_1 a0_2 a0_3 a1_0 a1_1 a1_2 a1_3)) else (bocagelaw03_SpanParts.j0 k a2 true a0_0 a0_1 a0_2 a0_3 a1_0 a1_1 a1_2 a1_3))) = some r := h
  clear h
  have HC4 := Aside0.mk H
  clear H
  go_enter Try.func5, Try.ntmps5
  go_upto_region 1 with (first | ((with_reducible refine gate_dst (N := 3) rfl ?_); refine bxe (N := 3) (cs := #[.int .i64 a0_0, .int .i64 a0_1, .int .i64 a0_2, .int .i64 a0_3]) (t := 25) ?_; intro gb659 hg w5 hbox hb; have BK659 := Aside0.mk (hbox); have GW659 := lsz hg HB; have GE659 := lsz hg HB; replace HB := bst HB hb; clear hb hbox hg) | ((with_reducible refine gate_dst (N := 4) rfl ?_); refine bxe (N := 4) (cs := #[.int .i64 a1_0, .int .i64 a1_1, .int .i64 a1_2, .int .i64 a1_3]) (t := 25) ?_; intro gb660 hg w6 hbox hb; have BK660 := Aside0.mk (hbox); have GW660 := lsz hg HB; have GE660 := lsz hg HB; replace HB := bst HB hb; have NB659_660 := nlt hg BK659; have NB660_659 := ngt hg BK659; replace BK659 := bkb BK659 hb; clear hb hbox hg))
  (try simp only [Act.put, List.setIfInBounds_toArray, List.set_cons_zero, List.set_cons_succ])
  go_cut [21] (fun v21 wc => ∃ (kq : Nat) (x21_3 : Bool), v21 = .bool x21_3 ∧ Aside0 (bocagelaw03_SpanParts.j0 kq a2 x21_3 a0_0 a0_1 a0_2 a0_3 a1_0 a1_1 a1_2 a1_3 = some r) ∧ Aside0 (kq ≤ k) ∧ Aside0 (wc.heap[gb659]? = some (.cells #[.int .i64 a0_0, .int .i64 a0_1, .int .i64 a0_2, .int .i64 a0_3] 25 (0, 0))) ∧ Aside0 (wc.heap[gb660]? = some (.cells #[.int .i64 a1_0, .int .i64 a1_1, .int .i64 a1_2, .int .i64 a1_3] 25 (0, 0))) ∧ Aside0 (Below w.heap.size w wc))
  case first =>
    have H := HC4.out
    clear HC4
    replace H := Option.bind_eq_some_iff.mp H
    obtain ⟨t661, A70, H⟩ := H
    (try (set_option simprocs false in dsimp only at H))
    have A7 := Aside0.mk A70
    clear A70
    by_cases c8 : t661 = true
    · subst c8
      have H1 : ((span_Right.f k a1_0 a1_1 a1_2 a1_3).bind fun t662 => (bocagelaw03_SpanParts.j0 k a2 (!t662) a0_0 a0_1 a0_2 a0_3 a1_0 a1_1 a1_2 a1_3)) = some r := by rw [if_pos rfl] at H; exact H
      clear H
      have H := H1
      clear H1
      replace H := Option.bind_eq_some_iff.mp H
      obtain ⟨t662, A90, H⟩ := H
      (try (set_option simprocs false in dsimp only at H))
      have A9 := Aside0.mk A90
      clear A90
      have H' := Aside0.mk H
      clear H
      have hnb10 := NB659_660.out
      have hnc10 := NB660_659.out
      have hcz11_0 : w6.cell? ⟨gb659, 0, none⟩ = some (.int .i64 a0_0) := (blk_cell BK659.out 0).trans rfl
      have hcz11_1 : w6.cell? ⟨gb659, 1, none⟩ = some (.int .i64 a0_1) := (blk_cell BK659.out 1).trans rfl
      have hcz11_2 : w6.cell? ⟨gb659, 2, none⟩ = some (.int .i64 a0_2) := (blk_cell BK659.out 2).trans rfl
      have hcz11_3 : w6.cell? ⟨gb659, 3, none⟩ = some (.int .i64 a0_3) := (blk_cell BK659.out 3).trans rfl
      have hfz11_0 := blk_frozen BK659.out 0
      have hfz11_1 := blk_frozen BK659.out 1
      have hfz11_2 := blk_frozen BK659.out 2
      have hfz11_3 := blk_frozen BK659.out 3
      go_wp2_with (first | ((with_reducible refine gate_callee (f := 28) rfl ?_); refine gol (some 15) Try.func28 #[.agg #[.int .i64 a0_0, .int .i64 a0_1, .int .i64 a0_2, .int .i64 a0_3]] ?_; (with_reducible refine (span_Right.calls k a0_0 a0_1 a0_2 a0_3 true _ A7.out).mono ?_); rintro e w12 ⟨rfl, hb⟩; refine ⟨_, rfl, ?_⟩; replace BK659 := bkb BK659 hb; replace BK660 := bkb BK660 hb; replace HB := bst HB hb; (try clear hb); (try clear hb2); (try clear hk); (try clear hi); obtain ⟨hcz13_0, hcz13_1, hcz13_2, hcz13_3⟩ := e4 BK660; obtain ⟨hfz13_0, hfz13_1, hfz13_2, hfz13_3⟩ := f4 BK660) | (go_at_call 28; (with_reducible refine (span_Right.calls k a1_0 a1_1 a1_2 a1_3 t662 _ A9.out).mono ?_); rintro e w14 ⟨rfl, hb⟩; replace BK659 := bkb BK659 hb; replace BK660 := bkb BK660 hb; replace HB := bst HB hb; (try clear hb); (try clear hb2); (try clear hk); (try clear hi)))
      go_meet
      case rel => exact ⟨_, (!t662), (by first | rfl | (simp; done) | (simp [*]; done)), H', ⟨by first | omega | exact Nat.le_refl _⟩, ⟨bk BK659⟩, ⟨bk BK660⟩, ⟨bl HB⟩⟩
    · replace c8 := Bool.eq_false_iff.mpr c8
      subst c8
      have H1 : (bocagelaw03_SpanParts.j0 k a2 true a0_0 a0_1 a0_2 a0_3 a1_0 a1_1 a1_2 a1_3) = some r := by rw [if_neg (show ¬ (false = true) by decide)] at H; exact H
      clear H
      have H := H1
      clear H1
      have H' := Aside0.mk H
      clear H
      have hnb15 := NB659_660.out
      have hnc15 := NB660_659.out
      have hcz16_0 : w6.cell? ⟨gb659, 0, none⟩ = some (.int .i64 a0_0) := (blk_cell BK659.out 0).trans rfl
      have hcz16_1 : w6.cell? ⟨gb659, 1, none⟩ = some (.int .i64 a0_1) := (blk_cell BK659.out 1).trans rfl
      have hcz16_2 : w6.cell? ⟨gb659, 2, none⟩ = some (.int .i64 a0_2) := (blk_cell BK659.out 2).trans rfl
      have hcz16_3 : w6.cell? ⟨gb659, 3, none⟩ = some (.int .i64 a0_3) := (blk_cell BK659.out 3).trans rfl
      have hfz16_0 := blk_frozen BK659.out 0
      have hfz16_1 := blk_frozen BK659.out 1
      have hfz16_2 := blk_frozen BK659.out 2
      have hfz16_3 := blk_frozen BK659.out 3
      go_wp2_with (first | ((with_reducible refine gate_callee (f := 28) rfl ?_); refine gol (some 15) Try.func28 #[.agg #[.int .i64 a0_0, .int .i64 a0_1, .int .i64 a0_2, .int .i64 a0_3]] ?_; (with_reducible refine (span_Right.calls k a0_0 a0_1 a0_2 a0_3 false _ A7.out).mono ?_); rintro e w17 ⟨rfl, hb⟩; refine ⟨_, rfl, ?_⟩; replace BK659 := bkb BK659 hb; replace BK660 := bkb BK660 hb; replace HB := bst HB hb; (try clear hb); (try clear hb2); (try clear hk); (try clear hi)))
      go_meet
      case rel => exact ⟨_, (true), (by first | rfl | (simp; done) | (simp [*]; done)), H', ⟨by first | omega | exact Nat.le_refl _⟩, ⟨bk BK659⟩, ⟨bk BK660⟩, ⟨bl HB⟩⟩
  case rest =>
    clear HC4
    try clear c1
    try clear c2
    try clear p2
    try clear c5
    try clear c8
    try clear c10
    try clear c15
    try clear hcz11_0
    try clear hcz11_1
    try clear hcz11_2
    try clear hcz11_3
    try clear hcz13_0
    try clear hcz13_1
    try clear hcz13_2
    try clear hcz13_3
    try clear hcz16_0
    try clear hcz16_1
    try clear hcz16_2
    try clear hcz16_3
    try clear hfz11_0
    try clear hfz11_1
    try clear hfz11_2
    try clear hfz11_3
    try clear hfz13_0
    try clear hfz13_1
    try clear hfz13_2
    try clear hfz13_3
    try clear hfz16_0
    try clear hfz16_1
    try clear hfz16_2
    try clear hfz16_3
    obtain ⟨kq, x21_3, rfl, HA, HJ3, BK659, BK660, HB⟩ := hcut
    cases kq with
    | zero => exact absurd HA.out (by simp [bocagelaw03_SpanParts.j0])
    | succ kj3 =>
      have H := HA.out
      clear HA
      simp only [bocagelaw03_SpanParts.j0] at H
      by_cases c18 : x21_3 = true
      · subst c18
        have H1 : ((bocagelaw03_alive.f kj3).bind fun t663 => (some t663)) = some r := by rw [if_pos rfl] at H; exact H
        clear H
        have H := H1
        clear H1
        replace H := Option.bind_eq_some_iff.mp H
        obtain ⟨t663, A190, H⟩ := H
        (try (set_option simprocs false in dsimp only at H))
        have A19 := Aside0.mk A190
        clear A190
        obtain rfl := Option.some.inj H
        go_wp2_with (first | ((with_reducible refine gate_callee (f := 18) rfl ?_); refine gol (some 22) Try.func18 #[] ?_; (with_reducible refine (bocagelaw03_alive.calls kj3  t663 _ A19.out HRT.out).mono ?_); rintro e w20 ⟨rfl, hb⟩; refine ⟨_, rfl, ?_⟩; replace BK659 := bkb BK659 hb; replace BK660 := bkb BK660 hb; replace HB := bst HB hb; (try clear hb); (try clear hb2); (try clear hk); (try clear hi)))
        go_ret
        exact endB HB
      · replace c18 := Bool.eq_false_iff.mpr c18
        subst c18
        have H1 : ((span_Meet.f kj3 a0_0 a0_1 a0_2 a0_3 a1_0 a1_1 a1_2 a1_3).bind fun bt664 => (if bt664.2.2.2.2 = true then ((span_Has.f kj3 bt664.1 bt664.2.1 bt664.2.2.1 bt664.2.2.2.1 a2).bind fun t670 => (bocagelaw03_SpanParts.j1 kj3 a2 bt664.2.2.2.2 0 t670 a0_0 a0_1 a0_2 a0_3 a1_0 a1_1 a1_2 a1_3 bt664.1 bt664.2.1 bt664.2.2.1 bt664.2.2.2.1)) else (bocagelaw03_SpanParts.j1 kj3 a2 bt664.2.2.2.2 0 false a0_0 a0_1 a0_2 a0_3 a1_0 a1_1 a1_2 a1_3 bt664.1 bt664.2.1 bt664.2.2.1 bt664.2.2.2.1))) = some r := by rw [if_neg (show ¬ (false = true) by decide)] at H; exact H
        clear H
        have H := H1
        clear H1
        replace H := Option.bind_eq_some_iff.mp H
        obtain ⟨⟨t664, t665, t666, t667, t668⟩, A210, H⟩ := H
        (try (set_option simprocs false in dsimp only at H))
        have A21 := Aside0.mk A210
        clear A210
        have HC22 := Aside0.mk H
        clear H
        have hnb23 := NB659_660.out
        have hnc23 := NB660_659.out
        have hcz24_0 : wc.cell? ⟨gb659, 0, none⟩ = some (.int .i64 a0_0) := (blk_cell BK659.out 0).trans rfl
        have hcz24_1 : wc.cell? ⟨gb659, 1, none⟩ = some (.int .i64 a0_1) := (blk_cell BK659.out 1).trans rfl
        have hcz24_2 : wc.cell? ⟨gb659, 2, none⟩ = some (.int .i64 a0_2) := (blk_cell BK659.out 2).trans rfl
        have hcz24_3 : wc.cell? ⟨gb659, 3, none⟩ = some (.int .i64 a0_3) := (blk_cell BK659.out 3).trans rfl
        have hfz24_0 := blk_frozen BK659.out 0
        have hfz24_1 := blk_frozen BK659.out 1
        have hfz24_2 := blk_frozen BK659.out 2
        have hfz24_3 := blk_frozen BK659.out 3
        have hcz25_0 : wc.cell? ⟨gb660, 0, none⟩ = some (.int .i64 a1_0) := (blk_cell BK660.out 0).trans rfl
        have hcz25_1 : wc.cell? ⟨gb660, 1, none⟩ = some (.int .i64 a1_1) := (blk_cell BK660.out 1).trans rfl
        have hcz25_2 : wc.cell? ⟨gb660, 2, none⟩ = some (.int .i64 a1_2) := (blk_cell BK660.out 2).trans rfl
        have hcz25_3 : wc.cell? ⟨gb660, 3, none⟩ = some (.int .i64 a1_3) := (blk_cell BK660.out 3).trans rfl
        have hfz25_0 := blk_frozen BK660.out 0
        have hfz25_1 := blk_frozen BK660.out 1
        have hfz25_2 := blk_frozen BK660.out 2
        have hfz25_3 := blk_frozen BK660.out 3
        go_upto_region 5 with (first | ((with_reducible refine gate_callee (f := 11) rfl ?_); refine gol (some 26) Try.func11 #[.agg #[.int .i64 a0_0, .int .i64 a0_1, .int .i64 a0_2, .int .i64 a0_3], .agg #[.int .i64 a1_0, .int .i64 a1_1, .int .i64 a1_2, .int .i64 a1_3]] ?_; (with_reducible refine (span_Meet.calls kj3 a0_0 a0_1 a0_2 a0_3 a1_0 a1_1 a1_2 a1_3 t664 t665 t666 t667 t668 _ A21.out).mono ?_); rintro e w26 ⟨rfl, hb⟩; refine ⟨_, rfl, ?_⟩; replace BK659 := bkb BK659 hb; replace BK660 := bkb BK660 hb; replace HB := bst HB hb; (try clear hb); (try clear hb2); (try clear hk); (try clear hi)) | ((with_reducible refine gate_dst (N := 7) rfl ?_); refine bxe (N := 7) (cs := #[.int .i64 0, .int .i64 0, .int .i64 0, .int .i64 0]) (t := 25) ?_; intro gb669 hg w27 hbox hb; have BK669 := Aside0.mk (hbox); have GW669 := lsz hg HB; have GE669 := lsz hg HB; replace HB := bst HB hb; have NB659_669 := nlt hg BK659; have NB669_659 := ngt hg BK659; replace BK659 := bkb BK659 hb; have NB660_669 := nlt hg BK660; have NB669_660 := ngt hg BK660; replace BK660 := bkb BK660 hb; clear hb hbox hg; have hnb28 := NB669_659.out; have hnc28 := NB659_669.out; have hnb29 := NB669_660.out; have hnc29 := NB660_669.out; obtain ⟨hcz30_0, hcz30_1, hcz30_2, hcz30_3⟩ := e4 BK669; obtain ⟨hfz30_0, hfz30_1, hfz30_2, hfz30_3⟩ := f4 BK669))
        (try simp only [Act.put, List.setIfInBounds_toArray, List.set_cons_zero, List.set_cons_succ])
        go_cut [34] (fun v34 wc => ∃ (kq : Nat) (x34_21 : Bool), v34 = .bool x34_21 ∧ Aside0 (bocagelaw03_SpanParts.j1 kq a2 t668 0 x34_21 a0_0 a0_1 a0_2 a0_3 a1_0 a1_1 a1_2 a1_3 t664 t665 t666 t667 = some r) ∧ Aside0 (kq ≤ kj3) ∧ Aside0 (wc.heap[gb659]? = some (.cells #[.int .i64 a0_0, .int .i64 a0_1, .int .i64 a0_2, .int .i64 a0_3] 25 (0, 0))) ∧ Aside0 (wc.heap[gb660]? = some (.cells #[.int .i64 a1_0, .int .i64 a1_1, .int .i64 a1_2, .int .i64 a1_3] 25 (0, 0))) ∧ Aside0 (wc.heap[gb669]? = some (.cells #[.int .i64 t664, .int .i64 t665, .int .i64 t666, .int .i64 t667] 25 (0, 0))) ∧ Aside0 (Below w.heap.size w wc))
        case first =>
          have H := HC22.out
          clear HC22
          by_cases c31 : t668 = true
          · subst c31
            have H1 : ((span_Has.f kj3 t664 t665 t666 t667 a2).bind fun t670 => (bocagelaw03_SpanParts.j1 kj3 a2 true 0 t670 a0_0 a0_1 a0_2 a0_3 a1_0 a1_1 a1_2 a1_3 t664 t665 t666 t667)) = some r := by rw [if_pos rfl] at H; exact H
            clear H
            have H := H1
            clear H1
            replace H := Option.bind_eq_some_iff.mp H
            obtain ⟨t670, A320, H⟩ := H
            (try (set_option simprocs false in dsimp only at H))
            have A32 := Aside0.mk A320
            clear A320
            have H' := Aside0.mk H
            clear H
            have hnb33 := NB669_659.out
            have hnc33 := NB659_669.out
            have hnb34 := NB669_660.out
            have hnc34 := NB660_669.out
            have hcz35_0 : w27.cell? ⟨gb669, 0, none⟩ = some (.int .i64 0) := (blk_cell BK669.out 0).trans rfl
            have hcz35_1 : w27.cell? ⟨gb669, 1, none⟩ = some (.int .i64 0) := (blk_cell BK669.out 1).trans rfl
            have hcz35_2 : w27.cell? ⟨gb669, 2, none⟩ = some (.int .i64 0) := (blk_cell BK669.out 2).trans rfl
            have hcz35_3 : w27.cell? ⟨gb669, 3, none⟩ = some (.int .i64 0) := (blk_cell BK669.out 3).trans rfl
            have hfz35_0 := blk_frozen BK669.out 0
            have hfz35_1 := blk_frozen BK669.out 1
            have hfz35_2 := blk_frozen BK669.out 2
            have hfz35_3 := blk_frozen BK669.out 3
            go_wp2_with (first | (go_at_call 29; (with_reducible refine (span_Has.calls kj3 t664 t665 t666 t667 a2 t670 _ A32.out).mono ?_); rintro e w36 ⟨rfl, hb⟩; replace BK659 := Aside0.mk (blk_below (bkf BK659 NB659_669) hb); replace BK660 := Aside0.mk (blk_below (bkf BK660 NB660_669) hb); replace BK669 := Aside0.mk (blk_below (g := gb669) (o := .cells #[.int .i64 t664, .int .i64 t665, .int .i64 t666, .int .i64 t667] 25 (0, 0)) (bkp BK669) hb); replace HB := bst HB hb; (try clear hb); (try clear hb2); (try clear hk); (try clear hi)))
            go_meet
            case rel => exact ⟨_, (t670), (by first | rfl | (simp; done) | (simp [*]; done)), H', ⟨by have := HJ3.out; first | omega | exact Nat.le_refl _⟩, ⟨bk BK659⟩, ⟨bk BK660⟩, ⟨bk BK669⟩, ⟨bl HB⟩⟩
          · replace c31 := Bool.eq_false_iff.mpr c31
            subst c31
            have H1 : (bocagelaw03_SpanParts.j1 kj3 a2 false 0 false a0_0 a0_1 a0_2 a0_3 a1_0 a1_1 a1_2 a1_3 t664 t665 t666 t667) = some r := by rw [if_neg (show ¬ (false = true) by decide)] at H; exact H
            clear H
            have H := H1
            clear H1
            have H' := Aside0.mk H
            clear H
            go_wp2
            go_meet
            case rel => exact ⟨_, (false), (by first | rfl | (simp; done) | (simp [*]; done)), H', ⟨by have := HJ3.out; first | omega | exact Nat.le_refl _⟩, ⟨by (with_reducible repeat (first | refine blk_drewN ?_ _ | refine blk_drew ?_ | refine blk_alloc ?_ _)); refine blk_far ?_ NB659_669.out _; (with_reducible repeat (first | refine blk_drewN ?_ _ | refine blk_drew ?_ | refine blk_alloc ?_ _)); refine blk_far ?_ NB659_669.out _; (with_reducible repeat (first | refine blk_drewN ?_ _ | refine blk_drew ?_ | refine blk_alloc ?_ _)); refine blk_far ?_ NB659_669.out _; (with_reducible repeat (first | refine blk_drewN ?_ _ | refine blk_drew ?_ | refine blk_alloc ?_ _)); refine blk_far ?_ NB659_669.out _; (with_reducible repeat (first | refine blk_drewN ?_ _ | refine blk_drew ?_ | refine blk_alloc ?_ _)); exact BK659.out⟩, ⟨by (with_reducible repeat (first | refine blk_drewN ?_ _ | refine blk_drew ?_ | refine blk_alloc ?_ _)); refine blk_far ?_ NB660_669.out _; (with_reducible repeat (first | refine blk_drewN ?_ _ | refine blk_drew ?_ | refine blk_alloc ?_ _)); refine blk_far ?_ NB660_669.out _; (with_reducible repeat (first | refine blk_drewN ?_ _ | refine blk_drew ?_ | refine blk_alloc ?_ _)); refine blk_far ?_ NB660_669.out _; (with_reducible repeat (first | refine blk_drewN ?_ _ | refine blk_drew ?_ | refine blk_alloc ?_ _)); refine blk_far ?_ NB660_669.out _; (with_reducible repeat (first | refine blk_drewN ?_ _ | refine blk_drew ?_ | refine blk_alloc ?_ _)); exact BK660.out⟩, ⟨by (with_reducible repeat (first | refine blk_drewN ?_ _ | refine blk_drew ?_ | refine blk_alloc ?_ _)); refine blk_put (cs := #[.int .i64 t664, .int .i64 t665, .int .i64 t666, .int .i64 0]) ?_ 3 _ rfl; (with_reducible repeat (first | refine blk_drewN ?_ _ | refine blk_drew ?_ | refine blk_alloc ?_ _)); refine blk_put (cs := #[.int .i64 t664, .int .i64 t665, .int .i64 0, .int .i64 0]) ?_ 2 _ rfl; (with_reducible repeat (first | refine blk_drewN ?_ _ | refine blk_drew ?_ | refine blk_alloc ?_ _)); refine blk_put (cs := #[.int .i64 t664, .int .i64 0, .int .i64 0, .int .i64 0]) ?_ 1 _ rfl; (with_reducible repeat (first | refine blk_drewN ?_ _ | refine blk_drew ?_ | refine blk_alloc ?_ _)); refine blk_put (cs := #[.int .i64 0, .int .i64 0, .int .i64 0, .int .i64 0]) ?_ 0 _ rfl; (with_reducible repeat (first | refine blk_drewN ?_ _ | refine blk_drew ?_ | refine blk_alloc ?_ _)); exact BK669.out⟩, ⟨bl HB⟩⟩
        case rest =>
          clear HC22
          try clear c1
          try clear c2
          try clear p2
          try clear c3
          try clear c5
          try clear c8
          try clear c10
          try clear c11
          try clear c15
          try clear c18
          try clear c23
          try clear c28
          try clear c29
          try clear c31
          try clear c33
          try clear c34
          try clear hcz11_0
          try clear hcz11_1
          try clear hcz11_2
          try clear hcz11_3
          try clear hcz13_0
          try clear hcz13_1
          try clear hcz13_2
          try clear hcz13_3
          try clear hcz16_0
          try clear hcz16_1
          try clear hcz16_2
          try clear hcz16_3
          try clear hcz24_0
          try clear hcz24_1
          try clear hcz24_2
          try clear hcz24_3
          try clear hcz25_0
          try clear hcz25_1
          try clear hcz25_2
          try clear hcz25_3
          try clear hcz30_0
          try clear hcz30_1
          try clear hcz30_2
          try clear hcz30_3
          try clear hcz35_0
          try clear hcz35_1
          try clear hcz35_2
          try clear hcz35_3
          try clear hfz11_0
          try clear hfz11_1
          try clear hfz11_2
          try clear hfz11_3
          try clear hfz13_0
          try clear hfz13_1
          try clear hfz13_2
          try clear hfz13_3
          try clear hfz16_0
          try clear hfz16_1
          try clear hfz16_2
          try clear hfz16_3
          try clear hfz24_0
          try clear hfz24_1
          try clear hfz24_2
          try clear hfz24_3
          try clear hfz25_0
          try clear hfz25_1
          try clear hfz25_2
          try clear hfz25_3
          try clear hfz30_0
          try clear hfz30_1
          try clear hfz30_2
          try clear hfz30_3
          try clear hfz35_0
          try clear hfz35_1
          try clear hfz35_2
          try clear hfz35_3
          try clear p2
          obtain ⟨kq, x34_21, rfl, HA, HJ21, BK659, BK660, BK669, HB⟩ := hcut
          cases kq with
          | zero => exact absurd HA.out (by simp [bocagelaw03_SpanParts.j1])
          | succ kj21 =>
            have H := HA.out
            clear HA
            simp only [bocagelaw03_SpanParts.j1] at H
            have HC37 := Aside0.mk H
            clear H
            go_upto_if 34 with (fail)
            go_cut [9] (fun v9 wc => ∃ (kq : Nat) (x9_36 : Int), v9 = .int .i64 x9_36 ∧ Aside0 (bocagelaw03_SpanParts.j2 kq a2 t668 x9_36 a0_0 a0_1 a0_2 a0_3 a1_0 a1_1 a1_2 a1_3 t664 t665 t666 t667 = some r) ∧ Aside0 (kq ≤ kj21) ∧ Aside0 (wc.heap[gb659]? = some (.cells #[.int .i64 a0_0, .int .i64 a0_1, .int .i64 a0_2, .int .i64 a0_3] 25 (0, 0))) ∧ Aside0 (wc.heap[gb660]? = some (.cells #[.int .i64 a1_0, .int .i64 a1_1, .int .i64 a1_2, .int .i64 a1_3] 25 (0, 0))) ∧ Aside0 (wc.heap[gb669]? = some (.cells #[.int .i64 t664, .int .i64 t665, .int .i64 t666, .int .i64 t667] 25 (0, 0))) ∧ Aside0 (Below w.heap.size w wc))
            case first =>
              have H := HC37.out
              clear HC37
              by_cases c38 : x34_21 = true
              · subst c38
                have H1 : (bocagelaw03_SpanParts.j2 kj21 a2 t668 (wrap64 (0 + 1)) a0_0 a0_1 a0_2 a0_3 a1_0 a1_1 a1_2 a1_3 t664 t665 t666 t667) = some r := by rw [if_pos rfl] at H; exact H
                clear H
                have H := H1
                clear H1
                have H' := Aside0.mk H
                clear H
                go_wp2
                go_meet
                case rel => exact ⟨_, (wrap64 (0 + 1)), (by first | rfl | (simp; done) | (simp [*]; done) | (simp [wrap64]; done)), H', ⟨by have := HJ3.out; have := HJ21.out; first | omega | exact Nat.le_refl _⟩, ⟨bk BK659⟩, ⟨bk BK660⟩, ⟨bk BK669⟩, ⟨bl HB⟩⟩
              · replace c38 := Bool.eq_false_iff.mpr c38
                subst c38
                have H1 : (bocagelaw03_SpanParts.j2 kj21 a2 t668 0 a0_0 a0_1 a0_2 a0_3 a1_0 a1_1 a1_2 a1_3 t664 t665 t666 t667) = some r := by rw [if_neg (show ¬ (false = true) by decide)] at H; exact H
                clear H
                have H := H1
                clear H1
                have H' := Aside0.mk H
                clear H
                go_wp2
                go_meet
                case rel => exact ⟨_, (0), (by first | rfl | (simp; done) | (simp [*]; done)), H', ⟨by have := HJ3.out; have := HJ21.out; first | omega | exact Nat.le_refl _⟩, ⟨bk BK659⟩, ⟨bk BK660⟩, ⟨bk BK669⟩, ⟨bl HB⟩⟩
            case rest =>
              clear HC37
              try clear c1
              try clear c2
              try clear p2
              try clear c3
              try clear c5
              try clear p6
              try clear c8
              try clear c10
              try clear c11
              try clear c15
              try clear c18
              try clear c23
              try clear c28
              try clear c29
              try clear c31
              try clear c33
              try clear c34
              try clear c38
              try clear hcz11_0
              try clear hcz11_1
              try clear hcz11_2
              try clear hcz11_3
              try clear hcz13_0
              try clear hcz13_1
              try clear hcz13_2
              try clear hcz13_3
              try clear hcz16_0
              try clear hcz16_1
              try clear hcz16_2
              try clear hcz16_3
              try clear hcz24_0
              try clear hcz24_1
              try clear hcz24_2
              try clear hcz24_3
              try clear hcz25_0
              try clear hcz25_1
              try clear hcz25_2
              try clear hcz25_3
              try clear hcz30_0
              try clear hcz30_1
              try clear hcz30_2
              try clear hcz30_3
              try clear hcz35_0
              try clear hcz35_1
              try clear hcz35_2
              try clear hcz35_3
              try clear hfz11_0
              try clear hfz11_1
              try clear hfz11_2
              try clear hfz11_3
              try clear hfz13_0
              try clear hfz13_1
              try clear hfz13_2
              try clear hfz13_3
              try clear hfz16_0
              try clear hfz16_1
              try clear hfz16_2
              try clear hfz16_3
              try clear hfz24_0
              try clear hfz24_1
              try clear hfz24_2
              try clear hfz24_3
              try clear hfz25_0
              try clear hfz25_1
              try clear hfz25_2
              try clear hfz25_3
              try clear hfz30_0
              try clear hfz30_1
              try clear hfz30_2
              try clear hfz30_3
              try clear hfz35_0
              try clear hfz35_1
              try clear hfz35_2
              try clear hfz35_3
              try clear p2
              obtain ⟨kq, x9_36, rfl, HA, HJ36, BK659, BK660, BK669, HB⟩ := hcut
              cases kq with
              | zero => exact absurd HA.out (by simp [bocagelaw03_SpanParts.j2])
              | succ kj36 =>
                have H := HA.out
                clear HA
                simp only [bocagelaw03_SpanParts.j2] at H
                replace H := Option.bind_eq_some_iff.mp H
                obtain ⟨t671, A390, H⟩ := H
                (try (set_option simprocs false in dsimp only at H))
                have A39 := Aside0.mk A390
                clear A390
                have H' := Aside0.mk H
                clear H
                have hnb40 := NB659_660.out
                have hnc40 := NB660_659.out
                have hnb41 := NB659_669.out
                have hnc41 := NB669_659.out
                have hcz42_0 : wc.cell? ⟨gb659, 0, none⟩ = some (.int .i64 a0_0) := (blk_cell BK659.out 0).trans rfl
                have hcz42_1 : wc.cell? ⟨gb659, 1, none⟩ = some (.int .i64 a0_1) := (blk_cell BK659.out 1).trans rfl
                have hcz42_2 : wc.cell? ⟨gb659, 2, none⟩ = some (.int .i64 a0_2) := (blk_cell BK659.out 2).trans rfl
                have hcz42_3 : wc.cell? ⟨gb659, 3, none⟩ = some (.int .i64 a0_3) := (blk_cell BK659.out 3).trans rfl
                have hfz42_0 := blk_frozen BK659.out 0
                have hfz42_1 := blk_frozen BK659.out 1
                have hfz42_2 := blk_frozen BK659.out 2
                have hfz42_3 := blk_frozen BK659.out 3
                have hnb43 := NB660_669.out
                have hnc43 := NB669_660.out
                have hcz44_0 : wc.cell? ⟨gb660, 0, none⟩ = some (.int .i64 a1_0) := (blk_cell BK660.out 0).trans rfl
                have hcz44_1 : wc.cell? ⟨gb660, 1, none⟩ = some (.int .i64 a1_1) := (blk_cell BK660.out 1).trans rfl
                have hcz44_2 : wc.cell? ⟨gb660, 2, none⟩ = some (.int .i64 a1_2) := (blk_cell BK660.out 2).trans rfl
                have hcz44_3 : wc.cell? ⟨gb660, 3, none⟩ = some (.int .i64 a1_3) := (blk_cell BK660.out 3).trans rfl
                have hfz44_0 := blk_frozen BK660.out 0
                have hfz44_1 := blk_frozen BK660.out 1
                have hfz44_2 := blk_frozen BK660.out 2
                have hfz44_3 := blk_frozen BK660.out 3
                go_wp2_with (first | ((with_reducible refine gate_callee (f := 23) rfl ?_); refine gol (some 39) Try.func23 #[.agg #[.int .i64 a0_0, .int .i64 a0_1, .int .i64 a0_2, .int .i64 a0_3], .agg #[.int .i64 a1_0, .int .i64 a1_1, .int .i64 a1_2, .int .i64 a1_3]] ?_; (with_reducible refine (span_Minus.calls kj36 a0_0 a0_1 a0_2 a0_3 a1_0 a1_1 a1_2 a1_3 t671 _ A39.out).mono ?_); rintro e w45 ⟨v672, rfl, ho0, hb⟩; refine ⟨_, rfl, ?_⟩; have HO673 := Aside0.mk (Kd.R_lower (Kd.R_newB (Kd.R_newB (Kd.R_newB ho0 (bk BK659)) (bk BK660)) (bk BK669)) (below_size (bl HB))); replace BK659 := bkb BK659 hb; replace BK660 := bkb BK660 hb; replace BK669 := bkb BK669 hb; replace HB := bst HB hb; (try clear hb); (try clear hb2); (try clear hk); (try clear hi); (try clear ho0); obtain ⟨Ao46, co46, eo46⟩ := Kd.R_slice HO673.out; subst eo46))
                go_loopg [9, 42] kj36 (fun kq v9 v42 w' => ∃ (x9_4 : Int) (x42_4 : Int), v9 = .int .i64 x9_4 ∧ v42 = .int .i64 x42_4 ∧ Aside0 (bocagelaw03_SpanParts.l0 kq a2 t668 x9_4 t671 t671 (t671.length : Int) x42_4 a0_0 a0_1 a0_2 a0_3 t664 t665 t666 t667 = some r) ∧ Aside0 (kq ≤ kj36) ∧ Aside0 (Kd.R k25 25 w' w.heap.size (fun k_ => k_ ≠ gb659 ∧ k_ ≠ gb660 ∧ k_ ≠ gb669) (.slice Ao46 t671.length co46) t671) ∧ Aside0 (Kd.R k25 25 w' w.heap.size (fun k_ => k_ ≠ gb659 ∧ k_ ≠ gb660 ∧ k_ ≠ gb669) (.slice Ao46 t671.length co46) t671) ∧ Aside0 (w'.heap[gb659]? = some (.cells #[.int .i64 a0_0, .int .i64 a0_1, .int .i64 a0_2, .int .i64 a0_3] 25 (0, 0))) ∧ Aside0 (w'.heap[gb660]? = some (.cells #[.int .i64 a1_0, .int .i64 a1_1, .int .i64 a1_2, .int .i64 a1_3] 25 (0, 0))) ∧ Aside0 (w'.heap[gb669]? = some (.cells #[.int .i64 t664, .int .i64 t665, .int .i64 t666, .int .i64 t667] 25 (0, 0))) ∧ Aside0 (Below w.heap.size w w'))
                case atStart => exact ⟨(x9_36), (0), (by first | rfl | (simp; done) | (simp [*]; done)), (by first | rfl | (simp; done) | (simp [*]; done)), H', ⟨Nat.le_refl _⟩, ⟨by (with_reducible repeat (first | apply Kd.R_alloc | apply Kd.R_drewN | apply Kd.R_drew)); exact Kd.R_mono HO673.out (fun _ hk => ⟨hk.1.1.2, ⟨hk.1.2, hk.2⟩⟩)⟩, ⟨by (with_reducible repeat (first | apply Kd.R_alloc | apply Kd.R_drewN | apply Kd.R_drew)); exact Kd.R_mono HO673.out (fun _ hk => ⟨hk.1.1.2, ⟨hk.1.2, hk.2⟩⟩)⟩, ⟨bk BK659⟩, ⟨bk BK660⟩, ⟨bk BK669⟩, ⟨bl HB⟩⟩
                case round =>
                  clear H'
                  try clear c1
                  try clear c2
                  try clear p2
                  try clear c3
                  try clear c4
                  try clear c5
                  try clear p6
                  try clear c8
                  try clear c10
                  try clear c11
                  try clear c15
                  try clear c18
                  try clear c23
                  try clear c28
                  try clear c29
                  try clear c31
                  try clear c33
                  try clear c34
                  try clear c38
                  try clear c40
                  try clear c41
                  try clear c43
                  try clear hcz11_0
                  try clear hcz11_1
                  try clear hcz11_2
                  try clear hcz11_3
                  try clear hcz13_0
                  try clear hcz13_1
                  try clear hcz13_2
                  try clear hcz13_3
                  try clear hcz16_0
                  try clear hcz16_1
                  try clear hcz16_2
                  try clear hcz16_3
                  try clear hcz24_0
                  try clear hcz24_1
                  try clear hcz24_2
                  try clear hcz24_3
                  try clear hcz25_0
                  try clear hcz25_1
                  try clear hcz25_2
                  try clear hcz25_3
                  try clear hcz30_0
                  try clear hcz30_1
                  try clear hcz30_2
                  try clear hcz30_3
                  try clear hcz35_0
                  try clear hcz35_1
                  try clear hcz35_2
                  try clear hcz35_3
                  try clear hcz42_0
                  try clear hcz42_1
                  try clear hcz42_2
                  try clear hcz42_3
                  try clear hcz44_0
                  try clear hcz44_1
                  try clear hcz44_2
                  try clear hcz44_3
                  try clear hfz11_0
                  try clear hfz11_1
                  try clear hfz11_2
                  try clear hfz11_3
                  try clear hfz13_0
                  try clear hfz13_1
                  try clear hfz13_2
                  try clear hfz13_3
                  try clear hfz16_0
                  try clear hfz16_1
                  try clear hfz16_2
                  try clear hfz16_3
                  try clear hfz24_0
                  try clear hfz24_1
                  try clear hfz24_2
                  try clear hfz24_3
                  try clear hfz25_0
                  try clear hfz25_1
                  try clear hfz25_2
                  try clear hfz25_3
                  try clear hfz30_0
                  try clear hfz30_1
                  try clear hfz30_2
                  try clear hfz30_3
                  try clear hfz35_0
                  try clear hfz35_1
                  try clear hfz35_2
                  try clear hfz35_3
                  try clear hfz42_0
                  try clear hfz42_1
                  try clear hfz42_2
                  try clear hfz42_3
                  try clear hfz44_0
                  try clear hfz44_1
                  try clear hfz44_2
                  try clear hfz44_3
                  try clear p2
                  try clear p6
                  obtain ⟨x9_4, x42_4, rfl, rfl, HA, HK4, HO_10, HO_40, BK659, BK660, BK669, HB⟩ := hrel
                  cases gk with
                  | zero => exact absurd HA.out (by simp [bocagelaw03_SpanParts.l0])
                  | succ k4 =>
                    have H := HA.out
                    clear HA
                    simp only [bocagelaw03_SpanParts.l0] at H
                    by_cases c47 : x42_4 < (t671.length : Int)
                    · rw [if_pos c47] at H
                      have c47b0 : decide (x42_4 < (t671.length : Int)) = true := decide_eq_true c47
                      clear c47
                      by_cases c48 : 0 ≤ x42_4
                      · rw [if_pos c48] at H
                        have c48b0 : decide (0 ≤ x42_4) = true := decide_eq_true c48
                        clear c48
                        by_cases c49 : x42_4 < (t671.length : Int)
                        · rw [if_pos c49] at H
                          have c49b0 : decide (x42_4 < (t671.length : Int)) = true := decide_eq_true c49
                          clear c49
                          replace H := Option.bind_eq_some_iff.mp H
                          obtain ⟨t676, A500, H⟩ := H
                          (try (set_option simprocs false in dsimp only at H))
                          have A50 := Aside0.mk A500
                          clear A500
                          by_cases c51 : t676 = true
                          · subst c51
                            have H1 : (bocagelaw03_SpanParts.l0 k4 a2 t668 (wrap64 (x9_4 + 1)) t671 t671 (t671.length : Int) (wrap64 (x42_4 + 1)) a0_0 a0_1 a0_2 a0_3 t664 t665 t666 t667) = some r := by rw [if_pos rfl] at H; exact H
                            clear H
                            have H := H1
                            clear H1
                            have H' := Aside0.mk H
                            clear H
                            have p674 : 0 ≤ (x42_4 : Int) := of_decide_eq_true (by first | (with_reducible assumption) | assumption)
                            have q674 : x42_4 < (t671.length : Int) := of_decide_eq_true (by first | (with_reducible assumption) | assumption)
                            obtain ⟨ad674, e674, hx674_0, hx674_1, hx674_2, hx674_3⟩ := at_T25 (Kd.R_reads' HO_40.out).2.2 x42_4 p674 q674
                            cases e674
                            replace p674 := eq_true p674
                            replace q674 := eq_true q674
                            go_wp2_with (first | ((with_reducible refine gate_dst (N := 12) rfl ?_); refine bxe (N := 12) (cs := #[.int .i64 0, .int .i64 0, .int .i64 0, .int .i64 0]) (t := 25) ?_; intro gb675 hg w52 hbox hb; replace HO_10 := Aside0.mk (Kd.R_below (Kd.R_elderB (kr HO_10) gb675 (Nat.le_of_eq hg.symm)) hb); replace HO_40 := Aside0.mk (Kd.R_below (Kd.R_elderB (kr HO_40) gb675 (Nat.le_of_eq hg.symm)) hb); have BK675 := Aside0.mk (hbox); have GW675 := lsz hg HB; have GE675 := lsz hg HB; replace HB := bst HB hb; have NB659_675 := nlt hg BK659; have NB675_659 := ngt hg BK659; replace BK659 := bkb BK659 hb; have NB660_675 := nlt hg BK660; have NB675_660 := ngt hg BK660; replace BK660 := bkb BK660 hb; have NB669_675 := nlt hg BK669; have NB675_669 := ngt hg BK669; replace BK669 := bkb BK669 hb; clear hb hbox hg; have hnb53 := NB675_659.out; have hnc53 := NB659_675.out; have hnb54 := NB675_660.out; have hnc54 := NB660_675.out; have hnb55 := NB675_669.out; have hnc55 := NB669_675.out; obtain ⟨hcz56_0, hcz56_1, hcz56_2, hcz56_3⟩ := e4 BK675; obtain ⟨hfz56_0, hfz56_1, hfz56_2, hfz56_3⟩ := f4 BK675) | ((with_reducible refine gate_callee (f := 29) rfl ?_); refine gol (some 48) Try.func29 #[.agg #[.int .i64 ((rd_T25 t671 x42_4).f0.f0), .int .i64 ((rd_T25 t671 x42_4).f0.f1), .int .i64 ((rd_T25 t671 x42_4).f1.f0), .int .i64 ((rd_T25 t671 x42_4).f1.f1)], .int .i64 a2] ?_; (with_reducible refine (span_Has.calls k4 ((rd_T25 t671 x42_4).f0.f0) ((rd_T25 t671 x42_4).f0.f1) ((rd_T25 t671 x42_4).f1.f0) ((rd_T25 t671 x42_4).f1.f1) a2 true _ A50.out).mono ?_); rintro e w57 ⟨rfl, hb⟩; refine ⟨_, rfl, ?_⟩; replace HO_10 := Aside0.mk (Kd.R_below (by (with_reducible repeat (first | apply Kd.R_alloc | apply Kd.R_drewN | apply Kd.R_drew)); exact (Kd.R_mono (Kd.R_far (p := ⟨gb675, 3, none⟩) (Kd.R_far (p := ⟨gb675, 2, none⟩) (Kd.R_far (p := ⟨gb675, 1, none⟩) (Kd.R_far (p := ⟨gb675, 0, none⟩) (Kd.R_mono HO_10.out (fun k_ hk => (⟨hk, hk.2⟩ : _ ∧ k_ ≠ gb675))) (fun _ hk => hk.2) (.int .i64 ((rd_T25 t671 x42_4).f0.f0))) (fun _ hk => hk.2) (.int .i64 ((rd_T25 t671 x42_4).f0.f1))) (fun _ hk => hk.2) (.int .i64 ((rd_T25 t671 x42_4).f1.f0))) (fun _ hk => hk.2) (.int .i64 ((rd_T25 t671 x42_4).f1.f1))) (fun _ h_ => h_.1))) hb); replace HO_40 := Aside0.mk (Kd.R_below (by (with_reducible repeat (first | apply Kd.R_alloc | apply Kd.R_drewN | apply Kd.R_drew)); exact (Kd.R_mono (Kd.R_far (p := ⟨gb675, 3, none⟩) (Kd.R_far (p := ⟨gb675, 2, none⟩) (Kd.R_far (p := ⟨gb675, 1, none⟩) (Kd.R_far (p := ⟨gb675, 0, none⟩) (Kd.R_mono HO_40.out (fun k_ hk => (⟨hk, hk.2⟩ : _ ∧ k_ ≠ gb675))) (fun _ hk => hk.2) (.int .i64 ((rd_T25 t671 x42_4).f0.f0))) (fun _ hk => hk.2) (.int .i64 ((rd_T25 t671 x42_4).f0.f1))) (fun _ hk => hk.2) (.int .i64 ((rd_T25 t671 x42_4).f1.f0))) (fun _ hk => hk.2) (.int .i64 ((rd_T25 t671 x42_4).f1.f1))) (fun _ h_ => h_.1))) hb); replace BK659 := Aside0.mk (blk_below (bkf BK659 NB659_675) hb); replace BK660 := Aside0.mk (blk_below (bkf BK660 NB660_675) hb); replace BK669 := Aside0.mk (blk_below (bkf BK669 NB669_675) hb); replace BK675 := Aside0.mk (blk_below (g := gb675) (o := .cells #[.int .i64 ((rd_T25 t671 x42_4).f0.f0), .int .i64 ((rd_T25 t671 x42_4).f0.f1), .int .i64 ((rd_T25 t671 x42_4).f1.f0), .int .i64 ((rd_T25 t671 x42_4).f1.f1)] 25 (0, 0)) (bkp BK675) hb); replace HB := bst HB hb; (try clear hb); (try clear hb2); (try clear hk); (try clear hi)))
                            go_roundg k4
                            case measure => have := HJ3.out; have := HJ21.out; have := HJ36.out; have := HK4.out; omega
                            case rel => exact ⟨(wrap64 (x9_4 + 1)), (wrap64 (x42_4 + 1)), (by first | rfl | (simp; done) | (simp [*]; done)), (by first | rfl | (simp; done) | (simp [*]; done)), H', ⟨by have := HJ3.out; have := HJ21.out; have := HJ36.out; have := HK4.out; omega⟩, ⟨by (with_reducible repeat (first | apply Kd.R_alloc | apply Kd.R_drewN | apply Kd.R_drew)); exact Kd.R_mono HO_10.out (fun _ hk => ⟨hk.1.1, ⟨hk.1.2.1, hk.1.2.2⟩⟩)⟩, ⟨by (with_reducible repeat (first | apply Kd.R_alloc | apply Kd.R_drewN | apply Kd.R_drew)); exact Kd.R_mono HO_40.out (fun _ hk => ⟨hk.1.1, ⟨hk.1.2.1, hk.1.2.2⟩⟩)⟩, ⟨bk BK659⟩, ⟨bk BK660⟩, ⟨bk BK669⟩, ⟨bl HB⟩⟩
                          · replace c51 := Bool.eq_false_iff.mpr c51
                            subst c51
                            have H1 : (bocagelaw03_SpanParts.l0 k4 a2 t668 x9_4 t671 t671 (t671.length : Int) (wrap64 (x42_4 + 1)) a0_0 a0_1 a0_2 a0_3 t664 t665 t666 t667) = some r := by rw [if_neg (show ¬ (false = true) by decide)] at H; exact H
                            clear H
                            have H := H1
                            clear H1
                            have H' := Aside0.mk H
                            clear H
                            have p674 : 0 ≤ (x42_4 : Int) := of_decide_eq_true (by first | (with_reducible assumption) | assumption)
                            have q674 : x42_4 < (t671.length : Int) := of_decide_eq_true (by first | (with_reducible assumption) | assumption)
                            obtain ⟨ad674, e674, hx674_0, hx674_1, hx674_2, hx674_3⟩ := at_T25 (Kd.R_reads' HO_40.out).2.2 x42_4 p674 q674
                            cases e674
                            replace p674 := eq_true p674
                            replace q674 := eq_true q674
                            go_wp2_with (first | ((with_reducible refine gate_dst (N := 12) rfl ?_); refine bxe (N := 12) (cs := #[.int .i64 0, .int .i64 0, .int .i64 0, .int .i64 0]) (t := 25) ?_; intro gb675 hg w58 hbox hb; replace HO_10 := Aside0.mk (Kd.R_below (Kd.R_elderB (kr HO_10) gb675 (Nat.le_of_eq hg.symm)) hb); replace HO_40 := Aside0.mk (Kd.R_below (Kd.R_elderB (kr HO_40) gb675 (Nat.le_of_eq hg.symm)) hb); have BK675 := Aside0.mk (hbox); have GW675 := lsz hg HB; have GE675 := lsz hg HB; replace HB := bst HB hb; have NB659_675 := nlt hg BK659; have NB675_659 := ngt hg BK659; replace BK659 := bkb BK659 hb; have NB660_675 := nlt hg BK660; have NB675_660 := ngt hg BK660; replace BK660 := bkb BK660 hb; have NB669_675 := nlt hg BK669; have NB675_669 := ngt hg BK669; replace BK669 := bkb BK669 hb; clear hb hbox hg; have hnb59 := NB675_659.out; have hnc59 := NB659_675.out; have hnb60 := NB675_660.out; have hnc60 := NB660_675.out; have hnb61 := NB675_669.out; have hnc61 := NB669_675.out; obtain ⟨hcz62_0, hcz62_1, hcz62_2, hcz62_3⟩ := e4 BK675; obtain ⟨hfz62_0, hfz62_1, hfz62_2, hfz62_3⟩ := f4 BK675) | ((with_reducible refine gate_callee (f := 29) rfl ?_); refine gol (some 48) Try.func29 #[.agg #[.int .i64 ((rd_T25 t671 x42_4).f0.f0), .int .i64 ((rd_T25 t671 x42_4).f0.f1), .int .i64 ((rd_T25 t671 x42_4).f1.f0), .int .i64 ((rd_T25 t671 x42_4).f1.f1)], .int .i64 a2] ?_; (with_reducible refine (span_Has.calls k4 ((rd_T25 t671 x42_4).f0.f0) ((rd_T25 t671 x42_4).f0.f1) ((rd_T25 t671 x42_4).f1.f0) ((rd_T25 t671 x42_4).f1.f1) a2 false _ A50.out).mono ?_); rintro e w63 ⟨rfl, hb⟩; refine ⟨_, rfl, ?_⟩; replace HO_10 := Aside0.mk (Kd.R_below (by (with_reducible repeat (first | apply Kd.R_alloc | apply Kd.R_drewN | apply Kd.R_drew)); exact (Kd.R_mono (Kd.R_far (p := ⟨gb675, 3, none⟩) (Kd.R_far (p := ⟨gb675, 2, none⟩) (Kd.R_far (p := ⟨gb675, 1, none⟩) (Kd.R_far (p := ⟨gb675, 0, none⟩) (Kd.R_mono HO_10.out (fun k_ hk => (⟨hk, hk.2⟩ : _ ∧ k_ ≠ gb675))) (fun _ hk => hk.2) (.int .i64 ((rd_T25 t671 x42_4).f0.f0))) (fun _ hk => hk.2) (.int .i64 ((rd_T25 t671 x42_4).f0.f1))) (fun _ hk => hk.2) (.int .i64 ((rd_T25 t671 x42_4).f1.f0))) (fun _ hk => hk.2) (.int .i64 ((rd_T25 t671 x42_4).f1.f1))) (fun _ h_ => h_.1))) hb); replace HO_40 := Aside0.mk (Kd.R_below (by (with_reducible repeat (first | apply Kd.R_alloc | apply Kd.R_drewN | apply Kd.R_drew)); exact (Kd.R_mono (Kd.R_far (p := ⟨gb675, 3, none⟩) (Kd.R_far (p := ⟨gb675, 2, none⟩) (Kd.R_far (p := ⟨gb675, 1, none⟩) (Kd.R_far (p := ⟨gb675, 0, none⟩) (Kd.R_mono HO_40.out (fun k_ hk => (⟨hk, hk.2⟩ : _ ∧ k_ ≠ gb675))) (fun _ hk => hk.2) (.int .i64 ((rd_T25 t671 x42_4).f0.f0))) (fun _ hk => hk.2) (.int .i64 ((rd_T25 t671 x42_4).f0.f1))) (fun _ hk => hk.2) (.int .i64 ((rd_T25 t671 x42_4).f1.f0))) (fun _ hk => hk.2) (.int .i64 ((rd_T25 t671 x42_4).f1.f1))) (fun _ h_ => h_.1))) hb); replace BK659 := Aside0.mk (blk_below (bkf BK659 NB659_675) hb); replace BK660 := Aside0.mk (blk_below (bkf BK660 NB660_675) hb); replace BK669 := Aside0.mk (blk_below (bkf BK669 NB669_675) hb); replace BK675 := Aside0.mk (blk_below (g := gb675) (o := .cells #[.int .i64 ((rd_T25 t671 x42_4).f0.f0), .int .i64 ((rd_T25 t671 x42_4).f0.f1), .int .i64 ((rd_T25 t671 x42_4).f1.f0), .int .i64 ((rd_T25 t671 x42_4).f1.f1)] 25 (0, 0)) (bkp BK675) hb); replace HB := bst HB hb; (try clear hb); (try clear hb2); (try clear hk); (try clear hi)))
                            go_roundg k4
                            case measure => have := HJ3.out; have := HJ21.out; have := HJ36.out; have := HK4.out; omega
                            case rel => exact ⟨(x9_4), (wrap64 (x42_4 + 1)), (by first | rfl | (simp; done) | (simp [*]; done)), (by first | rfl | (simp; done) | (simp [*]; done)), H', ⟨by have := HJ3.out; have := HJ21.out; have := HJ36.out; have := HK4.out; omega⟩, ⟨by (with_reducible repeat (first | apply Kd.R_alloc | apply Kd.R_drewN | apply Kd.R_drew)); exact Kd.R_mono HO_10.out (fun _ hk => ⟨hk.1.1, ⟨hk.1.2.1, hk.1.2.2⟩⟩)⟩, ⟨by (with_reducible repeat (first | apply Kd.R_alloc | apply Kd.R_drewN | apply Kd.R_drew)); exact Kd.R_mono HO_40.out (fun _ hk => ⟨hk.1.1, ⟨hk.1.2.1, hk.1.2.2⟩⟩)⟩, ⟨bk BK659⟩, ⟨bk BK660⟩, ⟨bk BK669⟩, ⟨bl HB⟩⟩
                        · rw [if_neg c49] at H
                          exact absurd H (by simp)
                      · rw [if_neg c48] at H
                        exact absurd H (by simp)
                    · rw [if_neg c47] at H
                      have c47b0 : decide (x42_4 < (t671.length : Int)) = false := decide_eq_false c47
                      clear c47
                      replace H := Option.bind_eq_some_iff.mp H
                      obtain ⟨t677, A640, H⟩ := H
                      (try (set_option simprocs false in dsimp only at H))
                      have A64 := Aside0.mk A640
                      clear A640
                      have HC65 := Aside0.mk H
                      clear H
                      have hnb66 := NB659_660.out
                      have hnc66 := NB660_659.out
                      have hnb67 := NB659_669.out
                      have hnc67 := NB669_659.out
                      have hcz68_0 : wr.cell? ⟨gb659, 0, none⟩ = some (.int .i64 a0_0) := (blk_cell BK659.out 0).trans rfl
                      have hcz68_1 : wr.cell? ⟨gb659, 1, none⟩ = some (.int .i64 a0_1) := (blk_cell BK659.out 1).trans rfl
                      have hcz68_2 : wr.cell? ⟨gb659, 2, none⟩ = some (.int .i64 a0_2) := (blk_cell BK659.out 2).trans rfl
                      have hcz68_3 : wr.cell? ⟨gb659, 3, none⟩ = some (.int .i64 a0_3) := (blk_cell BK659.out 3).trans rfl
                      have hfz68_0 := blk_frozen BK659.out 0
                      have hfz68_1 := blk_frozen BK659.out 1
                      have hfz68_2 := blk_frozen BK659.out 2
                      have hfz68_3 := blk_frozen BK659.out 3
                      go_upto_if 54 with (first | ((with_reducible refine gate_callee (f := 30) rfl ?_); refine gol (some 54) Try.func30 #[.agg #[.int .i64 a0_0, .int .i64 a0_1, .int .i64 a0_2, .int .i64 a0_3], .int .i64 a2] ?_; (with_reducible refine (bocageref03_Has.calls k4 a0_0 a0_1 a0_2 a0_3 a2 t677 _ A64.out).mono ?_); rintro e w69 ⟨rfl, hb⟩; refine ⟨_, rfl, ?_⟩; replace HO_10 := krb HO_10 hb; replace HO_40 := krb HO_40 hb; replace BK659 := bkb BK659 hb; replace BK660 := bkb BK660 hb; replace BK669 := bkb BK669 hb; replace HB := bst HB hb; (try clear hb); (try clear hb2); (try clear hk); (try clear hi)))
                      (try simp only [Act.put, List.setIfInBounds_toArray, List.set_cons_zero, List.set_cons_succ])
                      go_cut [13] (fun v13 wc => ∃ (kq : Nat) (x13_64 : Int), v13 = .int .i64 x13_64 ∧ Aside0 (bocagelaw03_SpanParts.j4 kq t668 x9_4 t671 x13_64 a0_0 a0_1 a0_2 a0_3 t664 t665 t666 t667 = some r) ∧ Aside0 (kq ≤ k4) ∧ Aside0 (Kd.R k25 25 wc w.heap.size (fun k_ => k_ ≠ gb659 ∧ k_ ≠ gb660 ∧ k_ ≠ gb669) (.slice Ao46 t671.length co46) t671) ∧ Aside0 (wc.heap[gb659]? = some (.cells #[.int .i64 a0_0, .int .i64 a0_1, .int .i64 a0_2, .int .i64 a0_3] 25 (0, 0))) ∧ Aside0 (wc.heap[gb660]? = some (.cells #[.int .i64 a1_0, .int .i64 a1_1, .int .i64 a1_2, .int .i64 a1_3] 25 (0, 0))) ∧ Aside0 (wc.heap[gb669]? = some (.cells #[.int .i64 t664, .int .i64 t665, .int .i64 t666, .int .i64 t667] 25 (0, 0))) ∧ Aside0 (Below w.heap.size w wc))
                      case first =>
                        have H := HC65.out
                        clear HC65
                        by_cases c70 : t677 = true
                        · subst c70
                          have H1 : (bocagelaw03_SpanParts.j4 k4 t668 x9_4 t671 1 a0_0 a0_1 a0_2 a0_3 t664 t665 t666 t667) = some r := by rw [if_pos rfl] at H; exact H
                          clear H
                          have H := H1
                          clear H1
                          have H' := Aside0.mk H
                          clear H
                          go_wp2
                          go_meet
                          case rel => exact ⟨_, (1), (by first | rfl | (simp; done) | (simp [*]; done)), H', ⟨by have := HJ3.out; have := HJ21.out; have := HJ36.out; have := HK4.out; first | omega | exact Nat.le_refl _⟩, ⟨kr HO_10⟩, ⟨bk BK659⟩, ⟨bk BK660⟩, ⟨bk BK669⟩, ⟨bl HB⟩⟩
                        · replace c70 := Bool.eq_false_iff.mpr c70
                          subst c70
                          have H1 : (bocagelaw03_SpanParts.j4 k4 t668 x9_4 t671 0 a0_0 a0_1 a0_2 a0_3 t664 t665 t666 t667) = some r := by rw [if_neg (show ¬ (false = true) by decide)] at H; exact H
                          clear H
                          have H := H1
                          clear H1
                          have H' := Aside0.mk H
                          clear H
                          go_wp2
                          go_meet
                          case rel => exact ⟨_, (0), (by first | rfl | (simp; done) | (simp [*]; done)), H', ⟨by have := HJ3.out; have := HJ21.out; have := HJ36.out; have := HK4.out; first | omega | exact Nat.le_refl _⟩, ⟨kr HO_10⟩, ⟨bk BK659⟩, ⟨bk BK660⟩, ⟨bk BK669⟩, ⟨bl HB⟩⟩
                      case rest =>
                        clear HC65
                        try clear c1
                        try clear c2
                        try clear p2
                        try clear c3
                        try clear c4
                        try clear c5
                        try clear c6
                        try clear p6
                        try clear q6
                        try clear hx6
                        try clear c7
                        try clear c8
                        try clear c10
                        try clear c11
                        try clear c15
                        try clear c18
                        try clear c23
                        try clear c28
                        try clear c29
                        try clear c30
                        try clear c31
                        try clear c33
                        try clear c34
                        try clear c38
                        try clear c40
                        try clear c41
                        try clear c43
                        try clear c47
                        try clear c47b0
                        try clear c48
                        try clear c48b0
                        try clear c49
                        try clear c49b0
                        try clear c51
                        try clear c53
                        try clear c54
                        try clear c55
                        try clear c59
                        try clear c60
                        try clear c61
                        try clear p64
                        try clear c66
                        try clear c67
                        try clear p67
                        try clear q67
                        try clear hx67
                        try clear c70
                        try clear hcz11_0
                        try clear hcz11_1
                        try clear hcz11_2
                        try clear hcz11_3
                        try clear hcz13_0
                        try clear hcz13_1
                        try clear hcz13_2
                        try clear hcz13_3
                        try clear hcz16_0
                        try clear hcz16_1
                        try clear hcz16_2
                        try clear hcz16_3
                        try clear hcz24_0
                        try clear hcz24_1
                        try clear hcz24_2
                        try clear hcz24_3
                        try clear hcz25_0
                        try clear hcz25_1
                        try clear hcz25_2
                        try clear hcz25_3
                        try clear hcz30_0
                        try clear hcz30_1
                        try clear hcz30_2
                        try clear hcz30_3
                        try clear hcz35_0
                        try clear hcz35_1
                        try clear hcz35_2
                        try clear hcz35_3
                        try clear hcz42_0
                        try clear hcz42_1
                        try clear hcz42_2
                        try clear hcz42_3
                        try clear hcz44_0
                        try clear hcz44_1
                        try clear hcz44_2
                        try clear hcz44_3
                        try clear hcz56_0
                        try clear hcz56_1
                        try clear hcz56_2
                        try clear hcz56_3
                        try clear hcz62_0
                        try clear hcz62_1
                        try clear hcz62_2
                        try clear hcz62_3
                        try clear hcz68_0
                        try clear hcz68_1
                        try clear hcz68_2
                        try clear hcz68_3
                        try clear hfz11_0
                        try clear hfz11_1
                        try clear hfz11_2
                        try clear hfz11_3
                        try clear hfz13_0
                        try clear hfz13_1
                        try clear hfz13_2
                        try clear hfz13_3
                        try clear hfz16_0
                        try clear hfz16_1
                        try clear hfz16_2
                        try clear hfz16_3
                        try clear hfz24_0
                        try clear hfz24_1
                        try clear hfz24_2
                        try clear hfz24_3
                        try clear hfz25_0
                        try clear hfz25_1
                        try clear hfz25_2
                        try clear hfz25_3
                        try clear hfz30_0
                        try clear hfz30_1
                        try clear hfz30_2
                        try clear hfz30_3
                        try clear hfz35_0
                        try clear hfz35_1
                        try clear hfz35_2
                        try clear hfz35_3
                        try clear hfz42_0
                        try clear hfz42_1
                        try clear hfz42_2
                        try clear hfz42_3
                        try clear hfz44_0
                        try clear hfz44_1
                        try clear hfz44_2
                        try clear hfz44_3
                        try clear hfz56_0
                        try clear hfz56_1
                        try clear hfz56_2
                        try clear hfz56_3
                        try clear hfz62_0
                        try clear hfz62_1
                        try clear hfz62_2
                        try clear hfz62_3
                        try clear hfz68_0
                        try clear hfz68_1
                        try clear hfz68_2
                        try clear hfz68_3
                        try clear hx674_0
                        try clear hx674_1
                        try clear hx674_2
                        try clear hx674_3
                        try clear p2
                        try clear p6
                        try clear p674
                        try clear q674
                        obtain ⟨kq, x13_64, rfl, HA, HJ64, HO_10, BK659, BK660, BK669, HB⟩ := hcut
                        cases kq with
                        | zero => exact absurd HA.out (by simp [bocagelaw03_SpanParts.j4])
                        | succ kj64 =>
                          have H := HA.out
                          clear HA
                          simp only [bocagelaw03_SpanParts.j4] at H
                          have HC71 := Aside0.mk H
                          clear H
                          go_upto_if 55 with (fail)
                          go_cut [10] (fun v10 wc => ∃ (kq : Nat) (x10_70 : List (S25)), Aside0 (bocagelaw03_SpanParts.j5 kq x9_4 x10_70 x13_64 a0_0 a0_1 a0_2 a0_3 = some r) ∧ Aside0 (kq ≤ kj64) ∧ Aside0 (Kd.R k25 25 wc w.heap.size (fun k_ => k_ ≠ gb659 ∧ k_ ≠ gb660 ∧ k_ ≠ gb669) v10 x10_70) ∧ Aside0 (wc.heap[gb659]? = some (.cells #[.int .i64 a0_0, .int .i64 a0_1, .int .i64 a0_2, .int .i64 a0_3] 25 (0, 0))) ∧ Aside0 (wc.heap[gb660]? = some (.cells #[.int .i64 a1_0, .int .i64 a1_1, .int .i64 a1_2, .int .i64 a1_3] 25 (0, 0))) ∧ Aside0 (wc.heap[gb669]? = some (.cells #[.int .i64 t664, .int .i64 t665, .int .i64 t666, .int .i64 t667] 25 (0, 0))) ∧ Aside0 (Below w.heap.size w wc))
                          case first =>
                            have H := HC71.out
                            clear HC71
                            by_cases c72 : t668 = true
                            · subst c72
                              have H1 : (if t671.length < 4398046511104 then (bocagelaw03_SpanParts.j5 kj64 x9_4 (t671 ++ [(⟨(⟨t664, t665⟩ : S23), (⟨t666, t667⟩ : S23)⟩ : S25)]) x13_64 a0_0 a0_1 a0_2 a0_3) else (none)) = some r := by rw [if_pos rfl] at H; exact H
                              clear H
                              have H := H1
                              clear H1
                              by_cases c73 : t671.length < 4398046511104
                              · rw [if_pos c73] at H
                                have LMc73 := Aside0.mk c73
                                clear c73
                                obtain ⟨y678, hy678⟩ : ∃ y_ : List (S25), y_ = (t671 ++ [(⟨(⟨t664, t665⟩ : S23), (⟨t666, t667⟩ : S23)⟩ : S25)]) := ⟨_, rfl⟩
                                replace H : (bocagelaw03_SpanParts.j5 kj64 x9_4 y678 x13_64 a0_0 a0_1 a0_2 a0_3) = some r := by first | (rw [hy678]; with_reducible exact H) | (have H2_ := (Option.bind_some _ _).symm.trans H; rw [hy678]; with_reducible exact H2_) | (have H2_ := (Option.bind_some _ _).symm.trans H; with_reducible exact H2_) | with_reducible exact H | (rw [hy678]; exact H) | exact H
                                have Ny678 := Aside0.mk hy678
                                clear hy678
                                have H' := Aside0.mk H
                                clear H
                                have hnb74 := NB669_659.out
                                have hnc74 := NB659_669.out
                                have hnb75 := NB669_660.out
                                have hnc75 := NB660_669.out
                                have hcz76_0 : wc.cell? ⟨gb669, 0, none⟩ = some (.int .i64 t664) := (blk_cell BK669.out 0).trans rfl
                                have hcz76_1 : wc.cell? ⟨gb669, 1, none⟩ = some (.int .i64 t665) := (blk_cell BK669.out 1).trans rfl
                                have hcz76_2 : wc.cell? ⟨gb669, 2, none⟩ = some (.int .i64 t666) := (blk_cell BK669.out 2).trans rfl
                                have hcz76_3 : wc.cell? ⟨gb669, 3, none⟩ = some (.int .i64 t667) := (blk_cell BK669.out 3).trans rfl
                                have hfz76_0 := blk_frozen BK669.out 0
                                have hfz76_1 := blk_frozen BK669.out 1
                                have hfz76_2 := blk_frozen BK669.out 2
                                have hfz76_3 := blk_frozen BK669.out 3
                                go_wp2_with (first | ((with_reducible refine gate_builtin (b := .append) (xs := #[.tmp 56, .tmp 58]) rfl ?_); at_builtin; refine Kd.R_append k25 (w0 := w) w.heap.size rfl (.tmp 56) (.tmp 58) 26 25 (.agg #[(.int .i64 0), (.int .i64 0), (.int .i64 0), (.int .i64 0)]) 32 rfl Try.underlying26 info25 rfl (by decide) (by omega) (.slice Ao46 t671.length co46) t671 (⟨(⟨t664, t665⟩ : S23), (⟨t666, t667⟩ : S23)⟩ : S25) [.int .i64 t664, .int .i64 t665, .int .i64 t666, .int .i64 t667] (fun k_ => k_ ≠ gb659 ∧ k_ ≠ gb660 ∧ k_ ≠ gb669) (fun _ => False) rfl rfl ?aP (fun _ hk => hk.elim) ?aF ?aO ?aB ?aS ?aL ?_; (case aP => exact k25_mkM _ _ _ (⟨(⟨t664, t665⟩ : S23), (⟨t666, t667⟩ : S23)⟩ : S25)); (case aB => exact (bl HB)); (case aF => exact (fun k_ hk => ⟨Kd.freshB (bk BK659) k_ hk, Kd.freshB (bk BK660) k_ hk, Kd.freshB (bk BK669) k_ hk⟩)); (case aO => exact (kr HO_10)); (case aS => exact (below_size (bl HB))); (case aL => have := LMc73.out; omega); intro v679 w77 ho hb hg hat; rw [← Ny678.out] at ho; replace BK659 := Aside0.mk (blk_grown (bk BK659) hg (Kd.R_away HO_10.out (fun _ hk => hk.1))); replace BK660 := Aside0.mk (blk_grown (bk BK660) hg (Kd.R_away HO_10.out (fun _ hk => hk.2.1))); replace BK669 := Aside0.mk (blk_grown (bk BK669) hg (Kd.R_away HO_10.out (fun _ hk => hk.2.2))); replace HB := Aside0.mk (hb); have HO680 := Aside0.mk (ho); clear HO_10; clear ho hb hg hat))
                                go_meet
                                case rel => exact ⟨_, (y678), H', ⟨by have := HJ3.out; have := HJ21.out; have := HJ36.out; have := HK4.out; have := HJ64.out; first | omega | exact Nat.le_refl _⟩, ⟨kr HO680⟩, ⟨bk BK659⟩, ⟨bk BK660⟩, ⟨bk BK669⟩, ⟨bl HB⟩⟩
                              · rw [if_neg c73] at H
                                exact absurd H (by simp)
                            · replace c72 := Bool.eq_false_iff.mpr c72
                              subst c72
                              have H1 : (bocagelaw03_SpanParts.j5 kj64 x9_4 t671 x13_64 a0_0 a0_1 a0_2 a0_3) = some r := by rw [if_neg (show ¬ (false = true) by decide)] at H; exact H
                              clear H
                              have H := H1
                              clear H1
                              have H' := Aside0.mk H
                              clear H
                              go_wp2
                              go_meet
                              case rel => exact ⟨_, (t671), H', ⟨by have := HJ3.out; have := HJ21.out; have := HJ36.out; have := HK4.out; have := HJ64.out; first | omega | exact Nat.le_refl _⟩, ⟨kr HO_10⟩, ⟨bk BK659⟩, ⟨bk BK660⟩, ⟨bk BK669⟩, ⟨bl HB⟩⟩
                          case rest =>
                            clear HC71
                            try clear c1
                            try clear c2
                            try clear p2
                            try clear c3
                            try clear c4
                            try clear c5
                            try clear c6
                            try clear p6
                            try clear q6
                            try clear hx6
                            try clear c7
                            try clear c8
                            try clear c10
                            try clear c11
                            try clear c15
                            try clear c18
                            try clear c23
                            try clear c28
                            try clear c29
                            try clear c30
                            try clear c31
                            try clear c33
                            try clear c34
                            try clear c38
                            try clear c40
                            try clear c41
                            try clear c43
                            try clear c47
                            try clear c47b0
                            try clear c48
                            try clear c48b0
                            try clear c49
                            try clear c49b0
                            try clear c51
                            try clear c53
                            try clear c54
                            try clear c55
                            try clear c59
                            try clear c60
                            try clear c61
                            try clear p64
                            try clear c66
                            try clear c67
                            try clear p67
                            try clear q67
                            try clear hx67
                            try clear c70
                            try clear c72
                            try clear c73
                            try clear c74
                            try clear c75
                            try clear hcz11_0
                            try clear hcz11_1
                            try clear hcz11_2
                            try clear hcz11_3
                            try clear hcz13_0
                            try clear hcz13_1
                            try clear hcz13_2
                            try clear hcz13_3
                            try clear hcz16_0
                            try clear hcz16_1
                            try clear hcz16_2
                            try clear hcz16_3
                            try clear hcz24_0
                            try clear hcz24_1
                            try clear hcz24_2
                            try clear hcz24_3
                            try clear hcz25_0
                            try clear hcz25_1
                            try clear hcz25_2
                            try clear hcz25_3
                            try clear hcz30_0
                            try clear hcz30_1
                            try clear hcz30_2
                            try clear hcz30_3
                            try clear hcz35_0
                            try clear hcz35_1
                            try clear hcz35_2
                            try clear hcz35_3
                            try clear hcz42_0
                            try clear hcz42_1
                            try clear hcz42_2
                            try clear hcz42_3
                            try clear hcz44_0
                            try clear hcz44_1
                            try clear hcz44_2
                            try clear hcz44_3
                            try clear hcz56_0
                            try clear hcz56_1
                            try clear hcz56_2
                            try clear hcz56_3
                            try clear hcz62_0
                            try clear hcz62_1
                            try clear hcz62_2
                            try clear hcz62_3
                            try clear hcz68_0
                            try clear hcz68_1
                            try clear hcz68_2
                            try clear hcz68_3
                            try clear hcz76_0
                            try clear hcz76_1
                            try clear hcz76_2
                            try clear hcz76_3
                            try clear hfz11_0
                            try clear hfz11_1
                            try clear hfz11_2
                            try clear hfz11_3
                            try clear hfz13_0
                            try clear hfz13_1
                            try clear hfz13_2
                            try clear hfz13_3
                            try clear hfz16_0
                            try clear hfz16_1
                            try clear hfz16_2
                            try clear hfz16_3
                            try clear hfz24_0
                            try clear hfz24_1
                            try clear hfz24_2
                            try clear hfz24_3
                            try clear hfz25_0
                            try clear hfz25_1
                            try clear hfz25_2
                            try clear hfz25_3
                            try clear hfz30_0
                            try clear hfz30_1
                            try clear hfz30_2
                            try clear hfz30_3
                            try clear hfz35_0
                            try clear hfz35_1
                            try clear hfz35_2
                            try clear hfz35_3
                            try clear hfz42_0
                            try clear hfz42_1
                            try clear hfz42_2
                            try clear hfz42_3
                            try clear hfz44_0
                            try clear hfz44_1
                            try clear hfz44_2
                            try clear hfz44_3
                            try clear hfz56_0
                            try clear hfz56_1
                            try clear hfz56_2
                            try clear hfz56_3
                            try clear hfz62_0
                            try clear hfz62_1
                            try clear hfz62_2
                            try clear hfz62_3
                            try clear hfz68_0
                            try clear hfz68_1
                            try clear hfz68_2
                            try clear hfz68_3
                            try clear hfz76_0
                            try clear hfz76_1
                            try clear hfz76_2
                            try clear hfz76_3
                            try clear hx674_0
                            try clear hx674_1
                            try clear hx674_2
                            try clear hx674_3
                            try clear p2
                            try clear p6
                            try clear p64
                            try clear p67
                            try clear p674
                            try clear q6
                            try clear q67
                            try clear q674
                            obtain ⟨kq, x10_70, HA, HJ70, HO_10, BK659, BK660, BK669, HB⟩ := hcut
                            cases kq with
                            | zero => exact absurd HA.out (by simp [bocagelaw03_SpanParts.j5])
                            | succ kj70 =>
                              have H := HA.out
                              clear HA
                              simp only [bocagelaw03_SpanParts.j5] at H
                              replace H := Option.bind_eq_some_iff.mp H
                              obtain ⟨t681, A780, H⟩ := H
                              (try (set_option simprocs false in dsimp only at H))
                              have A78 := Aside0.mk A780
                              clear A780
                              by_cases c79 : t681 = true
                              · subst c79
                                have H1 : (if x9_4 = x13_64 then ((span_List.f kj70 x10_70).bind fun t682 => ((bocageref03_One.f a0_0 a0_1 a0_2 a0_3).bind fun t685 => ((bocageref03_Same.f kj70 t682 t685).bind fun t688 => (some t688)))) else (some false)) = some r := by rw [if_pos rfl] at H; exact H
                                clear H
                                have H := H1
                                clear H1
                                by_cases c80 : x9_4 = x13_64
                                · rw [if_pos c80] at H
                                  have c80b0 : (x9_4 == x13_64) = true := beq_iff_eq.mpr c80
                                  have c80b1 : (x9_4 != x13_64) = false := bne_eq_false_iff_eq.mpr c80
                                  clear c80
                                  replace H := Option.bind_eq_some_iff.mp H
                                  obtain ⟨t682, A810, H⟩ := H
                                  (try (set_option simprocs false in dsimp only at H))
                                  have A81 := Aside0.mk A810
                                  clear A810
                                  replace H := Option.bind_eq_some_iff.mp H
                                  obtain ⟨t685, A820, H⟩ := H
                                  (try (set_option simprocs false in dsimp only at H))
                                  have A82 := Aside0.mk A820
                                  clear A820
                                  replace H := Option.bind_eq_some_iff.mp H
                                  obtain ⟨t688, A830, H⟩ := H
                                  (try (set_option simprocs false in dsimp only at H))
                                  have A83 := Aside0.mk A830
                                  clear A830
                                  obtain rfl := Option.some.inj H
                                  try go_wp2
                                  replace HO_10 := Aside0.mk (Kd.R_drew HO_10.out)
                                  replace BK659 := Aside0.mk (blk_drew BK659.out)
                                  replace BK660 := Aside0.mk (blk_drew BK660.out)
                                  replace BK669 := Aside0.mk (blk_drew BK669.out)
                                  replace HB := Aside0.mk (below_drew1 HB.out)
                                  refine start_ (n := 14) (S := fun w' => w'.cell? ⟨gb659, 0, none⟩ = some (.int .i64 a0_0) ∧ w'.cell? ⟨gb659, 1, none⟩ = some (.int .i64 a0_1) ∧ w'.cell? ⟨gb659, 2, none⟩ = some (.int .i64 a0_2) ∧ w'.cell? ⟨gb659, 3, none⟩ = some (.int .i64 a0_3)) (ds := []) #[false, false, false, false, false, false, false, false, false, false, false, false, false, false] (by kernel_rfl) rfl rfl (e4 BK659) (fun hHeld => ?_); refine with_tabW bocagelaw03_SpanParts.tab19 bocagelaw03_SpanParts.bits19 (fun HT_ HW_ => ?_)
                                  generalize wc.drew = w84 at HO_10 BK659 BK660 BK669 HB hHeld ⊢
                                  refine one_ (i := 0) (N := some 60) #[true, false, false, false, false, false, false, false, false, false, false, false, false, false] rfl rfl (one_of HT_.out (by kernel_rfl)) (by decide) (fun K hK => ?_)
                                  refine goes_ Try.func18 (by kernel_rfl) rfl #[] (by rfl) rfl rfl (by (try simp only [List.map_toArray, List.map_cons, List.map_nil]); first | done | rfl | (simp only [List.length_drop, List.length_take]; rfl)) ?_
                                  with_reducible refine (bocagelaw03_alive.calls kj70  true _ A78.out rfl).mono ?_
                                  rintro e w85 ⟨rfl, hb⟩
                                  refine ⟨_, rfl, ?_⟩
                                  replace HO_10 := krb HO_10 hb
                                  replace BK659 := bkb BK659 hb
                                  replace BK660 := bkb BK660 hb
                                  replace BK669 := bkb BK669 hb
                                  replace HB := bst HB hb
                                  (try clear hb)
                                  (try clear hb2)
                                  (try clear hk)
                                  (try clear hi)
                                  obtain ⟨Ao86, co86, eo86⟩ := Kd.R_slice HO_10.out
                                  (first | subst eo86 | (injection eo86 with f1_ f2_ f3_; have f4_ := f1_.symm; have f5_ := f3_.symm; clear f1_ f2_ f3_; subst f4_; subst f5_))
                                  refine hK.out _ _ (e4 BK659) (fun hHeld => ?_)
                                  clear hK K
                                  refine nrp 60 ?_
                                  refine pu 1 (some 61) #[true, true, false, false, false, false, false, false, false, false, false, false, false, false] (any_of HT_.out (by kernel_rfl)) ?_
                                  refine pu 2 (some 62) #[true, true, true, false, false, false, false, false, false, false, false, false, false, false] (any_of HT_.out (by kernel_rfl)) ?_
                                  refine pu 3 (some 63) #[true, true, true, true, false, false, false, false, false, false, false, false, false, false] (any_of HT_.out (by kernel_rfl)) ?_
                                  refine pu 4 (some 64) #[true, true, true, true, true, false, false, false, false, false, false, false, false, false] (any_of HT_.out (by kernel_rfl)) ?_
                                  refine pu 5 (some 65) #[true, true, true, true, true, true, false, false, false, false, false, false, false, false] (any_of HT_.out (by kernel_rfl)) ?_
                                  refine pu 6 (some 66) #[true, true, true, true, true, true, true, false, false, false, false, false, false, false] (any_of HT_.out (by kernel_rfl)) ?_
                                  refine pu 7 (some 67) #[true, true, true, true, true, true, true, true, false, false, false, false, false, false] (any_of HT_.out (by kernel_rfl)) ?_
                                  refine tk4 9 (some 69) #[true, true, true, true, true, true, true, true, false, true, false, false, false, false] (take_ofW HT_.out HW_.out (by kernel_rfl)) hHeld ?_
                                  refine one_ (i := 8) (N := some 68) #[true, true, true, true, true, true, true, true, true, true, false, false, false, false] rfl rfl (one_of HT_.out (by kernel_rfl)) (by decide) (fun K hK => ?_)
                                  refine goes_ Try.func37 (by kernel_rfl) rfl #[.slice Ao86 x10_70.length co86] (by rfl) rfl rfl (by (try simp only [List.map_toArray, List.map_cons, List.map_nil]); first | done | rfl | (simp only [List.length_drop, List.length_take]; rfl)) ?_
                                  with_reducible refine (span_List.calls kj70 _ _ x10_70 t682 _ ?side1 ?side2 A81.out).mono ?_
                                  (case side1 => repeat (first | exact (Kd.R_reads' HO_10.out).2.2 | (with_reducible refine Kd.C_alloc ?_ _) | (with_reducible refine Kd.C_drewN ?_ _) | (with_reducible refine Kd.C_drew ?_)))
                                  (case side2 => exact (Kd.R_reads' HO_10.out).2.1)
                                  rintro e w87 ⟨v683, rfl, ho0, hb⟩
                                  refine ⟨_, rfl, ?_⟩
                                  have HO684 := Aside0.mk (Kd.R_lower (Kd.R_newB (Kd.R_newB (Kd.R_newB (Kd.R_new' ho0 (Kd.R_lt (kr HO_10))) (bk BK659)) (bk BK660)) (bk BK669)) (below_size (bl HB)))
                                  replace HO_10 := Aside0.mk (Kd.R_elder' (kr HO_10) (Kd.R_base ho0) hb)
                                  replace BK659 := bkb BK659 hb
                                  replace BK660 := bkb BK660 hb
                                  replace BK669 := bkb BK669 hb
                                  replace HB := bst HB hb
                                  (try clear hb)
                                  (try clear hb2)
                                  (try clear hk)
                                  (try clear hi)
                                  (try clear ho0)
                                  refine hK.out _ _ (e4 BK659) (fun hHeld => ?_)
                                  clear hK K
                                  refine nrp 68 ?_
                                  refine one_ (i := 10) (N := some 70) #[true, true, true, true, true, true, true, true, true, true, true, false, false, false] rfl rfl (one_of HT_.out (by kernel_rfl)) (by decide) (fun K hK => ?_)
                                  refine goes_ Try.func10 (by kernel_rfl) rfl #[.agg #[.int .i64 a0_0, .int .i64 a0_1, .int .i64 a0_2, .int .i64 a0_3]] (by rfl) rfl rfl (by (try simp only [List.map_toArray, List.map_cons, List.map_nil]); first | done | rfl | (simp only [List.length_drop, List.length_take]; rfl)) ?_
                                  with_reducible refine (bocageref03_One.calls a0_0 a0_1 a0_2 a0_3 t685 _ A82.out).mono ?_
                                  rintro e w88 ⟨v686, rfl, ho0, hb⟩
                                  refine ⟨_, rfl, ?_⟩
                                  have HO687 := Aside0.mk (Kd.R_lower (Kd.R_newB (Kd.R_newB (Kd.R_newB (Kd.R_new' (Kd.R_new' ho0 (Kd.R_lt (kr HO_10))) (Kd.R_lt (kr HO684))) (bk BK659)) (bk BK660)) (bk BK669)) (below_size (bl HB)))
                                  replace HO_10 := Aside0.mk (Kd.R_elder' (kr HO_10) (Kd.R_base ho0) hb)
                                  replace HO684 := Aside0.mk (Kd.R_elder' (kr HO684) (Kd.R_base ho0) hb)
                                  replace BK659 := bkb BK659 hb
                                  replace BK660 := bkb BK660 hb
                                  replace BK669 := bkb BK669 hb
                                  replace HB := bst HB hb
                                  (try clear hb)
                                  (try clear hb2)
                                  (try clear hk)
                                  (try clear hi)
                                  (try clear ho0)
                                  obtain ⟨Ao89, co89, eo89⟩ := Kd.R_slice HO684.out
                                  (first | subst eo89 | (injection eo89 with f1_ f2_ f3_; have f4_ := f1_.symm; have f5_ := f3_.symm; clear f1_ f2_ f3_; subst f4_; subst f5_))
                                  obtain ⟨Ao90, co90, eo90⟩ := Kd.R_slice HO687.out
                                  (first | subst eo90 | (injection eo90 with f1_ f2_ f3_; have f4_ := f1_.symm; have f5_ := f3_.symm; clear f1_ f2_ f3_; subst f4_; subst f5_))
                                  refine hK.out _ _ (e4 BK659) (fun hHeld => ?_)
                                  clear hK K
                                  refine nrp 70 ?_
                                  refine one_ (i := 11) (N := some 71) #[true, true, true, true, true, true, true, true, true, true, true, true, false, false] rfl rfl (one_of HT_.out (by kernel_rfl)) (by decide) (fun K hK => ?_)
                                  refine goes_ Try.func22 (by kernel_rfl) rfl #[.slice Ao89 t682.length co89, .slice Ao90 t685.length co90] (by rfl) rfl rfl (by (try simp only [List.map_toArray, List.map_cons, List.map_nil]); first | done | rfl | (simp only [List.length_drop, List.length_take]; rfl)) ?_
                                  with_reducible refine (bocageref03_Same.calls kj70 _ _ t682 _ _ t685 t688 _ ?side1 ?side2 ?side3 ?side4 A83.out).mono ?_
                                  (case side1 => repeat (first | exact (Kd.R_reads' HO684.out).2.2 | (with_reducible refine Kd.C_alloc ?_ _) | (with_reducible refine Kd.C_drewN ?_ _) | (with_reducible refine Kd.C_drew ?_)))
                                  (case side2 => exact (Kd.R_reads' HO684.out).2.1)
                                  (case side3 => repeat (first | exact (Kd.R_reads' HO687.out).2.2 | (with_reducible refine Kd.C_alloc ?_ _) | (with_reducible refine Kd.C_drewN ?_ _) | (with_reducible refine Kd.C_drew ?_)))
                                  (case side4 => exact (Kd.R_reads' HO687.out).2.1)
                                  rintro e w' ⟨rfl, ⟨nd, rfl⟩⟩
                                  refine ⟨_, rfl, ?_⟩
                                  refine hK.out _ _ (e4 BK659) (fun hHeld => ?_)
                                  clear hK K
                                  refine nrp 71 ?_
                                  refine pu 12 (some 72) #[true, true, true, true, true, true, true, true, true, true, true, true, true, false] (any_of HT_.out (by kernel_rfl)) ?_
                                  refine pu 13 (some 6) #[true, true, true, true, true, true, true, true, true, true, true, true, true, true] (any_of HT_.out (by kernel_rfl)) ?_
                                  refine done_ (done_of HT_.out (by kernel_rfl)) ?_
                                  try go_wp2
                                  go_ret
                                  exact endB HB
                                · rw [if_neg c80] at H
                                  exact absurd ((Option.some.inj H).trans HRT.out) Bool.false_ne_true
                              · replace c79 := Bool.eq_false_iff.mpr c79
                                subst c79
                                have H1 : (some false) = some r := by rw [if_neg (show ¬ (false = true) by decide)] at H; exact H
                                exact absurd ((Option.some.inj H1).trans HRT.out) Bool.false_ne_true
end Go.Proofs.Ytkkbmjfhpngalaa.Print
