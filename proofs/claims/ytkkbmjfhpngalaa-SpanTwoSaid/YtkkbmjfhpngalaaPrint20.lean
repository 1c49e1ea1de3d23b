-- Laid by wip/print/bprint.py of this repo, over the kit's printer, with functions given by hand; not trusted: Lean checks it.
import Derived.Test.YtkkbmjfhpngalaaPrint0
import Derived.Test.YtkkbmjfhpngalaaPrint1
import Derived.Test.YtkkbmjfhpngalaaPrint19
import Derived.Test.YtkkbmjfhpngalaaPrint2
import Derived.Test.YtkkbmjfhpngalaaPrint3
import Derived.Test.YtkkbmjfhpngalaaPrint5
import Derived.Test.YtkkbmjfhpngalaaPrint7
import Derived.Test.YtkkbmjfhpngalaaPrint8
import Derived.Test.YtkkbmjfhpngalaaSh2
namespace Go.Proofs.Ytkkbmjfhpngalaa.Print
open Go.RowKit Go.Proofs.YtkkbmjfhpngalaaW.PrintWords Go.Proofs.YtkkbmjfhpngalaaW.PrintLast Go.Proofs.YtkkbmjfhpngalaaW.PrintMore
attribute [local go_sem] max2_int min2_int max_two min_two max_three min_three max_four min_four   -- for this text's walks alone
set_option linter.unusedVariables false
set_option linter.unusedSimpArgs false

attribute [local go_sem high] eqA25
/-! ### bocagelaw03_SpanTwo: function 3 -/
mutual
def bocagelaw03_SpanTwo.j0 : Nat → List (S25) → Bool → Bool → Int → Int → Int → Int → Int → Int → Int → Int → Int → Int → Int → Int → Option (Bool)
  | 0, _, _, _, _, _, _, _, _, _, _, _, _, _, _, _ => none
  | k + 1, x5, x7, x8, x491000, x491001, x491002, x491003, x492000, x492001, x492002, x492003, x507000, x507001, x507002, x507003 => if (x7 != (decide ((x5.length : Int) > 0))) = true then (bocagelaw03_SpanTwo.j1 k x5 x8 true x491000 x491001 x491002 x491003 x492000 x492001 x492002 x492003) else (if x7 = true then (if 0 < (x5.length : Int) then (if ((!(x507000 == ((rd_T25 x5 0).f0.f0)) || (!(x507001 == ((rd_T25 x5 0).f0.f1)))) || ((!(x507002 == ((rd_T25 x5 0).f1.f0)) || (!(x507003 == ((rd_T25 x5 0).f1.f1)))))) = true then (bocagelaw03_SpanTwo.j1 k x5 x8 true x491000 x491001 x491002 x491003 x492000 x492001 x492002 x492003) else ((span_Overlap.f k x491000 x491001 x491002 x491003 x492000 x492001 x492002 x492003).bind fun t510 => (bocagelaw03_SpanTwo.j1 k x5 x8 (t510 != x7) x491000 x491001 x491002 x491003 x492000 x492001 x492002 x492003))) else (none)) else (if ((!(x507000 == 0) || (!(x507001 == 0))) || ((!(x507002 == 0) || (!(x507003 == 0))))) = true then (bocagelaw03_SpanTwo.j1 k x5 x8 true x491000 x491001 x491002 x491003 x492000 x492001 x492002 x492003) else ((span_Overlap.f k x491000 x491001 x491002 x491003 x492000 x492001 x492002 x492003).bind fun t511 => (bocagelaw03_SpanTwo.j1 k x5 x8 (t511 != x7) x491000 x491001 x491002 x491003 x492000 x492001 x492002 x492003))))
def bocagelaw03_SpanTwo.j1 : Nat → List (S25) → Bool → Bool → Int → Int → Int → Int → Int → Int → Int → Int → Option (Bool)
  | 0, _, _, _, _, _, _, _, _, _, _, _ => none
  | k + 1, x5, x8, x60, x491000, x491001, x491002, x491003, x492000, x492001, x492002, x492003 => if x60 = true then (some false) else (if x8 = true then ((bocageref03_One.f x492000 x492001 x492002 x492003).bind fun t512 => ((bocageref03_One.f x491000 x491001 x491002 x491003).bind fun t515 => ((bocageref03_Minus.f k t512 t515).bind fun t518 => (bocagelaw03_SpanTwo.j2 k x5 x8 ((t518.length : Int) == 0) x491000 x491001 x491002 x491003 x492000 x492001 x492002 x492003)))) else (bocagelaw03_SpanTwo.j2 k x5 x8 false x491000 x491001 x491002 x491003 x492000 x492001 x492002 x492003))
def bocagelaw03_SpanTwo.j2 : Nat → List (S25) → Bool → Bool → Int → Int → Int → Int → Int → Int → Int → Int → Option (Bool)
  | 0, _, _, _, _, _, _, _, _, _, _, _ => none
  | k + 1, x5, x8, x9, x491000, x491001, x491002, x491003, x492000, x492001, x492002, x492003 => if x8 = true then (if (x5.length : Int) = 0 then ((bocageref03_List.f k (([(⟨(⟨x491000, x491001⟩ : S23), (⟨x491002, x491003⟩ : S23)⟩ : S25), (⟨(⟨x492000, x492001⟩ : S23), (⟨x492002, x492003⟩ : S23)⟩ : S25)] : List (S25)))).bind fun t524 => (bocagelaw03_SpanTwo.j3 k x8 x9 ((t524.length : Int) == 1) x491000 x491001 x491002 x491003 x492000 x492001 x492002 x492003)) else (bocagelaw03_SpanTwo.j3 k x8 x9 false x491000 x491001 x491002 x491003 x492000 x492001 x492002 x492003)) else (bocagelaw03_SpanTwo.j3 k x8 x9 false x491000 x491001 x491002 x491003 x492000 x492001 x492002 x492003)
def bocagelaw03_SpanTwo.j3 : Nat → Bool → Bool → Bool → Int → Int → Int → Int → Int → Int → Int → Int → Option (Bool)
  | 0, _, _, _, _, _, _, _, _, _, _, _ => none
  | k + 1, x8, x9, x10, x491000, x491001, x491002, x491003, x492000, x492001, x492002, x492003 => if x8 = true then ((bocageref02_Low.f k x491000 x491001 x492000 x492001).bind fun bt531 => ((bocageref02_High.f k x491002 x491003 x492002 x492003).bind fun bt533 => ((bocageref03_One.f x491000 x491001 x491002 x491003).bind fun t535 => ((bocageref03_One.f x492000 x492001 x492002 x492003).bind fun t538 => ((bocageref03_Minus.f k t535 t538).bind fun t541 => (bocagelaw03_SpanTwo.j4 k x9 x10 t541 x491000 x491001 x491002 x491003 x492000 x492001 x492002 x492003 bt531.1 bt531.2 bt533.1 bt533.2)))))) else (bocagelaw03_SpanTwo.j4 k x9 x10 (([] : List (S25))) x491000 x491001 x491002 x491003 x492000 x492001 x492002 x492003 0 0 0 0)
def bocagelaw03_SpanTwo.j4 : Nat → Bool → Bool → List (S25) → Int → Int → Int → Int → Int → Int → Int → Int → Int → Int → Int → Int → Option (Bool)
  | 0, _, _, _, _, _, _, _, _, _, _, _, _, _, _, _ => none
  | k + 1, x9, x10, x12, x491000, x491001, x491002, x491003, x492000, x492001, x492002, x492003, x528000, x528001, x528002, x528003 => (bocagelaw03_alive.f k).bind fun t544 => (if t544 = true then ((span_Holds.f k x491000 x491001 x491002 x491003 x492000 x492001 x492002 x492003).bind fun t545 => (if (t545 == x9) = true then ((span_Touch.f k x491000 x491001 x491002 x491003 x492000 x492001 x492002 x492003).bind fun t546 => (if (t546 == x10) = true then ((span_Hull.f k x491000 x491001 x491002 x491003 x492000 x492001 x492002 x492003).bind fun bt547 => (if ((bt547.1 == x528000 && (bt547.2.1 == x528001)) && ((bt547.2.2.1 == x528002 && (bt547.2.2.2 == x528003)))) = true then ((span_Minus.f k x491000 x491001 x491002 x491003 x492000 x492001 x492002 x492003).bind fun t551 => ((bocageref03_Same.f k t551 x12).bind fun t554 => (some t554))) else (some false))) else (some false))) else (some false))) else (some false))
end
def bocagelaw03_SpanTwo.f (k : Nat) (a0_0 : Int) (a0_1 : Int) (a0_2 : Int) (a0_3 : Int) (a1_0 : Int) (a1_1 : Int) (a1_2 : Int) (a1_3 : Int) : Option (Bool) := (bocageref03_One.f a0_0 a0_1 a0_2 a0_3).bind fun t492 => ((bocageref03_One.f a1_0 a1_1 a1_2 a1_3).bind fun t495 => ((bocageref03_Meet.f k t492 t495).bind fun t498 => ((span_Meet.f k a0_0 a0_1 a0_2 a0_3 a1_0 a1_1 a1_2 a1_3).bind fun bt501 => ((bocageref03_Right.f k a0_0 a0_1 a0_2 a0_3).bind fun t507 => (if t507 = true then ((bocageref03_Right.f k a1_0 a1_1 a1_2 a1_3).bind fun t508 => (bocagelaw03_SpanTwo.j0 k t498 bt501.2.2.2.2 t508 a0_0 a0_1 a0_2 a0_3 a1_0 a1_1 a1_2 a1_3 bt501.1 bt501.2.1 bt501.2.2.1 bt501.2.2.2.1)) else (bocagelaw03_SpanTwo.j0 k t498 bt501.2.2.2.2 false a0_0 a0_1 a0_2 a0_3 a1_0 a1_1 a1_2 a1_3 bt501.1 bt501.2.1 bt501.2.2.1 bt501.2.2.2.1))))))
theorem bocagelaw03_SpanTwo.mono_l : ∀ k, (∀ y0 y1 y2 y3 y4 y5 y6 y7 y8 y9 y10 y11 y12 y13 y14, LeO (bocagelaw03_SpanTwo.j0 k y0 y1 y2 y3 y4 y5 y6 y7 y8 y9 y10 y11 y12 y13 y14) (bocagelaw03_SpanTwo.j0 (k + 1) y0 y1 y2 y3 y4 y5 y6 y7 y8 y9 y10 y11 y12 y13 y14)) ∧ (∀ y0 y1 y2 y3 y4 y5 y6 y7 y8 y9 y10, LeO (bocagelaw03_SpanTwo.j1 k y0 y1 y2 y3 y4 y5 y6 y7 y8 y9 y10) (bocagelaw03_SpanTwo.j1 (k + 1) y0 y1 y2 y3 y4 y5 y6 y7 y8 y9 y10)) ∧ (∀ y0 y1 y2 y3 y4 y5 y6 y7 y8 y9 y10, LeO (bocagelaw03_SpanTwo.j2 k y0 y1 y2 y3 y4 y5 y6 y7 y8 y9 y10) (bocagelaw03_SpanTwo.j2 (k + 1) y0 y1 y2 y3 y4 y5 y6 y7 y8 y9 y10)) ∧ (∀ y0 y1 y2 y3 y4 y5 y6 y7 y8 y9 y10, LeO (bocagelaw03_SpanTwo.j3 k y0 y1 y2 y3 y4 y5 y6 y7 y8 y9 y10) (bocagelaw03_SpanTwo.j3 (k + 1) y0 y1 y2 y3 y4 y5 y6 y7 y8 y9 y10)) ∧ (∀ y0 y1 y2 y3 y4 y5 y6 y7 y8 y9 y10 y11 y12 y13 y14, LeO (bocagelaw03_SpanTwo.j4 k y0 y1 y2 y3 y4 y5 y6 y7 y8 y9 y10 y11 y12 y13 y14) (bocagelaw03_SpanTwo.j4 (k + 1) y0 y1 y2 y3 y4 y5 y6 y7 y8 y9 y10 y11 y12 y13 y14))
  | 0 => ⟨fun _ _ _ _ _ _ _ _ _ _ _ _ _ _ _ r h => by simp [bocagelaw03_SpanTwo.j0] at h, fun _ _ _ _ _ _ _ _ _ _ _ r h => by simp [bocagelaw03_SpanTwo.j1] at h, fun _ _ _ _ _ _ _ _ _ _ _ r h => by simp [bocagelaw03_SpanTwo.j2] at h, fun _ _ _ _ _ _ _ _ _ _ _ r h => by simp [bocagelaw03_SpanTwo.j3] at h, fun _ _ _ _ _ _ _ _ _ _ _ _ _ _ _ r h => by simp [bocagelaw03_SpanTwo.j4] at h⟩
  | k + 1 => by
    obtain ⟨ih0, ih1, ih2, ih3, ih4⟩ := bocagelaw03_SpanTwo.mono_l k
    refine ⟨?_, ?_, ?_, ?_, ?_⟩
    · intro y0 y1 y2 y3 y4 y5 y6 y7 y8 y9 y10 y11 y12 y13 y14
      unfold bocagelaw03_SpanTwo.j0
      repeat' first
      | (with_reducible exact ih0 _ _ _ _ _ _ _ _ _ _ _ _ _ _ _)
      | (with_reducible exact ih1 _ _ _ _ _ _ _ _ _ _ _)
      | (with_reducible exact ih2 _ _ _ _ _ _ _ _ _ _ _)
      | (with_reducible exact ih3 _ _ _ _ _ _ _ _ _ _ _)
      | (with_reducible exact ih4 _ _ _ _ _ _ _ _ _ _ _ _ _ _ _)
      | (with_reducible exact bocagelaw03_alive.mono _)
      | (with_reducible exact bocageref02_High.mono _ _ _ _ _)
      | (with_reducible exact bocageref02_Low.mono _ _ _ _ _)
      | (with_reducible exact bocageref03_List.mono _ _)
      | (with_reducible exact bocageref03_Meet.mono _ _ _)
      | (with_reducible exact bocageref03_Minus.mono _ _ _)
      | (with_reducible exact bocageref03_Right.mono _ _ _ _ _)
      | (with_reducible exact bocageref03_Same.mono _ _ _)
      | (with_reducible exact span_Holds.mono _ _ _ _ _ _ _ _ _)
      | (with_reducible exact span_Hull.mono _ _ _ _ _ _ _ _ _)
      | (with_reducible exact span_Meet.mono _ _ _ _ _ _ _ _ _)
      | (with_reducible exact span_Minus.mono _ _ _ _ _ _ _ _ _)
      | (with_reducible exact span_Overlap.mono _ _ _ _ _ _ _ _ _)
      | (with_reducible exact span_Touch.mono _ _ _ _ _ _ _ _ _)
      | (with_reducible exact LeO.refl _)
      | (with_reducible exact LeO.none _)
      | (with_reducible refine LeO.ite ?_ ?_)
      | (with_reducible refine LeO.bind ?_ (fun _ => ?_))
      | exact ih0 _ _ _ _ _ _ _ _ _ _ _ _ _ _ _
      | exact ih1 _ _ _ _ _ _ _ _ _ _ _
      | exact ih2 _ _ _ _ _ _ _ _ _ _ _
      | exact ih3 _ _ _ _ _ _ _ _ _ _ _
      | exact ih4 _ _ _ _ _ _ _ _ _ _ _ _ _ _ _
      | exact bocagelaw03_alive.mono _
      | exact bocageref02_High.mono _ _ _ _ _
      | exact bocageref02_Low.mono _ _ _ _ _
      | exact bocageref03_List.mono _ _
      | exact bocageref03_Meet.mono _ _ _
      | exact bocageref03_Minus.mono _ _ _
      | exact bocageref03_Right.mono _ _ _ _ _
      | exact bocageref03_Same.mono _ _ _
      | exact span_Holds.mono _ _ _ _ _ _ _ _ _
      | exact span_Hull.mono _ _ _ _ _ _ _ _ _
      | exact span_Meet.mono _ _ _ _ _ _ _ _ _
      | exact span_Minus.mono _ _ _ _ _ _ _ _ _
      | exact span_Overlap.mono _ _ _ _ _ _ _ _ _
      | exact span_Touch.mono _ _ _ _ _ _ _ _ _
      | exact LeO.none _
      | refine LeO.ite ?_ ?_
      | refine LeO.bind ?_ (fun _ => ?_)
    · intro y0 y1 y2 y3 y4 y5 y6 y7 y8 y9 y10
      unfold bocagelaw03_SpanTwo.j1
      repeat' first
      | (with_reducible exact ih0 _ _ _ _ _ _ _ _ _ _ _ _ _ _ _)
      | (with_reducible exact ih1 _ _ _ _ _ _ _ _ _ _ _)
      | (with_reducible exact ih2 _ _ _ _ _ _ _ _ _ _ _)
      | (with_reducible exact ih3 _ _ _ _ _ _ _ _ _ _ _)
      | (with_reducible exact ih4 _ _ _ _ _ _ _ _ _ _ _ _ _ _ _)
      | (with_reducible exact bocagelaw03_alive.mono _)
      | (with_reducible exact bocageref02_High.mono _ _ _ _ _)
      | (with_reducible exact bocageref02_Low.mono _ _ _ _ _)
      | (with_reducible exact bocageref03_List.mono _ _)
      | (with_reducible exact bocageref03_Meet.mono _ _ _)
      | (with_reducible exact bocageref03_Minus.mono _ _ _)
      | (with_reducible exact bocageref03_Right.mono _ _ _ _ _)
      | (with_reducible exact bocageref03_Same.mono _ _ _)
      | (with_reducible exact span_Holds.mono _ _ _ _ _ _ _ _ _)
      | (with_reducible exact span_Hull.mono _ _ _ _ _ _ _ _ _)
      | (with_reducible exact span_Meet.mono _ _ _ _ _ _ _ _ _)
      | (with_reducible exact span_Minus.mono _ _ _ _ _ _ _ _ _)
      | (with_reducible exact span_Overlap.mono _ _ _ _ _ _ _ _ _)
      | (with_reducible exact span_Touch.mono _ _ _ _ _ _ _ _ _)
      | (with_reducible exact LeO.refl _)
      | (with_reducible exact LeO.none _)
      | (with_reducible refine LeO.ite ?_ ?_)
      | (with_reducible refine LeO.bind ?_ (fun _ => ?_))
      | exact ih0 _ _ _ _ _ _ _ _ _ _ _ _ _ _ _
      | exact ih1 _ _ _ _ _ _ _ _ _ _ _
      | exact ih2 _ _ _ _ _ _ _ _ _ _ _
      | exact ih3 _ _ _ _ _ _ _ _ _ _ _
      | exact ih4 _ _ _ _ _ _ _ _ _ _ _ _ _ _ _
      | exact bocagelaw03_alive.mono _
      | exact bocageref02_High.mono _ _ _ _ _
      | exact bocageref02_Low.mono _ _ _ _ _
      | exact bocageref03_List.mono _ _
      | exact bocageref03_Meet.mono _ _ _
      | exact bocageref03_Minus.mono _ _ _
      | exact bocageref03_Right.mono _ _ _ _ _
      | exact bocageref03_Same.mono _ _ _
      | exact span_Holds.mono _ _ _ _ _ _ _ _ _
      | exact span_Hull.mono _ _ _ _ _ _ _ _ _
      | exact span_Meet.mono _ _ _ _ _ _ _ _ _
      | exact span_Minus.mono _ _ _ _ _ _ _ _ _
      | exact span_Overlap.mono _ _ _ _ _ _ _ _ _
      | exact span_Touch.mono _ _ _ _ _ _ _ _ _
      | exact LeO.none _
      | refine LeO.ite ?_ ?_
      | refine LeO.bind ?_ (fun _ => ?_)
    · intro y0 y1 y2 y3 y4 y5 y6 y7 y8 y9 y10
      unfold bocagelaw03_SpanTwo.j2
      repeat' first
      | (with_reducible exact ih0 _ _ _ _ _ _ _ _ _ _ _ _ _ _ _)
      | (with_reducible exact ih1 _ _ _ _ _ _ _ _ _ _ _)
      | (with_reducible exact ih2 _ _ _ _ _ _ _ _ _ _ _)
      | (with_reducible exact ih3 _ _ _ _ _ _ _ _ _ _ _)
      | (with_reducible exact ih4 _ _ _ _ _ _ _ _ _ _ _ _ _ _ _)
      | (with_reducible exact bocagelaw03_alive.mono _)
      | (with_reducible exact bocageref02_High.mono _ _ _ _ _)
      | (with_reducible exact bocageref02_Low.mono _ _ _ _ _)
      | (with_reducible exact bocageref03_List.mono _ _)
      | (with_reducible exact bocageref03_Meet.mono _ _ _)
      | (with_reducible exact bocageref03_Minus.mono _ _ _)
      | (with_reducible exact bocageref03_Right.mono _ _ _ _ _)
      | (with_reducible exact bocageref03_Same.mono _ _ _)
      | (with_reducible exact span_Holds.mono _ _ _ _ _ _ _ _ _)
      | (with_reducible exact span_Hull.mono _ _ _ _ _ _ _ _ _)
      | (with_reducible exact span_Meet.mono _ _ _ _ _ _ _ _ _)
      | (with_reducible exact span_Minus.mono _ _ _ _ _ _ _ _ _)
      | (with_reducible exact span_Overlap.mono _ _ _ _ _ _ _ _ _)
      | (with_reducible exact span_Touch.mono _ _ _ _ _ _ _ _ _)
      | (with_reducible exact LeO.refl _)
      | (with_reducible exact LeO.none _)
      | (with_reducible refine LeO.ite ?_ ?_)
      | (with_reducible refine LeO.bind ?_ (fun _ => ?_))
      | exact ih0 _ _ _ _ _ _ _ _ _ _ _ _ _ _ _
      | exact ih1 _ _ _ _ _ _ _ _ _ _ _
      | exact ih2 _ _ _ _ _ _ _ _ _ _ _
      | exact ih3 _ _ _ _ _ _ _ _ _ _ _
      | exact ih4 _ _ _ _ _ _ _ _ _ _ _ _ _ _ _
      | exact bocagelaw03_alive.mono _
      | exact bocageref02_High.mono _ _ _ _ _
      | exact bocageref02_Low.mono _ _ _ _ _
      | exact bocageref03_List.mono _ _
      | exact bocageref03_Meet.mono _ _ _
      | exact bocageref03_Minus.mono _ _ _
      | exact bocageref03_Right.mono _ _ _ _ _
      | exact bocageref03_Same.mono _ _ _
      | exact span_Holds.mono _ _ _ _ _ _ _ _ _
      | exact span_Hull.mono _ _ _ _ _ _ _ _ _
      | exact span_Meet.mono _ _ _ _ _ _ _ _ _
      | exact span_Minus.mono _ _ _ _ _ _ _ _ _
      | exact span_Overlap.mono _ _ _ _ _ _ _ _ _
      | exact span_Touch.mono _ _ _ _ _ _ _ _ _
      | exact LeO.none _
      | refine LeO.ite ?_ ?_
      | refine LeO.bind ?_ (fun _ => ?_)
    · intro y0 y1 y2 y3 y4 y5 y6 y7 y8 y9 y10
      unfold bocagelaw03_SpanTwo.j3
      repeat' first
      | (with_reducible exact ih0 _ _ _ _ _ _ _ _ _ _ _ _ _ _ _)
      | (with_reducible exact ih1 _ _ _ _ _ _ _ _ _ _ _)
      | (with_reducible exact ih2 _ _ _ _ _ _ _ _ _ _ _)
      | (with_reducible exact ih3 _ _ _ _ _ _ _ _ _ _ _)
      | (with_reducible exact ih4 _ _ _ _ _ _ _ _ _ _ _ _ _ _ _)
      | (with_reducible exact bocagelaw03_alive.mono _)
      | (with_reducible exact bocageref02_High.mono _ _ _ _ _)
      | (with_reducible exact bocageref02_Low.mono _ _ _ _ _)
      | (with_reducible exact bocageref03_List.mono _ _)
      | (with_reducible exact bocageref03_Meet.mono _ _ _)
      | (with_reducible exact bocageref03_Minus.mono _ _ _)
      | (with_reducible exact bocageref03_Right.mono _ _ _ _ _)
      | (with_reducible exact bocageref03_Same.mono _ _ _)
      | (with_reducible exact span_Holds.mono _ _ _ _ _ _ _ _ _)
      | (with_reducible exact span_Hull.mono _ _ _ _ _ _ _ _ _)
      | (with_reducible exact span_Meet.mono _ _ _ _ _ _ _ _ _)
      | (with_reducible exact span_Minus.mono _ _ _ _ _ _ _ _ _)
      | (with_reducible exact span_Overlap.mono _ _ _ _ _ _ _ _ _)
      | (with_reducible exact span_Touch.mono _ _ _ _ _ _ _ _ _)
      | (with_reducible exact LeO.refl _)
      | (with_reducible exact LeO.none _)
      | (with_reducible refine LeO.ite ?_ ?_)
      | (with_reducible refine LeO.bind ?_ (fun _ => ?_))
      | exact ih0 _ _ _ _ _ _ _ _ _ _ _ _ _ _ _
      | exact ih1 _ _ _ _ _ _ _ _ _ _ _
      | exact ih2 _ _ _ _ _ _ _ _ _ _ _
      | exact ih3 _ _ _ _ _ _ _ _ _ _ _
      | exact ih4 _ _ _ _ _ _ _ _ _ _ _ _ _ _ _
      | exact bocagelaw03_alive.mono _
      | exact bocageref02_High.mono _ _ _ _ _
      | exact bocageref02_Low.mono _ _ _ _ _
      | exact bocageref03_List.mono _ _
      | exact bocageref03_Meet.mono _ _ _
      | exact bocageref03_Minus.mono _ _ _
      | exact bocageref03_Right.mono _ _ _ _ _
      | exact bocageref03_Same.mono _ _ _
      | exact span_Holds.mono _ _ _ _ _ _ _ _ _
      | exact span_Hull.mono _ _ _ _ _ _ _ _ _
      | exact span_Meet.mono _ _ _ _ _ _ _ _ _
      | exact span_Minus.mono _ _ _ _ _ _ _ _ _
      | exact span_Overlap.mono _ _ _ _ _ _ _ _ _
      | exact span_Touch.mono _ _ _ _ _ _ _ _ _
      | exact LeO.none _
      | refine LeO.ite ?_ ?_
      | refine LeO.bind ?_ (fun _ => ?_)
    · intro y0 y1 y2 y3 y4 y5 y6 y7 y8 y9 y10 y11 y12 y13 y14
      unfold bocagelaw03_SpanTwo.j4
      repeat' first
      | (with_reducible exact ih0 _ _ _ _ _ _ _ _ _ _ _ _ _ _ _)
      | (with_reducible exact ih1 _ _ _ _ _ _ _ _ _ _ _)
      | (with_reducible exact ih2 _ _ _ _ _ _ _ _ _ _ _)
      | (with_reducible exact ih3 _ _ _ _ _ _ _ _ _ _ _)
      | (with_reducible exact ih4 _ _ _ _ _ _ _ _ _ _ _ _ _ _ _)
      | (with_reducible exact bocagelaw03_alive.mono _)
      | (with_reducible exact bocageref02_High.mono _ _ _ _ _)
      | (with_reducible exact bocageref02_Low.mono _ _ _ _ _)
      | (with_reducible exact bocageref03_List.mono _ _)
      | (with_reducible exact bocageref03_Meet.mono _ _ _)
      | (with_reducible exact bocageref03_Minus.mono _ _ _)
      | (with_reducible exact bocageref03_Right.mono _ _ _ _ _)
      | (with_reducible exact bocageref03_Same.mono _ _ _)
      | (with_reducible exact span_Holds.mono _ _ _ _ _ _ _ _ _)
      | (with_reducible exact span_Hull.mono _ _ _ _ _ _ _ _ _)
      | (with_reducible exact span_Meet.mono _ _ _ _ _ _ _ _ _)
      | (with_reducible exact span_Minus.mono _ _ _ _ _ _ _ _ _)
      | (with_reducible exact span_Overlap.mono _ _ _ _ _ _ _ _ _)
      | (with_reducible exact span_Touch.mono _ _ _ _ _ _ _ _ _)
      | (with_reducible exact LeO.refl _)
      | (with_reducible exact LeO.none _)
      | (with_reducible refine LeO.ite ?_ ?_)
      | (with_reducible refine LeO.bind ?_ (fun _ => ?_))
      | exact ih0 _ _ _ _ _ _ _ _ _ _ _ _ _ _ _
      | exact ih1 _ _ _ _ _ _ _ _ _ _ _
      | exact ih2 _ _ _ _ _ _ _ _ _ _ _
      | exact ih3 _ _ _ _ _ _ _ _ _ _ _
      | exact ih4 _ _ _ _ _ _ _ _ _ _ _ _ _ _ _
      | exact bocagelaw03_alive.mono _
      | exact bocageref02_High.mono _ _ _ _ _
      | exact bocageref02_Low.mono _ _ _ _ _
      | exact bocageref03_List.mono _ _
      | exact bocageref03_Meet.mono _ _ _
      | exact bocageref03_Minus.mono _ _ _
      | exact bocageref03_Right.mono _ _ _ _ _
      | exact bocageref03_Same.mono _ _ _
      | exact span_Holds.mono _ _ _ _ _ _ _ _ _
      | exact span_Hull.mono _ _ _ _ _ _ _ _ _
      | exact span_Meet.mono _ _ _ _ _ _ _ _ _
      | exact span_Minus.mono _ _ _ _ _ _ _ _ _
      | exact span_Overlap.mono _ _ _ _ _ _ _ _ _
      | exact span_Touch.mono _ _ _ _ _ _ _ _ _
      | exact LeO.none _
      | refine LeO.ite ?_ ?_
      | refine LeO.bind ?_ (fun _ => ?_)
theorem bocagelaw03_SpanTwo.mono : ∀ a0 a1 a2 a3 a4 a5 a6 a7 k, LeO (bocagelaw03_SpanTwo.f k a0 a1 a2 a3 a4 a5 a6 a7) (bocagelaw03_SpanTwo.f (k + 1) a0 a1 a2 a3 a4 a5 a6 a7) := by
  intro a0 a1 a2 a3 a4 a5 a6 a7 k
  obtain ⟨ih0, ih1, ih2, ih3, ih4⟩ := bocagelaw03_SpanTwo.mono_l k
  unfold bocagelaw03_SpanTwo.f
  repeat' first
      | (with_reducible exact ih0 _ _ _ _ _ _ _ _ _ _ _ _ _ _ _)
      | (with_reducible exact ih1 _ _ _ _ _ _ _ _ _ _ _)
      | (with_reducible exact ih2 _ _ _ _ _ _ _ _ _ _ _)
      | (with_reducible exact ih3 _ _ _ _ _ _ _ _ _ _ _)
      | (with_reducible exact ih4 _ _ _ _ _ _ _ _ _ _ _ _ _ _ _)
      | (with_reducible exact bocagelaw03_alive.mono _)
      | (with_reducible exact bocageref02_High.mono _ _ _ _ _)
      | (with_reducible exact bocageref02_Low.mono _ _ _ _ _)
      | (with_reducible exact bocageref03_List.mono _ _)
      | (with_reducible exact bocageref03_Meet.mono _ _ _)
      | (with_reducible exact bocageref03_Minus.mono _ _ _)
      | (with_reducible exact bocageref03_Right.mono _ _ _ _ _)
      | (with_reducible exact bocageref03_Same.mono _ _ _)
      | (with_reducible exact span_Holds.mono _ _ _ _ _ _ _ _ _)
      | (with_reducible exact span_Hull.mono _ _ _ _ _ _ _ _ _)
      | (with_reducible exact span_Meet.mono _ _ _ _ _ _ _ _ _)
      | (with_reducible exact span_Minus.mono _ _ _ _ _ _ _ _ _)
      | (with_reducible exact span_Overlap.mono _ _ _ _ _ _ _ _ _)
      | (with_reducible exact span_Touch.mono _ _ _ _ _ _ _ _ _)
      | (with_reducible exact LeO.refl _)
      | (with_reducible exact LeO.none _)
      | (with_reducible refine LeO.ite ?_ ?_)
      | (with_reducible refine LeO.bind ?_ (fun _ => ?_))
      | exact ih0 _ _ _ _ _ _ _ _ _ _ _ _ _ _ _
      | exact ih1 _ _ _ _ _ _ _ _ _ _ _
      | exact ih2 _ _ _ _ _ _ _ _ _ _ _
      | exact ih3 _ _ _ _ _ _ _ _ _ _ _
      | exact ih4 _ _ _ _ _ _ _ _ _ _ _ _ _ _ _
      | exact bocagelaw03_alive.mono _
      | exact bocageref02_High.mono _ _ _ _ _
      | exact bocageref02_Low.mono _ _ _ _ _
      | exact bocageref03_List.mono _ _
      | exact bocageref03_Meet.mono _ _ _
      | exact bocageref03_Minus.mono _ _ _
      | exact bocageref03_Right.mono _ _ _ _ _
      | exact bocageref03_Same.mono _ _ _
      | exact span_Holds.mono _ _ _ _ _ _ _ _ _
      | exact span_Hull.mono _ _ _ _ _ _ _ _ _
      | exact span_Meet.mono _ _ _ _ _ _ _ _ _
      | exact span_Minus.mono _ _ _ _ _ _ _ _ _
      | exact span_Overlap.mono _ _ _ _ _ _ _ _ _
      | exact span_Touch.mono _ _ _ _ _ _ _ _ _
      | exact LeO.none _
      | refine LeO.ite ?_ ?_
      | refine LeO.bind ?_ (fun _ => ?_)
def bocagelaw03_SpanTwo.T4 : Bool × List (List Nat × List Nat) := (true, [([], []), ([], []), ([1], [1]), ([2], [2]), ([0, 3], [0, 3]), ([4], [4]), ([5], [5]), ([6, 5, 5], [5, 6]), ([7], [7]), ([7], [7]), ([9, 7], [7, 9]), ([10, 7], [7, 10]), ([8, 11, 7], [7, 8, 11]), ([7, 12, 5], [5, 7, 12]), ([5, 13], [5, 13]), ([14, 7], [14]), ([15], [15]), ([16, 15], [15, 16]), ([17, 15, 15], [15, 17]), ([18], [18]), ([18], [18]), ([19, 20, 18], [18, 19, 20]), ([18, 21, 15], [15, 18, 21]), ([15, 22], [15, 22]), ([23, 18], [23]), ([24], [24]), ([24], [24]), ([25, 26, 24, 24], [24, 25, 26]), ([24], [24]), ([27, 28, 24], [24, 27, 28]), ([24, 29], [24, 29])])
def bocagelaw03_SpanTwo.B4 : List Nat := [0, 0, 2, 6, 15, 31, 63, 127, 255, 255, 767, 1791, 4095, 8191, 16383, 32767, 65535, 131071, 262143, 524287, 524287, 2097151, 4194303, 8388607, 16777215, 33554431, 33554431, 134217727, 33554431, 536870911, 1073741823]
theorem bocagelaw03_SpanTwo.tab4 : rtab .any (opsOf Try.f3 4) = bocagelaw03_SpanTwo.T4 := by kernel_rfl
theorem bocagelaw03_SpanTwo.bits4 : waitsOk bocagelaw03_SpanTwo.T4.2 bocagelaw03_SpanTwo.B4 = true := by kernel_rfl
def bocagelaw03_SpanTwo.T6 : Bool × List (List Nat × List Nat) := (true, [([], []), ([0], [0]), ([1], [1]), ([2, 1, 1], [1, 2]), ([1], [1]), ([4, 3, 1], [1, 4]), ([3, 5, 5, 1], [1, 3, 5]), ([6, 1], [1, 6]), ([7, 1], [1, 7]), ([1, 8], [1, 8]), ([9, 6, 0, 1, 2, 3, 4, 5, 6, 7, 8, 9], [9])])
def bocagelaw03_SpanTwo.B6 : List Nat := [0, 1, 3, 7, 3, 31, 63, 127, 255, 511, 1023]
theorem bocagelaw03_SpanTwo.tab6 : rtab .any (opsOf Try.f3 6) = bocagelaw03_SpanTwo.T6 := by kernel_rfl
theorem bocagelaw03_SpanTwo.bits6 : waitsOk bocagelaw03_SpanTwo.T6.2 bocagelaw03_SpanTwo.B6 = true := by kernel_rfl
def bocagelaw03_SpanTwo.T11 : Bool × List (List Nat × List Nat) := (true, [([], []), ([0], [0]), ([], []), ([2], [2]), ([1, 3], [1, 3]), ([], []), ([5], [5]), ([], []), ([7], [7]), ([6, 8, 4], [6, 8]), ([4, 9], [4, 9]), ([10, 9, 0, 1, 2, 3, 4, 5, 6, 7, 8, 9, 10], [10])])
def bocagelaw03_SpanTwo.B11 : List Nat := [0, 1, 0, 4, 15, 0, 32, 0, 128, 511, 1023, 2047]
theorem bocagelaw03_SpanTwo.tab11 : rtab .any (opsOf Try.f3 11) = bocagelaw03_SpanTwo.T11 := by kernel_rfl
theorem bocagelaw03_SpanTwo.bits11 : waitsOk bocagelaw03_SpanTwo.T11.2 bocagelaw03_SpanTwo.B11 = true := by kernel_rfl
def bocagelaw03_SpanTwo.T13 : Bool × List (List Nat × List Nat) := (true, [([], []), ([0, 0], [0]), ([1], [1]), ([1], [1]), ([2, 3, 1, 1], [1, 2, 3]), ([1], [1]), ([4, 5, 1], [1, 4, 5]), ([1, 6], [1, 6]), ([7, 4], [7]), ([8], [8]), ([8], [8]), ([9, 10, 8, 8], [8, 9, 10]), ([8], [8]), ([11, 12, 8], [8, 11, 12]), ([8, 13], [8, 13]), ([14, 11], [14]), ([15], [15]), ([15], [15]), ([16, 17, 15, 15], [15, 16, 17]), ([15], [15]), ([18, 19, 15], [15, 18, 19]), ([15, 20], [15, 20]), ([21, 18], [21]), ([22], [22]), ([22], [22]), ([23, 24, 22, 22], [22, 23, 24]), ([22], [22]), ([25, 26, 25, 22], [22, 25, 26]), ([22, 27], [22, 27]), ([28, 27, 0, 1, 2, 3, 4, 5, 6, 7, 8, 9, 10, 11, 12, 13, 14, 15, 16, 17, 18, 19, 20, 21, 22, 23, 24, 25, 26, 27, 28], [28])])
def bocagelaw03_SpanTwo.B13 : List Nat := [0, 1, 3, 3, 15, 3, 63, 127, 255, 511, 511, 2047, 511, 8191, 16383, 32767, 65535, 65535, 262143, 65535, 1048575, 2097151, 4194303, 8388607, 8388607, 33554431, 8388607, 134217727, 268435455, 536870911]
theorem bocagelaw03_SpanTwo.tab13 : rtab .any (opsOf Try.f3 13) = bocagelaw03_SpanTwo.T13 := by kernel_rfl
theorem bocagelaw03_SpanTwo.bits13 : waitsOk bocagelaw03_SpanTwo.T13.2 bocagelaw03_SpanTwo.B13 = true := by kernel_rfl
set_option maxHeartbeats 8000000 in
set_option maxRecDepth 100000 in
theorem bocagelaw03_SpanTwo.calls (k : Nat) (a0_0 : Int) (a0_1 : Int) (a0_2 : Int) (a0_3 : Int) (a1_0 : Int) (a1_1 : Int) (a1_2 : Int) (a1_3 : Int) (r : Bool) (w : World) (h : bocagelaw03_SpanTwo.f k a0_0 a0_1 a0_2 a0_3 a1_0 a1_1 a1_2 a1_3 = some r) (hr : r = true) :
    Calls Try.prog 3 #[.agg #[.int .i64 a0_0, .int .i64 a0_1, .int .i64 a0_2, .int .i64 a0_3], .agg #[.int .i64 a1_0, .int .i64 a1_1, .int .i64 a1_2, .int .i64 a1_3]] w fun e w' => e = .returned (.bool r) ∧ Below w.heap.size w w' := by
  have HRT := Aside0.mk hr
  clear hr
  have hu25 := Try.underlying25
  have hu23 := Try.underlying23
  have HB := Aside0.mk (Below.refl w.heap.size w)
  have H : ((bocageref03_One.f a0_0 a0_1 a0_2 a0_3).bind fun t492 => ((bocageref03_One.f a1_0 a1_1 a1_2 a1_3).bind fun t495 => ((bocageref03_Meet.f k t492 t495).bind fun t498 => ((span_Meet.f k a0_0 a0_1 a0_2 a0_3 a1_0 a1_1 a1_2 a1_3).bind fun bt501 => ((bocageref03_Right.f k a0_0 a0_1 a0_2 a0_3).bind fun t507 => (if t507 = true then ((bocageref03_Right.f k a1_0 a1_1 a1_2 a1_3).bind fun t508 => (bocagelaw03_SpanTwo.j0 k t498 bt501.2.2.2.2 t508 a0_0 a0_1 a0_2 a0_3 a1_0 a1_1 a1_2 a1_3 bt501.1 bt501.2.1 bt501.2.2.1 bt501.2.2.2.1)) else (bocagelaw03_SpanTwo.j0 k t498 bt501.2.2.2.2 false a0_0 a0_1 a0_2 a0_3 a1_0 a1_1 a1_2 a1_3 bt501.1 bt501.2.1 bt501.2.2.1 bt501.2.2.2.1))))))) = some r := h
  clear h
  replace H := Option.bind_eq_some_iff.mp H
  obtain ⟨t492, A30, H⟩ := H
  (try (set_option simprocs false in dsimp only at H))
  have A3 := Aside0.mk A30
  clear A30
  replace H := Option.bind_eq_some_iff.mp H
  obtain ⟨t495, A40, H⟩ := H
  (try (set_option simprocs false in dsimp only at H))
  have A4 := Aside0.mk A40
  clear A40
  replace H := Option.bind_eq_some_iff.mp H
  obtain ⟨t498, A50, H⟩ := H
  (try (set_option simprocs false in dsimp only at H))
  have A5 := Aside0.mk A50
  clear A50
  replace H := Option.bind_eq_some_iff.mp H
  obtain ⟨⟨t501, t502, t503, t504, t505⟩, A60, H⟩ := H
  (try (set_option simprocs false in dsimp only at H))
  have A6 := Aside0.mk A60
  clear A60
  have HC7 := Aside0.mk H
  clear H
  go_enter Try.func3, Try.ntmps3
  try go_wp2_with (first | ((with_reducible refine gate_dst (N := 2) rfl ?_); (try (refine gate_guard (by rfl) ?_; dsimp only)); refine bxe (N := 2) (cs := #[.int .i64 a0_0, .int .i64 a0_1, .int .i64 a0_2, .int .i64 a0_3]) (t := 25) ?_; intro gb490 hg w8 hbox hb; have BK490 := Aside0.mk (hbox); have GW490 := lsz hg HB; have GE490 := lsz hg HB; replace HB := bst HB hb; clear hb hbox hg) | ((with_reducible refine gate_dst (N := 3) rfl ?_); (try (refine gate_guard (by rfl) ?_; dsimp only)); refine bxe (N := 3) (cs := #[.int .i64 a1_0, .int .i64 a1_1, .int .i64 a1_2, .int .i64 a1_3]) (t := 25) ?_; intro gb491 hg w9 hbox hb; have BK491 := Aside0.mk (hbox); have GW491 := lsz hg HB; have GE491 := lsz hg HB; replace HB := bst HB hb; have NB490_491 := nlt hg BK490; have NB491_490 := ngt hg BK490; replace BK490 := bkb BK490 hb; clear hb hbox hg))
  replace BK490 := Aside0.mk (blk_drew BK490.out)
  replace BK491 := Aside0.mk (blk_drew BK491.out)
  replace HB := Aside0.mk (below_drew1 HB.out)
  refine start_ (n := 6) (S := fun w' => w'.cell? ⟨gb490, 0, none⟩ = some (.int .i64 a0_0) ∧ w'.cell? ⟨gb490, 1, none⟩ = some (.int .i64 a0_1) ∧ w'.cell? ⟨gb490, 2, none⟩ = some (.int .i64 a0_2) ∧ w'.cell? ⟨gb490, 3, none⟩ = some (.int .i64 a0_3) ∧ w'.cell? ⟨gb491, 0, none⟩ = some (.int .i64 a1_0) ∧ w'.cell? ⟨gb491, 1, none⟩ = some (.int .i64 a1_1) ∧ w'.cell? ⟨gb491, 2, none⟩ = some (.int .i64 a1_2) ∧ w'.cell? ⟨gb491, 3, none⟩ = some (.int .i64 a1_3)) (ds := []) #[false, false, false, false, false, false] (by kernel_rfl) rfl rfl (c4 BK490 (e4 BK491)) (fun hHeld => ?_)
  generalize w9.drew = w10 at BK490 BK491 HB hHeld ⊢
  refine tk8 0 (some 13) #[true, false, false, false, false, false] (by kernel_rfl) hHeld ?_
  refine tk8 2 (some 15) #[true, false, true, false, false, false] (by kernel_rfl) hHeld ?_
  refine one_ (i := 1) (N := some 14) #[true, true, true, false, false, false] rfl rfl (by kernel_rfl) (by decide) (fun K hK => ?_)
  refine goes_ Try.func10 (by kernel_rfl) rfl #[.agg #[.int .i64 a0_0, .int .i64 a0_1, .int .i64 a0_2, .int .i64 a0_3]] (by rfl) rfl rfl (by (try simp only [List.map_toArray, List.map_cons, List.map_nil]); first | done | rfl | (simp only [List.length_drop, List.length_take]; rfl)) ?_
  with_reducible refine (bocageref03_One.calls a0_0 a0_1 a0_2 a0_3 t492 _ A3.out).mono ?_
  rintro e w11 ⟨v493, rfl, ho0, hb⟩
  refine ⟨_, rfl, ?_⟩
  have HO494 := Aside0.mk (Kd.R_lower (Kd.R_newB (Kd.R_newB ho0 (bk BK490)) (bk BK491)) (below_size (bl HB)))
  replace BK490 := bkb BK490 hb
  replace BK491 := bkb BK491 hb
  replace HB := bst HB hb
  (try clear hb)
  (try clear hb2)
  (try clear hk)
  (try clear hi)
  (try clear ho0)
  refine hK.out _ _ (c4 BK490 (e4 BK491)) (fun hHeld => ?_)
  clear hK K
  refine nrp 14 ?_
  refine one_ (i := 3) (N := some 16) #[true, true, true, true, false, false] rfl rfl (by kernel_rfl) (by decide) (fun K hK => ?_)
  refine goes_ Try.func10 (by kernel_rfl) rfl #[.agg #[.int .i64 a1_0, .int .i64 a1_1, .int .i64 a1_2, .int .i64 a1_3]] (by rfl) rfl rfl (by (try simp only [List.map_toArray, List.map_cons, List.map_nil]); first | done | rfl | (simp only [List.length_drop, List.length_take]; rfl)) ?_
  with_reducible refine (bocageref03_One.calls a1_0 a1_1 a1_2 a1_3 t495 _ A4.out).mono ?_
  rintro e w12 ⟨v496, rfl, ho0, hb⟩
  refine ⟨_, rfl, ?_⟩
  have HO497 := Aside0.mk (Kd.R_lower (Kd.R_newB (Kd.R_newB (Kd.R_new' ho0 (Kd.R_lt (kr HO494))) (bk BK490)) (bk BK491)) (below_size (bl HB)))
  replace HO494 := Aside0.mk (Kd.R_elder' (kr HO494) (Kd.R_base ho0) hb)
  replace BK490 := bkb BK490 hb
  replace BK491 := bkb BK491 hb
  replace HB := bst HB hb
  (try clear hb)
  (try clear hb2)
  (try clear hk)
  (try clear hi)
  (try clear ho0)
  obtain ⟨Ao13, co13, eo13⟩ := Kd.R_slice HO494.out
  (first | subst eo13 | (injection eo13 with f1_ f2_ f3_; have f4_ := f1_.symm; have f5_ := f3_.symm; clear f1_ f2_ f3_; subst f4_; subst f5_))
  obtain ⟨Ao14, co14, eo14⟩ := Kd.R_slice HO497.out
  (first | subst eo14 | (injection eo14 with f1_ f2_ f3_; have f4_ := f1_.symm; have f5_ := f3_.symm; clear f1_ f2_ f3_; subst f4_; subst f5_))
  refine hK.out _ _ (c4 BK490 (e4 BK491)) (fun hHeld => ?_)
  clear hK K
  refine nrp 16 ?_
  refine one_ (i := 4) (N := some 17) #[true, true, true, true, true, false] rfl rfl (by kernel_rfl) (by decide) (fun K hK => ?_)
  refine goes_ Try.func9 (by kernel_rfl) rfl #[.slice Ao13 t492.length co13, .slice Ao14 t495.length co14] (by rfl) rfl rfl (by (try simp only [List.map_toArray, List.map_cons, List.map_nil]); first | done | rfl | (simp only [List.length_drop, List.length_take]; rfl)) ?_
  with_reducible refine (bocageref03_Meet.calls k _ _ t492 _ _ t495 t498 _ ?side1 ?side2 ?side3 ?side4 A5.out).mono ?_
  (case side1 => repeat (first | exact (Kd.R_reads' HO494.out).2.2 | (with_reducible refine Kd.C_alloc ?_ _) | (with_reducible refine Kd.C_drewN ?_ _) | (with_reducible refine Kd.C_drew ?_)))
  (case side2 => exact (Kd.R_reads' HO494.out).2.1)
  (case side3 => repeat (first | exact (Kd.R_reads' HO497.out).2.2 | (with_reducible refine Kd.C_alloc ?_ _) | (with_reducible refine Kd.C_drewN ?_ _) | (with_reducible refine Kd.C_drew ?_)))
  (case side4 => exact (Kd.R_reads' HO497.out).2.1)
  rintro e w15 ⟨v499, rfl, ho0, hb⟩
  refine ⟨_, rfl, ?_⟩
  have HO500 := Aside0.mk (Kd.R_lower (Kd.R_newB (Kd.R_newB (Kd.R_new' (Kd.R_new' ho0 (Kd.R_lt (kr HO494))) (Kd.R_lt (kr HO497))) (bk BK490)) (bk BK491)) (below_size (bl HB)))
  replace HO494 := Aside0.mk (Kd.R_elder' (kr HO494) (Kd.R_base ho0) hb)
  replace HO497 := Aside0.mk (Kd.R_elder' (kr HO497) (Kd.R_base ho0) hb)
  replace BK490 := bkb BK490 hb
  replace BK491 := bkb BK491 hb
  replace HB := bst HB hb
  (try clear hb)
  (try clear hb2)
  (try clear hk)
  (try clear hi)
  (try clear ho0)
  refine hK.out _ _ (c4 BK490 (e4 BK491)) (fun hHeld => ?_)
  clear hK K
  refine nrp 17 ?_
  refine pu 5 (some 5) #[true, true, true, true, true, true] (by kernel_rfl) ?_
  refine done_ (by kernel_rfl) ?_
  have hnb16 := NB490_491.out
  have hnc16 := NB491_490.out
  have hcz17_0 : w15.cell? ⟨gb490, 0, none⟩ = some (.int .i64 a0_0) := (blk_cell BK490.out 0).trans rfl
  have hcz17_1 : w15.cell? ⟨gb490, 1, none⟩ = some (.int .i64 a0_1) := (blk_cell BK490.out 1).trans rfl
  have hcz17_2 : w15.cell? ⟨gb490, 2, none⟩ = some (.int .i64 a0_2) := (blk_cell BK490.out 2).trans rfl
  have hcz17_3 : w15.cell? ⟨gb490, 3, none⟩ = some (.int .i64 a0_3) := (blk_cell BK490.out 3).trans rfl
  have hfz17_0 := blk_frozen BK490.out 0
  have hfz17_1 := blk_frozen BK490.out 1
  have hfz17_2 := blk_frozen BK490.out 2
  have hfz17_3 := blk_frozen BK490.out 3
  have hcz18_0 : w15.cell? ⟨gb491, 0, none⟩ = some (.int .i64 a1_0) := (blk_cell BK491.out 0).trans rfl
  have hcz18_1 : w15.cell? ⟨gb491, 1, none⟩ = some (.int .i64 a1_1) := (blk_cell BK491.out 1).trans rfl
  have hcz18_2 : w15.cell? ⟨gb491, 2, none⟩ = some (.int .i64 a1_2) := (blk_cell BK491.out 2).trans rfl
  have hcz18_3 : w15.cell? ⟨gb491, 3, none⟩ = some (.int .i64 a1_3) := (blk_cell BK491.out 3).trans rfl
  have hfz18_0 := blk_frozen BK491.out 0
  have hfz18_1 := blk_frozen BK491.out 1
  have hfz18_2 := blk_frozen BK491.out 2
  have hfz18_3 := blk_frozen BK491.out 3
  go_upto_region 3 with (first | ((with_reducible refine gate_callee (f := 11) rfl ?_); refine gol (some 21) Try.func11 #[.agg #[.int .i64 a0_0, .int .i64 a0_1, .int .i64 a0_2, .int .i64 a0_3], .agg #[.int .i64 a1_0, .int .i64 a1_1, .int .i64 a1_2, .int .i64 a1_3]] ?_; (with_reducible refine (span_Meet.calls k a0_0 a0_1 a0_2 a0_3 a1_0 a1_1 a1_2 a1_3 t501 t502 t503 t504 t505 _ A6.out).mono ?_); rintro e w19 ⟨rfl, hb⟩; refine ⟨_, rfl, ?_⟩; replace HO494 := krb HO494 hb; replace HO497 := krb HO497 hb; replace HO500 := krb HO500 hb; replace BK490 := bkb BK490 hb; replace BK491 := bkb BK491 hb; replace HB := bst HB hb; (try clear hb); (try clear hb2); (try clear hk); (try clear hi)) | ((with_reducible refine gate_dst (N := 6) rfl ?_); (try (refine gate_guard (by rfl) ?_; dsimp only)); refine bxe (N := 6) (cs := #[.int .i64 0, .int .i64 0, .int .i64 0, .int .i64 0]) (t := 25) ?_; intro gb506 hg w20 hbox hb; replace HO494 := Aside0.mk (Kd.R_below (Kd.R_elderB (kr HO494) gb506 (Nat.le_of_eq hg.symm)) hb); replace HO497 := Aside0.mk (Kd.R_below (Kd.R_elderB (kr HO497) gb506 (Nat.le_of_eq hg.symm)) hb); replace HO500 := Aside0.mk (Kd.R_below (Kd.R_elderB (kr HO500) gb506 (Nat.le_of_eq hg.symm)) hb); have BK506 := Aside0.mk (hbox); have GW506 := lsz hg HB; have GE506 := lsz hg HB; replace HB := bst HB hb; have NB490_506 := nlt hg BK490; have NB506_490 := ngt hg BK490; replace BK490 := bkb BK490 hb; have NB491_506 := nlt hg BK491; have NB506_491 := ngt hg BK491; replace BK491 := bkb BK491 hb; clear hb hbox hg; have hnb21 := NB506_490.out; have hnc21 := NB490_506.out; have hnb22 := NB506_491.out; have hnc22 := NB491_506.out; obtain ⟨hcz23_0, hcz23_1, hcz23_2, hcz23_3⟩ := e4 BK506; obtain ⟨hfz23_0, hfz23_1, hfz23_2, hfz23_3⟩ := f4 BK506))
  (try simp only [Act.put, List.setIfInBounds_toArray, List.set_cons_zero, List.set_cons_succ])
  go_cut [8] (fun v8 wc => ∃ (kq : Nat) (x8_6 : Bool), v8 = .bool x8_6 ∧ Aside0 (bocagelaw03_SpanTwo.j0 kq t498 t505 x8_6 a0_0 a0_1 a0_2 a0_3 a1_0 a1_1 a1_2 a1_3 t501 t502 t503 t504 = some r) ∧ Aside0 (kq ≤ k) ∧ Aside0 (Kd.R k25 25 wc w.heap.size (fun k_ => k_ ≠ gb490 ∧ k_ ≠ gb491 ∧ k_ ≠ gb506) v499 t498) ∧ Aside0 (wc.heap[gb490]? = some (.cells #[.int .i64 a0_0, .int .i64 a0_1, .int .i64 a0_2, .int .i64 a0_3] 25 (0, 0))) ∧ Aside0 (wc.heap[gb491]? = some (.cells #[.int .i64 a1_0, .int .i64 a1_1, .int .i64 a1_2, .int .i64 a1_3] 25 (0, 0))) ∧ Aside0 (wc.heap[gb506]? = some (.cells #[.int .i64 t501, .int .i64 t502, .int .i64 t503, .int .i64 t504] 25 (0, 0))) ∧ Aside0 (Below w.heap.size w wc))
  case first =>
    have H := HC7.out
    clear HC7
    replace H := Option.bind_eq_some_iff.mp H
    obtain ⟨t507, A240, H⟩ := H
    (try (set_option simprocs false in dsimp only at H))
    have A24 := Aside0.mk A240
    clear A240
    by_cases c25 : t507 = true
    · subst c25
      have H1 : ((bocageref03_Right.f k a1_0 a1_1 a1_2 a1_3).bind fun t508 => (bocagelaw03_SpanTwo.j0 k t498 t505 t508 a0_0 a0_1 a0_2 a0_3 a1_0 a1_1 a1_2 a1_3 t501 t502 t503 t504)) = some r := by rw [if_pos rfl] at H; exact H
      clear H
      have H := H1
      clear H1
      replace H := Option.bind_eq_some_iff.mp H
      obtain ⟨t508, A260, H⟩ := H
      (try (set_option simprocs false in dsimp only at H))
      have A26 := Aside0.mk A260
      clear A260
      have H' := Aside0.mk H
      clear H
      have hnb27 := NB490_491.out
      have hnc27 := NB491_490.out
      have hnb28 := NB490_506.out
      have hnc28 := NB506_490.out
      have hcz29_0 : w20.cell? ⟨gb490, 0, none⟩ = some (.int .i64 a0_0) := (blk_cell BK490.out 0).trans rfl
      have hcz29_1 : w20.cell? ⟨gb490, 1, none⟩ = some (.int .i64 a0_1) := (blk_cell BK490.out 1).trans rfl
      have hcz29_2 : w20.cell? ⟨gb490, 2, none⟩ = some (.int .i64 a0_2) := (blk_cell BK490.out 2).trans rfl
      have hcz29_3 : w20.cell? ⟨gb490, 3, none⟩ = some (.int .i64 a0_3) := (blk_cell BK490.out 3).trans rfl
      have hfz29_0 := blk_frozen BK490.out 0
      have hfz29_1 := blk_frozen BK490.out 1
      have hfz29_2 := blk_frozen BK490.out 2
      have hfz29_3 := blk_frozen BK490.out 3
      go_wp2_with (first | ((with_reducible refine gate_callee (f := 12) rfl ?_); refine gol (some 25) Try.func12 #[.agg #[.int .i64 a0_0, .int .i64 a0_1, .int .i64 a0_2, .int .i64 a0_3]] ?_; (with_reducible refine (bocageref03_Right.calls k a0_0 a0_1 a0_2 a0_3 true _ A24.out).mono ?_); rintro e w30 ⟨rfl, hb⟩; refine ⟨_, rfl, ?_⟩; replace HO494 := Aside0.mk (Kd.R_below (by (with_reducible repeat (first | apply Kd.R_alloc | apply Kd.R_drewN | apply Kd.R_drew)); exact (Kd.R_mono (Kd.R_far (p := ⟨gb506, 3, none⟩) (Kd.R_far (p := ⟨gb506, 2, none⟩) (Kd.R_far (p := ⟨gb506, 1, none⟩) (Kd.R_far (p := ⟨gb506, 0, none⟩) (Kd.R_mono HO494.out (fun k_ hk => (⟨hk, hk.2⟩ : _ ∧ k_ ≠ gb506))) (fun _ hk => hk.2) (.int .i64 t501)) (fun _ hk => hk.2) (.int .i64 t502)) (fun _ hk => hk.2) (.int .i64 t503)) (fun _ hk => hk.2) (.int .i64 t504)) (fun _ h_ => h_.1))) hb); replace HO497 := Aside0.mk (Kd.R_below (by (with_reducible repeat (first | apply Kd.R_alloc | apply Kd.R_drewN | apply Kd.R_drew)); exact (Kd.R_mono (Kd.R_far (p := ⟨gb506, 3, none⟩) (Kd.R_far (p := ⟨gb506, 2, none⟩) (Kd.R_far (p := ⟨gb506, 1, none⟩) (Kd.R_far (p := ⟨gb506, 0, none⟩) (Kd.R_mono HO497.out (fun k_ hk => (⟨hk, hk.2⟩ : _ ∧ k_ ≠ gb506))) (fun _ hk => hk.2) (.int .i64 t501)) (fun _ hk => hk.2) (.int .i64 t502)) (fun _ hk => hk.2) (.int .i64 t503)) (fun _ hk => hk.2) (.int .i64 t504)) (fun _ h_ => h_.1))) hb); replace HO500 := Aside0.mk (Kd.R_below (by (with_reducible repeat (first | apply Kd.R_alloc | apply Kd.R_drewN | apply Kd.R_drew)); exact (Kd.R_mono (Kd.R_far (p := ⟨gb506, 3, none⟩) (Kd.R_far (p := ⟨gb506, 2, none⟩) (Kd.R_far (p := ⟨gb506, 1, none⟩) (Kd.R_far (p := ⟨gb506, 0, none⟩) (Kd.R_mono HO500.out (fun k_ hk => (⟨hk, hk.2⟩ : _ ∧ k_ ≠ gb506))) (fun _ hk => hk.2) (.int .i64 t501)) (fun _ hk => hk.2) (.int .i64 t502)) (fun _ hk => hk.2) (.int .i64 t503)) (fun _ hk => hk.2) (.int .i64 t504)) (fun _ h_ => h_.1))) hb); replace BK490 := Aside0.mk (blk_below (bkf BK490 NB490_506) hb); replace BK491 := Aside0.mk (blk_below (bkf BK491 NB491_506) hb); replace BK506 := Aside0.mk (blk_below (g := gb506) (o := .cells #[.int .i64 t501, .int .i64 t502, .int .i64 t503, .int .i64 t504] 25 (0, 0)) (bkp BK506) hb); replace HB := bst HB hb; (try clear hb); (try clear hb2); (try clear hk); (try clear hi); have hnb31 := NB491_506.out; have hnc31 := NB506_491.out; obtain ⟨hcz32_0, hcz32_1, hcz32_2, hcz32_3⟩ := e4 BK491; obtain ⟨hfz32_0, hfz32_1, hfz32_2, hfz32_3⟩ := f4 BK491) | (go_at_call 12; (with_reducible refine (bocageref03_Right.calls k a1_0 a1_1 a1_2 a1_3 t508 _ A26.out).mono ?_); rintro e w33 ⟨rfl, hb⟩; replace HO494 := krb HO494 hb; replace HO497 := krb HO497 hb; replace HO500 := krb HO500 hb; replace BK490 := bkb BK490 hb; replace BK491 := bkb BK491 hb; replace BK506 := bkb BK506 hb; replace HB := bst HB hb; (try clear hb); (try clear hb2); (try clear hk); (try clear hi)))
      go_meet
      case rel => exact ⟨_, (t508), (by first | rfl | (simp; done) | (simp [*]; done)), H', ⟨by first | omega | exact Nat.le_refl _⟩, ⟨by (with_reducible repeat (first | apply Kd.R_alloc | apply Kd.R_drewN | apply Kd.R_drew)); exact Kd.R_mono HO500.out (fun _ hk => ⟨hk.1.1.2, ⟨hk.1.2, hk.2⟩⟩)⟩, ⟨bk BK490⟩, ⟨bk BK491⟩, ⟨bk BK506⟩, ⟨bl HB⟩⟩
    · replace c25 := Bool.eq_false_iff.mpr c25
      subst c25
      have H1 : (bocagelaw03_SpanTwo.j0 k t498 t505 false a0_0 a0_1 a0_2 a0_3 a1_0 a1_1 a1_2 a1_3 t501 t502 t503 t504) = some r := by rw [if_neg (show ¬ (false = true) by decide)] at H; exact H
      clear H
      have H := H1
      clear H1
      have H' := Aside0.mk H
      clear H
      have hnb34 := NB490_491.out
      have hnc34 := NB491_490.out
      have hnb35 := NB490_506.out
      have hnc35 := NB506_490.out
      have hcz36_0 : w20.cell? ⟨gb490, 0, none⟩ = some (.int .i64 a0_0) := (blk_cell BK490.out 0).trans rfl
      have hcz36_1 : w20.cell? ⟨gb490, 1, none⟩ = some (.int .i64 a0_1) := (blk_cell BK490.out 1).trans rfl
      have hcz36_2 : w20.cell? ⟨gb490, 2, none⟩ = some (.int .i64 a0_2) := (blk_cell BK490.out 2).trans rfl
      have hcz36_3 : w20.cell? ⟨gb490, 3, none⟩ = some (.int .i64 a0_3) := (blk_cell BK490.out 3).trans rfl
      have hfz36_0 := blk_frozen BK490.out 0
      have hfz36_1 := blk_frozen BK490.out 1
      have hfz36_2 := blk_frozen BK490.out 2
      have hfz36_3 := blk_frozen BK490.out 3
      go_wp2_with (first | ((with_reducible refine gate_callee (f := 12) rfl ?_); refine gol (some 25) Try.func12 #[.agg #[.int .i64 a0_0, .int .i64 a0_1, .int .i64 a0_2, .int .i64 a0_3]] ?_; (with_reducible refine (bocageref03_Right.calls k a0_0 a0_1 a0_2 a0_3 false _ A24.out).mono ?_); rintro e w37 ⟨rfl, hb⟩; refine ⟨_, rfl, ?_⟩; replace HO494 := Aside0.mk (Kd.R_below (by (with_reducible repeat (first | apply Kd.R_alloc | apply Kd.R_drewN | apply Kd.R_drew)); exact (Kd.R_mono (Kd.R_far (p := ⟨gb506, 3, none⟩) (Kd.R_far (p := ⟨gb506, 2, none⟩) (Kd.R_far (p := ⟨gb506, 1, none⟩) (Kd.R_far (p := ⟨gb506, 0, none⟩) (Kd.R_mono HO494.out (fun k_ hk => (⟨hk, hk.2⟩ : _ ∧ k_ ≠ gb506))) (fun _ hk => hk.2) (.int .i64 t501)) (fun _ hk => hk.2) (.int .i64 t502)) (fun _ hk => hk.2) (.int .i64 t503)) (fun _ hk => hk.2) (.int .i64 t504)) (fun _ h_ => h_.1))) hb); replace HO497 := Aside0.mk (Kd.R_below (by (with_reducible repeat (first | apply Kd.R_alloc | apply Kd.R_drewN | apply Kd.R_drew)); exact (Kd.R_mono (Kd.R_far (p := ⟨gb506, 3, none⟩) (Kd.R_far (p := ⟨gb506, 2, none⟩) (Kd.R_far (p := ⟨gb506, 1, none⟩) (Kd.R_far (p := ⟨gb506, 0, none⟩) (Kd.R_mono HO497.out (fun k_ hk => (⟨hk, hk.2⟩ : _ ∧ k_ ≠ gb506))) (fun _ hk => hk.2) (.int .i64 t501)) (fun _ hk => hk.2) (.int .i64 t502)) (fun _ hk => hk.2) (.int .i64 t503)) (fun _ hk => hk.2) (.int .i64 t504)) (fun _ h_ => h_.1))) hb); replace HO500 := Aside0.mk (Kd.R_below (by (with_reducible repeat (first | apply Kd.R_alloc | apply Kd.R_drewN | apply Kd.R_drew)); exact (Kd.R_mono (Kd.R_far (p := ⟨gb506, 3, none⟩) (Kd.R_far (p := ⟨gb506, 2, none⟩) (Kd.R_far (p := ⟨gb506, 1, none⟩) (Kd.R_far (p := ⟨gb506, 0, none⟩) (Kd.R_mono HO500.out (fun k_ hk => (⟨hk, hk.2⟩ : _ ∧ k_ ≠ gb506))) (fun _ hk => hk.2) (.int .i64 t501)) (fun _ hk => hk.2) (.int .i64 t502)) (fun _ hk => hk.2) (.int .i64 t503)) (fun _ hk => hk.2) (.int .i64 t504)) (fun _ h_ => h_.1))) hb); replace BK490 := Aside0.mk (blk_below (bkf BK490 NB490_506) hb); replace BK491 := Aside0.mk (blk_below (bkf BK491 NB491_506) hb); replace BK506 := Aside0.mk (blk_below (g := gb506) (o := .cells #[.int .i64 t501, .int .i64 t502, .int .i64 t503, .int .i64 t504] 25 (0, 0)) (bkp BK506) hb); replace HB := bst HB hb; (try clear hb); (try clear hb2); (try clear hk); (try clear hi)))
      go_meet
      case rel => exact ⟨_, (false), (by first | rfl | (simp; done) | (simp [*]; done)), H', ⟨by first | omega | exact Nat.le_refl _⟩, ⟨by (with_reducible repeat (first | apply Kd.R_alloc | apply Kd.R_drewN | apply Kd.R_drew)); exact Kd.R_mono HO500.out (fun _ hk => ⟨hk.1.1.2, ⟨hk.1.2, hk.2⟩⟩)⟩, ⟨bk BK490⟩, ⟨bk BK491⟩, ⟨bk BK506⟩, ⟨bl HB⟩⟩
  case rest =>
    clear HC7
    try clear c1
    try clear c2
    try clear p2
    try clear c3
    try clear c9
    try clear c10
    try clear c11
    try clear c12
    try clear c16
    try clear c21
    try clear c22
    try clear c25
    try clear c27
    try clear c28
    try clear c31
    try clear c34
    try clear c35
    try clear hcz17_0
    try clear hcz17_1
    try clear hcz17_2
    try clear hcz17_3
    try clear hcz18_0
    try clear hcz18_1
    try clear hcz18_2
    try clear hcz18_3
    try clear hcz23_0
    try clear hcz23_1
    try clear hcz23_2
    try clear hcz23_3
    try clear hcz29_0
    try clear hcz29_1
    try clear hcz29_2
    try clear hcz29_3
    try clear hcz32_0
    try clear hcz32_1
    try clear hcz32_2
    try clear hcz32_3
    try clear hcz36_0
    try clear hcz36_1
    try clear hcz36_2
    try clear hcz36_3
    try clear hfz17_0
    try clear hfz17_1
    try clear hfz17_2
    try clear hfz17_3
    try clear hfz18_0
    try clear hfz18_1
    try clear hfz18_2
    try clear hfz18_3
    try clear hfz23_0
    try clear hfz23_1
    try clear hfz23_2
    try clear hfz23_3
    try clear hfz29_0
    try clear hfz29_1
    try clear hfz29_2
    try clear hfz29_3
    try clear hfz32_0
    try clear hfz32_1
    try clear hfz32_2
    try clear hfz32_3
    try clear hfz36_0
    try clear hfz36_1
    try clear hfz36_2
    try clear hfz36_3
    obtain ⟨kq, x8_6, rfl, HA, HJ6, HO_5, BK490, BK491, BK506, HB⟩ := hcut
    cases kq with
    | zero => exact absurd HA.out (by simp [bocagelaw03_SpanTwo.j0])
    | succ kj6 =>
      have H := HA.out
      clear HA
      simp only [bocagelaw03_SpanTwo.j0] at H
      have HC38 := Aside0.mk H
      clear H
      go_upto_region 4 with (fail)
      go_cut [60] (fun v60 wc => ∃ (kq : Nat) (x60_37 : Bool), v60 = .bool x60_37 ∧ Aside0 (bocagelaw03_SpanTwo.j1 kq t498 x8_6 x60_37 a0_0 a0_1 a0_2 a0_3 a1_0 a1_1 a1_2 a1_3 = some r) ∧ Aside0 (kq ≤ kj6) ∧ Aside0 (Kd.R k25 25 wc w.heap.size (fun k_ => k_ ≠ gb490 ∧ k_ ≠ gb491 ∧ k_ ≠ gb506) v499 t498) ∧ Aside0 (wc.heap[gb490]? = some (.cells #[.int .i64 a0_0, .int .i64 a0_1, .int .i64 a0_2, .int .i64 a0_3] 25 (0, 0))) ∧ Aside0 (wc.heap[gb491]? = some (.cells #[.int .i64 a1_0, .int .i64 a1_1, .int .i64 a1_2, .int .i64 a1_3] 25 (0, 0))) ∧ Aside0 (wc.heap[gb506]? = some (.cells #[.int .i64 t501, .int .i64 t502, .int .i64 t503, .int .i64 t504] 25 (0, 0))) ∧ Aside0 (Below w.heap.size w wc))
      case first =>
        have H := HC38.out
        clear HC38
        by_cases c39 : (t505 != (decide ((t498.length : Int) > 0))) = true
        · rw [if_pos c39] at H
          have c39b0 : (t505 != (decide ((t498.length : Int) > 0))) = true := c39
          have c39b9 : (t505 == decide (0 < t498.length)) = false := by (have h_ := c39b0; rw [show decide ((t498.length : Int) > 0) = decide (0 < t498.length) from decide_eq_decide.2 (by omega)] at h_; simpa using h_)
          (try (have c39b1 : decide (t505 = (decide ((t498.length : Int) > 0))) = false := by simpa using c39))
          (try (have c39b2 : (t505 == (decide ((t498.length : Int) > 0))) = false := by simpa using c39))
          (try (have c39b3 : ¬ (t505 = (decide ((t498.length : Int) > 0))) := by simpa using c39))
          clear c39
          (first | rw [c39b0] | (simp only [i64_w, i32_w]; rw [c39b0]) | skip)
          have H' := Aside0.mk H
          clear H
          try go_wp2
          replace HO_5 := Aside0.mk (Kd.R_drew HO_5.out)
          replace BK490 := Aside0.mk (blk_drew BK490.out)
          replace BK491 := Aside0.mk (blk_drew BK491.out)
          replace BK506 := Aside0.mk (blk_drew BK506.out)
          replace HB := Aside0.mk (below_drew1 HB.out)
          obtain ⟨Ao41, co41, eo41⟩ := Kd.R_slice HO_5.out
          (first | subst eo41 | (injection eo41 with f1_ f2_ f3_; have f4_ := f1_.symm; have f5_ := f3_.symm; clear f1_ f2_ f3_; subst f4_; subst f5_))
          refine start_ (n := 31) (S := fun w' => True) (ds := []) #[false, false, false, false, false, false, false, false, false, false, false, false, false, false, false, false, false, false, false, false, false, false, false, false, false, false, false, false, false, false, false] (by kernel_rfl) rfl rfl trivial (fun hHeld => ?_); refine with_tabW bocagelaw03_SpanTwo.tab4 bocagelaw03_SpanTwo.bits4 (fun HT_ HW_ => ?_)
          generalize wc.drew = w40 at HO_5 BK490 BK491 BK506 HB hHeld ⊢
          refine pw 0 30 HT_ ?_; refine pw 1 31 HT_ ?_; refine pw 2 32 HT_ ?_; refine pw 3 33 HT_ ?_; refine pw 4 34 HT_ ?_; refine pw 5 35 HT_ ?_; refine px 6 36 HT_ ?_; refine px 7 37 HT_ ?_; refine px 8 38 HT_ ?_; refine px 9 39 HT_ ?_; refine px 10 40 HT_ ?_; refine px 11 41 HT_ ?_; refine px 12 42 HT_ ?_; refine px 13 43 HT_ ?_; refine pw 14 44 HT_ ?_; refine pw 15 45 HT_ ?_; refine px 16 46 HT_ ?_; refine px 17 47 HT_ ?_; refine px 18 48 HT_ ?_; refine px 19 49 HT_ ?_; refine px 20 50 HT_ ?_; refine px 21 51 HT_ ?_; refine px 22 52 HT_ ?_; refine pw 23 53 HT_ ?_; refine pw 24 54 HT_ ?_; refine px 25 55 HT_ ?_; refine px 26 56 HT_ ?_; refine px 27 57 HT_ ?_; refine px 28 58 HT_ ?_; refine px 29 59 HT_ ?_; refine pw 30 60 HT_ ?_
          refine done_ (done_of HT_.out (by kernel_rfl)) ?_
          try go_wp2
          go_meet
          case rel => exact ⟨_, (true), (by first | rfl | (simp; done) | (simp [*]; done)), H', ⟨by have := HJ6.out; first | omega | exact Nat.le_refl _⟩, ⟨kr HO_5⟩, ⟨bk BK490⟩, ⟨bk BK491⟩, ⟨bk BK506⟩, ⟨bl HB⟩⟩
        · rw [if_neg c39] at H
          have c39b0 : (t505 != (decide ((t498.length : Int) > 0))) = false := by simpa using c39
          have c39b9 : (t505 == decide (0 < t498.length)) = true := by (have h_ := c39b0; rw [show decide ((t498.length : Int) > 0) = decide (0 < t498.length) from decide_eq_decide.2 (by omega)] at h_; simpa using h_)
          (try (have c39b1 : decide (t505 = (decide ((t498.length : Int) > 0))) = true := by simpa using c39))
          (try (have c39b2 : (t505 == (decide ((t498.length : Int) > 0))) = true := by simpa using c39))
          clear c39
          (first | rw [c39b0] | (simp only [i64_w, i32_w]; rw [c39b0]) | skip)
          by_cases c42 : t505 = true
          · subst c42
            have H1 : (if 0 < (t498.length : Int) then (if ((!(t501 == ((rd_T25 t498 0).f0.f0)) || (!(t502 == ((rd_T25 t498 0).f0.f1)))) || ((!(t503 == ((rd_T25 t498 0).f1.f0)) || (!(t504 == ((rd_T25 t498 0).f1.f1)))))) = true then (bocagelaw03_SpanTwo.j1 kj6 t498 x8_6 true a0_0 a0_1 a0_2 a0_3 a1_0 a1_1 a1_2 a1_3) else ((span_Overlap.f kj6 a0_0 a0_1 a0_2 a0_3 a1_0 a1_1 a1_2 a1_3).bind fun t510 => (bocagelaw03_SpanTwo.j1 kj6 t498 x8_6 (t510 != true) a0_0 a0_1 a0_2 a0_3 a1_0 a1_1 a1_2 a1_3))) else (none)) = some r := by rw [if_pos rfl] at H; exact H
            clear H
            have H := H1
            clear H1
            by_cases c43 : 0 < (t498.length : Int)
            · rw [if_pos c43] at H
              have c43b0 : decide (0 < (t498.length : Int)) = true := decide_eq_true c43
              have c43b1 : decide (0 < t498.length) = true := decide_eq_true (by omega)
              clear c43
              by_cases c44 : ((!(t501 == ((rd_T25 t498 0).f0.f0)) || (!(t502 == ((rd_T25 t498 0).f0.f1)))) || ((!(t503 == ((rd_T25 t498 0).f1.f0)) || (!(t504 == ((rd_T25 t498 0).f1.f1)))))) = true
              · rw [if_pos c44] at H
                have c44b0 : ((!(t501 == ((rd_T25 t498 0).f0.f0)) || (!(t502 == ((rd_T25 t498 0).f0.f1)))) || ((!(t503 == ((rd_T25 t498 0).f1.f0)) || (!(t504 == ((rd_T25 t498 0).f1.f1)))))) = true := c44
                clear c44
                have H' := Aside0.mk H
                clear H
                try go_wp2
                replace HO_5 := Aside0.mk (Kd.R_drew HO_5.out)
                replace BK490 := Aside0.mk (blk_drew BK490.out)
                replace BK491 := Aside0.mk (blk_drew BK491.out)
                replace BK506 := Aside0.mk (blk_drew BK506.out)
                replace HB := Aside0.mk (below_drew1 HB.out)
                obtain ⟨Ao46, co46, eo46⟩ := Kd.R_slice HO_5.out
                (first | subst eo46 | (injection eo46 with f1_ f2_ f3_; have f4_ := f1_.symm; have f5_ := f3_.symm; clear f1_ f2_ f3_; subst f4_; subst f5_))
                have p509 : 0 ≤ (0 : Int) := (by omega)
                have q509 : 0 < (t498.length : Int) := of_decide_eq_true (by first | (with_reducible assumption) | assumption)
                obtain ⟨ad509, e509, hx509_0, hx509_1, hx509_2, hx509_3⟩ := at_T25 (Kd.R_reads' HO_5.out).2.2 0 p509 q509
                cases e509
                have qi509 : (0 < t498.length) = True := eq_true (by omega)
                (try rw [show ((0 : Int)).toNat = 0 from rfl] at hx509_0)
                (try rw [show 0 * 4 = 0 from rfl] at hx509_0)
                (try rw [Addr.add_zero'] at hx509_0)
                (try rw [show ((0 : Int)).toNat = 0 from rfl] at hx509_1)
                (try rw [show 0 * 4 = 0 from rfl] at hx509_1)
                (try rw [Addr.add_zero'] at hx509_1)
                (try rw [show ((0 : Int)).toNat = 0 from rfl] at hx509_2)
                (try rw [show 0 * 4 = 0 from rfl] at hx509_2)
                (try rw [Addr.add_zero'] at hx509_2)
                (try rw [show ((0 : Int)).toNat = 0 from rfl] at hx509_3)
                (try rw [show 0 * 4 = 0 from rfl] at hx509_3)
                (try rw [Addr.add_zero'] at hx509_3)
                replace p509 := eq_true p509
                replace q509 := eq_true q509
                refine start_ (n := 31) (S := fun w' => w'.cell? ⟨gb506, 0, none⟩ = some (.int .i64 t501) ∧ w'.cell? ⟨gb506, 1, none⟩ = some (.int .i64 t502) ∧ w'.cell? ⟨gb506, 2, none⟩ = some (.int .i64 t503) ∧ w'.cell? ⟨gb506, 3, none⟩ = some (.int .i64 t504) ∧ w'.cell? ad509 = some (.int .i64 ((rd_T25 t498 0).f0.f0)) ∧ w'.cell? ⟨ad509.block, ad509.off + 1, none⟩ = some (.int .i64 ((rd_T25 t498 0).f0.f1)) ∧ w'.cell? ⟨ad509.block, ad509.off + 2, none⟩ = some (.int .i64 ((rd_T25 t498 0).f1.f0)) ∧ w'.cell? ⟨ad509.block, ad509.off + 3, none⟩ = some (.int .i64 ((rd_T25 t498 0).f1.f1))) (ds := []) #[false, false, false, false, false, false, false, false, false, false, false, false, false, false, false, false, false, false, false, false, false, false, false, false, false, false, false, false, false, false, false] (by kernel_rfl) rfl rfl ⟨(blk_cell BK506.out 0).trans rfl, (blk_cell BK506.out 1).trans rfl, (blk_cell BK506.out 2).trans rfl, (blk_cell BK506.out 3).trans rfl, hx509_0, hx509_1, hx509_2, hx509_3⟩ (fun hHeld => ?_); refine with_tabW bocagelaw03_SpanTwo.tab4 bocagelaw03_SpanTwo.bits4 (fun HT_ HW_ => ?_)
                generalize wc.drew = w45 at HO_5 BK490 BK491 BK506 HB hx509_0 hx509_1 hx509_2 hx509_3 hHeld ⊢
                refine pw 0 30 HT_ ?_; refine pw 1 31 HT_ ?_; refine pw 2 32 HT_ ?_; refine pw 3 33 HT_ ?_; refine pw 4 34 HT_ ?_; refine pw 5 35 HT_ ?_; refine pw 6 36 HT_ ?_; refine pw 7 37 HT_ ?_; refine pw 9 39 HT_ ?_; refine pw 10 40 HT_ ?_; refine tw8 8 38 HT_ HW_ hHeld ?_; refine tw8 11 41 HT_ HW_ hHeld ?_; refine pw 12 42 HT_ ?_; refine pw 13 43 HT_ ?_; refine pw 14 44 HT_ ?_; refine pw 15 45 HT_ ?_; refine px 16 46 HT_ ?_; refine px 17 47 HT_ ?_; refine px 18 48 HT_ ?_; refine px 19 49 HT_ ?_; refine px 20 50 HT_ ?_; refine px 21 51 HT_ ?_; refine px 22 52 HT_ ?_; refine pw 23 53 HT_ ?_; refine pw 24 54 HT_ ?_; refine px 25 55 HT_ ?_; refine px 26 56 HT_ ?_; refine px 27 57 HT_ ?_; refine px 28 58 HT_ ?_; refine px 29 59 HT_ ?_; refine pw 30 60 HT_ ?_
                refine done_ (done_of HT_.out (by kernel_rfl)) ?_
                try go_wp2
                go_meet
                case rel => exact ⟨_, (true), (by first | rfl | (simp; done) | (simp [*]; done)), H', ⟨by have := HJ6.out; first | omega | exact Nat.le_refl _⟩, ⟨kr HO_5⟩, ⟨bk BK490⟩, ⟨bk BK491⟩, ⟨bk BK506⟩, ⟨bl HB⟩⟩
              · rw [if_neg c44] at H
                have c44b0 : ((!(t501 == ((rd_T25 t498 0).f0.f0)) || (!(t502 == ((rd_T25 t498 0).f0.f1)))) || ((!(t503 == ((rd_T25 t498 0).f1.f0)) || (!(t504 == ((rd_T25 t498 0).f1.f1)))))) = false := by simpa using c44
                clear c44
                replace H := Option.bind_eq_some_iff.mp H
                obtain ⟨t510, A470, H⟩ := H
                (try (set_option simprocs false in dsimp only at H))
                have A47 := Aside0.mk A470
                clear A470
                have H' := Aside0.mk H
                clear H
                try go_wp2
                replace HO_5 := Aside0.mk (Kd.R_drew HO_5.out)
                replace BK490 := Aside0.mk (blk_drew BK490.out)
                replace BK491 := Aside0.mk (blk_drew BK491.out)
                replace BK506 := Aside0.mk (blk_drew BK506.out)
                replace HB := Aside0.mk (below_drew1 HB.out)
                obtain ⟨Ao49, co49, eo49⟩ := Kd.R_slice HO_5.out
                (first | subst eo49 | (injection eo49 with f1_ f2_ f3_; have f4_ := f1_.symm; have f5_ := f3_.symm; clear f1_ f2_ f3_; subst f4_; subst f5_))
                have p509 : 0 ≤ (0 : Int) := (by omega)
                have q509 : 0 < (t498.length : Int) := of_decide_eq_true (by first | (with_reducible assumption) | assumption)
                obtain ⟨ad509, e509, hx509_0, hx509_1, hx509_2, hx509_3⟩ := at_T25 (Kd.R_reads' HO_5.out).2.2 0 p509 q509
                cases e509
                have qi509 : (0 < t498.length) = True := eq_true (by omega)
                (try rw [show ((0 : Int)).toNat = 0 from rfl] at hx509_0)
                (try rw [show 0 * 4 = 0 from rfl] at hx509_0)
                (try rw [Addr.add_zero'] at hx509_0)
                (try rw [show ((0 : Int)).toNat = 0 from rfl] at hx509_1)
                (try rw [show 0 * 4 = 0 from rfl] at hx509_1)
                (try rw [Addr.add_zero'] at hx509_1)
                (try rw [show ((0 : Int)).toNat = 0 from rfl] at hx509_2)
                (try rw [show 0 * 4 = 0 from rfl] at hx509_2)
                (try rw [Addr.add_zero'] at hx509_2)
                (try rw [show ((0 : Int)).toNat = 0 from rfl] at hx509_3)
                (try rw [show 0 * 4 = 0 from rfl] at hx509_3)
                (try rw [Addr.add_zero'] at hx509_3)
                replace p509 := eq_true p509
                replace q509 := eq_true q509
                refine start_ (n := 31) (S := fun w' => w'.cell? ⟨gb506, 0, none⟩ = some (.int .i64 t501) ∧ w'.cell? ⟨gb506, 1, none⟩ = some (.int .i64 t502) ∧ w'.cell? ⟨gb506, 2, none⟩ = some (.int .i64 t503) ∧ w'.cell? ⟨gb506, 3, none⟩ = some (.int .i64 t504) ∧ w'.cell? ⟨gb490, 0, none⟩ = some (.int .i64 a0_0) ∧ w'.cell? ⟨gb490, 1, none⟩ = some (.int .i64 a0_1) ∧ w'.cell? ⟨gb490, 2, none⟩ = some (.int .i64 a0_2) ∧ w'.cell? ⟨gb490, 3, none⟩ = some (.int .i64 a0_3) ∧ w'.cell? ⟨gb491, 0, none⟩ = some (.int .i64 a1_0) ∧ w'.cell? ⟨gb491, 1, none⟩ = some (.int .i64 a1_1) ∧ w'.cell? ⟨gb491, 2, none⟩ = some (.int .i64 a1_2) ∧ w'.cell? ⟨gb491, 3, none⟩ = some (.int .i64 a1_3) ∧ w'.cell? ad509 = some (.int .i64 ((rd_T25 t498 0).f0.f0)) ∧ w'.cell? ⟨ad509.block, ad509.off + 1, none⟩ = some (.int .i64 ((rd_T25 t498 0).f0.f1)) ∧ w'.cell? ⟨ad509.block, ad509.off + 2, none⟩ = some (.int .i64 ((rd_T25 t498 0).f1.f0)) ∧ w'.cell? ⟨ad509.block, ad509.off + 3, none⟩ = some (.int .i64 ((rd_T25 t498 0).f1.f1))) (ds := []) #[false, false, false, false, false, false, false, false, false, false, false, false, false, false, false, false, false, false, false, false, false, false, false, false, false, false, false, false, false, false, false] (by kernel_rfl) rfl rfl ⟨(blk_cell BK506.out 0).trans rfl, (blk_cell BK506.out 1).trans rfl, (blk_cell BK506.out 2).trans rfl, (blk_cell BK506.out 3).trans rfl, (blk_cell BK490.out 0).trans rfl, (blk_cell BK490.out 1).trans rfl, (blk_cell BK490.out 2).trans rfl, (blk_cell BK490.out 3).trans rfl, (blk_cell BK491.out 0).trans rfl, (blk_cell BK491.out 1).trans rfl, (blk_cell BK491.out 2).trans rfl, (blk_cell BK491.out 3).trans rfl, hx509_0, hx509_1, hx509_2, hx509_3⟩ (fun hHeld => ?_); refine with_tabW bocagelaw03_SpanTwo.tab4 bocagelaw03_SpanTwo.bits4 (fun HT_ HW_ => ?_)
                generalize wc.drew = w48 at HO_5 BK490 BK491 BK506 HB hx509_0 hx509_1 hx509_2 hx509_3 hHeld ⊢
                refine pw 0 30 HT_ ?_; refine pw 1 31 HT_ ?_; refine pw 2 32 HT_ ?_; refine pw 3 33 HT_ ?_; refine pw 4 34 HT_ ?_; refine pw 5 35 HT_ ?_; refine pw 6 36 HT_ ?_; refine pw 7 37 HT_ ?_; refine pw 9 39 HT_ ?_; refine pw 10 40 HT_ ?_
                refine take_ (i := 8) (N := some 38) (v := ?_) (a' := ?_) #[true, true, true, true, true, true, true, true, true, true, true, false, false, false, false, false, false, false, false, false, false, false, false, false, false, false, false, false, false, false, false] rfl rfl (take_ofW HT_.out HW_.out (by kernel_rfl)) (fun _ _ _ h => h) (Or.inl ⟨by rfl, ?_⟩) hHeld ?_ ?_
                rotate_left
                · rintro w' ⟨s0, s1, s2, s3, s4, s5, s6, s7, s8, s9, s10, s11, s12, s13, s14, s15⟩
                  go_simp
                  with_reducible rfl
                rotate_left
                · simp only [Act.put, List.setIfInBounds_toArray, List.set_cons_zero, List.set_cons_succ, i64_w, i32_w]
                  rfl
                refine take_ (i := 11) (N := some 41) (v := ?_) (a' := ?_) #[true, true, true, true, true, true, true, true, true, true, true, true, false, false, false, false, false, false, false, false, false, false, false, false, false, false, false, false, false, false, false] rfl rfl (take_ofW HT_.out HW_.out (by kernel_rfl)) (fun _ _ _ h => h) (Or.inl ⟨by rfl, ?_⟩) hHeld ?_ ?_
                rotate_left
                · rintro w' ⟨s0, s1, s2, s3, s4, s5, s6, s7, s8, s9, s10, s11, s12, s13, s14, s15⟩
                  go_simp
                  with_reducible rfl
                rotate_left
                · simp only [Act.put, List.setIfInBounds_toArray, List.set_cons_zero, List.set_cons_succ, i64_w, i32_w]
                  rfl
                refine pw 12 42 HT_ ?_; refine pw 13 43 HT_ ?_; refine pw 14 44 HT_ ?_; refine pw 15 45 HT_ ?_; refine pw 16 46 HT_ ?_; refine pw 17 47 HT_ ?_; refine pw 18 48 HT_ ?_; refine px 19 49 HT_ ?_; refine px 20 50 HT_ ?_; refine px 21 51 HT_ ?_; refine pw 22 52 HT_ ?_; refine pw 23 53 HT_ ?_; refine pw 24 54 HT_ ?_; refine pw 28 58 HT_ ?_
                refine take_ (i := 25) (N := some 55) (v := ?_) (a' := ?_) #[true, true, true, true, true, true, true, true, true, true, true, true, true, true, true, true, true, true, true, true, true, true, true, true, true, true, false, false, true, false, false] rfl rfl (take_ofW HT_.out HW_.out (by kernel_rfl)) (fun _ _ _ h => h) (Or.inl ⟨by rfl, ?_⟩) hHeld ?_ ?_
                rotate_left
                · rintro w' ⟨s0, s1, s2, s3, s4, s5, s6, s7, s8, s9, s10, s11, s12, s13, s14, s15⟩
                  go_simp
                  with_reducible rfl
                rotate_left
                · simp only [Act.put, List.setIfInBounds_toArray, List.set_cons_zero, List.set_cons_succ, i64_w, i32_w]
                  rfl
                refine take_ (i := 26) (N := some 56) (v := ?_) (a' := ?_) #[true, true, true, true, true, true, true, true, true, true, true, true, true, true, true, true, true, true, true, true, true, true, true, true, true, true, true, false, true, false, false] rfl rfl (take_ofW HT_.out HW_.out (by kernel_rfl)) (fun _ _ _ h => h) (Or.inl ⟨by rfl, ?_⟩) hHeld ?_ ?_
                rotate_left
                · rintro w' ⟨s0, s1, s2, s3, s4, s5, s6, s7, s8, s9, s10, s11, s12, s13, s14, s15⟩
                  go_simp
                  with_reducible rfl
                rotate_left
                · simp only [Act.put, List.setIfInBounds_toArray, List.set_cons_zero, List.set_cons_succ, i64_w, i32_w]
                  rfl
                refine one_ (i := 27) (N := some 57) #[true, true, true, true, true, true, true, true, true, true, true, true, true, true, true, true, true, true, true, true, true, true, true, true, true, true, true, true, true, false, false] rfl rfl (one_of HT_.out (by kernel_rfl)) (by decide) (fun K hK => ?_)
                refine goes_ Try.func13 (by kernel_rfl) rfl #[.agg #[.int .i64 a0_0, .int .i64 a0_1, .int .i64 a0_2, .int .i64 a0_3], .agg #[.int .i64 a1_0, .int .i64 a1_1, .int .i64 a1_2, .int .i64 a1_3]] (by rfl) rfl rfl (by (try simp only [List.map_toArray, List.map_cons, List.map_nil]); first | done | rfl | (simp only [List.length_drop, List.length_take]; rfl)) ?_
                with_reducible refine (span_Overlap.calls kj6 a0_0 a0_1 a0_2 a0_3 a1_0 a1_1 a1_2 a1_3 t510 _ A47.out).mono ?_
                rintro e w50 ⟨rfl, hb⟩
                have HS12_ := (hb.cell (World.block_lt_of_cell? _ _ (hHeld.2.2.2.2.2.2.2.2.2.2.2.2.1))).trans (hHeld.2.2.2.2.2.2.2.2.2.2.2.2.1)
                have HS13_ := (hb.cell (World.block_lt_of_cell? _ _ (hHeld.2.2.2.2.2.2.2.2.2.2.2.2.2.1))).trans (hHeld.2.2.2.2.2.2.2.2.2.2.2.2.2.1)
                have HS14_ := (hb.cell (World.block_lt_of_cell? _ _ (hHeld.2.2.2.2.2.2.2.2.2.2.2.2.2.2.1))).trans (hHeld.2.2.2.2.2.2.2.2.2.2.2.2.2.2.1)
                have HS15_ := (hb.cell (World.block_lt_of_cell? _ _ (hHeld.2.2.2.2.2.2.2.2.2.2.2.2.2.2.2))).trans (hHeld.2.2.2.2.2.2.2.2.2.2.2.2.2.2.2)
                refine ⟨_, rfl, ?_⟩
                replace HO_5 := krb HO_5 hb
                replace BK490 := bkb BK490 hb
                replace BK491 := bkb BK491 hb
                replace BK506 := bkb BK506 hb
                replace HB := bst HB hb
                (try clear hb)
                (try clear hb2)
                (try clear hk)
                (try clear hi)
                refine hK.out _ _ ⟨(blk_cell BK506.out 0).trans rfl, (blk_cell BK506.out 1).trans rfl, (blk_cell BK506.out 2).trans rfl, (blk_cell BK506.out 3).trans rfl, (blk_cell BK490.out 0).trans rfl, (blk_cell BK490.out 1).trans rfl, (blk_cell BK490.out 2).trans rfl, (blk_cell BK490.out 3).trans rfl, (blk_cell BK491.out 0).trans rfl, (blk_cell BK491.out 1).trans rfl, (blk_cell BK491.out 2).trans rfl, (blk_cell BK491.out 3).trans rfl, HS12_, HS13_, HS14_, HS15_⟩ (fun hHeld => ?_)
                clear hK K
                refine nrp 57 ?_
                refine pw 29 59 HT_ ?_; refine pw 30 60 HT_ ?_
                refine done_ (done_of HT_.out (by kernel_rfl)) ?_
                try go_wp2
                go_meet
                case rel => exact ⟨_, ((t510 != true)), (by first | rfl | (simp; done) | (simp [*]; done)), H', ⟨by have := HJ6.out; first | omega | exact Nat.le_refl _⟩, ⟨kr HO_5⟩, ⟨bk BK490⟩, ⟨bk BK491⟩, ⟨bk BK506⟩, ⟨bl HB⟩⟩
            · rw [if_neg c43] at H
              exact absurd H (by simp)
          · replace c42 := Bool.eq_false_iff.mpr c42
            subst c42
            have c42b9 : decide (0 < t498.length) = false := by simpa using c39b9
            have H1 : (if ((!(t501 == 0) || (!(t502 == 0))) || ((!(t503 == 0) || (!(t504 == 0))))) = true then (bocagelaw03_SpanTwo.j1 kj6 t498 x8_6 true a0_0 a0_1 a0_2 a0_3 a1_0 a1_1 a1_2 a1_3) else ((span_Overlap.f kj6 a0_0 a0_1 a0_2 a0_3 a1_0 a1_1 a1_2 a1_3).bind fun t511 => (bocagelaw03_SpanTwo.j1 kj6 t498 x8_6 (t511 != false) a0_0 a0_1 a0_2 a0_3 a1_0 a1_1 a1_2 a1_3))) = some r := by rw [if_neg (show ¬ (false = true) by decide)] at H; exact H
            clear H
            have H := H1
            clear H1
            by_cases c51 : ((!(t501 == 0) || (!(t502 == 0))) || ((!(t503 == 0) || (!(t504 == 0))))) = true
            · rw [if_pos c51] at H
              have c51b0 : ((!(t501 == 0) || (!(t502 == 0))) || ((!(t503 == 0) || (!(t504 == 0))))) = true := c51
              clear c51
              have H' := Aside0.mk H
              clear H
              try go_wp2
              replace HO_5 := Aside0.mk (Kd.R_drew HO_5.out)
              replace BK490 := Aside0.mk (blk_drew BK490.out)
              replace BK491 := Aside0.mk (blk_drew BK491.out)
              replace BK506 := Aside0.mk (blk_drew BK506.out)
              replace HB := Aside0.mk (below_drew1 HB.out)
              obtain ⟨Ao53, co53, eo53⟩ := Kd.R_slice HO_5.out
              (first | subst eo53 | (injection eo53 with f1_ f2_ f3_; have f4_ := f1_.symm; have f5_ := f3_.symm; clear f1_ f2_ f3_; subst f4_; subst f5_))
              refine start_ (n := 31) (S := fun w' => w'.cell? ⟨gb506, 0, none⟩ = some (.int .i64 t501) ∧ w'.cell? ⟨gb506, 1, none⟩ = some (.int .i64 t502) ∧ w'.cell? ⟨gb506, 2, none⟩ = some (.int .i64 t503) ∧ w'.cell? ⟨gb506, 3, none⟩ = some (.int .i64 t504)) (ds := []) #[false, false, false, false, false, false, false, false, false, false, false, false, false, false, false, false, false, false, false, false, false, false, false, false, false, false, false, false, false, false, false] (by kernel_rfl) rfl rfl (e4 BK506) (fun hHeld => ?_); refine with_tabW bocagelaw03_SpanTwo.tab4 bocagelaw03_SpanTwo.bits4 (fun HT_ HW_ => ?_)
              generalize wc.drew = w52 at HO_5 BK490 BK491 BK506 HB hHeld ⊢
              refine pw 0 30 HT_ ?_; refine pw 1 31 HT_ ?_; refine pw 2 32 HT_ ?_; refine pw 3 33 HT_ ?_; refine pw 4 34 HT_ ?_; refine pw 5 35 HT_ ?_; refine pw 6 36 HT_ ?_; refine pw 7 37 HT_ ?_; refine px 8 38 HT_ ?_; refine px 9 39 HT_ ?_; refine px 10 40 HT_ ?_; refine px 11 41 HT_ ?_; refine px 12 42 HT_ ?_; refine pw 13 43 HT_ ?_; refine pw 14 44 HT_ ?_; refine pw 15 45 HT_ ?_; refine pw 16 46 HT_ ?_; refine pw 17 47 HT_ ?_; refine pw 18 48 HT_ ?_; refine pw 20 50 HT_ ?_; refine tw4 19 49 HT_ HW_ hHeld ?_; refine pw 21 51 HT_ ?_; refine pw 22 52 HT_ ?_; refine pw 23 53 HT_ ?_; refine pw 24 54 HT_ ?_; refine px 25 55 HT_ ?_; refine px 26 56 HT_ ?_; refine px 27 57 HT_ ?_; refine px 28 58 HT_ ?_; refine px 29 59 HT_ ?_; refine pw 30 60 HT_ ?_
              refine done_ (done_of HT_.out (by kernel_rfl)) ?_
              try go_wp2
              go_meet
              case rel => exact ⟨_, (true), (by first | rfl | (simp; done) | (simp [*]; done)), H', ⟨by have := HJ6.out; first | omega | exact Nat.le_refl _⟩, ⟨kr HO_5⟩, ⟨bk BK490⟩, ⟨bk BK491⟩, ⟨bk BK506⟩, ⟨bl HB⟩⟩
            · rw [if_neg c51] at H
              have c51b0 : ((!(t501 == 0) || (!(t502 == 0))) || ((!(t503 == 0) || (!(t504 == 0))))) = false := by simpa using c51
              clear c51
              replace H := Option.bind_eq_some_iff.mp H
              obtain ⟨t511, A540, H⟩ := H
              (try (set_option simprocs false in dsimp only at H))
              have A54 := Aside0.mk A540
              clear A540
              have H' := Aside0.mk H
              clear H
              try go_wp2
              replace HO_5 := Aside0.mk (Kd.R_drew HO_5.out)
              replace BK490 := Aside0.mk (blk_drew BK490.out)
              replace BK491 := Aside0.mk (blk_drew BK491.out)
              replace BK506 := Aside0.mk (blk_drew BK506.out)
              replace HB := Aside0.mk (below_drew1 HB.out)
              obtain ⟨Ao56, co56, eo56⟩ := Kd.R_slice HO_5.out
              (first | subst eo56 | (injection eo56 with f1_ f2_ f3_; have f4_ := f1_.symm; have f5_ := f3_.symm; clear f1_ f2_ f3_; subst f4_; subst f5_))
              refine start_ (n := 31) (S := fun w' => w'.cell? ⟨gb506, 0, none⟩ = some (.int .i64 t501) ∧ w'.cell? ⟨gb506, 1, none⟩ = some (.int .i64 t502) ∧ w'.cell? ⟨gb506, 2, none⟩ = some (.int .i64 t503) ∧ w'.cell? ⟨gb506, 3, none⟩ = some (.int .i64 t504) ∧ w'.cell? ⟨gb490, 0, none⟩ = some (.int .i64 a0_0) ∧ w'.cell? ⟨gb490, 1, none⟩ = some (.int .i64 a0_1) ∧ w'.cell? ⟨gb490, 2, none⟩ = some (.int .i64 a0_2) ∧ w'.cell? ⟨gb490, 3, none⟩ = some (.int .i64 a0_3) ∧ w'.cell? ⟨gb491, 0, none⟩ = some (.int .i64 a1_0) ∧ w'.cell? ⟨gb491, 1, none⟩ = some (.int .i64 a1_1) ∧ w'.cell? ⟨gb491, 2, none⟩ = some (.int .i64 a1_2) ∧ w'.cell? ⟨gb491, 3, none⟩ = some (.int .i64 a1_3)) (ds := []) #[false, false, false, false, false, false, false, false, false, false, false, false, false, false, false, false, false, false, false, false, false, false, false, false, false, false, false, false, false, false, false] (by kernel_rfl) rfl rfl (c4 BK506 (c4 BK490 (e4 BK491))) (fun hHeld => ?_); refine with_tabW bocagelaw03_SpanTwo.tab4 bocagelaw03_SpanTwo.bits4 (fun HT_ HW_ => ?_)
              generalize wc.drew = w55 at HO_5 BK490 BK491 BK506 HB hHeld ⊢
              refine pw 0 30 HT_ ?_; refine pw 1 31 HT_ ?_; refine pw 2 32 HT_ ?_; refine pw 3 33 HT_ ?_; refine pw 4 34 HT_ ?_; refine pw 5 35 HT_ ?_; refine pw 6 36 HT_ ?_; refine pw 7 37 HT_ ?_; refine px 8 38 HT_ ?_; refine px 9 39 HT_ ?_; refine px 10 40 HT_ ?_; refine px 11 41 HT_ ?_; refine px 12 42 HT_ ?_; refine pw 13 43 HT_ ?_; refine pw 14 44 HT_ ?_; refine pw 15 45 HT_ ?_; refine pw 16 46 HT_ ?_; refine pw 17 47 HT_ ?_; refine pw 18 48 HT_ ?_; refine pw 20 50 HT_ ?_; refine tw12 19 49 HT_ HW_ hHeld ?_; refine pw 21 51 HT_ ?_; refine pw 22 52 HT_ ?_; refine pw 23 53 HT_ ?_; refine pw 24 54 HT_ ?_; refine pw 28 58 HT_ ?_; refine tw12 25 55 HT_ HW_ hHeld ?_; refine tw12 26 56 HT_ HW_ hHeld ?_
              refine one_ (i := 27) (N := some 57) #[true, true, true, true, true, true, true, true, true, true, true, true, true, true, true, true, true, true, true, true, true, true, true, true, true, true, true, true, true, false, false] rfl rfl (one_of HT_.out (by kernel_rfl)) (by decide) (fun K hK => ?_)
              refine goes_ Try.func13 (by kernel_rfl) rfl #[.agg #[.int .i64 a0_0, .int .i64 a0_1, .int .i64 a0_2, .int .i64 a0_3], .agg #[.int .i64 a1_0, .int .i64 a1_1, .int .i64 a1_2, .int .i64 a1_3]] (by rfl) rfl rfl (by (try simp only [List.map_toArray, List.map_cons, List.map_nil]); first | done | rfl | (simp only [List.length_drop, List.length_take]; rfl)) ?_
              with_reducible refine (span_Overlap.calls kj6 a0_0 a0_1 a0_2 a0_3 a1_0 a1_1 a1_2 a1_3 t511 _ A54.out).mono ?_
              rintro e w57 ⟨rfl, hb⟩
              refine ⟨_, rfl, ?_⟩
              replace HO_5 := krb HO_5 hb
              replace BK490 := bkb BK490 hb
              replace BK491 := bkb BK491 hb
              replace BK506 := bkb BK506 hb
              replace HB := bst HB hb
              (try clear hb)
              (try clear hb2)
              (try clear hk)
              (try clear hi)
              refine hK.out _ _ (c4 BK506 (c4 BK490 (e4 BK491))) (fun hHeld => ?_)
              clear hK K
              refine nrp 57 ?_
              refine pw 29 59 HT_ ?_; refine pw 30 60 HT_ ?_
              refine done_ (done_of HT_.out (by kernel_rfl)) ?_
              try go_wp2
              go_meet
              case rel => exact ⟨_, ((t511 != false)), (by first | rfl | (simp; done) | (simp [*]; done)), H', ⟨by have := HJ6.out; first | omega | exact Nat.le_refl _⟩, ⟨kr HO_5⟩, ⟨bk BK490⟩, ⟨bk BK491⟩, ⟨bk BK506⟩, ⟨bl HB⟩⟩
      case rest =>
        clear HC38
        try clear c1
        try clear p2
        try clear c4
        try clear c5
        try clear c13
        try clear c42
        try clear c43
        try clear c51
        try clear c51b0
        obtain ⟨kq, x60_37, rfl, HA, HJ37, HO_5, BK490, BK491, BK506, HB⟩ := hcut
        cases kq with
        | zero => exact absurd HA.out (by simp [bocagelaw03_SpanTwo.j1])
        | succ kj37 =>
          have H := HA.out
          clear HA
          simp only [bocagelaw03_SpanTwo.j1] at H
          by_cases c58 : x60_37 = true
          · subst c58
            have H1 : (some false) = some r := by rw [if_pos rfl] at H; exact H
            exact absurd ((Option.some.inj H1).trans HRT.out) Bool.false_ne_true
          · replace c58 := Bool.eq_false_iff.mpr c58
            subst c58
            have H1 : (if x8_6 = true then ((bocageref03_One.f a1_0 a1_1 a1_2 a1_3).bind fun t512 => ((bocageref03_One.f a0_0 a0_1 a0_2 a0_3).bind fun t515 => ((bocageref03_Minus.f kj37 t512 t515).bind fun t518 => (bocagelaw03_SpanTwo.j2 kj37 t498 x8_6 ((t518.length : Int) == 0) a0_0 a0_1 a0_2 a0_3 a1_0 a1_1 a1_2 a1_3)))) else (bocagelaw03_SpanTwo.j2 kj37 t498 x8_6 false a0_0 a0_1 a0_2 a0_3 a1_0 a1_1 a1_2 a1_3)) = some r := by rw [if_neg (show ¬ (false = true) by decide)] at H; exact H
            clear H
            have H := H1
            clear H1
            have HC59 := Aside0.mk H
            clear H
            go_upto_region 6 with (fail)
            go_cut [9] (fun v9 wc => ∃ (kq : Nat) (x9_58 : Bool), v9 = .bool x9_58 ∧ Aside0 (bocagelaw03_SpanTwo.j2 kq t498 x8_6 x9_58 a0_0 a0_1 a0_2 a0_3 a1_0 a1_1 a1_2 a1_3 = some r) ∧ Aside0 (kq ≤ kj37) ∧ Aside0 (Kd.R k25 25 wc w.heap.size (fun k_ => k_ ≠ gb490 ∧ k_ ≠ gb491 ∧ k_ ≠ gb506) v499 t498) ∧ Aside0 (wc.heap[gb490]? = some (.cells #[.int .i64 a0_0, .int .i64 a0_1, .int .i64 a0_2, .int .i64 a0_3] 25 (0, 0))) ∧ Aside0 (wc.heap[gb491]? = some (.cells #[.int .i64 a1_0, .int .i64 a1_1, .int .i64 a1_2, .int .i64 a1_3] 25 (0, 0))) ∧ Aside0 (wc.heap[gb506]? = some (.cells #[.int .i64 t501, .int .i64 t502, .int .i64 t503, .int .i64 t504] 25 (0, 0))) ∧ Aside0 (Below w.heap.size w wc))
            case first =>
              have H := HC59.out
              clear HC59
              by_cases c60 : x8_6 = true
              · subst c60
                have H1 : ((bocageref03_One.f a1_0 a1_1 a1_2 a1_3).bind fun t512 => ((bocageref03_One.f a0_0 a0_1 a0_2 a0_3).bind fun t515 => ((bocageref03_Minus.f kj37 t512 t515).bind fun t518 => (bocagelaw03_SpanTwo.j2 kj37 t498 true ((t518.length : Int) == 0) a0_0 a0_1 a0_2 a0_3 a1_0 a1_1 a1_2 a1_3)))) = some r := by rw [if_pos rfl] at H; exact H
                clear H
                have H := H1
                clear H1
                replace H := Option.bind_eq_some_iff.mp H
                obtain ⟨t512, A610, H⟩ := H
                (try (set_option simprocs false in dsimp only at H))
                have A61 := Aside0.mk A610
                clear A610
                obtain rfl : t495 = t512 := Option.some.inj (A4.out.symm.trans A61.out)
                replace H := Option.bind_eq_some_iff.mp H
                obtain ⟨t515, A620, H⟩ := H
                (try (set_option simprocs false in dsimp only at H))
                have A62 := Aside0.mk A620
                clear A620
                obtain rfl : t492 = t515 := Option.some.inj (A3.out.symm.trans A62.out)
                replace H := Option.bind_eq_some_iff.mp H
                obtain ⟨t518, A630, H⟩ := H
                (try (set_option simprocs false in dsimp only at H))
                have A63 := Aside0.mk A630
                clear A630
                have H' := Aside0.mk H
                clear H
                try go_wp2
                replace HO_5 := Aside0.mk (Kd.R_drew HO_5.out)
                replace BK490 := Aside0.mk (blk_drew BK490.out)
                replace BK491 := Aside0.mk (blk_drew BK491.out)
                replace BK506 := Aside0.mk (blk_drew BK506.out)
                replace HB := Aside0.mk (below_drew1 HB.out)
                refine start_ (n := 11) (S := fun w' => w'.cell? ⟨gb491, 0, none⟩ = some (.int .i64 a1_0) ∧ w'.cell? ⟨gb491, 1, none⟩ = some (.int .i64 a1_1) ∧ w'.cell? ⟨gb491, 2, none⟩ = some (.int .i64 a1_2) ∧ w'.cell? ⟨gb491, 3, none⟩ = some (.int .i64 a1_3) ∧ w'.cell? ⟨gb490, 0, none⟩ = some (.int .i64 a0_0) ∧ w'.cell? ⟨gb490, 1, none⟩ = some (.int .i64 a0_1) ∧ w'.cell? ⟨gb490, 2, none⟩ = some (.int .i64 a0_2) ∧ w'.cell? ⟨gb490, 3, none⟩ = some (.int .i64 a0_3)) (ds := []) #[false, false, false, false, false, false, false, false, false, false, false] (by kernel_rfl) rfl rfl (c4 BK491 (e4 BK490)) (fun hHeld => ?_); refine with_tabW bocagelaw03_SpanTwo.tab6 bocagelaw03_SpanTwo.bits6 (fun HT_ HW_ => ?_)
                generalize wc.drew = w64 at HO_5 BK490 BK491 BK506 HB hHeld ⊢
                refine pw 0 61 HT_ ?_; refine pw 1 62 HT_ ?_; refine tw8 2 63 HT_ HW_ hHeld ?_; refine tw8 4 65 HT_ HW_ hHeld ?_
                refine one_ (i := 3) (N := some 64) #[true, true, true, true, true, false, false, false, false, false, false] rfl rfl (one_of HT_.out (by kernel_rfl)) (by decide) (fun K hK => ?_)
                refine goes_ Try.func10 (by kernel_rfl) rfl #[.agg #[.int .i64 a1_0, .int .i64 a1_1, .int .i64 a1_2, .int .i64 a1_3]] (by rfl) rfl rfl (by (try simp only [List.map_toArray, List.map_cons, List.map_nil]); first | done | rfl | (simp only [List.length_drop, List.length_take]; rfl)) ?_
                with_reducible refine (bocageref03_One.calls a1_0 a1_1 a1_2 a1_3 t495 _ A61.out).mono ?_
                rintro e w65 ⟨v513, rfl, ho0, hb⟩
                refine ⟨_, rfl, ?_⟩
                have HO514 := Aside0.mk (Kd.R_lower (Kd.R_newB (Kd.R_newB (Kd.R_newB (Kd.R_new' ho0 (Kd.R_lt (kr HO_5))) (bk BK490)) (bk BK491)) (bk BK506)) (below_size (bl HB)))
                replace HO_5 := Aside0.mk (Kd.R_elder' (kr HO_5) (Kd.R_base ho0) hb)
                replace BK490 := bkb BK490 hb
                replace BK491 := bkb BK491 hb
                replace BK506 := bkb BK506 hb
                replace HB := bst HB hb
                (try clear hb)
                (try clear hb2)
                (try clear hk)
                (try clear hi)
                (try clear ho0)
                refine hK.out _ _ (c4 BK491 (e4 BK490)) (fun hHeld => ?_)
                clear hK K
                refine nrp 64 ?_
                refine one_ (i := 5) (N := some 66) #[true, true, true, true, true, true, false, false, false, false, false] rfl rfl (one_of HT_.out (by kernel_rfl)) (by decide) (fun K hK => ?_)
                refine goes_ Try.func10 (by kernel_rfl) rfl #[.agg #[.int .i64 a0_0, .int .i64 a0_1, .int .i64 a0_2, .int .i64 a0_3]] (by rfl) rfl rfl (by (try simp only [List.map_toArray, List.map_cons, List.map_nil]); first | done | rfl | (simp only [List.length_drop, List.length_take]; rfl)) ?_
                with_reducible refine (bocageref03_One.calls a0_0 a0_1 a0_2 a0_3 t492 _ A62.out).mono ?_
                rintro e w66 ⟨v516, rfl, ho0, hb⟩
                refine ⟨_, rfl, ?_⟩
                have HO517 := Aside0.mk (Kd.R_lower (Kd.R_newB (Kd.R_newB (Kd.R_newB (Kd.R_new' (Kd.R_new' ho0 (Kd.R_lt (kr HO_5))) (Kd.R_lt (kr HO514))) (bk BK490)) (bk BK491)) (bk BK506)) (below_size (bl HB)))
                replace HO_5 := Aside0.mk (Kd.R_elder' (kr HO_5) (Kd.R_base ho0) hb)
                replace HO514 := Aside0.mk (Kd.R_elder' (kr HO514) (Kd.R_base ho0) hb)
                replace BK490 := bkb BK490 hb
                replace BK491 := bkb BK491 hb
                replace BK506 := bkb BK506 hb
                replace HB := bst HB hb
                (try clear hb)
                (try clear hb2)
                (try clear hk)
                (try clear hi)
                (try clear ho0)
                obtain ⟨Ao67, co67, eo67⟩ := Kd.R_slice HO514.out
                (first | subst eo67 | (injection eo67 with f1_ f2_ f3_; have f4_ := f1_.symm; have f5_ := f3_.symm; clear f1_ f2_ f3_; subst f4_; subst f5_))
                obtain ⟨Ao68, co68, eo68⟩ := Kd.R_slice HO517.out
                (first | subst eo68 | (injection eo68 with f1_ f2_ f3_; have f4_ := f1_.symm; have f5_ := f3_.symm; clear f1_ f2_ f3_; subst f4_; subst f5_))
                refine hK.out _ _ (c4 BK491 (e4 BK490)) (fun hHeld => ?_)
                clear hK K
                refine nrp 66 ?_
                refine one_ (i := 6) (N := some 67) #[true, true, true, true, true, true, true, false, false, false, false] rfl rfl (one_of HT_.out (by kernel_rfl)) (by decide) (fun K hK => ?_)
                refine goes_ Try.func14 (by kernel_rfl) rfl #[.slice Ao67 t495.length co67, .slice Ao68 t492.length co68] (by rfl) rfl rfl (by (try simp only [List.map_toArray, List.map_cons, List.map_nil]); first | done | rfl | (simp only [List.length_drop, List.length_take]; rfl)) ?_
                with_reducible refine (bocageref03_Minus.calls kj37 _ _ t495 _ _ t492 t518 _ ?side1 ?side2 ?side3 ?side4 A63.out).mono ?_
                (case side1 => repeat (first | exact (Kd.R_reads' HO514.out).2.2 | (with_reducible refine Kd.C_alloc ?_ _) | (with_reducible refine Kd.C_drewN ?_ _) | (with_reducible refine Kd.C_drew ?_)))
                (case side2 => exact (Kd.R_reads' HO514.out).2.1)
                (case side3 => repeat (first | exact (Kd.R_reads' HO517.out).2.2 | (with_reducible refine Kd.C_alloc ?_ _) | (with_reducible refine Kd.C_drewN ?_ _) | (with_reducible refine Kd.C_drew ?_)))
                (case side4 => exact (Kd.R_reads' HO517.out).2.1)
                rintro e w69 ⟨v519, rfl, ho0, hb⟩
                refine ⟨_, rfl, ?_⟩
                have HO520 := Aside0.mk (Kd.R_lower (Kd.R_newB (Kd.R_newB (Kd.R_newB (Kd.R_new' (Kd.R_new' (Kd.R_new' ho0 (Kd.R_lt (kr HO_5))) (Kd.R_lt (kr HO514))) (Kd.R_lt (kr HO517))) (bk BK490)) (bk BK491)) (bk BK506)) (below_size (bl HB)))
                replace HO_5 := Aside0.mk (Kd.R_elder' (kr HO_5) (Kd.R_base ho0) hb)
                replace HO514 := Aside0.mk (Kd.R_elder' (kr HO514) (Kd.R_base ho0) hb)
                replace HO517 := Aside0.mk (Kd.R_elder' (kr HO517) (Kd.R_base ho0) hb)
                replace BK490 := bkb BK490 hb
                replace BK491 := bkb BK491 hb
                replace BK506 := bkb BK506 hb
                replace HB := bst HB hb
                (try clear hb)
                (try clear hb2)
                (try clear hk)
                (try clear hi)
                (try clear ho0)
                obtain ⟨Ao70, co70, eo70⟩ := Kd.R_slice HO520.out
                (first | subst eo70 | (injection eo70 with f1_ f2_ f3_; have f4_ := f1_.symm; have f5_ := f3_.symm; clear f1_ f2_ f3_; subst f4_; subst f5_))
                refine hK.out _ _ (c4 BK491 (e4 BK490)) (fun hHeld => ?_)
                clear hK K
                refine nrp 67 ?_
                refine pw 7 68 HT_ ?_; refine pw 8 69 HT_ ?_; refine pw 9 70 HT_ ?_; refine pw 10 9 HT_ ?_
                refine done_ (done_of HT_.out (by kernel_rfl)) ?_
                try go_wp2
                go_meet
                case rel => exact ⟨_, (((t518.length : Int) == 0)), (by first | rfl | (simp; done) | (simp [*]; done)), H', ⟨by have := HJ6.out; have := HJ37.out; first | omega | exact Nat.le_refl _⟩, ⟨by (with_reducible repeat (first | apply Kd.R_alloc | apply Kd.R_drewN | apply Kd.R_drew)); exact Kd.R_mono HO_5.out (fun _ hk => ⟨hk.1.1.1.1, ⟨hk.1.1.1.2.1, hk.1.1.1.2.2⟩⟩)⟩, ⟨bk BK490⟩, ⟨bk BK491⟩, ⟨bk BK506⟩, ⟨bl HB⟩⟩
              · replace c60 := Bool.eq_false_iff.mpr c60
                subst c60
                have H1 : (bocagelaw03_SpanTwo.j2 kj37 t498 false false a0_0 a0_1 a0_2 a0_3 a1_0 a1_1 a1_2 a1_3) = some r := by rw [if_neg (show ¬ (false = true) by decide)] at H; exact H
                clear H
                have H := H1
                clear H1
                have H' := Aside0.mk H
                clear H
                try go_wp2
                replace HO_5 := Aside0.mk (Kd.R_drew HO_5.out)
                replace BK490 := Aside0.mk (blk_drew BK490.out)
                replace BK491 := Aside0.mk (blk_drew BK491.out)
                replace BK506 := Aside0.mk (blk_drew BK506.out)
                replace HB := Aside0.mk (below_drew1 HB.out)
                refine start_ (n := 11) (S := fun w' => True) (ds := []) #[false, false, false, false, false, false, false, false, false, false, false] (by kernel_rfl) rfl rfl trivial (fun hHeld => ?_); refine with_tabW bocagelaw03_SpanTwo.tab6 bocagelaw03_SpanTwo.bits6 (fun HT_ HW_ => ?_)
                generalize wc.drew = w71 at HO_5 BK490 BK491 BK506 HB hHeld ⊢
                refine pw 0 61 HT_ ?_; refine pw 1 62 HT_ ?_; refine px 2 63 HT_ ?_; refine px 3 64 HT_ ?_; refine px 4 65 HT_ ?_; refine px 5 66 HT_ ?_; refine px 6 67 HT_ ?_; refine px 7 68 HT_ ?_; refine px 8 69 HT_ ?_; refine pw 9 70 HT_ ?_; refine pw 10 9 HT_ ?_
                refine done_ (done_of HT_.out (by kernel_rfl)) ?_
                try go_wp2
                go_meet
                case rel => exact ⟨_, (false), (by first | rfl | (simp; done) | (simp [*]; done)), H', ⟨by have := HJ6.out; have := HJ37.out; first | omega | exact Nat.le_refl _⟩, ⟨kr HO_5⟩, ⟨bk BK490⟩, ⟨bk BK491⟩, ⟨bk BK506⟩, ⟨bl HB⟩⟩
            case rest =>
              clear HC59
              try clear c1
              try clear p2
              try clear c4
              try clear c5
              try clear c6
              try clear c10
              try clear c13
              try clear c14
              try clear c42
              try clear c43
              try clear c51
              try clear c51b0
              try clear c58
              try clear c60
              try clear p2
              obtain ⟨kq, x9_58, rfl, HA, HJ58, HO_5, BK490, BK491, BK506, HB⟩ := hcut
              cases kq with
              | zero => exact absurd HA.out (by simp [bocagelaw03_SpanTwo.j2])
              | succ kj58 =>
                have H := HA.out
                clear HA
                simp only [bocagelaw03_SpanTwo.j2] at H
                have HC72 := Aside0.mk H
                clear H
                go_upto_region 7 with (fail)
                go_cut [10] (fun v10 wc => ∃ (kq : Nat) (x10_71 : Bool), v10 = .bool x10_71 ∧ Aside0 (bocagelaw03_SpanTwo.j3 kq x8_6 x9_58 x10_71 a0_0 a0_1 a0_2 a0_3 a1_0 a1_1 a1_2 a1_3 = some r) ∧ Aside0 (kq ≤ kj58) ∧ Aside0 (wc.heap[gb490]? = some (.cells #[.int .i64 a0_0, .int .i64 a0_1, .int .i64 a0_2, .int .i64 a0_3] 25 (0, 0))) ∧ Aside0 (wc.heap[gb491]? = some (.cells #[.int .i64 a1_0, .int .i64 a1_1, .int .i64 a1_2, .int .i64 a1_3] 25 (0, 0))) ∧ Aside0 (wc.heap[gb506]? = some (.cells #[.int .i64 t501, .int .i64 t502, .int .i64 t503, .int .i64 t504] 25 (0, 0))) ∧ Aside0 (Below w.heap.size w wc))
                case first =>
                  have H := HC72.out
                  clear HC72
                  by_cases c73 : x8_6 = true
                  · subst c73
                    have H1 : (if (t498.length : Int) = 0 then ((bocageref03_List.f kj58 (([(⟨(⟨a0_0, a0_1⟩ : S23), (⟨a0_2, a0_3⟩ : S23)⟩ : S25), (⟨(⟨a1_0, a1_1⟩ : S23), (⟨a1_2, a1_3⟩ : S23)⟩ : S25)] : List (S25)))).bind fun t524 => (bocagelaw03_SpanTwo.j3 kj58 true x9_58 ((t524.length : Int) == 1) a0_0 a0_1 a0_2 a0_3 a1_0 a1_1 a1_2 a1_3)) else (bocagelaw03_SpanTwo.j3 kj58 true x9_58 false a0_0 a0_1 a0_2 a0_3 a1_0 a1_1 a1_2 a1_3)) = some r := by rw [if_pos rfl] at H; exact H
                    clear H
                    have H := H1
                    clear H1
                    by_cases c74 : (t498.length : Int) = 0
                    · rw [if_pos c74] at H
                      have c74b0 : ((t498.length : Int) == 0) = true := beq_iff_eq.mpr c74
                      have c74b1 : ((t498.length : Int) != 0) = false := bne_eq_false_iff_eq.mpr c74
                      clear c74
                      (first | rw [c74b0] | (simp only [i64_w, i32_w]; rw [c74b0]) | skip)
                      obtain ⟨y521, hy521⟩ : ∃ y_ : List (S25), y_ = (([(⟨(⟨a0_0, a0_1⟩ : S23), (⟨a0_2, a0_3⟩ : S23)⟩ : S25), (⟨(⟨a1_0, a1_1⟩ : S23), (⟨a1_2, a1_3⟩ : S23)⟩ : S25)] : List (S25))) := ⟨_, rfl⟩
                      replace H : ((bocageref03_List.f kj58 y521).bind fun t524 => (bocagelaw03_SpanTwo.j3 kj58 true x9_58 ((t524.length : Int) == 1) a0_0 a0_1 a0_2 a0_3 a1_0 a1_1 a1_2 a1_3)) = some r := by first | (rw [hy521]; with_reducible exact H) | (have H2_ := (Option.bind_some _ _).symm.trans H; rw [hy521]; with_reducible exact H2_) | (have H2_ := (Option.bind_some _ _).symm.trans H; with_reducible exact H2_) | with_reducible exact H | (rw [hy521]; exact H) | exact H
                      have Ny521 := Aside0.mk hy521
                      clear hy521
                      replace H := Option.bind_eq_some_iff.mp H
                      obtain ⟨t524, A750, H⟩ := H
                      (try (set_option simprocs false in dsimp only at H))
                      have A75 := Aside0.mk A750
                      clear A750
                      have H' := Aside0.mk H
                      clear H
                      obtain ⟨Ao76, co76, eo76⟩ := Kd.R_slice HO_5.out
                      subst eo76
                      have hnb77 := NB490_491.out
                      have hnc77 := NB491_490.out
                      have hnb78 := NB490_506.out
                      have hnc78 := NB506_490.out
                      have hcz79_0 : wc.cell? ⟨gb490, 0, none⟩ = some (.int .i64 a0_0) := (blk_cell BK490.out 0).trans rfl
                      have hcz79_1 : wc.cell? ⟨gb490, 1, none⟩ = some (.int .i64 a0_1) := (blk_cell BK490.out 1).trans rfl
                      have hcz79_2 : wc.cell? ⟨gb490, 2, none⟩ = some (.int .i64 a0_2) := (blk_cell BK490.out 2).trans rfl
                      have hcz79_3 : wc.cell? ⟨gb490, 3, none⟩ = some (.int .i64 a0_3) := (blk_cell BK490.out 3).trans rfl
                      have hfz79_0 := blk_frozen BK490.out 0
                      have hfz79_1 := blk_frozen BK490.out 1
                      have hfz79_2 := blk_frozen BK490.out 2
                      have hfz79_3 := blk_frozen BK490.out 3
                      have hnb80 := NB491_506.out
                      have hnc80 := NB506_491.out
                      have hcz81_0 : wc.cell? ⟨gb491, 0, none⟩ = some (.int .i64 a1_0) := (blk_cell BK491.out 0).trans rfl
                      have hcz81_1 : wc.cell? ⟨gb491, 1, none⟩ = some (.int .i64 a1_1) := (blk_cell BK491.out 1).trans rfl
                      have hcz81_2 : wc.cell? ⟨gb491, 2, none⟩ = some (.int .i64 a1_2) := (blk_cell BK491.out 2).trans rfl
                      have hcz81_3 : wc.cell? ⟨gb491, 3, none⟩ = some (.int .i64 a1_3) := (blk_cell BK491.out 3).trans rfl
                      have hfz81_0 := blk_frozen BK491.out 0
                      have hfz81_1 := blk_frozen BK491.out 1
                      have hfz81_2 := blk_frozen BK491.out 2
                      have hfz81_3 := blk_frozen BK491.out 3
                      go_wp2_with (first | ((with_reducible refine gate_dst (N := 80) rfl ?_); (try (refine gate_guard (by rfl) ?_; dsimp only)); refine Kd.R_lit k25 _ 25 ?hg (N := 80) ?hd (xs := ([(⟨(⟨a0_0, a0_1⟩ : S23), (⟨a0_2, a0_3⟩ : S23)⟩ : S25), (⟨(⟨a1_0, a1_1⟩ : S23), (⟨a1_2, a1_3⟩ : S23)⟩ : S25)] : List (S25))) (inner := [.int .i64 a0_0, .int .i64 a0_1, .int .i64 a0_2, .int .i64 a0_3, .int .i64 a1_0, .int .i64 a1_1, .int .i64 a1_2, .int .i64 a1_3]) (ok := fun _ => True) (okp := fun _ => True) ?hr ?hp (fun _ hk => hk) trivial (Below.refl _ _) (Nat.le_refl _) (by simp) ?_; (case hd => rfl); (case hg => rfl); (case hr => first | (go_simp; done) | (go_simp; rfl)); (case hp => exact (Reps.c4 (show Kd.M k25 _ _ _ (⟨(⟨a0_0, a0_1⟩ : S23), (⟨a0_2, a0_3⟩ : S23)⟩ : S25) [.int .i64 a0_0, .int .i64 a0_1, .int .i64 a0_2, .int .i64 a0_3] from (k25_mkM _ _ _ (⟨(⟨a0_0, a0_1⟩ : S23), (⟨a0_2, a0_3⟩ : S23)⟩ : S25) )) (Reps.c4 (show Kd.M k25 _ _ _ (⟨(⟨a1_0, a1_1⟩ : S23), (⟨a1_2, a1_3⟩ : S23)⟩ : S25) [.int .i64 a1_0, .int .i64 a1_1, .int .i64 a1_2, .int .i64 a1_3] from (k25_mkM _ _ _ (⟨(⟨a1_0, a1_1⟩ : S23), (⟨a1_2, a1_3⟩ : S23)⟩ : S25) )) (Reps.none _ _)))); intro v522 w82 ho83 hb hg_ hnew_; clear hg_ hnew_; (first | rw [← Ny521.out] at ho83 | (simp only [Int.reduceToNat] at ho83; rw [← Ny521.out] at ho83)); have HO523 := Aside0.mk (Kd.R_lower (Kd.R_newB (Kd.R_newB (Kd.R_newB (Kd.R_new' ho83 (Kd.R_lt (kr HO_5))) (bk BK490)) (bk BK491)) (bk BK506)) (below_size (bl HB))); replace HO_5 := Aside0.mk (Kd.R_elder' (kr HO_5) (Kd.R_base ho83) hb); replace BK490 := bkb BK490 hb; replace BK491 := bkb BK491 hb; replace BK506 := bkb BK506 hb; replace HB := bst HB hb; clear hb ho83; obtain ⟨Ao84, co84, eo84⟩ := Kd.R_slice HO523.out; subst eo84) | (go_at_call 15; (with_reducible refine (bocageref03_List.calls kj58 _ _ y521 t524 _ ?side1 ?side2 A75.out).mono ?_); (case side1 => repeat (first | exact (Kd.R_reads' HO523.out).2.2 | (with_reducible refine Kd.C_alloc ?_ _) | (with_reducible refine Kd.C_drewN ?_ _) | (with_reducible refine Kd.C_drew ?_))); (case side2 => exact (Kd.R_reads' HO523.out).2.1); rintro e w85 ⟨v525, rfl, ho0, hb⟩; have HO526 := Aside0.mk (Kd.R_lower (Kd.R_newB (Kd.R_newB (Kd.R_newB (Kd.R_new' (Kd.R_new' ho0 (Kd.R_lt (kr HO_5))) (Kd.R_lt (kr HO523))) (bk BK490)) (bk BK491)) (bk BK506)) (below_size (bl HB))); replace HO_5 := Aside0.mk (Kd.R_elder' (kr HO_5) (Kd.R_base ho0) hb); replace HO523 := Aside0.mk (Kd.R_elder' (kr HO523) (Kd.R_base ho0) hb); replace BK490 := bkb BK490 hb; replace BK491 := bkb BK491 hb; replace BK506 := bkb BK506 hb; replace HB := bst HB hb; (try clear hb); (try clear hb2); (try clear hk); (try clear hi); (try clear ho0); obtain ⟨Ao86, co86, eo86⟩ := Kd.R_slice HO526.out; subst eo86))
                      go_meet
                      case rel => exact ⟨_, (((t524.length : Int) == 1)), (by first | rfl | (simp; done) | (simp [*]; done)), H', ⟨by have := HJ6.out; have := HJ37.out; have := HJ58.out; first | omega | exact Nat.le_refl _⟩, ⟨bk BK490⟩, ⟨bk BK491⟩, ⟨bk BK506⟩, ⟨bl HB⟩⟩
                    · rw [if_neg c74] at H
                      have c74b0 : ((t498.length : Int) == 0) = false := beq_eq_false_iff_ne.mpr c74
                      have c74b1 : ((t498.length : Int) != 0) = true := bne_iff_ne.mpr c74
                      have c74b2 : ¬ (t498 = []) := fun h_ => c74 (by rw [h_]; rfl)
                      (first | rw [c74b0] | (simp only [i64_w, i32_w]; rw [c74b0]) | skip)
                      have H' := Aside0.mk H
                      clear H
                      obtain ⟨Ao87, co87, eo87⟩ := Kd.R_slice HO_5.out
                      subst eo87
                      go_wp2
                      go_meet
                      case rel => exact ⟨_, (false), (by first | rfl | (simp; done) | (simp [*]; done)), H', ⟨by have := HJ6.out; have := HJ37.out; have := HJ58.out; first | omega | exact Nat.le_refl _⟩, ⟨bk BK490⟩, ⟨bk BK491⟩, ⟨bk BK506⟩, ⟨bl HB⟩⟩
                  · replace c73 := Bool.eq_false_iff.mpr c73
                    subst c73
                    have H1 : (bocagelaw03_SpanTwo.j3 kj58 false x9_58 false a0_0 a0_1 a0_2 a0_3 a1_0 a1_1 a1_2 a1_3) = some r := by rw [if_neg (show ¬ (false = true) by decide)] at H; exact H
                    clear H
                    have H := H1
                    clear H1
                    have H' := Aside0.mk H
                    clear H
                    go_wp2
                    go_meet
                    case rel => exact ⟨_, (false), (by first | rfl | (simp; done) | (simp [*]; done)), H', ⟨by have := HJ6.out; have := HJ37.out; have := HJ58.out; first | omega | exact Nat.le_refl _⟩, ⟨bk BK490⟩, ⟨bk BK491⟩, ⟨bk BK506⟩, ⟨bl HB⟩⟩
                case rest =>
                  clear HC72
                  try clear c1
                  try clear p2
                  try clear c4
                  try clear c5
                  try clear c6
                  try clear c7
                  try clear c8
                  try clear c10
                  try clear c13
                  try clear c14
                  try clear c42
                  try clear c43
                  try clear c51
                  try clear c51b0
                  try clear c58
                  try clear c60
                  try clear c73
                  try clear c74
                  try clear c74b0
                  try clear c74b1
                  try clear c74b2
                  try clear c77
                  try clear c78
                  try clear c80
                  try clear hcz79_0
                  try clear hcz79_1
                  try clear hcz79_2
                  try clear hcz79_3
                  try clear hcz81_0
                  try clear hcz81_1
                  try clear hcz81_2
                  try clear hcz81_3
                  try clear hfz79_0
                  try clear hfz79_1
                  try clear hfz79_2
                  try clear hfz79_3
                  try clear hfz81_0
                  try clear hfz81_1
                  try clear hfz81_2
                  try clear hfz81_3
                  try clear p2
                  obtain ⟨kq, x10_71, rfl, HA, HJ71, BK490, BK491, BK506, HB⟩ := hcut
                  cases kq with
                  | zero => exact absurd HA.out (by simp [bocagelaw03_SpanTwo.j3])
                  | succ kj71 =>
                    have H := HA.out
                    clear HA
                    simp only [bocagelaw03_SpanTwo.j3] at H
                    obtain ⟨y528, hy528⟩ : ∃ y_ : List (S25), y_ = (([] : List (S25))) := ⟨_, rfl⟩
                    replace H : (if x8_6 = true then ((bocageref02_Low.f kj71 a0_0 a0_1 a1_0 a1_1).bind fun bt531 => ((bocageref02_High.f kj71 a0_2 a0_3 a1_2 a1_3).bind fun bt533 => ((bocageref03_One.f a0_0 a0_1 a0_2 a0_3).bind fun t535 => ((bocageref03_One.f a1_0 a1_1 a1_2 a1_3).bind fun t538 => ((bocageref03_Minus.f kj71 t535 t538).bind fun t541 => (bocagelaw03_SpanTwo.j4 kj71 x9_58 x10_71 t541 a0_0 a0_1 a0_2 a0_3 a1_0 a1_1 a1_2 a1_3 bt531.1 bt531.2 bt533.1 bt533.2)))))) else (bocagelaw03_SpanTwo.j4 kj71 x9_58 x10_71 y528 a0_0 a0_1 a0_2 a0_3 a1_0 a1_1 a1_2 a1_3 0 0 0 0)) = some r := by first | (rw [hy528]; with_reducible exact H) | (have H2_ := (Option.bind_some _ _).symm.trans H; rw [hy528]; with_reducible exact H2_) | (have H2_ := (Option.bind_some _ _).symm.trans H; with_reducible exact H2_) | with_reducible exact H | (rw [hy528]; exact H) | exact H
                    have Ny528 := Aside0.mk hy528
                    clear hy528
                    have HC88 := Aside0.mk H
                    clear H
                    go_upto_if 87 with (first | ((with_reducible refine gate_dst (N := 11) rfl ?_); (try (refine gate_guard (by rfl) ?_; dsimp only)); refine bxe (N := 11) (cs := #[.int .i64 0, .int .i64 0, .int .i64 0, .int .i64 0]) (t := 25) ?_; intro gb527 hg w89 hbox hb; have BK527 := Aside0.mk (hbox); have GW527 := lsz hg HB; have GE527 := lsz hg HB; replace HB := bst HB hb; have NB490_527 := nlt hg BK490; have NB527_490 := ngt hg BK490; replace BK490 := bkb BK490 hb; have NB491_527 := nlt hg BK491; have NB527_491 := ngt hg BK491; replace BK491 := bkb BK491 hb; have NB506_527 := nlt hg BK506; have NB527_506 := ngt hg BK506; replace BK506 := bkb BK506 hb; clear hb hbox hg; have hnb90 := NB527_490.out; have hnc90 := NB490_527.out; have hnb91 := NB527_491.out; have hnc91 := NB491_527.out; have hnb92 := NB527_506.out; have hnc92 := NB506_527.out; obtain ⟨hcz93_0, hcz93_1, hcz93_2, hcz93_3⟩ := e4 BK527; obtain ⟨hfz93_0, hfz93_1, hfz93_2, hfz93_3⟩ := f4 BK527) | ((with_reducible refine gate_dst (N := 86) rfl ?_); (try (refine gate_guard (by rfl) ?_; dsimp only)); refine Kd.R_lit k25 _ 25 ?hg (N := 86) ?hd (xs := ([] : List (S25))) (inner := []) (ok := fun _ => True) (okp := fun _ => True) ?hr ?hp (fun _ hk => hk) trivial (Below.refl _ _) (Nat.le_refl _) (by simp) ?_; (case hd => rfl); (case hg => rfl); (case hr => first | (go_simp; done) | (go_simp; rfl)); (case hp => exact (Reps.none _ _)); intro v529 w94 ho95 hb hg_ hnew_; clear hg_ hnew_; (first | rw [← Ny528.out] at ho95 | (simp only [Int.reduceToNat] at ho95; rw [← Ny528.out] at ho95)); have HO530 := Aside0.mk (Kd.R_lower (Kd.R_newB (Kd.R_newB (Kd.R_newB (Kd.R_newB ho95 (bkf BK490 NB490_527)) (bkf BK491 NB491_527)) (bkf BK506 NB506_527)) (g := gb527) (o := .cells #[.int .i64 0, .int .i64 0, .int .i64 0, .int .i64 0] 25 (0, 0)) (bkp BK527)) (below_size (bl HB))); replace BK490 := Aside0.mk (blk_below (bkf BK490 NB490_527) hb); replace BK491 := Aside0.mk (blk_below (bkf BK491 NB491_527) hb); replace BK506 := Aside0.mk (blk_below (bkf BK506 NB506_527) hb); replace BK527 := Aside0.mk (blk_below (g := gb527) (o := .cells #[.int .i64 0, .int .i64 0, .int .i64 0, .int .i64 0] 25 (0, 0)) (bkp BK527) hb); replace HB := bst HB hb; clear hb ho95))
                    (try simp only [Act.put, List.setIfInBounds_toArray, List.set_cons_zero, List.set_cons_succ])
                    go_cut [12] (fun v12 wc => ∃ (kq : Nat) (x12_87 : List (S25)) (x528000_87 : Int) (x528001_87 : Int) (x528002_87 : Int) (x528003_87 : Int), Aside0 (bocagelaw03_SpanTwo.j4 kq x9_58 x10_71 x12_87 a0_0 a0_1 a0_2 a0_3 a1_0 a1_1 a1_2 a1_3 x528000_87 x528001_87 x528002_87 x528003_87 = some r) ∧ Aside0 (kq ≤ kj71) ∧ Aside0 (Kd.R k25 25 wc w.heap.size (fun k_ => k_ ≠ gb490 ∧ k_ ≠ gb491 ∧ k_ ≠ gb506 ∧ k_ ≠ gb527) v12 x12_87) ∧ Aside0 (wc.heap[gb490]? = some (.cells #[.int .i64 a0_0, .int .i64 a0_1, .int .i64 a0_2, .int .i64 a0_3] 25 (0, 0))) ∧ Aside0 (wc.heap[gb491]? = some (.cells #[.int .i64 a1_0, .int .i64 a1_1, .int .i64 a1_2, .int .i64 a1_3] 25 (0, 0))) ∧ Aside0 (wc.heap[gb506]? = some (.cells #[.int .i64 t501, .int .i64 t502, .int .i64 t503, .int .i64 t504] 25 (0, 0))) ∧ Aside0 (wc.heap[gb527]? = some (.cells #[.int .i64 x528000_87, .int .i64 x528001_87, .int .i64 x528002_87, .int .i64 x528003_87] 25 (0, 0))) ∧ Aside0 (Below w.heap.size w wc))
                    case first =>
                      have H := HC88.out
                      clear HC88
                      by_cases c96 : x8_6 = true
                      · subst c96
                        have H1 : ((bocageref02_Low.f kj71 a0_0 a0_1 a1_0 a1_1).bind fun bt531 => ((bocageref02_High.f kj71 a0_2 a0_3 a1_2 a1_3).bind fun bt533 => ((bocageref03_One.f a0_0 a0_1 a0_2 a0_3).bind fun t535 => ((bocageref03_One.f a1_0 a1_1 a1_2 a1_3).bind fun t538 => ((bocageref03_Minus.f kj71 t535 t538).bind fun t541 => (bocagelaw03_SpanTwo.j4 kj71 x9_58 x10_71 t541 a0_0 a0_1 a0_2 a0_3 a1_0 a1_1 a1_2 a1_3 bt531.1 bt531.2 bt533.1 bt533.2)))))) = some r := by rw [if_pos rfl] at H; exact H
                        clear H
                        have H := H1
                        clear H1
                        replace H := Option.bind_eq_some_iff.mp H
                        obtain ⟨⟨t531, t532⟩, A970, H⟩ := H
                        (try (set_option simprocs false in dsimp only at H))
                        have A97 := Aside0.mk A970
                        clear A970
                        replace H := Option.bind_eq_some_iff.mp H
                        obtain ⟨⟨t533, t534⟩, A980, H⟩ := H
                        (try (set_option simprocs false in dsimp only at H))
                        have A98 := Aside0.mk A980
                        clear A980
                        replace H := Option.bind_eq_some_iff.mp H
                        obtain ⟨t535, A990, H⟩ := H
                        (try (set_option simprocs false in dsimp only at H))
                        have A99 := Aside0.mk A990
                        clear A990
                        obtain rfl : t492 = t535 := Option.some.inj (A3.out.symm.trans A99.out)
                        replace H := Option.bind_eq_some_iff.mp H
                        obtain ⟨t538, A1000, H⟩ := H
                        (try (set_option simprocs false in dsimp only at H))
                        have A100 := Aside0.mk A1000
                        clear A1000
                        obtain rfl : t495 = t538 := Option.some.inj (A4.out.symm.trans A100.out)
                        replace H := Option.bind_eq_some_iff.mp H
                        obtain ⟨t541, A1010, H⟩ := H
                        (try (set_option simprocs false in dsimp only at H))
                        have A101 := Aside0.mk A1010
                        clear A1010
                        have H' := Aside0.mk H
                        clear H
                        try go_wp2
                        replace HO530 := Aside0.mk (Kd.R_drew HO530.out)
                        replace BK490 := Aside0.mk (blk_drew BK490.out)
                        replace BK491 := Aside0.mk (blk_drew BK491.out)
                        replace BK506 := Aside0.mk (blk_drew BK506.out)
                        replace BK527 := Aside0.mk (blk_drew BK527.out)
                        replace HB := Aside0.mk (below_drew1 HB.out)
                        refine start_ (n := 12) (S := fun w' => w'.cell? ⟨gb490, 0, none⟩ = some (.int .i64 a0_0) ∧ w'.cell? ⟨gb490, 1, none⟩ = some (.int .i64 a0_1) ∧ w'.cell? ⟨gb490, 2, none⟩ = some (.int .i64 a0_2) ∧ w'.cell? ⟨gb490, 3, none⟩ = some (.int .i64 a0_3) ∧ w'.cell? ⟨gb491, 0, none⟩ = some (.int .i64 a1_0) ∧ w'.cell? ⟨gb491, 1, none⟩ = some (.int .i64 a1_1) ∧ w'.cell? ⟨gb491, 2, none⟩ = some (.int .i64 a1_2) ∧ w'.cell? ⟨gb491, 3, none⟩ = some (.int .i64 a1_3)) (ds := []) #[false, false, false, false, false, false, false, false, false, false, false, false] (by kernel_rfl) rfl rfl (c4 BK490 (e4 BK491)) (fun hHeld => ?_); refine with_tabW bocagelaw03_SpanTwo.tab11 bocagelaw03_SpanTwo.bits11 (fun HT_ HW_ => ?_)
                        generalize w94.drew = w102 at HO530 BK490 BK491 BK506 BK527 HB hHeld ⊢
                        refine pw 0 88 HT_ ?_; refine pw 2 90 HT_ ?_; refine pw 5 93 HT_ ?_; refine pw 7 95 HT_ ?_; refine tw8 1 89 HT_ HW_ hHeld ?_; refine tw8 3 91 HT_ HW_ hHeld ?_; refine tw8 6 94 HT_ HW_ hHeld ?_; refine tw8 8 96 HT_ HW_ hHeld ?_
                        refine one_ (i := 4) (N := some 92) #[true, true, true, true, true, true, true, true, true, false, false, false] rfl rfl (one_of HT_.out (by kernel_rfl)) (by decide) (fun K hK => ?_)
                        refine goes_ Try.func16 (by kernel_rfl) rfl #[.agg #[.int .i64 a0_0, .int .i64 a0_1], .agg #[.int .i64 a1_0, .int .i64 a1_1]] (by rfl) rfl rfl (by (try simp only [List.map_toArray, List.map_cons, List.map_nil]); first | done | rfl | (simp only [List.length_drop, List.length_take]; rfl)) ?_
                        with_reducible refine (bocageref02_Low.calls kj71 a0_0 a0_1 a1_0 a1_1 t531 t532 _ A97.out).mono ?_
                        rintro e w103 ⟨rfl, hb⟩
                        refine ⟨_, rfl, ?_⟩
                        replace HO530 := krb HO530 hb
                        replace BK490 := bkb BK490 hb
                        replace BK491 := bkb BK491 hb
                        replace BK506 := bkb BK506 hb
                        replace BK527 := bkb BK527 hb
                        replace HB := bst HB hb
                        (try clear hb)
                        (try clear hb2)
                        (try clear hk)
                        (try clear hi)
                        refine hK.out _ _ (c4 BK490 (e4 BK491)) (fun hHeld => ?_)
                        clear hK K
                        refine nrp 92 ?_
                        refine one_ (i := 9) (N := some 97) #[true, true, true, true, true, true, true, true, true, true, false, false] rfl rfl (one_of HT_.out (by kernel_rfl)) (by decide) (fun K hK => ?_)
                        refine goes_ Try.func17 (by kernel_rfl) rfl #[.agg #[.int .i64 a0_2, .int .i64 a0_3], .agg #[.int .i64 a1_2, .int .i64 a1_3]] (by rfl) rfl rfl (by (try simp only [List.map_toArray, List.map_cons, List.map_nil]); first | done | rfl | (simp only [List.length_drop, List.length_take]; rfl)) ?_
                        with_reducible refine (bocageref02_High.calls kj71 a0_2 a0_3 a1_2 a1_3 t533 t534 _ A98.out).mono ?_
                        rintro e w104 ⟨rfl, hb⟩
                        refine ⟨_, rfl, ?_⟩
                        replace HO530 := krb HO530 hb
                        replace BK490 := bkb BK490 hb
                        replace BK491 := bkb BK491 hb
                        replace BK506 := bkb BK506 hb
                        replace BK527 := bkb BK527 hb
                        replace HB := bst HB hb
                        (try clear hb)
                        (try clear hb2)
                        (try clear hk)
                        (try clear hi)
                        refine hK.out _ _ (c4 BK490 (e4 BK491)) (fun hHeld => ?_)
                        clear hK K
                        refine nrp 97 ?_
                        refine pw 10 98 HT_ ?_
                        refine one_ (i := 11) (N := none) #[true, true, true, true, true, true, true, true, true, true, true, true] rfl rfl (one_of HT_.out (by kernel_rfl)) (by decide) (fun K hK => ?_)
                        have hs105 : w104.cell? ⟨gb527, 0, none⟩ = some (.int .i64 0) := (blk_cell BK527.out 0).trans rfl
                        have hfs105 := blk_frozen BK527.out 0
                        have hns105_0 := NB490_527.out
                        have hns105_1 := NB491_527.out
                        have hns105_2 := NB506_527.out
                        have hms105_0 := NB527_490.out
                        have hms105_1 := NB527_491.out
                        have hms105_2 := NB527_506.out
                        have hs106 : w104.cell? ⟨gb527, 1, none⟩ = some (.int .i64 0) := (blk_cell BK527.out 1).trans rfl
                        have hfs106 := blk_frozen BK527.out 1
                        have hns106_0 := NB490_527.out
                        have hns106_1 := NB491_527.out
                        have hns106_2 := NB506_527.out
                        have hms106_0 := NB527_490.out
                        have hms106_1 := NB527_491.out
                        have hms106_2 := NB527_506.out
                        have hs107 : w104.cell? ⟨gb527, 2, none⟩ = some (.int .i64 0) := (blk_cell BK527.out 2).trans rfl
                        have hfs107 := blk_frozen BK527.out 2
                        have hns107_0 := NB490_527.out
                        have hns107_1 := NB491_527.out
                        have hns107_2 := NB506_527.out
                        have hms107_0 := NB527_490.out
                        have hms107_1 := NB527_491.out
                        have hms107_2 := NB527_506.out
                        have hs108 : w104.cell? ⟨gb527, 3, none⟩ = some (.int .i64 0) := (blk_cell BK527.out 3).trans rfl
                        have hfs108 := blk_frozen BK527.out 3
                        have hns108_0 := NB490_527.out
                        have hns108_1 := NB491_527.out
                        have hns108_2 := NB506_527.out
                        have hms108_0 := NB527_490.out
                        have hms108_1 := NB527_491.out
                        have hms108_2 := NB527_506.out
                        refine skip_ (w1 := ?_) (by rfl) rfl ?_ ?_
                        rotate_left
                        · go_simp
                          rfl
                        refine hK.out _ _ ⟨((cell_far (p := ⟨gb527, _, none⟩) NB490_527.out _).trans (((cell_far (p := ⟨gb527, _, none⟩) NB490_527.out _).trans (((cell_far (p := ⟨gb527, _, none⟩) NB490_527.out _).trans (((cell_far (p := ⟨gb527, _, none⟩) NB490_527.out _).trans (hHeld.1)))))))), ((cell_far (p := ⟨gb527, _, none⟩) NB490_527.out _).trans (((cell_far (p := ⟨gb527, _, none⟩) NB490_527.out _).trans (((cell_far (p := ⟨gb527, _, none⟩) NB490_527.out _).trans (((cell_far (p := ⟨gb527, _, none⟩) NB490_527.out _).trans (hHeld.2.1)))))))), ((cell_far (p := ⟨gb527, _, none⟩) NB490_527.out _).trans (((cell_far (p := ⟨gb527, _, none⟩) NB490_527.out _).trans (((cell_far (p := ⟨gb527, _, none⟩) NB490_527.out _).trans (((cell_far (p := ⟨gb527, _, none⟩) NB490_527.out _).trans (hHeld.2.2.1)))))))), ((cell_far (p := ⟨gb527, _, none⟩) NB490_527.out _).trans (((cell_far (p := ⟨gb527, _, none⟩) NB490_527.out _).trans (((cell_far (p := ⟨gb527, _, none⟩) NB490_527.out _).trans (((cell_far (p := ⟨gb527, _, none⟩) NB490_527.out _).trans (hHeld.2.2.2.1)))))))), ((cell_far (p := ⟨gb527, _, none⟩) NB491_527.out _).trans (((cell_far (p := ⟨gb527, _, none⟩) NB491_527.out _).trans (((cell_far (p := ⟨gb527, _, none⟩) NB491_527.out _).trans (((cell_far (p := ⟨gb527, _, none⟩) NB491_527.out _).trans (hHeld.2.2.2.2.1)))))))), ((cell_far (p := ⟨gb527, _, none⟩) NB491_527.out _).trans (((cell_far (p := ⟨gb527, _, none⟩) NB491_527.out _).trans (((cell_far (p := ⟨gb527, _, none⟩) NB491_527.out _).trans (((cell_far (p := ⟨gb527, _, none⟩) NB491_527.out _).trans (hHeld.2.2.2.2.2.1)))))))), ((cell_far (p := ⟨gb527, _, none⟩) NB491_527.out _).trans (((cell_far (p := ⟨gb527, _, none⟩) NB491_527.out _).trans (((cell_far (p := ⟨gb527, _, none⟩) NB491_527.out _).trans (((cell_far (p := ⟨gb527, _, none⟩) NB491_527.out _).trans (hHeld.2.2.2.2.2.2.1)))))))), ((cell_far (p := ⟨gb527, _, none⟩) NB491_527.out _).trans (((cell_far (p := ⟨gb527, _, none⟩) NB491_527.out _).trans (((cell_far (p := ⟨gb527, _, none⟩) NB491_527.out _).trans (((cell_far (p := ⟨gb527, _, none⟩) NB491_527.out _).trans (hHeld.2.2.2.2.2.2.2))))))))⟩ (fun hHeld => ?_)
                        clear hK K
                        refine done_ (done_of HT_.out (by kernel_rfl)) ?_
                        try go_wp2
                        have n0_ : Aside0 (Kd.R k25 25 ((((w104.setCell ⟨gb527, 0, none⟩ (.int .i64 t531)).setCell ⟨gb527, 1, none⟩ (.int .i64 t532)).setCell ⟨gb527, 2, none⟩ (.int .i64 t533)).setCell ⟨gb527, 3, none⟩ (.int .i64 t534)) w.heap.size (fun k_ => k_ ≠ gb490 ∧ k_ ≠ gb491 ∧ k_ ≠ gb506 ∧ k_ ≠ gb527) v529 y528) := ⟨by (with_reducible repeat (first | apply Kd.R_alloc | apply Kd.R_drewN | apply Kd.R_drew)); exact Kd.R_mono (Kd.R_far (p := ⟨gb527, 3, none⟩) (Kd.R_far (p := ⟨gb527, 2, none⟩) (Kd.R_far (p := ⟨gb527, 1, none⟩) (Kd.R_far (p := ⟨gb527, 0, none⟩) (Kd.R_mono HO530.out (fun k_ hk => (⟨hk, hk.2⟩ : _ ∧ k_ ≠ gb527))) (fun _ hk => hk.2) (.int .i64 t531)) (fun _ hk => hk.2) (.int .i64 t532)) (fun _ hk => hk.2) (.int .i64 t533)) (fun _ hk => hk.2) (.int .i64 t534)) (fun _ hk => ⟨hk.1.1.1.1.2, ⟨hk.1.1.1.2, ⟨hk.1.1.2, hk.1.2⟩⟩⟩)⟩
                        have n1_ : Aside0 (((((w104.setCell ⟨gb527, 0, none⟩ (.int .i64 t531)).setCell ⟨gb527, 1, none⟩ (.int .i64 t532)).setCell ⟨gb527, 2, none⟩ (.int .i64 t533)).setCell ⟨gb527, 3, none⟩ (.int .i64 t534)).heap[gb490]? = some (.cells #[.int .i64 a0_0, .int .i64 a0_1, .int .i64 a0_2, .int .i64 a0_3] 25 (0, 0))) := ⟨by (with_reducible repeat (first | refine blk_drewN ?_ _ | refine blk_drew ?_ | refine blk_alloc ?_ _)); refine blk_far ?_ NB490_527.out _; (with_reducible repeat (first | refine blk_drewN ?_ _ | refine blk_drew ?_ | refine blk_alloc ?_ _)); refine blk_far ?_ NB490_527.out _; (with_reducible repeat (first | refine blk_drewN ?_ _ | refine blk_drew ?_ | refine blk_alloc ?_ _)); refine blk_far ?_ NB490_527.out _; (with_reducible repeat (first | refine blk_drewN ?_ _ | refine blk_drew ?_ | refine blk_alloc ?_ _)); refine blk_far ?_ NB490_527.out _; (with_reducible repeat (first | refine blk_drewN ?_ _ | refine blk_drew ?_ | refine blk_alloc ?_ _)); exact BK490.out⟩
                        have n2_ : Aside0 (((((w104.setCell ⟨gb527, 0, none⟩ (.int .i64 t531)).setCell ⟨gb527, 1, none⟩ (.int .i64 t532)).setCell ⟨gb527, 2, none⟩ (.int .i64 t533)).setCell ⟨gb527, 3, none⟩ (.int .i64 t534)).heap[gb491]? = some (.cells #[.int .i64 a1_0, .int .i64 a1_1, .int .i64 a1_2, .int .i64 a1_3] 25 (0, 0))) := ⟨by (with_reducible repeat (first | refine blk_drewN ?_ _ | refine blk_drew ?_ | refine blk_alloc ?_ _)); refine blk_far ?_ NB491_527.out _; (with_reducible repeat (first | refine blk_drewN ?_ _ | refine blk_drew ?_ | refine blk_alloc ?_ _)); refine blk_far ?_ NB491_527.out _; (with_reducible repeat (first | refine blk_drewN ?_ _ | refine blk_drew ?_ | refine blk_alloc ?_ _)); refine blk_far ?_ NB491_527.out _; (with_reducible repeat (first | refine blk_drewN ?_ _ | refine blk_drew ?_ | refine blk_alloc ?_ _)); refine blk_far ?_ NB491_527.out _; (with_reducible repeat (first | refine blk_drewN ?_ _ | refine blk_drew ?_ | refine blk_alloc ?_ _)); exact BK491.out⟩
                        have n3_ : Aside0 (((((w104.setCell ⟨gb527, 0, none⟩ (.int .i64 t531)).setCell ⟨gb527, 1, none⟩ (.int .i64 t532)).setCell ⟨gb527, 2, none⟩ (.int .i64 t533)).setCell ⟨gb527, 3, none⟩ (.int .i64 t534)).heap[gb506]? = some (.cells #[.int .i64 t501, .int .i64 t502, .int .i64 t503, .int .i64 t504] 25 (0, 0))) := ⟨by (with_reducible repeat (first | refine blk_drewN ?_ _ | refine blk_drew ?_ | refine blk_alloc ?_ _)); refine blk_far ?_ NB506_527.out _; (with_reducible repeat (first | refine blk_drewN ?_ _ | refine blk_drew ?_ | refine blk_alloc ?_ _)); refine blk_far ?_ NB506_527.out _; (with_reducible repeat (first | refine blk_drewN ?_ _ | refine blk_drew ?_ | refine blk_alloc ?_ _)); refine blk_far ?_ NB506_527.out _; (with_reducible repeat (first | refine blk_drewN ?_ _ | refine blk_drew ?_ | refine blk_alloc ?_ _)); refine blk_far ?_ NB506_527.out _; (with_reducible repeat (first | refine blk_drewN ?_ _ | refine blk_drew ?_ | refine blk_alloc ?_ _)); exact BK506.out⟩
                        have n4_ : Aside0 (((((w104.setCell ⟨gb527, 0, none⟩ (.int .i64 t531)).setCell ⟨gb527, 1, none⟩ (.int .i64 t532)).setCell ⟨gb527, 2, none⟩ (.int .i64 t533)).setCell ⟨gb527, 3, none⟩ (.int .i64 t534)).heap[gb527]? = some (.cells #[.int .i64 t531, .int .i64 t532, .int .i64 t533, .int .i64 t534] 25 (0, 0))) := ⟨by (with_reducible repeat (first | refine blk_drewN ?_ _ | refine blk_drew ?_ | refine blk_alloc ?_ _)); refine blk_put (cs := #[.int .i64 t531, .int .i64 t532, .int .i64 t533, .int .i64 0]) ?_ 3 _ rfl; (with_reducible repeat (first | refine blk_drewN ?_ _ | refine blk_drew ?_ | refine blk_alloc ?_ _)); refine blk_put (cs := #[.int .i64 t531, .int .i64 t532, .int .i64 0, .int .i64 0]) ?_ 2 _ rfl; (with_reducible repeat (first | refine blk_drewN ?_ _ | refine blk_drew ?_ | refine blk_alloc ?_ _)); refine blk_put (cs := #[.int .i64 t531, .int .i64 0, .int .i64 0, .int .i64 0]) ?_ 1 _ rfl; (with_reducible repeat (first | refine blk_drewN ?_ _ | refine blk_drew ?_ | refine blk_alloc ?_ _)); refine blk_put (cs := #[.int .i64 0, .int .i64 0, .int .i64 0, .int .i64 0]) ?_ 0 _ rfl; (with_reducible repeat (first | refine blk_drewN ?_ _ | refine blk_drew ?_ | refine blk_alloc ?_ _)); exact BK527.out⟩
                        have n5_ : Aside0 (Below w.heap.size w ((((w104.setCell ⟨gb527, 0, none⟩ (.int .i64 t531)).setCell ⟨gb527, 1, none⟩ (.int .i64 t532)).setCell ⟨gb527, 2, none⟩ (.int .i64 t533)).setCell ⟨gb527, 3, none⟩ (.int .i64 t534))) := ⟨bl HB⟩
                        (try clear HO530)
                        (try clear BK490)
                        (try clear BK491)
                        (try clear BK506)
                        (try clear BK527)
                        (try clear HB)
                        generalize ((((w104.setCell ⟨gb527, 0, none⟩ (.int .i64 t531)).setCell ⟨gb527, 1, none⟩ (.int .i64 t532)).setCell ⟨gb527, 2, none⟩ (.int .i64 t533)).setCell ⟨gb527, 3, none⟩ (.int .i64 t534)) = w109 at n0_ n1_ n2_ n3_ n4_ n5_ ⊢
                        have HO530 := n0_
                        have BK490 := n1_
                        have BK491 := n2_
                        have BK506 := n3_
                        have BK527 := n4_
                        have HB := n5_
                        clear n0_ n1_ n2_ n3_ n4_ n5_
                        replace HO530 := Aside0.mk (Kd.R_drew HO530.out)
                        replace BK490 := Aside0.mk (blk_drew BK490.out)
                        replace BK491 := Aside0.mk (blk_drew BK491.out)
                        replace BK506 := Aside0.mk (blk_drew BK506.out)
                        replace BK527 := Aside0.mk (blk_drew BK527.out)
                        replace HB := Aside0.mk (below_drew1 HB.out)
                        refine start_ (n := 6) (S := fun w' => w'.cell? ⟨gb490, 0, none⟩ = some (.int .i64 a0_0) ∧ w'.cell? ⟨gb490, 1, none⟩ = some (.int .i64 a0_1) ∧ w'.cell? ⟨gb490, 2, none⟩ = some (.int .i64 a0_2) ∧ w'.cell? ⟨gb490, 3, none⟩ = some (.int .i64 a0_3) ∧ w'.cell? ⟨gb491, 0, none⟩ = some (.int .i64 a1_0) ∧ w'.cell? ⟨gb491, 1, none⟩ = some (.int .i64 a1_1) ∧ w'.cell? ⟨gb491, 2, none⟩ = some (.int .i64 a1_2) ∧ w'.cell? ⟨gb491, 3, none⟩ = some (.int .i64 a1_3)) (ds := []) #[false, false, false, false, false, false] (by kernel_rfl) rfl rfl (c4 BK490 (e4 BK491)) (fun hHeld => ?_)
                        generalize w109.drew = w110 at HO530 BK490 BK491 BK506 BK527 HB hHeld ⊢
                        refine tk8 0 (some 99) #[true, false, false, false, false, false] (by kernel_rfl) hHeld ?_
                        refine tk8 2 (some 101) #[true, false, true, false, false, false] (by kernel_rfl) hHeld ?_
                        refine one_ (i := 1) (N := some 100) #[true, true, true, false, false, false] rfl rfl (by kernel_rfl) (by decide) (fun K hK => ?_)
                        refine goes_ Try.func10 (by kernel_rfl) rfl #[.agg #[.int .i64 a0_0, .int .i64 a0_1, .int .i64 a0_2, .int .i64 a0_3]] (by rfl) rfl rfl (by (try simp only [List.map_toArray, List.map_cons, List.map_nil]); first | done | rfl | (simp only [List.length_drop, List.length_take]; rfl)) ?_
                        with_reducible refine (bocageref03_One.calls a0_0 a0_1 a0_2 a0_3 t492 _ A99.out).mono ?_
                        rintro e w111 ⟨v536, rfl, ho0, hb⟩
                        refine ⟨_, rfl, ?_⟩
                        have HO537 := Aside0.mk (Kd.R_lower (Kd.R_newB (Kd.R_newB (Kd.R_newB (Kd.R_newB (Kd.R_new' ho0 (Kd.R_lt (kr HO530))) (bk BK490)) (bk BK491)) (bk BK506)) (bk BK527)) (below_size (bl HB)))
                        replace HO530 := Aside0.mk (Kd.R_elder' (kr HO530) (Kd.R_base ho0) hb)
                        replace BK490 := bkb BK490 hb
                        replace BK491 := bkb BK491 hb
                        replace BK506 := bkb BK506 hb
                        replace BK527 := bkb BK527 hb
                        replace HB := bst HB hb
                        (try clear hb)
                        (try clear hb2)
                        (try clear hk)
                        (try clear hi)
                        (try clear ho0)
                        refine hK.out _ _ (c4 BK490 (e4 BK491)) (fun hHeld => ?_)
                        clear hK K
                        refine nrp 100 ?_
                        refine one_ (i := 3) (N := some 102) #[true, true, true, true, false, false] rfl rfl (by kernel_rfl) (by decide) (fun K hK => ?_)
                        refine goes_ Try.func10 (by kernel_rfl) rfl #[.agg #[.int .i64 a1_0, .int .i64 a1_1, .int .i64 a1_2, .int .i64 a1_3]] (by rfl) rfl rfl (by (try simp only [List.map_toArray, List.map_cons, List.map_nil]); first | done | rfl | (simp only [List.length_drop, List.length_take]; rfl)) ?_
                        with_reducible refine (bocageref03_One.calls a1_0 a1_1 a1_2 a1_3 t495 _ A100.out).mono ?_
                        rintro e w112 ⟨v539, rfl, ho0, hb⟩
                        refine ⟨_, rfl, ?_⟩
                        have HO540 := Aside0.mk (Kd.R_lower (Kd.R_newB (Kd.R_newB (Kd.R_newB (Kd.R_newB (Kd.R_new' (Kd.R_new' ho0 (Kd.R_lt (kr HO530))) (Kd.R_lt (kr HO537))) (bk BK490)) (bk BK491)) (bk BK506)) (bk BK527)) (below_size (bl HB)))
                        replace HO530 := Aside0.mk (Kd.R_elder' (kr HO530) (Kd.R_base ho0) hb)
                        replace HO537 := Aside0.mk (Kd.R_elder' (kr HO537) (Kd.R_base ho0) hb)
                        replace BK490 := bkb BK490 hb
                        replace BK491 := bkb BK491 hb
                        replace BK506 := bkb BK506 hb
                        replace BK527 := bkb BK527 hb
                        replace HB := bst HB hb
                        (try clear hb)
                        (try clear hb2)
                        (try clear hk)
                        (try clear hi)
                        (try clear ho0)
                        obtain ⟨Ao113, co113, eo113⟩ := Kd.R_slice HO537.out
                        (first | subst eo113 | (injection eo113 with f1_ f2_ f3_; have f4_ := f1_.symm; have f5_ := f3_.symm; clear f1_ f2_ f3_; subst f4_; subst f5_))
                        obtain ⟨Ao114, co114, eo114⟩ := Kd.R_slice HO540.out
                        (first | subst eo114 | (injection eo114 with f1_ f2_ f3_; have f4_ := f1_.symm; have f5_ := f3_.symm; clear f1_ f2_ f3_; subst f4_; subst f5_))
                        refine hK.out _ _ (c4 BK490 (e4 BK491)) (fun hHeld => ?_)
                        clear hK K
                        refine nrp 102 ?_
                        refine one_ (i := 4) (N := some 103) #[true, true, true, true, true, false] rfl rfl (by kernel_rfl) (by decide) (fun K hK => ?_)
                        refine goes_ Try.func14 (by kernel_rfl) rfl #[.slice Ao113 t492.length co113, .slice Ao114 t495.length co114] (by rfl) rfl rfl (by (try simp only [List.map_toArray, List.map_cons, List.map_nil]); first | done | rfl | (simp only [List.length_drop, List.length_take]; rfl)) ?_
                        with_reducible refine (bocageref03_Minus.calls kj71 _ _ t492 _ _ t495 t541 _ ?side1 ?side2 ?side3 ?side4 A101.out).mono ?_
                        (case side1 => repeat (first | exact (Kd.R_reads' HO537.out).2.2 | (with_reducible refine Kd.C_alloc ?_ _) | (with_reducible refine Kd.C_drewN ?_ _) | (with_reducible refine Kd.C_drew ?_)))
                        (case side2 => exact (Kd.R_reads' HO537.out).2.1)
                        (case side3 => repeat (first | exact (Kd.R_reads' HO540.out).2.2 | (with_reducible refine Kd.C_alloc ?_ _) | (with_reducible refine Kd.C_drewN ?_ _) | (with_reducible refine Kd.C_drew ?_)))
                        (case side4 => exact (Kd.R_reads' HO540.out).2.1)
                        rintro e w115 ⟨v542, rfl, ho0, hb⟩
                        refine ⟨_, rfl, ?_⟩
                        have HO543 := Aside0.mk (Kd.R_lower (Kd.R_newB (Kd.R_newB (Kd.R_newB (Kd.R_newB (Kd.R_new' (Kd.R_new' (Kd.R_new' ho0 (Kd.R_lt (kr HO530))) (Kd.R_lt (kr HO537))) (Kd.R_lt (kr HO540))) (bk BK490)) (bk BK491)) (bk BK506)) (bk BK527)) (below_size (bl HB)))
                        replace HO530 := Aside0.mk (Kd.R_elder' (kr HO530) (Kd.R_base ho0) hb)
                        replace HO537 := Aside0.mk (Kd.R_elder' (kr HO537) (Kd.R_base ho0) hb)
                        replace HO540 := Aside0.mk (Kd.R_elder' (kr HO540) (Kd.R_base ho0) hb)
                        replace BK490 := bkb BK490 hb
                        replace BK491 := bkb BK491 hb
                        replace BK506 := bkb BK506 hb
                        replace BK527 := bkb BK527 hb
                        replace HB := bst HB hb
                        (try clear hb)
                        (try clear hb2)
                        (try clear hk)
                        (try clear hi)
                        (try clear ho0)
                        refine hK.out _ _ (c4 BK490 (e4 BK491)) (fun hHeld => ?_)
                        clear hK K
                        refine nrp 103 ?_
                        refine pu 5 (some 12) #[true, true, true, true, true, true] (by kernel_rfl) ?_
                        refine done_ (by kernel_rfl) ?_
                        try go_wp2
                        go_meet
                        case rel => exact ⟨_, (t541), (t531), (t532), (t533), (t534), H', ⟨by have := HJ6.out; have := HJ37.out; have := HJ58.out; have := HJ71.out; first | omega | exact Nat.le_refl _⟩, ⟨by (with_reducible repeat (first | apply Kd.R_alloc | apply Kd.R_drewN | apply Kd.R_drew)); exact Kd.R_mono HO543.out (fun _ hk => ⟨hk.1.1.1.2, ⟨hk.1.1.2, ⟨hk.1.2, hk.2⟩⟩⟩)⟩, ⟨bk BK490⟩, ⟨bk BK491⟩, ⟨bk BK506⟩, ⟨bk BK527⟩, ⟨bl HB⟩⟩
                      · replace c96 := Bool.eq_false_iff.mpr c96
                        subst c96
                        have H1 : (bocagelaw03_SpanTwo.j4 kj71 x9_58 x10_71 y528 a0_0 a0_1 a0_2 a0_3 a1_0 a1_1 a1_2 a1_3 0 0 0 0) = some r := by rw [if_neg (show ¬ (false = true) by decide)] at H; exact H
                        clear H
                        have H := H1
                        clear H1
                        have H' := Aside0.mk H
                        clear H
                        go_wp2
                        go_meet
                        case rel => exact ⟨_, (y528), (0), (0), (0), (0), H', ⟨by have := HJ6.out; have := HJ37.out; have := HJ58.out; have := HJ71.out; first | omega | exact Nat.le_refl _⟩, ⟨by (with_reducible repeat (first | apply Kd.R_alloc | apply Kd.R_drewN | apply Kd.R_drew)); exact Kd.R_mono HO530.out (fun _ hk => ⟨hk.1.1.1.2, ⟨hk.1.1.2, ⟨hk.1.2, hk.2⟩⟩⟩)⟩, ⟨bk BK490⟩, ⟨bk BK491⟩, ⟨bk BK506⟩, ⟨bk BK527⟩, ⟨bl HB⟩⟩
                    case rest =>
                      clear HC88
                      try clear c1
                      try clear p2
                      try clear c4
                      try clear c5
                      try clear c6
                      try clear c7
                      try clear c8
                      try clear c9
                      try clear c10
                      try clear c13
                      try clear c14
                      try clear c16
                      try clear c17
                      try clear c42
                      try clear c43
                      try clear c51
                      try clear c51b0
                      try clear c58
                      try clear c60
                      try clear c73
                      try clear c74
                      try clear c74b0
                      try clear c74b1
                      try clear c74b2
                      try clear c77
                      try clear c78
                      try clear c80
                      try clear c90
                      try clear c91
                      try clear c92
                      try clear c96
                      try clear hcz79_0
                      try clear hcz79_1
                      try clear hcz79_2
                      try clear hcz79_3
                      try clear hcz81_0
                      try clear hcz81_1
                      try clear hcz81_2
                      try clear hcz81_3
                      try clear hcz93_0
                      try clear hcz93_1
                      try clear hcz93_2
                      try clear hcz93_3
                      try clear hfz79_0
                      try clear hfz79_1
                      try clear hfz79_2
                      try clear hfz79_3
                      try clear hfz81_0
                      try clear hfz81_1
                      try clear hfz81_2
                      try clear hfz81_3
                      try clear hfz93_0
                      try clear hfz93_1
                      try clear hfz93_2
                      try clear hfz93_3
                      try clear p2
                      obtain ⟨kq, x12_87, x528000_87, x528001_87, x528002_87, x528003_87, HA, HJ87, HO_12, BK490, BK491, BK506, BK527, HB⟩ := hcut
                      cases kq with
                      | zero => exact absurd HA.out (by simp [bocagelaw03_SpanTwo.j4])
                      | succ kj87 =>
                        have H := HA.out
                        clear HA
                        simp only [bocagelaw03_SpanTwo.j4] at H
                        replace H := Option.bind_eq_some_iff.mp H
                        obtain ⟨t544, A1160, H⟩ := H
                        (try (set_option simprocs false in dsimp only at H))
                        have A116 := Aside0.mk A1160
                        clear A1160
                        by_cases c117 : t544 = true
                        · subst c117
                          have H1 : ((span_Holds.f kj87 a0_0 a0_1 a0_2 a0_3 a1_0 a1_1 a1_2 a1_3).bind fun t545 => (if (t545 == x9_58) = true then ((span_Touch.f kj87 a0_0 a0_1 a0_2 a0_3 a1_0 a1_1 a1_2 a1_3).bind fun t546 => (if (t546 == x10_71) = true then ((span_Hull.f kj87 a0_0 a0_1 a0_2 a0_3 a1_0 a1_1 a1_2 a1_3).bind fun bt547 => (if ((bt547.1 == x528000_87 && (bt547.2.1 == x528001_87)) && ((bt547.2.2.1 == x528002_87 && (bt547.2.2.2 == x528003_87)))) = true then ((span_Minus.f kj87 a0_0 a0_1 a0_2 a0_3 a1_0 a1_1 a1_2 a1_3).bind fun t551 => ((bocageref03_Same.f kj87 t551 x12_87).bind fun t554 => (some t554))) else (some false))) else (some false))) else (some false))) = some r := by rw [if_pos rfl] at H; exact H
                          clear H
                          have H := H1
                          clear H1
                          replace H := Option.bind_eq_some_iff.mp H
                          obtain ⟨t545, A1180, H⟩ := H
                          (try (set_option simprocs false in dsimp only at H))
                          have A118 := Aside0.mk A1180
                          clear A1180
                          by_cases c119 : (t545 == x9_58) = true
                          · rw [if_pos c119] at H
                            have c119b0 : (t545 == x9_58) = true := c119
                            (try (have c119b1 : decide (t545 = x9_58) = true := by simpa using c119))
                            (try (have c119b2 : (t545 == x9_58) = true := by simpa using c119))
                            clear c119
                            replace H := Option.bind_eq_some_iff.mp H
                            obtain ⟨t546, A1200, H⟩ := H
                            (try (set_option simprocs false in dsimp only at H))
                            have A120 := Aside0.mk A1200
                            clear A1200
                            by_cases c121 : (t546 == x10_71) = true
                            · rw [if_pos c121] at H
                              have c121b0 : (t546 == x10_71) = true := c121
                              (try (have c121b1 : decide (t546 = x10_71) = true := by simpa using c121))
                              (try (have c121b2 : (t546 == x10_71) = true := by simpa using c121))
                              clear c121
                              replace H := Option.bind_eq_some_iff.mp H
                              obtain ⟨⟨t547, t548, t549, t550⟩, A1220, H⟩ := H
                              (try (set_option simprocs false in dsimp only at H))
                              have A122 := Aside0.mk A1220
                              clear A1220
                              by_cases c123 : ((t547 == x528000_87 && (t548 == x528001_87)) && ((t549 == x528002_87 && (t550 == x528003_87)))) = true
                              · rw [if_pos c123] at H
                                have c123b0 : ((t547 == x528000_87 && (t548 == x528001_87)) && ((t549 == x528002_87 && (t550 == x528003_87)))) = true := c123
                                clear c123
                                replace H := Option.bind_eq_some_iff.mp H
                                obtain ⟨t551, A1240, H⟩ := H
                                (try (set_option simprocs false in dsimp only at H))
                                have A124 := Aside0.mk A1240
                                clear A1240
                                replace H := Option.bind_eq_some_iff.mp H
                                obtain ⟨t554, A1250, H⟩ := H
                                (try (set_option simprocs false in dsimp only at H))
                                have A125 := Aside0.mk A1250
                                clear A1250
                                obtain rfl := Option.some.inj H
                                try go_wp2
                                replace HO_12 := Aside0.mk (Kd.R_drew HO_12.out)
                                replace BK490 := Aside0.mk (blk_drew BK490.out)
                                replace BK491 := Aside0.mk (blk_drew BK491.out)
                                replace BK506 := Aside0.mk (blk_drew BK506.out)
                                replace BK527 := Aside0.mk (blk_drew BK527.out)
                                replace HB := Aside0.mk (below_drew1 HB.out)
                                refine start_ (n := 30) (S := fun w' => w'.cell? ⟨gb490, 0, none⟩ = some (.int .i64 a0_0) ∧ w'.cell? ⟨gb490, 1, none⟩ = some (.int .i64 a0_1) ∧ w'.cell? ⟨gb490, 2, none⟩ = some (.int .i64 a0_2) ∧ w'.cell? ⟨gb490, 3, none⟩ = some (.int .i64 a0_3) ∧ w'.cell? ⟨gb491, 0, none⟩ = some (.int .i64 a1_0) ∧ w'.cell? ⟨gb491, 1, none⟩ = some (.int .i64 a1_1) ∧ w'.cell? ⟨gb491, 2, none⟩ = some (.int .i64 a1_2) ∧ w'.cell? ⟨gb491, 3, none⟩ = some (.int .i64 a1_3) ∧ w'.cell? ⟨gb527, 0, none⟩ = some (.int .i64 x528000_87) ∧ w'.cell? ⟨gb527, 1, none⟩ = some (.int .i64 x528001_87) ∧ w'.cell? ⟨gb527, 2, none⟩ = some (.int .i64 x528002_87) ∧ w'.cell? ⟨gb527, 3, none⟩ = some (.int .i64 x528003_87)) (ds := []) #[false, false, false, false, false, false, false, false, false, false, false, false, false, false, false, false, false, false, false, false, false, false, false, false, false, false, false, false, false, false] (by kernel_rfl) rfl rfl (c4 BK490 (c4 BK491 (e4 BK527))) (fun hHeld => ?_); refine with_tabW bocagelaw03_SpanTwo.tab13 bocagelaw03_SpanTwo.bits13 (fun HT_ HW_ => ?_)
                                generalize wc.drew = w126 at HO_12 BK490 BK491 BK506 BK527 HB hHeld ⊢
                                refine one_ (i := 0) (N := some 104) #[true, false, false, false, false, false, false, false, false, false, false, false, false, false, false, false, false, false, false, false, false, false, false, false, false, false, false, false, false, false] rfl rfl (one_of HT_.out (by kernel_rfl)) (by decide) (fun K hK => ?_)
                                refine goes_ Try.func18 (by kernel_rfl) rfl #[] (by rfl) rfl rfl (by (try simp only [List.map_toArray, List.map_cons, List.map_nil]); first | done | rfl | (simp only [List.length_drop, List.length_take]; rfl)) ?_
                                with_reducible refine (bocagelaw03_alive.calls kj87  true _ A116.out rfl).mono ?_
                                rintro e w127 ⟨rfl, hb⟩
                                refine ⟨_, rfl, ?_⟩
                                replace HO_12 := krb HO_12 hb
                                replace BK490 := bkb BK490 hb
                                replace BK491 := bkb BK491 hb
                                replace BK506 := bkb BK506 hb
                                replace BK527 := bkb BK527 hb
                                replace HB := bst HB hb
                                (try clear hb)
                                (try clear hb2)
                                (try clear hk)
                                (try clear hi)
                                refine hK.out _ _ (c4 BK490 (c4 BK491 (e4 BK527))) (fun hHeld => ?_)
                                clear hK K
                                refine nrp 104 ?_
                                refine pw 1 105 HT_ ?_; refine pw 5 109 HT_ ?_; refine tw12 2 106 HT_ HW_ hHeld ?_; refine tw12 3 107 HT_ HW_ hHeld ?_
                                refine one_ (i := 4) (N := some 108) #[true, true, true, true, true, true, false, false, false, false, false, false, false, false, false, false, false, false, false, false, false, false, false, false, false, false, false, false, false, false] rfl rfl (one_of HT_.out (by kernel_rfl)) (by decide) (fun K hK => ?_)
                                refine goes_ Try.func19 (by kernel_rfl) rfl #[.agg #[.int .i64 a0_0, .int .i64 a0_1, .int .i64 a0_2, .int .i64 a0_3], .agg #[.int .i64 a1_0, .int .i64 a1_1, .int .i64 a1_2, .int .i64 a1_3]] (by rfl) rfl rfl (by (try simp only [List.map_toArray, List.map_cons, List.map_nil]); first | done | rfl | (simp only [List.length_drop, List.length_take]; rfl)) ?_
                                with_reducible refine (span_Holds.calls kj87 a0_0 a0_1 a0_2 a0_3 a1_0 a1_1 a1_2 a1_3 t545 _ A118.out).mono ?_
                                rintro e w128 ⟨rfl, hb⟩
                                refine ⟨_, rfl, ?_⟩
                                replace HO_12 := krb HO_12 hb
                                replace BK490 := bkb BK490 hb
                                replace BK491 := bkb BK491 hb
                                replace BK506 := bkb BK506 hb
                                replace BK527 := bkb BK527 hb
                                replace HB := bst HB hb
                                (try clear hb)
                                (try clear hb2)
                                (try clear hk)
                                (try clear hi)
                                refine hK.out _ _ (c4 BK490 (c4 BK491 (e4 BK527))) (fun hHeld => ?_)
                                clear hK K
                                refine nrp 108 ?_
                                refine pw 6 110 HT_ ?_; refine pw 7 111 HT_ ?_; refine pw 8 112 HT_ ?_; refine pw 12 116 HT_ ?_; refine tw12 9 113 HT_ HW_ hHeld ?_; refine tw12 10 114 HT_ HW_ hHeld ?_
                                refine one_ (i := 11) (N := some 115) #[true, true, true, true, true, true, true, true, true, true, true, true, true, false, false, false, false, false, false, false, false, false, false, false, false, false, false, false, false, false] rfl rfl (one_of HT_.out (by kernel_rfl)) (by decide) (fun K hK => ?_)
                                refine goes_ Try.func20 (by kernel_rfl) rfl #[.agg #[.int .i64 a0_0, .int .i64 a0_1, .int .i64 a0_2, .int .i64 a0_3], .agg #[.int .i64 a1_0, .int .i64 a1_1, .int .i64 a1_2, .int .i64 a1_3]] (by rfl) rfl rfl (by (try simp only [List.map_toArray, List.map_cons, List.map_nil]); first | done | rfl | (simp only [List.length_drop, List.length_take]; rfl)) ?_
                                with_reducible refine (span_Touch.calls kj87 a0_0 a0_1 a0_2 a0_3 a1_0 a1_1 a1_2 a1_3 t546 _ A120.out).mono ?_
                                rintro e w129 ⟨rfl, hb⟩
                                refine ⟨_, rfl, ?_⟩
                                replace HO_12 := krb HO_12 hb
                                replace BK490 := bkb BK490 hb
                                replace BK491 := bkb BK491 hb
                                replace BK506 := bkb BK506 hb
                                replace BK527 := bkb BK527 hb
                                replace HB := bst HB hb
                                (try clear hb)
                                (try clear hb2)
                                (try clear hk)
                                (try clear hi)
                                refine hK.out _ _ (c4 BK490 (c4 BK491 (e4 BK527))) (fun hHeld => ?_)
                                clear hK K
                                refine nrp 115 ?_
                                refine pw 13 117 HT_ ?_; refine pw 14 118 HT_ ?_; refine pw 15 119 HT_ ?_; refine tw12 16 120 HT_ HW_ hHeld ?_; refine tw12 17 121 HT_ HW_ hHeld ?_; refine tw12 19 123 HT_ HW_ hHeld ?_
                                refine one_ (i := 18) (N := some 122) #[true, true, true, true, true, true, true, true, true, true, true, true, true, true, true, true, true, true, true, true, false, false, false, false, false, false, false, false, false, false] rfl rfl (one_of HT_.out (by kernel_rfl)) (by decide) (fun K hK => ?_)
                                refine goes_ Try.func21 (by kernel_rfl) rfl #[.agg #[.int .i64 a0_0, .int .i64 a0_1, .int .i64 a0_2, .int .i64 a0_3], .agg #[.int .i64 a1_0, .int .i64 a1_1, .int .i64 a1_2, .int .i64 a1_3]] (by rfl) rfl rfl (by (try simp only [List.map_toArray, List.map_cons, List.map_nil]); first | done | rfl | (simp only [List.length_drop, List.length_take]; rfl)) ?_
                                with_reducible refine (span_Hull.calls kj87 a0_0 a0_1 a0_2 a0_3 a1_0 a1_1 a1_2 a1_3 t547 t548 t549 t550 _ A122.out).mono ?_
                                rintro e w130 ⟨rfl, hb⟩
                                refine ⟨_, rfl, ?_⟩
                                replace HO_12 := krb HO_12 hb
                                replace BK490 := bkb BK490 hb
                                replace BK491 := bkb BK491 hb
                                replace BK506 := bkb BK506 hb
                                replace BK527 := bkb BK527 hb
                                replace HB := bst HB hb
                                (try clear hb)
                                (try clear hb2)
                                (try clear hk)
                                (try clear hi)
                                refine hK.out _ _ (c4 BK490 (c4 BK491 (e4 BK527))) (fun hHeld => ?_)
                                clear hK K
                                refine nrp 122 ?_
                                refine pw 20 124 HT_ ?_; refine pw 21 125 HT_ ?_; refine pw 22 126 HT_ ?_; refine pw 26 130 HT_ ?_; refine tw12 23 127 HT_ HW_ hHeld ?_; refine tw12 24 128 HT_ HW_ hHeld ?_
                                refine one_ (i := 25) (N := some 129) #[true, true, true, true, true, true, true, true, true, true, true, true, true, true, true, true, true, true, true, true, true, true, true, true, true, true, true, false, false, false] rfl rfl (one_of HT_.out (by kernel_rfl)) (by decide) (fun K hK => ?_)
                                refine goes_ Try.func23 (by kernel_rfl) rfl #[.agg #[.int .i64 a0_0, .int .i64 a0_1, .int .i64 a0_2, .int .i64 a0_3], .agg #[.int .i64 a1_0, .int .i64 a1_1, .int .i64 a1_2, .int .i64 a1_3]] (by rfl) rfl rfl (by (try simp only [List.map_toArray, List.map_cons, List.map_nil]); first | done | rfl | (simp only [List.length_drop, List.length_take]; rfl)) ?_
                                with_reducible refine (span_Minus.calls kj87 a0_0 a0_1 a0_2 a0_3 a1_0 a1_1 a1_2 a1_3 t551 _ A124.out).mono ?_
                                rintro e w131 ⟨v552, rfl, ho0, hb⟩
                                refine ⟨_, rfl, ?_⟩
                                have HO553 := Aside0.mk (Kd.R_lower (Kd.R_newB (Kd.R_newB (Kd.R_newB (Kd.R_newB (Kd.R_new' ho0 (Kd.R_lt (kr HO_12))) (bk BK490)) (bk BK491)) (bk BK506)) (bk BK527)) (below_size (bl HB)))
                                replace HO_12 := Aside0.mk (Kd.R_elder' (kr HO_12) (Kd.R_base ho0) hb)
                                replace BK490 := bkb BK490 hb
                                replace BK491 := bkb BK491 hb
                                replace BK506 := bkb BK506 hb
                                replace BK527 := bkb BK527 hb
                                replace HB := bst HB hb
                                (try clear hb)
                                (try clear hb2)
                                (try clear hk)
                                (try clear hi)
                                (try clear ho0)
                                obtain ⟨Ao132, co132, eo132⟩ := Kd.R_slice HO553.out
                                (first | subst eo132 | (injection eo132 with f1_ f2_ f3_; have f4_ := f1_.symm; have f5_ := f3_.symm; clear f1_ f2_ f3_; subst f4_; subst f5_))
                                obtain ⟨Ao133, co133, eo133⟩ := Kd.R_slice HO_12.out
                                (first | subst eo133 | (injection eo133 with f1_ f2_ f3_; have f4_ := f1_.symm; have f5_ := f3_.symm; clear f1_ f2_ f3_; subst f4_; subst f5_))
                                refine hK.out _ _ (c4 BK490 (c4 BK491 (e4 BK527))) (fun hHeld => ?_)
                                clear hK K
                                refine nrp 129 ?_
                                refine one_ (i := 27) (N := some 131) #[true, true, true, true, true, true, true, true, true, true, true, true, true, true, true, true, true, true, true, true, true, true, true, true, true, true, true, true, false, false] rfl rfl (one_of HT_.out (by kernel_rfl)) (by decide) (fun K hK => ?_)
                                refine goes_ Try.func22 (by kernel_rfl) rfl #[.slice Ao132 t551.length co132, .slice Ao133 x12_87.length co133] (by rfl) rfl rfl (by (try simp only [List.map_toArray, List.map_cons, List.map_nil]); first | done | rfl | (simp only [List.length_drop, List.length_take]; rfl)) ?_
                                with_reducible refine (bocageref03_Same.calls kj87 _ _ t551 _ _ x12_87 t554 _ ?side1 ?side2 ?side3 ?side4 A125.out).mono ?_
                                (case side1 => repeat (first | exact (Kd.R_reads' HO553.out).2.2 | (with_reducible refine Kd.C_alloc ?_ _) | (with_reducible refine Kd.C_drewN ?_ _) | (with_reducible refine Kd.C_drew ?_)))
                                (case side2 => exact (Kd.R_reads' HO553.out).2.1)
                                (case side3 => repeat (first | exact (Kd.R_reads' HO_12.out).2.2 | (with_reducible refine Kd.C_alloc ?_ _) | (with_reducible refine Kd.C_drewN ?_ _) | (with_reducible refine Kd.C_drew ?_)))
                                (case side4 => exact (Kd.R_reads' HO_12.out).2.1)
                                rintro e w' ⟨rfl, ⟨nd, rfl⟩⟩
                                refine ⟨_, rfl, ?_⟩
                                refine hK.out _ _ (c4 BK490 (c4 BK491 (e4 BK527))) (fun hHeld => ?_)
                                clear hK K
                                refine nrp 131 ?_
                                refine pw 28 132 HT_ ?_; refine pw 29 4 HT_ ?_
                                refine done_ (done_of HT_.out (by kernel_rfl)) ?_
                                try go_wp2
                                go_ret
                                exact endB HB
                              · rw [if_neg c123] at H
                                exact absurd ((Option.some.inj H).trans HRT.out) Bool.false_ne_true
                            · rw [if_neg c121] at H
                              exact absurd ((Option.some.inj H).trans HRT.out) Bool.false_ne_true
                          · rw [if_neg c119] at H
                            exact absurd ((Option.some.inj H).trans HRT.out) Bool.false_ne_true
                        · replace c117 := Bool.eq_false_iff.mpr c117
                          subst c117
                          have H1 : (some false) = some r := by rw [if_neg (show ¬ (false = true) by decide)] at H; exact H
                          exact absurd ((Option.some.inj H1).trans HRT.out) Bool.false_ne_true
end Go.Proofs.Ytkkbmjfhpngalaa.Print
