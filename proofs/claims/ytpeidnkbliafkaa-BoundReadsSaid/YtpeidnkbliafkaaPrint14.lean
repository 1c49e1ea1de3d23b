-- Laid by wip/print/bprint.py of this repo, over the kit's printer, with functions given by hand; not trusted: Lean checks it.
import Derived.Test.YtpeidnkbliafkaaHBnd2
import Derived.Test.YtpeidnkbliafkaaHBnd4
import Derived.Test.YtpeidnkbliafkaaPrint0
import Derived.Test.YtpeidnkbliafkaaPrint13
import Derived.Test.YtpeidnkbliafkaaPrint6
import Derived.Test.YtpeidnkbliafkaaSh
namespace Go.Proofs.Ytpeidnkbliafkaa.Print
open Go.RowKit Go.Proofs.YtpeidnkbliafkaaW.PrintWords Go.Proofs.YtpeidnkbliafkaaW.PrintLast Go.Proofs.YtpeidnkbliafkaaW.PrintMore
attribute [local go_sem] max2_int min2_int max_two min_two max_three min_three max_four min_four   -- for this text's walks alone
set_option linter.unusedVariables false
set_option linter.unusedSimpArgs false
/-! ### bocageref04_read: function 42 -/
mutual
def bocageref04_read.j0 : Nat → ByteArray → Bool → Bool → Bool → Int → Int → Int → Int → Option (Int × Int × Int × Int × Int × Int)
 | 0, _, _, _, _, _, _, _, _ => none
 | k + 1, x0, x1, x8, x27, x474000, x474001, x474002, x474003 => if x27 = true then (some (x474000, x474001, x474002, x474003, 0, 40)) else ((bocageref04_blanks.f k x0 1 x1).bind fun t476 => ((bocageref04_end.f k x0 t476 (⟨#[45, 105, 110, 102]⟩ : ByteArray) x1).bind fun bt477 => (if x1 = true then (bocageref04_read.j1 k x0 x1 x8 t476 bt477.2.2 false x474000 x474001 x474002 x474003 bt477.1 bt477.2.1) else ((bocageref04_is.f x0 t476 (⟨#[45, 105, 110, 102]⟩ : ByteArray)).bind fun t481 => (bocageref04_read.j1 k x0 x1 x8 t476 bt477.2.2 (x8 != t481) x474000 x474001 x474002 x474003 bt477.1 bt477.2.1)))))
def bocageref04_read.j1 : Nat → ByteArray → Bool → Bool → Int → Int → Bool → Int → Int → Int → Int → Int → Int → Option (Int × Int × Int × Int × Int × Int)
 | 0, _, _, _, _, _, _, _, _, _, _, _, _ => none
 | k + 1, x0, x1, x8, x9, x11, x47, x474000, x474001, x474002, x474003, x481000, x481001 => if x47 = true then (bocageref04_read.j2 k x0 x1 x8 x9 (-1) x474000 x474001 x474002 x474003 x481000 x481001) else (bocageref04_read.j2 k x0 x1 x8 x9 x11 x474000 x474001 x474002 x474003 x481000 x481001)
def bocageref04_read.j2 : Nat → ByteArray → Bool → Bool → Int → Int → Int → Int → Int → Int → Int → Int → Option (Int × Int × Int × Int × Int × Int)
 | 0, _, _, _, _, _, _, _, _, _, _, _ => none
 | k + 1, x0, x1, x8, x9, x11, x474000, x474001, x474002, x474003, x481000, x481001 => if x11 < 0 then (some (x474000, x474001, x474002, x474003, x9, 40)) else (if x481000 = 1 then (bocageref04_read.j3 k x0 x1 x11 (!x8) x474000 x474001 x474002 x474003 x481000 x481001) else (bocageref04_read.j3 k x0 x1 x11 false x474000 x474001 x474002 x474003 x481000 x481001))
def bocageref04_read.j3 : Nat → ByteArray → Bool → Int → Bool → Int → Int → Int → Int → Int → Int → Option (Int × Int × Int × Int × Int × Int)
 | 0, _, _, _, _, _, _, _, _, _, _ => none
 | k + 1, x0, x1, x11, x58, x474000, x474001, x474002, x474003, x481000, x481001 => if x58 = true then (bocageref04_read.j4 k x0 x1 x11 x474000 x474001 x474002 x474003 2 x481001) else (bocageref04_read.j4 k x0 x1 x11 x474000 x474001 x474002 x474003 x481000 x481001)
def bocageref04_read.j4 : Nat → ByteArray → Bool → Int → Int → Int → Int → Int → Int → Int → Option (Int × Int × Int × Int × Int × Int)
 | 0, _, _, _, _, _, _, _, _, _ => none
 | k + 1, x0, x1, x11, x474000, x474001, x474002, x474003, x481000, x481001 => (bocageref04_blanks.f k x0 x11 x1).bind fun t482 => ((bocageref04_is.f x0 t482 (⟨#[44]⟩ : ByteArray)).bind fun t483 => (if t483 = true then ((bocageref04_blanks.f k x0 (wrap64 (t482 + 1)) x1).bind fun t484 => ((bocageref04_end.f k x0 t484 (⟨#[43, 105, 110, 102]⟩ : ByteArray) x1).bind fun bt485 => (if bt485.2.2 < 0 then (some (x474000, x474001, x474002, x474003, t484, 40)) else ((bocageref04_blanks.f k x0 bt485.2.2 x1).bind fun t489 => (if x1 = true then ((bocageref04_is.f x0 t489 (⟨#[93]⟩ : ByteArray)).bind fun t490 => (bocageref04_read.j5 k x0 t489 t484 t490 x474000 x474001 x474002 x474003 x481000 x481001 bt485.1 bt485.2.1)) else (bocageref04_read.j5 k x0 t489 t484 false x474000 x474001 x474002 x474003 x481000 x481001 bt485.1 bt485.2.1)))))) else (some (x474000, x474001, x474002, x474003, t482, 40))))
def bocageref04_read.j5 : Nat → ByteArray → Int → Int → Bool → Int → Int → Int → Int → Int → Int → Int → Int → Option (Int × Int × Int × Int × Int × Int)
 | 0, _, _, _, _, _, _, _, _, _, _, _, _ => none
 | k + 1, x0, x9, x12, x15, x474000, x474001, x474002, x474003, x481000, x481001, x489000, x489001 => if x15 = true then (bocageref04_read.j6 k x9 x12 x15 false x474000 x474001 x474002 x474003 x481000 x481001 x489000 x489001) else ((bocageref04_is.f x0 x9 (⟨#[41]⟩ : ByteArray)).bind fun t491 => (bocageref04_read.j6 k x9 x12 x15 (!t491) x474000 x474001 x474002 x474003 x481000 x481001 x489000 x489001))
def bocageref04_read.j6 : Nat → Int → Int → Bool → Bool → Int → Int → Int → Int → Int → Int → Int → Int → Option (Int × Int × Int × Int × Int × Int)
 | 0, _, _, _, _, _, _, _, _, _, _, _, _ => none
 | k + 1, x9, x12, x15, x104, x474000, x474001, x474002, x474003, x481000, x481001, x489000, x489001 => if x104 = true then (some (x474000, x474001, x474002, x474003, x9, 40)) else (if x489000 = 1 then (bocageref04_read.j7 k x9 x12 x15 x474000 x474001 x474002 x474003 x481000 x481001 x489000 x489001) else (bocageref04_read.j7 k x9 x12 false x474000 x474001 x474002 x474003 x481000 x481001 x489000 x489001))
def bocageref04_read.j7 : Nat → Int → Int → Bool → Int → Int → Int → Int → Int → Int → Int → Int → Option (Int × Int × Int × Int × Int × Int)
 | 0, _, _, _, _, _, _, _, _, _, _, _ => none
 | k + 1, x9, x12, x112, x474000, x474001, x474002, x474003, x481000, x481001, x489000, x489001 => if x112 = true then ((bocageref04_Span.f k x481000 x481001 2 x489001).bind fun bt492 => (if bt492.2.2.2.2 = 0 then (some (bt492.1, bt492.2.1, bt492.2.2.1, bt492.2.2.2.1, wrap64 (x9 + 1), 0)) else (some (x474000, x474001, x474002, x474003, x12, bt492.2.2.2.2)))) else ((bocageref04_Span.f k x481000 x481001 x489000 x489001).bind fun bt498 => (if bt498.2.2.2.2 = 0 then (some (bt498.1, bt498.2.1, bt498.2.2.1, bt498.2.2.2.1, wrap64 (x9 + 1), 0)) else (some (x474000, x474001, x474002, x474003, x12, bt498.2.2.2.2))))
end
def bocageref04_read.f (k : Nat) (a0 : ByteArray) (a1 : Bool) : Option (Int × Int × Int × Int × Int × Int) := (bocageref04_is.f a0 0 (⟨#[40]⟩ : ByteArray)).bind fun t474 => (if t474 = true then (bocageref04_read.j0 k a0 a1 t474 false 0 0 0 0) else ((bocageref04_is.f a0 0 (⟨#[91]⟩ : ByteArray)).bind fun t475 => (bocageref04_read.j0 k a0 a1 t474 (!t475) 0 0 0 0)))
theorem bocageref04_read.mono_l : ∀ k, (∀ y0 y1 y2 y3 y4 y5 y6 y7, LeO (bocageref04_read.j0 k y0 y1 y2 y3 y4 y5 y6 y7) (bocageref04_read.j0 (k + 1) y0 y1 y2 y3 y4 y5 y6 y7)) ∧ (∀ y0 y1 y2 y3 y4 y5 y6 y7 y8 y9 y10 y11, LeO (bocageref04_read.j1 k y0 y1 y2 y3 y4 y5 y6 y7 y8 y9 y10 y11) (bocageref04_read.j1 (k + 1) y0 y1 y2 y3 y4 y5 y6 y7 y8 y9 y10 y11)) ∧ (∀ y0 y1 y2 y3 y4 y5 y6 y7 y8 y9 y10, LeO (bocageref04_read.j2 k y0 y1 y2 y3 y4 y5 y6 y7 y8 y9 y10) (bocageref04_read.j2 (k + 1) y0 y1 y2 y3 y4 y5 y6 y7 y8 y9 y10)) ∧ (∀ y0 y1 y2 y3 y4 y5 y6 y7 y8 y9, LeO (bocageref04_read.j3 k y0 y1 y2 y3 y4 y5 y6 y7 y8 y9) (bocageref04_read.j3 (k + 1) y0 y1 y2 y3 y4 y5 y6 y7 y8 y9)) ∧ (∀ y0 y1 y2 y3 y4 y5 y6 y7 y8, LeO (bocageref04_read.j4 k y0 y1 y2 y3 y4 y5 y6 y7 y8) (bocageref04_read.j4 (k + 1) y0 y1 y2 y3 y4 y5 y6 y7 y8)) ∧ (∀ y0 y1 y2 y3 y4 y5 y6 y7 y8 y9 y10 y11, LeO (bocageref04_read.j5 k y0 y1 y2 y3 y4 y5 y6 y7 y8 y9 y10 y11) (bocageref04_read.j5 (k + 1) y0 y1 y2 y3 y4 y5 y6 y7 y8 y9 y10 y11)) ∧ (∀ y0 y1 y2 y3 y4 y5 y6 y7 y8 y9 y10 y11, LeO (bocageref04_read.j6 k y0 y1 y2 y3 y4 y5 y6 y7 y8 y9 y10 y11) (bocageref04_read.j6 (k + 1) y0 y1 y2 y3 y4 y5 y6 y7 y8 y9 y10 y11)) ∧ (∀ y0 y1 y2 y3 y4 y5 y6 y7 y8 y9 y10, LeO (bocageref04_read.j7 k y0 y1 y2 y3 y4 y5 y6 y7 y8 y9 y10) (bocageref04_read.j7 (k + 1) y0 y1 y2 y3 y4 y5 y6 y7 y8 y9 y10))
 | 0 => ⟨fun _ _ _ _ _ _ _ _ r h => by simp [bocageref04_read.j0] at h, fun _ _ _ _ _ _ _ _ _ _ _ _ r h => by simp [bocageref04_read.j1] at h, fun _ _ _ _ _ _ _ _ _ _ _ r h => by simp [bocageref04_read.j2] at h, fun _ _ _ _ _ _ _ _ _ _ r h => by simp [bocageref04_read.j3] at h, fun _ _ _ _ _ _ _ _ _ r h => by simp [bocageref04_read.j4] at h, fun _ _ _ _ _ _ _ _ _ _ _ _ r h => by simp [bocageref04_read.j5] at h, fun _ _ _ _ _ _ _ _ _ _ _ _ r h => by simp [bocageref04_read.j6] at h, fun _ _ _ _ _ _ _ _ _ _ _ r h => by simp [bocageref04_read.j7] at h⟩
 | k + 1 => by
  obtain ⟨ih0, ih1, ih2, ih3, ih4, ih5, ih6, ih7⟩ := bocageref04_read.mono_l k
  refine ⟨?_, ?_, ?_, ?_, ?_, ?_, ?_, ?_⟩
  ·intro y0 y1 y2 y3 y4 y5 y6 y7
   unfold bocageref04_read.j0
   repeat' first
   | (with_reducible exact ih0 _ _ _ _ _ _ _ _)
   | (with_reducible exact ih1 _ _ _ _ _ _ _ _ _ _ _ _)
   | (with_reducible exact ih2 _ _ _ _ _ _ _ _ _ _ _)
   | (with_reducible exact ih3 _ _ _ _ _ _ _ _ _ _)
   | (with_reducible exact ih4 _ _ _ _ _ _ _ _ _)
   | (with_reducible exact ih5 _ _ _ _ _ _ _ _ _ _ _ _)
   | (with_reducible exact ih6 _ _ _ _ _ _ _ _ _ _ _ _)
   | (with_reducible exact ih7 _ _ _ _ _ _ _ _ _ _ _)
   | (with_reducible exact bocageref04_Span.mono _ _ _ _ _)
   | (with_reducible exact bocageref04_blanks.mono _ _ _ _)
   | (with_reducible exact bocageref04_end.mono _ _ _ _ _)
   | (with_reducible exact LeO.refl _)
   | (with_reducible exact LeO.none _)
   | (with_reducible refine LeO.ite ?_ ?_)
   | (with_reducible refine LeO.bind ?_ (fun _ => ?_))
   | exact ih0 _ _ _ _ _ _ _ _
   | exact ih1 _ _ _ _ _ _ _ _ _ _ _ _
   | exact ih2 _ _ _ _ _ _ _ _ _ _ _
   | exact ih3 _ _ _ _ _ _ _ _ _ _
   | exact ih4 _ _ _ _ _ _ _ _ _
   | exact ih5 _ _ _ _ _ _ _ _ _ _ _ _
   | exact ih6 _ _ _ _ _ _ _ _ _ _ _ _
   | exact ih7 _ _ _ _ _ _ _ _ _ _ _
   | exact bocageref04_Span.mono _ _ _ _ _
   | exact bocageref04_blanks.mono _ _ _ _
   | exact bocageref04_end.mono _ _ _ _ _
   | exact LeO.none _
   | refine LeO.ite ?_ ?_
   | refine LeO.bind ?_ (fun _ => ?_)
  ·intro y0 y1 y2 y3 y4 y5 y6 y7 y8 y9 y10 y11
   unfold bocageref04_read.j1
   repeat' first
   | (with_reducible exact ih0 _ _ _ _ _ _ _ _)
   | (with_reducible exact ih1 _ _ _ _ _ _ _ _ _ _ _ _)
   | (with_reducible exact ih2 _ _ _ _ _ _ _ _ _ _ _)
   | (with_reducible exact ih3 _ _ _ _ _ _ _ _ _ _)
   | (with_reducible exact ih4 _ _ _ _ _ _ _ _ _)
   | (with_reducible exact ih5 _ _ _ _ _ _ _ _ _ _ _ _)
   | (with_reducible exact ih6 _ _ _ _ _ _ _ _ _ _ _ _)
   | (with_reducible exact ih7 _ _ _ _ _ _ _ _ _ _ _)
   | (with_reducible exact bocageref04_Span.mono _ _ _ _ _)
   | (with_reducible exact bocageref04_blanks.mono _ _ _ _)
   | (with_reducible exact bocageref04_end.mono _ _ _ _ _)
   | (with_reducible exact LeO.refl _)
   | (with_reducible exact LeO.none _)
   | (with_reducible refine LeO.ite ?_ ?_)
   | (with_reducible refine LeO.bind ?_ (fun _ => ?_))
   | exact ih0 _ _ _ _ _ _ _ _
   | exact ih1 _ _ _ _ _ _ _ _ _ _ _ _
   | exact ih2 _ _ _ _ _ _ _ _ _ _ _
   | exact ih3 _ _ _ _ _ _ _ _ _ _
   | exact ih4 _ _ _ _ _ _ _ _ _
   | exact ih5 _ _ _ _ _ _ _ _ _ _ _ _
   | exact ih6 _ _ _ _ _ _ _ _ _ _ _ _
   | exact ih7 _ _ _ _ _ _ _ _ _ _ _
   | exact bocageref04_Span.mono _ _ _ _ _
   | exact bocageref04_blanks.mono _ _ _ _
   | exact bocageref04_end.mono _ _ _ _ _
   | exact LeO.none _
   | refine LeO.ite ?_ ?_
   | refine LeO.bind ?_ (fun _ => ?_)
  ·intro y0 y1 y2 y3 y4 y5 y6 y7 y8 y9 y10
   unfold bocageref04_read.j2
   repeat' first
   | (with_reducible exact ih0 _ _ _ _ _ _ _ _)
   | (with_reducible exact ih1 _ _ _ _ _ _ _ _ _ _ _ _)
   | (with_reducible exact ih2 _ _ _ _ _ _ _ _ _ _ _)
   | (with_reducible exact ih3 _ _ _ _ _ _ _ _ _ _)
   | (with_reducible exact ih4 _ _ _ _ _ _ _ _ _)
   | (with_reducible exact ih5 _ _ _ _ _ _ _ _ _ _ _ _)
   | (with_reducible exact ih6 _ _ _ _ _ _ _ _ _ _ _ _)
   | (with_reducible exact ih7 _ _ _ _ _ _ _ _ _ _ _)
   | (with_reducible exact bocageref04_Span.mono _ _ _ _ _)
   | (with_reducible exact bocageref04_blanks.mono _ _ _ _)
   | (with_reducible exact bocageref04_end.mono _ _ _ _ _)
   | (with_reducible exact LeO.refl _)
   | (with_reducible exact LeO.none _)
   | (with_reducible refine LeO.ite ?_ ?_)
   | (with_reducible refine LeO.bind ?_ (fun _ => ?_))
   | exact ih0 _ _ _ _ _ _ _ _
   | exact ih1 _ _ _ _ _ _ _ _ _ _ _ _
   | exact ih2 _ _ _ _ _ _ _ _ _ _ _
   | exact ih3 _ _ _ _ _ _ _ _ _ _
   | exact ih4 _ _ _ _ _ _ _ _ _
   | exact ih5 _ _ _ _ _ _ _ _ _ _ _ _
   | exact ih6 _ _ _ _ _ _ _ _ _ _ _ _
   | exact ih7 _ _ _ _ _ _ _ _ _ _ _
   | exact bocageref04_Span.mono _ _ _ _ _
   | exact bocageref04_blanks.mono _ _ _ _
   | exact bocageref04_end.mono _ _ _ _ _
   | exact LeO.none _
   | refine LeO.ite ?_ ?_
   | refine LeO.bind ?_ (fun _ => ?_)
  ·intro y0 y1 y2 y3 y4 y5 y6 y7 y8 y9
   unfold bocageref04_read.j3
   repeat' first
   | (with_reducible exact ih0 _ _ _ _ _ _ _ _)
   | (with_reducible exact ih1 _ _ _ _ _ _ _ _ _ _ _ _)
   | (with_reducible exact ih2 _ _ _ _ _ _ _ _ _ _ _)
   | (with_reducible exact ih3 _ _ _ _ _ _ _ _ _ _)
   | (with_reducible exact ih4 _ _ _ _ _ _ _ _ _)
   | (with_reducible exact ih5 _ _ _ _ _ _ _ _ _ _ _ _)
   | (with_reducible exact ih6 _ _ _ _ _ _ _ _ _ _ _ _)
   | (with_reducible exact ih7 _ _ _ _ _ _ _ _ _ _ _)
   | (with_reducible exact bocageref04_Span.mono _ _ _ _ _)
   | (with_reducible exact bocageref04_blanks.mono _ _ _ _)
   | (with_reducible exact bocageref04_end.mono _ _ _ _ _)
   | (with_reducible exact LeO.refl _)
   | (with_reducible exact LeO.none _)
   | (with_reducible refine LeO.ite ?_ ?_)
   | (with_reducible refine LeO.bind ?_ (fun _ => ?_))
   | exact ih0 _ _ _ _ _ _ _ _
   | exact ih1 _ _ _ _ _ _ _ _ _ _ _ _
   | exact ih2 _ _ _ _ _ _ _ _ _ _ _
   | exact ih3 _ _ _ _ _ _ _ _ _ _
   | exact ih4 _ _ _ _ _ _ _ _ _
   | exact ih5 _ _ _ _ _ _ _ _ _ _ _ _
   | exact ih6 _ _ _ _ _ _ _ _ _ _ _ _
   | exact ih7 _ _ _ _ _ _ _ _ _ _ _
   | exact bocageref04_Span.mono _ _ _ _ _
   | exact bocageref04_blanks.mono _ _ _ _
   | exact bocageref04_end.mono _ _ _ _ _
   | exact LeO.none _
   | refine LeO.ite ?_ ?_
   | refine LeO.bind ?_ (fun _ => ?_)
  ·intro y0 y1 y2 y3 y4 y5 y6 y7 y8
   unfold bocageref04_read.j4
   repeat' first
   | (with_reducible exact ih0 _ _ _ _ _ _ _ _)
   | (with_reducible exact ih1 _ _ _ _ _ _ _ _ _ _ _ _)
   | (with_reducible exact ih2 _ _ _ _ _ _ _ _ _ _ _)
   | (with_reducible exact ih3 _ _ _ _ _ _ _ _ _ _)
   | (with_reducible exact ih4 _ _ _ _ _ _ _ _ _)
   | (with_reducible exact ih5 _ _ _ _ _ _ _ _ _ _ _ _)
   | (with_reducible exact ih6 _ _ _ _ _ _ _ _ _ _ _ _)
   | (with_reducible exact ih7 _ _ _ _ _ _ _ _ _ _ _)
   | (with_reducible exact bocageref04_Span.mono _ _ _ _ _)
   | (with_reducible exact bocageref04_blanks.mono _ _ _ _)
   | (with_reducible exact bocageref04_end.mono _ _ _ _ _)
   | (with_reducible exact LeO.refl _)
   | (with_reducible exact LeO.none _)
   | (with_reducible refine LeO.ite ?_ ?_)
   | (with_reducible refine LeO.bind ?_ (fun _ => ?_))
   | exact ih0 _ _ _ _ _ _ _ _
   | exact ih1 _ _ _ _ _ _ _ _ _ _ _ _
   | exact ih2 _ _ _ _ _ _ _ _ _ _ _
   | exact ih3 _ _ _ _ _ _ _ _ _ _
   | exact ih4 _ _ _ _ _ _ _ _ _
   | exact ih5 _ _ _ _ _ _ _ _ _ _ _ _
   | exact ih6 _ _ _ _ _ _ _ _ _ _ _ _
   | exact ih7 _ _ _ _ _ _ _ _ _ _ _
   | exact bocageref04_Span.mono _ _ _ _ _
   | exact bocageref04_blanks.mono _ _ _ _
   | exact bocageref04_end.mono _ _ _ _ _
   | exact LeO.none _
   | refine LeO.ite ?_ ?_
   | refine LeO.bind ?_ (fun _ => ?_)
  ·intro y0 y1 y2 y3 y4 y5 y6 y7 y8 y9 y10 y11
   unfold bocageref04_read.j5
   repeat' first
   | (with_reducible exact ih0 _ _ _ _ _ _ _ _)
   | (with_reducible exact ih1 _ _ _ _ _ _ _ _ _ _ _ _)
   | (with_reducible exact ih2 _ _ _ _ _ _ _ _ _ _ _)
   | (with_reducible exact ih3 _ _ _ _ _ _ _ _ _ _)
   | (with_reducible exact ih4 _ _ _ _ _ _ _ _ _)
   | (with_reducible exact ih5 _ _ _ _ _ _ _ _ _ _ _ _)
   | (with_reducible exact ih6 _ _ _ _ _ _ _ _ _ _ _ _)
   | (with_reducible exact ih7 _ _ _ _ _ _ _ _ _ _ _)
   | (with_reducible exact bocageref04_Span.mono _ _ _ _ _)
   | (with_reducible exact bocageref04_blanks.mono _ _ _ _)
   | (with_reducible exact bocageref04_end.mono _ _ _ _ _)
   | (with_reducible exact LeO.refl _)
   | (with_reducible exact LeO.none _)
   | (with_reducible refine LeO.ite ?_ ?_)
   | (with_reducible refine LeO.bind ?_ (fun _ => ?_))
   | exact ih0 _ _ _ _ _ _ _ _
   | exact ih1 _ _ _ _ _ _ _ _ _ _ _ _
   | exact ih2 _ _ _ _ _ _ _ _ _ _ _
   | exact ih3 _ _ _ _ _ _ _ _ _ _
   | exact ih4 _ _ _ _ _ _ _ _ _
   | exact ih5 _ _ _ _ _ _ _ _ _ _ _ _
   | exact ih6 _ _ _ _ _ _ _ _ _ _ _ _
   | exact ih7 _ _ _ _ _ _ _ _ _ _ _
   | exact bocageref04_Span.mono _ _ _ _ _
   | exact bocageref04_blanks.mono _ _ _ _
   | exact bocageref04_end.mono _ _ _ _ _
   | exact LeO.none _
   | refine LeO.ite ?_ ?_
   | refine LeO.bind ?_ (fun _ => ?_)
  ·intro y0 y1 y2 y3 y4 y5 y6 y7 y8 y9 y10 y11
   unfold bocageref04_read.j6
   repeat' first
   | (with_reducible exact ih0 _ _ _ _ _ _ _ _)
   | (with_reducible exact ih1 _ _ _ _ _ _ _ _ _ _ _ _)
   | (with_reducible exact ih2 _ _ _ _ _ _ _ _ _ _ _)
   | (with_reducible exact ih3 _ _ _ _ _ _ _ _ _ _)
   | (with_reducible exact ih4 _ _ _ _ _ _ _ _ _)
   | (with_reducible exact ih5 _ _ _ _ _ _ _ _ _ _ _ _)
   | (with_reducible exact ih6 _ _ _ _ _ _ _ _ _ _ _ _)
   | (with_reducible exact ih7 _ _ _ _ _ _ _ _ _ _ _)
   | (with_reducible exact bocageref04_Span.mono _ _ _ _ _)
   | (with_reducible exact bocageref04_blanks.mono _ _ _ _)
   | (with_reducible exact bocageref04_end.mono _ _ _ _ _)
   | (with_reducible exact LeO.refl _)
   | (with_reducible exact LeO.none _)
   | (with_reducible refine LeO.ite ?_ ?_)
   | (with_reducible refine LeO.bind ?_ (fun _ => ?_))
   | exact ih0 _ _ _ _ _ _ _ _
   | exact ih1 _ _ _ _ _ _ _ _ _ _ _ _
   | exact ih2 _ _ _ _ _ _ _ _ _ _ _
   | exact ih3 _ _ _ _ _ _ _ _ _ _
   | exact ih4 _ _ _ _ _ _ _ _ _
   | exact ih5 _ _ _ _ _ _ _ _ _ _ _ _
   | exact ih6 _ _ _ _ _ _ _ _ _ _ _ _
   | exact ih7 _ _ _ _ _ _ _ _ _ _ _
   | exact bocageref04_Span.mono _ _ _ _ _
   | exact bocageref04_blanks.mono _ _ _ _
   | exact bocageref04_end.mono _ _ _ _ _
   | exact LeO.none _
   | refine LeO.ite ?_ ?_
   | refine LeO.bind ?_ (fun _ => ?_)
  ·intro y0 y1 y2 y3 y4 y5 y6 y7 y8 y9 y10
   unfold bocageref04_read.j7
   repeat' first
   | (with_reducible exact ih0 _ _ _ _ _ _ _ _)
   | (with_reducible exact ih1 _ _ _ _ _ _ _ _ _ _ _ _)
   | (with_reducible exact ih2 _ _ _ _ _ _ _ _ _ _ _)
   | (with_reducible exact ih3 _ _ _ _ _ _ _ _ _ _)
   | (with_reducible exact ih4 _ _ _ _ _ _ _ _ _)
   | (with_reducible exact ih5 _ _ _ _ _ _ _ _ _ _ _ _)
   | (with_reducible exact ih6 _ _ _ _ _ _ _ _ _ _ _ _)
   | (with_reducible exact ih7 _ _ _ _ _ _ _ _ _ _ _)
   | (with_reducible exact bocageref04_Span.mono _ _ _ _ _)
   | (with_reducible exact bocageref04_blanks.mono _ _ _ _)
   | (with_reducible exact bocageref04_end.mono _ _ _ _ _)
   | (with_reducible exact LeO.refl _)
   | (with_reducible exact LeO.none _)
   | (with_reducible refine LeO.ite ?_ ?_)
   | (with_reducible refine LeO.bind ?_ (fun _ => ?_))
   | exact ih0 _ _ _ _ _ _ _ _
   | exact ih1 _ _ _ _ _ _ _ _ _ _ _ _
   | exact ih2 _ _ _ _ _ _ _ _ _ _ _
   | exact ih3 _ _ _ _ _ _ _ _ _ _
   | exact ih4 _ _ _ _ _ _ _ _ _
   | exact ih5 _ _ _ _ _ _ _ _ _ _ _ _
   | exact ih6 _ _ _ _ _ _ _ _ _ _ _ _
   | exact ih7 _ _ _ _ _ _ _ _ _ _ _
   | exact bocageref04_Span.mono _ _ _ _ _
   | exact bocageref04_blanks.mono _ _ _ _
   | exact bocageref04_end.mono _ _ _ _ _
   | exact LeO.none _
   | refine LeO.ite ?_ ?_
   | refine LeO.bind ?_ (fun _ => ?_)
theorem bocageref04_read.mono : ∀ a0 a1 k, LeO (bocageref04_read.f k a0 a1) (bocageref04_read.f (k + 1) a0 a1) := by
 intro a0 a1 k
 obtain ⟨ih0, ih1, ih2, ih3, ih4, ih5, ih6, ih7⟩ := bocageref04_read.mono_l k
 unfold bocageref04_read.f
 repeat' first
   | (with_reducible exact ih0 _ _ _ _ _ _ _ _)
   | (with_reducible exact ih1 _ _ _ _ _ _ _ _ _ _ _ _)
   | (with_reducible exact ih2 _ _ _ _ _ _ _ _ _ _ _)
   | (with_reducible exact ih3 _ _ _ _ _ _ _ _ _ _)
   | (with_reducible exact ih4 _ _ _ _ _ _ _ _ _)
   | (with_reducible exact ih5 _ _ _ _ _ _ _ _ _ _ _ _)
   | (with_reducible exact ih6 _ _ _ _ _ _ _ _ _ _ _ _)
   | (with_reducible exact ih7 _ _ _ _ _ _ _ _ _ _ _)
   | (with_reducible exact bocageref04_Span.mono _ _ _ _ _)
   | (with_reducible exact bocageref04_blanks.mono _ _ _ _)
   | (with_reducible exact bocageref04_end.mono _ _ _ _ _)
   | (with_reducible exact LeO.refl _)
   | (with_reducible exact LeO.none _)
   | (with_reducible refine LeO.ite ?_ ?_)
   | (with_reducible refine LeO.bind ?_ (fun _ => ?_))
   | exact ih0 _ _ _ _ _ _ _ _
   | exact ih1 _ _ _ _ _ _ _ _ _ _ _ _
   | exact ih2 _ _ _ _ _ _ _ _ _ _ _
   | exact ih3 _ _ _ _ _ _ _ _ _ _
   | exact ih4 _ _ _ _ _ _ _ _ _
   | exact ih5 _ _ _ _ _ _ _ _ _ _ _ _
   | exact ih6 _ _ _ _ _ _ _ _ _ _ _ _
   | exact ih7 _ _ _ _ _ _ _ _ _ _ _
   | exact bocageref04_Span.mono _ _ _ _ _
   | exact bocageref04_blanks.mono _ _ _ _
   | exact bocageref04_end.mono _ _ _ _ _
   | exact LeO.none _
   | refine LeO.ite ?_ ?_
   | refine LeO.bind ?_ (fun _ => ?_)
set_option maxHeartbeats 8000000 in
set_option maxRecDepth 100000 in
theorem bocageref04_read.calls (k : Nat) (a0 : ByteArray) (a1 : Bool) (r1 : Int) (r2 : Int) (r3 : Int) (r4 : Int) (r5 : Int) (r6 : Int) (w : World) (h : bocageref04_read.f k a0 a1 = some (r1, r2, r3, r4, r5, r6)) :
  Calls Try.prog 42 #[.string a0, .bool a1] w fun e w' => e = .returned (.tuple #[.agg #[.int .i64 r1, .int .i64 r2, .int .i64 r3, .int .i64 r4], .int .i64 r5, .int .i64 r6]) ∧ Below w.heap.size w w' := by
 have hu27 := Try.underlying27
 have hu23 := Try.underlying23
 have HB := Aside0.mk (Below.refl w.heap.size w)
 have H : ((bocageref04_is.f a0 0 (⟨#[40]⟩ : ByteArray)).bind fun t474 => (if t474 = true then (bocageref04_read.j0 k a0 a1 t474 false 0 0 0 0) else ((bocageref04_is.f a0 0 (⟨#[91]⟩ : ByteArray)).bind fun t475 => (bocageref04_read.j0 k a0 a1 t474 (!t475) 0 0 0 0)))) = some (r1, r2, r3, r4, r5, r6) := h
 clear h
 replace H := Option.bind_eq_some_iff.mp H
 obtain ⟨t474, A30, H⟩ := H
 (try (set_option simprocs false in dsimp only at H))
 have A3 := Aside0.mk A30
 clear A30
 have HC4 := Aside0.mk H
 clear H
 go_enter Try.func42, Try.ntmps42
 go_upto_region 3 with (first | ((with_reducible refine gate_dst (N := 4) rfl ?_); refine bxe (N := 4) (cs := #[.int .i64 0, .int .i64 0, .int .i64 0, .int .i64 0]) (t := 27) ?_; intro gb472 hg w5 hbox hb; have BK472 := Aside0.mk (hbox); have GW472 := lsz hg HB; have GE472 := lsz hg HB; replace HB := bst HB hb; clear hb hbox hg) | ((with_reducible refine gate_dst (N := 7) rfl ?_); refine bxe (N := 7) (cs := #[.int .i64 0, .int .i64 0, .int .i64 0, .int .i64 0]) (t := 27) ?_; intro gb473 hg w6 hbox hb; have BK473 := Aside0.mk (hbox); have GW473 := lsz hg HB; have GE473 := lsz hg HB; replace HB := bst HB hb; have NB472_473 := nlt hg BK472; have NB473_472 := ngt hg BK472; replace BK472 := bkb BK472 hb; clear hb hbox hg; have hnb7 := NB473_472.out; have hnc7 := NB472_473.out; obtain ⟨hcz8_0, hcz8_1, hcz8_2, hcz8_3⟩ := e4 BK473; obtain ⟨hfz8_0, hfz8_1, hfz8_2, hfz8_3⟩ := f4 BK473) | ((with_reducible refine gate_callee (f := 56) rfl ?_); refine gol (some 20) Try.func56 #[.string a0, .int .i64 0, .string (⟨#[40]⟩ : ByteArray)] ?_; (with_reducible refine (bocageref04_is.calls a0 0 (⟨#[40]⟩ : ByteArray) t474 _ A3.out).mono ?_); rintro e w' ⟨rfl, ⟨nd, rfl⟩⟩; refine ⟨_, rfl, ?_⟩))
 (try simp only [Act.put, List.setIfInBounds_toArray, List.set_cons_zero, List.set_cons_succ])
 go_cut [27] (fun v27 wc => ∃ (kq : Nat) (x27_3 : Bool), v27 = .bool x27_3 ∧ Aside0 (bocageref04_read.j0 kq a0 a1 t474 x27_3 0 0 0 0 = some (r1, r2, r3, r4, r5, r6)) ∧ Aside0 (kq ≤ k) ∧ Aside0 (wc.heap[gb472]? = some (.cells #[.int .i64 0, .int .i64 0, .int .i64 0, .int .i64 0] 27 (0, 0))) ∧ Aside0 (wc.heap[gb473]? = some (.cells #[.int .i64 0, .int .i64 0, .int .i64 0, .int .i64 0] 27 (0, 0))) ∧ Aside0 (Below w.heap.size w wc))
 case first =>
  have H := HC4.out
  clear HC4
  by_cases c9 : t474 = true
  ·subst c9
   have H1 : (bocageref04_read.j0 k a0 a1 true false 0 0 0 0) = some (r1, r2, r3, r4, r5, r6) := by rw [if_pos rfl] at H; exact H
   clear H
   have H := H1
   clear H1
   have H' := Aside0.mk H
   clear H
   go_wp2
   go_meet
   case rel => exact ⟨_, (false), (by first | rfl | (simp; done) | (simp [*]; done)), H', ⟨by first | omega | exact Nat.le_refl _⟩, ⟨by (with_reducible repeat (first | refine blk_drewN ?_ _ | refine blk_drew ?_ | refine blk_alloc ?_ _)); refine blk_far ?_ NB472_473.out _; (with_reducible repeat (first | refine blk_drewN ?_ _ | refine blk_drew ?_ | refine blk_alloc ?_ _)); refine blk_far ?_ NB472_473.out _; (with_reducible repeat (first | refine blk_drewN ?_ _ | refine blk_drew ?_ | refine blk_alloc ?_ _)); refine blk_far ?_ NB472_473.out _; (with_reducible repeat (first | refine blk_drewN ?_ _ | refine blk_drew ?_ | refine blk_alloc ?_ _)); refine blk_far ?_ NB472_473.out _; (with_reducible repeat (first | refine blk_drewN ?_ _ | refine blk_drew ?_ | refine blk_alloc ?_ _)); exact BK472.out⟩, ⟨by (with_reducible repeat (first | refine blk_drewN ?_ _ | refine blk_drew ?_ | refine blk_alloc ?_ _)); refine blk_put (cs := #[.int .i64 0, .int .i64 0, .int .i64 0, .int .i64 0]) ?_ 3 _ rfl; (with_reducible repeat (first | refine blk_drewN ?_ _ | refine blk_drew ?_ | refine blk_alloc ?_ _)); refine blk_put (cs := #[.int .i64 0, .int .i64 0, .int .i64 0, .int .i64 0]) ?_ 2 _ rfl; (with_reducible repeat (first | refine blk_drewN ?_ _ | refine blk_drew ?_ | refine blk_alloc ?_ _)); refine blk_put (cs := #[.int .i64 0, .int .i64 0, .int .i64 0, .int .i64 0]) ?_ 1 _ rfl; (with_reducible repeat (first | refine blk_drewN ?_ _ | refine blk_drew ?_ | refine blk_alloc ?_ _)); refine blk_put (cs := #[.int .i64 0, .int .i64 0, .int .i64 0, .int .i64 0]) ?_ 0 _ rfl; (with_reducible repeat (first | refine blk_drewN ?_ _ | refine blk_drew ?_ | refine blk_alloc ?_ _)); exact BK473.out⟩, ⟨bl HB⟩⟩
  ·replace c9 := Bool.eq_false_iff.mpr c9
   subst c9
   have H1 : ((bocageref04_is.f a0 0 (⟨#[91]⟩ : ByteArray)).bind fun t475 => (bocageref04_read.j0 k a0 a1 false (!t475) 0 0 0 0)) = some (r1, r2, r3, r4, r5, r6) := by rw [if_neg (show ¬ (false = true) by decide)] at H; exact H
   clear H
   have H := H1
   clear H1
   replace H := Option.bind_eq_some_iff.mp H
   obtain ⟨t475, A100, H⟩ := H
   (try (set_option simprocs false in dsimp only at H))
   have A10 := Aside0.mk A100
   clear A100
   have H' := Aside0.mk H
   clear H
   go_wp2_with (first | (go_at_call 56; (with_reducible refine (bocageref04_is.calls a0 0 (⟨#[91]⟩ : ByteArray) t475 _ A10.out).mono ?_); rintro e w' ⟨rfl, ⟨nd, rfl⟩⟩))
   go_meet
   case rel => exact ⟨_, (!t475), (by first | rfl | (simp; done) | (simp [*]; done)), H', ⟨by first | omega | exact Nat.le_refl _⟩, ⟨by (with_reducible repeat (first | refine blk_drewN ?_ _ | refine blk_drew ?_ | refine blk_alloc ?_ _)); refine blk_far ?_ NB472_473.out _; (with_reducible repeat (first | refine blk_drewN ?_ _ | refine blk_drew ?_ | refine blk_alloc ?_ _)); refine blk_far ?_ NB472_473.out _; (with_reducible repeat (first | refine blk_drewN ?_ _ | refine blk_drew ?_ | refine blk_alloc ?_ _)); refine blk_far ?_ NB472_473.out _; (with_reducible repeat (first | refine blk_drewN ?_ _ | refine blk_drew ?_ | refine blk_alloc ?_ _)); refine blk_far ?_ NB472_473.out _; (with_reducible repeat (first | refine blk_drewN ?_ _ | refine blk_drew ?_ | refine blk_alloc ?_ _)); exact BK472.out⟩, ⟨by (with_reducible repeat (first | refine blk_drewN ?_ _ | refine blk_drew ?_ | refine blk_alloc ?_ _)); refine blk_put (cs := #[.int .i64 0, .int .i64 0, .int .i64 0, .int .i64 0]) ?_ 3 _ rfl; (with_reducible repeat (first | refine blk_drewN ?_ _ | refine blk_drew ?_ | refine blk_alloc ?_ _)); refine blk_put (cs := #[.int .i64 0, .int .i64 0, .int .i64 0, .int .i64 0]) ?_ 2 _ rfl; (with_reducible repeat (first | refine blk_drewN ?_ _ | refine blk_drew ?_ | refine blk_alloc ?_ _)); refine blk_put (cs := #[.int .i64 0, .int .i64 0, .int .i64 0, .int .i64 0]) ?_ 1 _ rfl; (with_reducible repeat (first | refine blk_drewN ?_ _ | refine blk_drew ?_ | refine blk_alloc ?_ _)); refine blk_put (cs := #[.int .i64 0, .int .i64 0, .int .i64 0, .int .i64 0]) ?_ 0 _ rfl; (with_reducible repeat (first | refine blk_drewN ?_ _ | refine blk_drew ?_ | refine blk_alloc ?_ _)); exact BK473.out⟩, ⟨bl HB⟩⟩
 case rest =>
  clear HC4
  try clear hcz8_0
  try clear hcz8_1
  try clear hcz8_2
  try clear hcz8_3
  try clear hfz8_0
  try clear hfz8_1
  try clear hfz8_2
  try clear hfz8_3
  obtain ⟨kq, x27_3, rfl, HA, HJ3, BK472, BK473, HB⟩ := hcut
  cases kq with
  | zero => exact absurd HA.out (by simp [bocageref04_read.j0])
  | succ kj3 =>
   have H := HA.out
   clear HA
   simp only [bocageref04_read.j0] at H
   by_cases c11 : x27_3 = true
   ·subst c11
    have H1 : (some (0, 0, 0, 0, 0, 40)) = some (r1, r2, r3, r4, r5, r6) := by rw [if_pos rfl] at H; exact H
    clear H
    have H := H1
    clear H1
    simp only [Option.some.injEq, Prod.mk.injEq] at H
    obtain ⟨rfl, rfl, rfl, rfl, rfl, rfl⟩ := H
    have hnb12 := NB473_472.out
    have hnc12 := NB472_473.out
    have hcz13_0 : wc.cell? ⟨gb473, 0, none⟩ = some (.int .i64 0) := (blk_cell BK473.out 0).trans rfl
    have hcz13_1 : wc.cell? ⟨gb473, 1, none⟩ = some (.int .i64 0) := (blk_cell BK473.out 1).trans rfl
    have hcz13_2 : wc.cell? ⟨gb473, 2, none⟩ = some (.int .i64 0) := (blk_cell BK473.out 2).trans rfl
    have hcz13_3 : wc.cell? ⟨gb473, 3, none⟩ = some (.int .i64 0) := (blk_cell BK473.out 3).trans rfl
    have hfz13_0 := blk_frozen BK473.out 0
    have hfz13_1 := blk_frozen BK473.out 1
    have hfz13_2 := blk_frozen BK473.out 2
    have hfz13_3 := blk_frozen BK473.out 3
    have hcz14_0 : wc.cell? ⟨gb472, 0, none⟩ = some (.int .i64 0) := (blk_cell BK472.out 0).trans rfl
    have hcz14_1 : wc.cell? ⟨gb472, 1, none⟩ = some (.int .i64 0) := (blk_cell BK472.out 1).trans rfl
    have hcz14_2 : wc.cell? ⟨gb472, 2, none⟩ = some (.int .i64 0) := (blk_cell BK472.out 2).trans rfl
    have hcz14_3 : wc.cell? ⟨gb472, 3, none⟩ = some (.int .i64 0) := (blk_cell BK472.out 3).trans rfl
    have hfz14_0 := blk_frozen BK472.out 0
    have hfz14_1 := blk_frozen BK472.out 1
    have hfz14_2 := blk_frozen BK472.out 2
    have hfz14_3 := blk_frozen BK472.out 3
    go_wp2
    refine bodyPost_ret (results_ctt rfl _ _ gb472 27 #[.int .i64 0, .int .i64 0, .int .i64 0, .int .i64 0] (0, 0) _ rfl (bkp BK472) Try.underlying27 rfl (by kernel_rfl)) rfl ?_
    exact endB HB
   ·replace c11 := Bool.eq_false_iff.mpr c11
    subst c11
    have H1 : ((bocageref04_blanks.f kj3 a0 1 a1).bind fun t476 => ((bocageref04_end.f kj3 a0 t476 (⟨#[45, 105, 110, 102]⟩ : ByteArray) a1).bind fun bt477 => (if a1 = true then (bocageref04_read.j1 kj3 a0 a1 t474 t476 bt477.2.2 false 0 0 0 0 bt477.1 bt477.2.1) else ((bocageref04_is.f a0 t476 (⟨#[45, 105, 110, 102]⟩ : ByteArray)).bind fun t481 => (bocageref04_read.j1 kj3 a0 a1 t474 t476 bt477.2.2 (t474 != t481) 0 0 0 0 bt477.1 bt477.2.1))))) = some (r1, r2, r3, r4, r5, r6) := by rw [if_neg (show ¬ (false = true) by decide)] at H; exact H
    clear H
    have H := H1
    clear H1
    replace H := Option.bind_eq_some_iff.mp H
    obtain ⟨t476, A150, H⟩ := H
    (try (set_option simprocs false in dsimp only at H))
    have A15 := Aside0.mk A150
    clear A150
    replace H := Option.bind_eq_some_iff.mp H
    obtain ⟨⟨t477, t478, t479⟩, A160, H⟩ := H
    (try (set_option simprocs false in dsimp only at H))
    have A16 := Aside0.mk A160
    clear A160
    have HC17 := Aside0.mk H
    clear H
    go_upto_region 7 with (first | ((with_reducible refine gate_callee (f := 57) rfl ?_); refine gol (some 31) Try.func57 #[.string a0, .int .i64 1, .bool a1] ?_; (with_reducible refine (bocageref04_blanks.calls kj3 a0 1 a1 t476 _ A15.out).mono ?_); rintro e w' ⟨rfl, ⟨nd, rfl⟩⟩; refine ⟨_, rfl, ?_⟩; (try (rw [drewN_self wc]; generalize hq_ : World.drewN wc _ = wc; have n0_ : Aside0 (wc.heap[gb472]? = some (.cells #[.int .i64 0, .int .i64 0, .int .i64 0, .int .i64 0] 27 (0, 0))) := ⟨by rw [← hq_]; exact (bk BK472)⟩; have n1_ : Aside0 (wc.heap[gb473]? = some (.cells #[.int .i64 0, .int .i64 0, .int .i64 0, .int .i64 0] 27 (0, 0))) := ⟨by rw [← hq_]; exact (bk BK473)⟩; have n2_ : Aside0 (Below w.heap.size w wc) := ⟨by rw [← hq_]; exact (bl HB)⟩; clear BK472 BK473 HB hq_; have BK472 := n0_; have BK473 := n1_; have HB := n2_; clear n0_ n1_ n2_))) | ((with_reducible refine gate_callee (f := 58) rfl ?_); refine gol (some 36) Try.func58 #[.string a0, .int .i64 t476, .string (⟨#[45, 105, 110, 102]⟩ : ByteArray), .bool a1] ?_; (with_reducible refine (bocageref04_end.calls kj3 a0 t476 (⟨#[45, 105, 110, 102]⟩ : ByteArray) a1 t477 t478 t479 _ A16.out).mono ?_); rintro e w18 ⟨rfl, hb⟩; refine ⟨_, rfl, ?_⟩; replace BK472 := bkb BK472 hb; replace BK473 := bkb BK473 hb; replace HB := bst HB hb; (try clear hb); (try clear hb2); (try clear hk); (try clear hi)) | ((with_reducible refine gate_dst (N := 10) rfl ?_); refine bxe (N := 10) (cs := #[.int .i64 0, .int .i64 0]) (t := 23) ?_; intro gb480 hg w19 hbox hb; have BK480 := Aside0.mk (hbox); have GW480 := lsz hg HB; have GE480 := lsz hg HB; replace HB := bst HB hb; have NB472_480 := nlt hg BK472; have NB480_472 := ngt hg BK472; replace BK472 := bkb BK472 hb; have NB473_480 := nlt hg BK473; have NB480_473 := ngt hg BK473; replace BK473 := bkb BK473 hb; clear hb hbox hg; have hnb20 := NB480_472.out; have hnc20 := NB472_480.out; have hnb21 := NB480_473.out; have hnc21 := NB473_480.out; obtain ⟨hcz22_0, hcz22_1⟩ := e2 BK480; obtain ⟨hfz22_0, hfz22_1⟩ := f2 BK480))
    (try simp only [Act.put, List.setIfInBounds_toArray, List.set_cons_zero, List.set_cons_succ])
    go_cut [47] (fun v47 wc => ∃ (kq : Nat) (x47_16 : Bool), v47 = .bool x47_16 ∧ Aside0 (bocageref04_read.j1 kq a0 a1 t474 t476 t479 x47_16 0 0 0 0 t477 t478 = some (r1, r2, r3, r4, r5, r6)) ∧ Aside0 (kq ≤ kj3) ∧ Aside0 (wc.heap[gb472]? = some (.cells #[.int .i64 0, .int .i64 0, .int .i64 0, .int .i64 0] 27 (0, 0))) ∧ Aside0 (wc.heap[gb473]? = some (.cells #[.int .i64 0, .int .i64 0, .int .i64 0, .int .i64 0] 27 (0, 0))) ∧ Aside0 (wc.heap[gb480]? = some (.cells #[.int .i64 t477, .int .i64 t478] 23 (0, 0))) ∧ Aside0 (Below w.heap.size w wc))
    case first =>
     have H := HC17.out
     clear HC17
     by_cases c23 : a1 = true
     ·subst c23
      have H1 : (bocageref04_read.j1 kj3 a0 true t474 t476 t479 false 0 0 0 0 t477 t478) = some (r1, r2, r3, r4, r5, r6) := by rw [if_pos rfl] at H; exact H
      clear H
      have H := H1
      clear H1
      have H' := Aside0.mk H
      clear H
      go_wp2
      go_meet
      case rel => exact ⟨_, (false), (by first | rfl | (simp; done) | (simp [*]; done)), H', ⟨by have := HJ3.out; first | omega | exact Nat.le_refl _⟩, ⟨by (with_reducible repeat (first | refine blk_drewN ?_ _ | refine blk_drew ?_ | refine blk_alloc ?_ _)); refine blk_far ?_ NB472_480.out _; (with_reducible repeat (first | refine blk_drewN ?_ _ | refine blk_drew ?_ | refine blk_alloc ?_ _)); refine blk_far ?_ NB472_480.out _; (with_reducible repeat (first | refine blk_drewN ?_ _ | refine blk_drew ?_ | refine blk_alloc ?_ _)); exact BK472.out⟩, ⟨by (with_reducible repeat (first | refine blk_drewN ?_ _ | refine blk_drew ?_ | refine blk_alloc ?_ _)); refine blk_far ?_ NB473_480.out _; (with_reducible repeat (first | refine blk_drewN ?_ _ | refine blk_drew ?_ | refine blk_alloc ?_ _)); refine blk_far ?_ NB473_480.out _; (with_reducible repeat (first | refine blk_drewN ?_ _ | refine blk_drew ?_ | refine blk_alloc ?_ _)); exact BK473.out⟩, ⟨by (with_reducible repeat (first | refine blk_drewN ?_ _ | refine blk_drew ?_ | refine blk_alloc ?_ _)); refine blk_put (cs := #[.int .i64 t477, .int .i64 0]) ?_ 1 _ rfl; (with_reducible repeat (first | refine blk_drewN ?_ _ | refine blk_drew ?_ | refine blk_alloc ?_ _)); refine blk_put (cs := #[.int .i64 0, .int .i64 0]) ?_ 0 _ rfl; (with_reducible repeat (first | refine blk_drewN ?_ _ | refine blk_drew ?_ | refine blk_alloc ?_ _)); exact BK480.out⟩, ⟨bl HB⟩⟩
     ·replace c23 := Bool.eq_false_iff.mpr c23
      subst c23
      have H1 : ((bocageref04_is.f a0 t476 (⟨#[45, 105, 110, 102]⟩ : ByteArray)).bind fun t481 => (bocageref04_read.j1 kj3 a0 false t474 t476 t479 (t474 != t481) 0 0 0 0 t477 t478)) = some (r1, r2, r3, r4, r5, r6) := by rw [if_neg (show ¬ (false = true) by decide)] at H; exact H
      clear H
      have H := H1
      clear H1
      replace H := Option.bind_eq_some_iff.mp H
      obtain ⟨t481, A240, H⟩ := H
      (try (set_option simprocs false in dsimp only at H))
      have A24 := Aside0.mk A240
      clear A240
      have H' := Aside0.mk H
      clear H
      go_wp2_with (first | (go_at_call 56; (with_reducible refine (bocageref04_is.calls a0 t476 (⟨#[45, 105, 110, 102]⟩ : ByteArray) t481 _ A24.out).mono ?_); rintro e w' ⟨rfl, ⟨nd, rfl⟩⟩))
      go_meet
      case rel => exact ⟨_, ((t474 != t481)), (by first | rfl | (simp; done) | (simp [*]; done)), H', ⟨by have := HJ3.out; first | omega | exact Nat.le_refl _⟩, ⟨by (with_reducible repeat (first | refine blk_drewN ?_ _ | refine blk_drew ?_ | refine blk_alloc ?_ _)); refine blk_far ?_ NB472_480.out _; (with_reducible repeat (first | refine blk_drewN ?_ _ | refine blk_drew ?_ | refine blk_alloc ?_ _)); refine blk_far ?_ NB472_480.out _; (with_reducible repeat (first | refine blk_drewN ?_ _ | refine blk_drew ?_ | refine blk_alloc ?_ _)); exact BK472.out⟩, ⟨by (with_reducible repeat (first | refine blk_drewN ?_ _ | refine blk_drew ?_ | refine blk_alloc ?_ _)); refine blk_far ?_ NB473_480.out _; (with_reducible repeat (first | refine blk_drewN ?_ _ | refine blk_drew ?_ | refine blk_alloc ?_ _)); refine blk_far ?_ NB473_480.out _; (with_reducible repeat (first | refine blk_drewN ?_ _ | refine blk_drew ?_ | refine blk_alloc ?_ _)); exact BK473.out⟩, ⟨by (with_reducible repeat (first | refine blk_drewN ?_ _ | refine blk_drew ?_ | refine blk_alloc ?_ _)); refine blk_put (cs := #[.int .i64 t477, .int .i64 0]) ?_ 1 _ rfl; (with_reducible repeat (first | refine blk_drewN ?_ _ | refine blk_drew ?_ | refine blk_alloc ?_ _)); refine blk_put (cs := #[.int .i64 0, .int .i64 0]) ?_ 0 _ rfl; (with_reducible repeat (first | refine blk_drewN ?_ _ | refine blk_drew ?_ | refine blk_alloc ?_ _)); exact BK480.out⟩, ⟨bl HB⟩⟩
    case rest =>
     clear HC17
     try clear c11
     try clear hcz22_0
     try clear hcz22_1
     try clear hfz22_0
     try clear hfz22_1
     obtain ⟨kq, x47_16, rfl, HA, HJ16, BK472, BK473, BK480, HB⟩ := hcut
     cases kq with
     | zero => exact absurd HA.out (by simp [bocageref04_read.j1])
     | succ kj16 =>
      have H := HA.out
      clear HA
      simp only [bocageref04_read.j1] at H
      have HC25 := Aside0.mk H
      clear H
      go_upto_if 47 with (fail)
      go_cut [11] (fun v11 wc => ∃ (kq : Nat) (x11_24 : Int), v11 = .int .i64 x11_24 ∧ Aside0 (bocageref04_read.j2 kq a0 a1 t474 t476 x11_24 0 0 0 0 t477 t478 = some (r1, r2, r3, r4, r5, r6)) ∧ Aside0 (kq ≤ kj16) ∧ Aside0 (wc.heap[gb472]? = some (.cells #[.int .i64 0, .int .i64 0, .int .i64 0, .int .i64 0] 27 (0, 0))) ∧ Aside0 (wc.heap[gb473]? = some (.cells #[.int .i64 0, .int .i64 0, .int .i64 0, .int .i64 0] 27 (0, 0))) ∧ Aside0 (wc.heap[gb480]? = some (.cells #[.int .i64 t477, .int .i64 t478] 23 (0, 0))) ∧ Aside0 (Below w.heap.size w wc))
      case first =>
       have H := HC25.out
       clear HC25
       by_cases c26 : x47_16 = true
       ·subst c26
        have H1 : (bocageref04_read.j2 kj16 a0 a1 t474 t476 (-1) 0 0 0 0 t477 t478) = some (r1, r2, r3, r4, r5, r6) := by rw [if_pos rfl] at H; exact H
        clear H
        have H := H1
        clear H1
        have H' := Aside0.mk H
        clear H
        go_wp2
        go_meet
        case rel => exact ⟨_, ((-1)), (by first | rfl | (simp; done) | (simp [*]; done)), H', ⟨by have := HJ3.out; have := HJ16.out; first | omega | exact Nat.le_refl _⟩, ⟨bk BK472⟩, ⟨bk BK473⟩, ⟨bk BK480⟩, ⟨bl HB⟩⟩
       ·replace c26 := Bool.eq_false_iff.mpr c26
        subst c26
        have H1 : (bocageref04_read.j2 kj16 a0 a1 t474 t476 t479 0 0 0 0 t477 t478) = some (r1, r2, r3, r4, r5, r6) := by rw [if_neg (show ¬ (false = true) by decide)] at H; exact H
        clear H
        have H := H1
        clear H1
        have H' := Aside0.mk H
        clear H
        go_wp2
        go_meet
        case rel => exact ⟨_, (t479), (by first | rfl | (simp; done) | (simp [*]; done)), H', ⟨by have := HJ3.out; have := HJ16.out; first | omega | exact Nat.le_refl _⟩, ⟨bk BK472⟩, ⟨bk BK473⟩, ⟨bk BK480⟩, ⟨bl HB⟩⟩
      case rest =>
       clear HC25
       obtain ⟨kq, x11_24, rfl, HA, HJ24, BK472, BK473, BK480, HB⟩ := hcut
       cases kq with
       | zero => exact absurd HA.out (by simp [bocageref04_read.j2])
       | succ kj24 =>
        have H := HA.out
        clear HA
        simp only [bocageref04_read.j2] at H
        by_cases c27 : x11_24 < 0
        ·rw [if_pos c27] at H
         have c27b0 : decide (x11_24 < 0) = true := decide_eq_true c27
         clear c27
         simp only [Option.some.injEq, Prod.mk.injEq] at H
         obtain ⟨rfl, rfl, rfl, rfl, rfl, rfl⟩ := H
         have hnb28 := NB473_472.out
         have hnc28 := NB472_473.out
         have hnb29 := NB473_480.out
         have hnc29 := NB480_473.out
         have hcz30_0 : wc.cell? ⟨gb473, 0, none⟩ = some (.int .i64 0) := (blk_cell BK473.out 0).trans rfl
         have hcz30_1 : wc.cell? ⟨gb473, 1, none⟩ = some (.int .i64 0) := (blk_cell BK473.out 1).trans rfl
         have hcz30_2 : wc.cell? ⟨gb473, 2, none⟩ = some (.int .i64 0) := (blk_cell BK473.out 2).trans rfl
         have hcz30_3 : wc.cell? ⟨gb473, 3, none⟩ = some (.int .i64 0) := (blk_cell BK473.out 3).trans rfl
         have hfz30_0 := blk_frozen BK473.out 0
         have hfz30_1 := blk_frozen BK473.out 1
         have hfz30_2 := blk_frozen BK473.out 2
         have hfz30_3 := blk_frozen BK473.out 3
         have hnb31 := NB472_480.out
         have hnc31 := NB480_472.out
         have hcz32_0 : wc.cell? ⟨gb472, 0, none⟩ = some (.int .i64 0) := (blk_cell BK472.out 0).trans rfl
         have hcz32_1 : wc.cell? ⟨gb472, 1, none⟩ = some (.int .i64 0) := (blk_cell BK472.out 1).trans rfl
         have hcz32_2 : wc.cell? ⟨gb472, 2, none⟩ = some (.int .i64 0) := (blk_cell BK472.out 2).trans rfl
         have hcz32_3 : wc.cell? ⟨gb472, 3, none⟩ = some (.int .i64 0) := (blk_cell BK472.out 3).trans rfl
         have hfz32_0 := blk_frozen BK472.out 0
         have hfz32_1 := blk_frozen BK472.out 1
         have hfz32_2 := blk_frozen BK472.out 2
         have hfz32_3 := blk_frozen BK472.out 3
         go_wp2
         refine bodyPost_ret (results_ctt rfl _ _ gb472 27 #[.int .i64 0, .int .i64 0, .int .i64 0, .int .i64 0] (0, 0) _ rfl (bkp BK472) Try.underlying27 rfl (by kernel_rfl)) rfl ?_
         exact endB HB
        ·rw [if_neg c27] at H
         have c27b0 : decide (x11_24 < 0) = false := decide_eq_false c27
         clear c27
         have HC33 := Aside0.mk H
         clear H
         go_upto_region 11 with (fail)
         go_cut [58] (fun v58 wc => ∃ (kq : Nat) (x58_32 : Bool), v58 = .bool x58_32 ∧ Aside0 (bocageref04_read.j3 kq a0 a1 x11_24 x58_32 0 0 0 0 t477 t478 = some (r1, r2, r3, r4, r5, r6)) ∧ Aside0 (kq ≤ kj24) ∧ Aside0 (wc.heap[gb472]? = some (.cells #[.int .i64 0, .int .i64 0, .int .i64 0, .int .i64 0] 27 (0, 0))) ∧ Aside0 (wc.heap[gb473]? = some (.cells #[.int .i64 0, .int .i64 0, .int .i64 0, .int .i64 0] 27 (0, 0))) ∧ Aside0 (wc.heap[gb480]? = some (.cells #[.int .i64 t477, .int .i64 t478] 23 (0, 0))) ∧ Aside0 (Below w.heap.size w wc))
         case first =>
          have H := HC33.out
          clear HC33
          by_cases c34 : t477 = 1
          ·rw [if_pos c34] at H
           have c34b0 : (t477 == 1) = true := beq_iff_eq.mpr c34
           have c34b1 : (t477 != 1) = false := bne_eq_false_iff_eq.mpr c34
           clear c34
           (first | rw [c34b0] | (simp only [i64_w, i32_w]; rw [c34b0]) | skip)
           have H' := Aside0.mk H
           clear H
           have hnb35 := NB480_472.out
           have hnc35 := NB472_480.out
           have hnb36 := NB480_473.out
           have hnc36 := NB473_480.out
           have hcz37_0 : wc.cell? ⟨gb480, 0, none⟩ = some (.int .i64 t477) := (blk_cell BK480.out 0).trans rfl
           have hcz37_1 : wc.cell? ⟨gb480, 1, none⟩ = some (.int .i64 t478) := (blk_cell BK480.out 1).trans rfl
           have hfz37_0 := blk_frozen BK480.out 0
           have hfz37_1 := blk_frozen BK480.out 1
           go_wp2
           go_meet
           case rel => exact ⟨_, (!t474), (by first | rfl | (simp; done) | (simp [*]; done)), H', ⟨by have := HJ3.out; have := HJ16.out; have := HJ24.out; first | omega | exact Nat.le_refl _⟩, ⟨bk BK472⟩, ⟨bk BK473⟩, ⟨bk BK480⟩, ⟨bl HB⟩⟩
          ·rw [if_neg c34] at H
           have c34b0 : (t477 == 1) = false := beq_eq_false_iff_ne.mpr c34
           have c34b1 : (t477 != 1) = true := bne_iff_ne.mpr c34
           (first | rw [c34b0] | (simp only [i64_w, i32_w]; rw [c34b0]) | skip)
           have H' := Aside0.mk H
           clear H
           have hnb38 := NB480_472.out
           have hnc38 := NB472_480.out
           have hnb39 := NB480_473.out
           have hnc39 := NB473_480.out
           have hcz40_0 : wc.cell? ⟨gb480, 0, none⟩ = some (.int .i64 t477) := (blk_cell BK480.out 0).trans rfl
           have hcz40_1 : wc.cell? ⟨gb480, 1, none⟩ = some (.int .i64 t478) := (blk_cell BK480.out 1).trans rfl
           have hfz40_0 := blk_frozen BK480.out 0
           have hfz40_1 := blk_frozen BK480.out 1
           go_wp2
           go_meet
           case rel => exact ⟨_, (false), (by first | rfl | (simp; done) | (simp [*]; done)), H', ⟨by have := HJ3.out; have := HJ16.out; have := HJ24.out; first | omega | exact Nat.le_refl _⟩, ⟨bk BK472⟩, ⟨bk BK473⟩, ⟨bk BK480⟩, ⟨bl HB⟩⟩
         case rest =>
          clear HC33
          try clear c27
          try clear c27b0
          obtain ⟨kq, x58_32, rfl, HA, HJ32, BK472, BK473, BK480, HB⟩ := hcut
          cases kq with
          | zero => exact absurd HA.out (by simp [bocageref04_read.j3])
          | succ kj32 =>
           have H := HA.out
           clear HA
           simp only [bocageref04_read.j3] at H
           have HC41 := Aside0.mk H
           clear H
           go_upto_if 58 with (fail)
           go_cut [] (fun wc => ∃ (kq : Nat) (x481000_40 : Int), Aside0 (bocageref04_read.j4 kq a0 a1 x11_24 0 0 0 0 x481000_40 t478 = some (r1, r2, r3, r4, r5, r6)) ∧ Aside0 (kq ≤ kj32) ∧ Aside0 (wc.heap[gb472]? = some (.cells #[.int .i64 0, .int .i64 0, .int .i64 0, .int .i64 0] 27 (0, 0))) ∧ Aside0 (wc.heap[gb473]? = some (.cells #[.int .i64 0, .int .i64 0, .int .i64 0, .int .i64 0] 27 (0, 0))) ∧ Aside0 (wc.heap[gb480]? = some (.cells #[.int .i64 x481000_40, .int .i64 t478] 23 (0, 0))) ∧ Aside0 (Below w.heap.size w wc))
           case first =>
            have H := HC41.out
            clear HC41
            by_cases c42 : x58_32 = true
            ·subst c42
             have H1 : (bocageref04_read.j4 kj32 a0 a1 x11_24 0 0 0 0 2 t478) = some (r1, r2, r3, r4, r5, r6) := by rw [if_pos rfl] at H; exact H
             clear H
             have H := H1
             clear H1
             have H' := Aside0.mk H
             clear H
             have hnb43 := NB480_472.out
             have hnc43 := NB472_480.out
             have hnb44 := NB480_473.out
             have hnc44 := NB473_480.out
             have hcz45_0 : wc.cell? ⟨gb480, 0, none⟩ = some (.int .i64 t477) := (blk_cell BK480.out 0).trans rfl
             have hcz45_1 : wc.cell? ⟨gb480, 1, none⟩ = some (.int .i64 t478) := (blk_cell BK480.out 1).trans rfl
             have hfz45_0 := blk_frozen BK480.out 0
             have hfz45_1 := blk_frozen BK480.out 1
             go_wp2
             go_meet
             case rel => exact ⟨_, (2), H', ⟨by have := HJ3.out; have := HJ16.out; have := HJ24.out; have := HJ32.out; first | omega | exact Nat.le_refl _⟩, ⟨by (with_reducible repeat (first | refine blk_drewN ?_ _ | refine blk_drew ?_ | refine blk_alloc ?_ _)); refine blk_far ?_ NB472_480.out _; (with_reducible repeat (first | refine blk_drewN ?_ _ | refine blk_drew ?_ | refine blk_alloc ?_ _)); exact BK472.out⟩, ⟨by (with_reducible repeat (first | refine blk_drewN ?_ _ | refine blk_drew ?_ | refine blk_alloc ?_ _)); refine blk_far ?_ NB473_480.out _; (with_reducible repeat (first | refine blk_drewN ?_ _ | refine blk_drew ?_ | refine blk_alloc ?_ _)); exact BK473.out⟩, ⟨by (with_reducible repeat (first | refine blk_drewN ?_ _ | refine blk_drew ?_ | refine blk_alloc ?_ _)); refine blk_put (cs := #[.int .i64 t477, .int .i64 t478]) ?_ 0 _ rfl; (with_reducible repeat (first | refine blk_drewN ?_ _ | refine blk_drew ?_ | refine blk_alloc ?_ _)); exact BK480.out⟩, ⟨bl HB⟩⟩
            ·replace c42 := Bool.eq_false_iff.mpr c42
             subst c42
             have H1 : (bocageref04_read.j4 kj32 a0 a1 x11_24 0 0 0 0 t477 t478) = some (r1, r2, r3, r4, r5, r6) := by rw [if_neg (show ¬ (false = true) by decide)] at H; exact H
             clear H
             have H := H1
             clear H1
             have H' := Aside0.mk H
             clear H
             go_wp2
             go_meet
             case rel => exact ⟨_, (t477), H', ⟨by have := HJ3.out; have := HJ16.out; have := HJ24.out; have := HJ32.out; first | omega | exact Nat.le_refl _⟩, ⟨bk BK472⟩, ⟨bk BK473⟩, ⟨bk BK480⟩, ⟨bl HB⟩⟩
           case rest =>
            clear HC41
            obtain ⟨kq, x481000_40, HA, HJ40, BK472, BK473, BK480, HB⟩ := hcut
            cases kq with
            | zero => exact absurd HA.out (by simp [bocageref04_read.j4])
            | succ kj40 =>
             have H := HA.out
             clear HA
             simp only [bocageref04_read.j4] at H
             replace H := Option.bind_eq_some_iff.mp H
             obtain ⟨t482, A460, H⟩ := H
             (try (set_option simprocs false in dsimp only at H))
             have A46 := Aside0.mk A460
             clear A460
             replace H := Option.bind_eq_some_iff.mp H
             obtain ⟨t483, A470, H⟩ := H
             (try (set_option simprocs false in dsimp only at H))
             have A47 := Aside0.mk A470
             clear A470
             by_cases c48 : t483 = true
             ·subst c48
              have H1 : ((bocageref04_blanks.f kj40 a0 (wrap64 (t482 + 1)) a1).bind fun t484 => ((bocageref04_end.f kj40 a0 t484 (⟨#[43, 105, 110, 102]⟩ : ByteArray) a1).bind fun bt485 => (if bt485.2.2 < 0 then (some (0, 0, 0, 0, t484, 40)) else ((bocageref04_blanks.f kj40 a0 bt485.2.2 a1).bind fun t489 => (if a1 = true then ((bocageref04_is.f a0 t489 (⟨#[93]⟩ : ByteArray)).bind fun t490 => (bocageref04_read.j5 kj40 a0 t489 t484 t490 0 0 0 0 x481000_40 t478 bt485.1 bt485.2.1)) else (bocageref04_read.j5 kj40 a0 t489 t484 false 0 0 0 0 x481000_40 t478 bt485.1 bt485.2.1)))))) = some (r1, r2, r3, r4, r5, r6) := by rw [if_pos rfl] at H; exact H
              clear H
              have H := H1
              clear H1
              replace H := Option.bind_eq_some_iff.mp H
              obtain ⟨t484, A490, H⟩ := H
              (try (set_option simprocs false in dsimp only at H))
              have A49 := Aside0.mk A490
              clear A490
              replace H := Option.bind_eq_some_iff.mp H
              obtain ⟨⟨t485, t486, t487⟩, A500, H⟩ := H
              (try (set_option simprocs false in dsimp only at H))
              have A50 := Aside0.mk A500
              clear A500
              by_cases c51 : t487 < 0
              ·rw [if_pos c51] at H
               have c51b0 : decide (t487 < 0) = true := decide_eq_true c51
               clear c51
               simp only [Option.some.injEq, Prod.mk.injEq] at H
               obtain ⟨rfl, rfl, rfl, rfl, rfl, rfl⟩ := H
               go_wp2_with (first | ((with_reducible refine gate_callee (f := 57) rfl ?_); refine gol (some 63) Try.func57 #[.string a0, .int .i64 x11_24, .bool a1] ?_; (with_reducible refine (bocageref04_blanks.calls kj40 a0 x11_24 a1 t482 _ A46.out).mono ?_); rintro e w' ⟨rfl, ⟨nd, rfl⟩⟩; refine ⟨_, rfl, ?_⟩; (try (rw [drewN_self wc]; generalize hq_ : World.drewN wc _ = wc; have n0_ : Aside0 (wc.heap[gb472]? = some (.cells #[.int .i64 0, .int .i64 0, .int .i64 0, .int .i64 0] 27 (0, 0))) := ⟨by rw [← hq_]; exact (bk BK472)⟩; have n1_ : Aside0 (wc.heap[gb473]? = some (.cells #[.int .i64 0, .int .i64 0, .int .i64 0, .int .i64 0] 27 (0, 0))) := ⟨by rw [← hq_]; exact (bk BK473)⟩; have n2_ : Aside0 (wc.heap[gb480]? = some (.cells #[.int .i64 x481000_40, .int .i64 t478] 23 (0, 0))) := ⟨by rw [← hq_]; exact (bk BK480)⟩; have n3_ : Aside0 (Below w.heap.size w wc) := ⟨by rw [← hq_]; exact (bl HB)⟩; clear BK472 BK473 BK480 HB hq_; have BK472 := n0_; have BK473 := n1_; have BK480 := n2_; have HB := n3_; clear n0_ n1_ n2_ n3_))) | ((with_reducible refine gate_callee (f := 56) rfl ?_); refine gol (some 66) Try.func56 #[.string a0, .int .i64 t482, .string (⟨#[44]⟩ : ByteArray)] ?_; (with_reducible refine (bocageref04_is.calls a0 t482 (⟨#[44]⟩ : ByteArray) true _ A47.out).mono ?_); rintro e w' ⟨rfl, ⟨nd, rfl⟩⟩; refine ⟨_, rfl, ?_⟩; (try (rw [drewN_self wc]; generalize hq_ : World.drewN wc _ = wc; have n0_ : Aside0 (wc.heap[gb472]? = some (.cells #[.int .i64 0, .int .i64 0, .int .i64 0, .int .i64 0] 27 (0, 0))) := ⟨by rw [← hq_]; exact (bk BK472)⟩; have n1_ : Aside0 (wc.heap[gb473]? = some (.cells #[.int .i64 0, .int .i64 0, .int .i64 0, .int .i64 0] 27 (0, 0))) := ⟨by rw [← hq_]; exact (bk BK473)⟩; have n2_ : Aside0 (wc.heap[gb480]? = some (.cells #[.int .i64 x481000_40, .int .i64 t478] 23 (0, 0))) := ⟨by rw [← hq_]; exact (bk BK480)⟩; have n3_ : Aside0 (Below w.heap.size w wc) := ⟨by rw [← hq_]; exact (bl HB)⟩; clear BK472 BK473 BK480 HB hq_; have BK472 := n0_; have BK473 := n1_; have BK480 := n2_; have HB := n3_; clear n0_ n1_ n2_ n3_))) | ((with_reducible refine gate_callee (f := 57) rfl ?_); refine gol (some 74) Try.func57 #[.string a0, .int .i64 (wrap64 (t482 + 1)), .bool a1] ?_; (with_reducible refine (bocageref04_blanks.calls kj40 a0 (wrap64 (t482 + 1)) a1 t484 _ A49.out).mono ?_); rintro e w' ⟨rfl, ⟨nd, rfl⟩⟩; refine ⟨_, rfl, ?_⟩; (try (rw [drewN_self wc]; generalize hq_ : World.drewN wc _ = wc; have n0_ : Aside0 (wc.heap[gb472]? = some (.cells #[.int .i64 0, .int .i64 0, .int .i64 0, .int .i64 0] 27 (0, 0))) := ⟨by rw [← hq_]; exact (bk BK472)⟩; have n1_ : Aside0 (wc.heap[gb473]? = some (.cells #[.int .i64 0, .int .i64 0, .int .i64 0, .int .i64 0] 27 (0, 0))) := ⟨by rw [← hq_]; exact (bk BK473)⟩; have n2_ : Aside0 (wc.heap[gb480]? = some (.cells #[.int .i64 x481000_40, .int .i64 t478] 23 (0, 0))) := ⟨by rw [← hq_]; exact (bk BK480)⟩; have n3_ : Aside0 (Below w.heap.size w wc) := ⟨by rw [← hq_]; exact (bl HB)⟩; clear BK472 BK473 BK480 HB hq_; have BK472 := n0_; have BK473 := n1_; have BK480 := n2_; have HB := n3_; clear n0_ n1_ n2_ n3_))) | ((with_reducible refine gate_callee (f := 58) rfl ?_); refine gol (some 80) Try.func58 #[.string a0, .int .i64 t484, .string (⟨#[43, 105, 110, 102]⟩ : ByteArray), .bool a1] ?_; (with_reducible refine (bocageref04_end.calls kj40 a0 t484 (⟨#[43, 105, 110, 102]⟩ : ByteArray) a1 t485 t486 t487 _ A50.out).mono ?_); rintro e w52 ⟨rfl, hb⟩; refine ⟨_, rfl, ?_⟩; replace BK472 := bkb BK472 hb; replace BK473 := bkb BK473 hb; replace BK480 := bkb BK480 hb; replace HB := bst HB hb; (try clear hb); (try clear hb2); (try clear hk); (try clear hi)) | ((with_reducible refine gate_dst (N := 13) rfl ?_); refine bxe (N := 13) (cs := #[.int .i64 0, .int .i64 0]) (t := 23) ?_; intro gb488 hg w53 hbox hb; have BK488 := Aside0.mk (hbox); have GW488 := lsz hg HB; have GE488 := lsz hg HB; replace HB := bst HB hb; have NB472_488 := nlt hg BK472; have NB488_472 := ngt hg BK472; replace BK472 := bkb BK472 hb; have NB473_488 := nlt hg BK473; have NB488_473 := ngt hg BK473; replace BK473 := bkb BK473 hb; have NB480_488 := nlt hg BK480; have NB488_480 := ngt hg BK480; replace BK480 := bkb BK480 hb; clear hb hbox hg; have hnb54 := NB488_472.out; have hnc54 := NB472_488.out; have hnb55 := NB488_473.out; have hnc55 := NB473_488.out; have hnb56 := NB488_480.out; have hnc56 := NB480_488.out; obtain ⟨hcz57_0, hcz57_1⟩ := e2 BK488; obtain ⟨hfz57_0, hfz57_1⟩ := f2 BK488; have hnb58 := NB473_472.out; have hnc58 := NB472_473.out; have hnb59 := NB473_480.out; have hnc59 := NB480_473.out; obtain ⟨hcz60_0, hcz60_1, hcz60_2, hcz60_3⟩ := e4 BK473; obtain ⟨hfz60_0, hfz60_1, hfz60_2, hfz60_3⟩ := f4 BK473; have hnb61 := NB472_480.out; have hnc61 := NB480_472.out; obtain ⟨hcz62_0, hcz62_1, hcz62_2, hcz62_3⟩ := e4 BK472; obtain ⟨hfz62_0, hfz62_1, hfz62_2, hfz62_3⟩ := f4 BK472))
               refine bodyPost_ret (results_ctt rfl _ _ gb472 27 #[.int .i64 0, .int .i64 0, .int .i64 0, .int .i64 0] (0, 0) _ rfl (by (with_reducible repeat (first | refine blk_drewN ?_ _ | refine blk_drew ?_ | refine blk_alloc ?_ _)); refine blk_put (cs := #[.int .i64 0, .int .i64 0, .int .i64 0, .int .i64 0]) ?_ 3 _ rfl; (with_reducible repeat (first | refine blk_drewN ?_ _ | refine blk_drew ?_ | refine blk_alloc ?_ _)); refine blk_put (cs := #[.int .i64 0, .int .i64 0, .int .i64 0, .int .i64 0]) ?_ 2 _ rfl; (with_reducible repeat (first | refine blk_drewN ?_ _ | refine blk_drew ?_ | refine blk_alloc ?_ _)); refine blk_put (cs := #[.int .i64 0, .int .i64 0, .int .i64 0, .int .i64 0]) ?_ 1 _ rfl; (with_reducible repeat (first | refine blk_drewN ?_ _ | refine blk_drew ?_ | refine blk_alloc ?_ _)); refine blk_put (cs := #[.int .i64 0, .int .i64 0, .int .i64 0, .int .i64 0]) ?_ 0 _ rfl; (with_reducible repeat (first | refine blk_drewN ?_ _ | refine blk_drew ?_ | refine blk_alloc ?_ _)); refine blk_far ?_ NB472_488.out _; (with_reducible repeat (first | refine blk_drewN ?_ _ | refine blk_drew ?_ | refine blk_alloc ?_ _)); refine blk_far ?_ NB472_488.out _; (with_reducible repeat (first | refine blk_drewN ?_ _ | refine blk_drew ?_ | refine blk_alloc ?_ _)); exact BK472.out) Try.underlying27 rfl (by kernel_rfl)) rfl ?_
               exact endB HB
              ·rw [if_neg c51] at H
               have c51b0 : decide (t487 < 0) = false := decide_eq_false c51
               clear c51
               replace H := Option.bind_eq_some_iff.mp H
               obtain ⟨t489, A630, H⟩ := H
               (try (set_option simprocs false in dsimp only at H))
               have A63 := Aside0.mk A630
               clear A630
               have HC64 := Aside0.mk H
               clear H
               go_upto_region 22 with (first | ((with_reducible refine gate_callee (f := 57) rfl ?_); refine gol (some 63) Try.func57 #[.string a0, .int .i64 x11_24, .bool a1] ?_; (with_reducible refine (bocageref04_blanks.calls kj40 a0 x11_24 a1 t482 _ A46.out).mono ?_); rintro e w' ⟨rfl, ⟨nd, rfl⟩⟩; refine ⟨_, rfl, ?_⟩; (try (rw [drewN_self wc]; generalize hq_ : World.drewN wc _ = wc; have n0_ : Aside0 (wc.heap[gb472]? = some (.cells #[.int .i64 0, .int .i64 0, .int .i64 0, .int .i64 0] 27 (0, 0))) := ⟨by rw [← hq_]; exact (bk BK472)⟩; have n1_ : Aside0 (wc.heap[gb473]? = some (.cells #[.int .i64 0, .int .i64 0, .int .i64 0, .int .i64 0] 27 (0, 0))) := ⟨by rw [← hq_]; exact (bk BK473)⟩; have n2_ : Aside0 (wc.heap[gb480]? = some (.cells #[.int .i64 x481000_40, .int .i64 t478] 23 (0, 0))) := ⟨by rw [← hq_]; exact (bk BK480)⟩; have n3_ : Aside0 (Below w.heap.size w wc) := ⟨by rw [← hq_]; exact (bl HB)⟩; clear BK472 BK473 BK480 HB hq_; have BK472 := n0_; have BK473 := n1_; have BK480 := n2_; have HB := n3_; clear n0_ n1_ n2_ n3_))) | ((with_reducible refine gate_callee (f := 56) rfl ?_); refine gol (some 66) Try.func56 #[.string a0, .int .i64 t482, .string (⟨#[44]⟩ : ByteArray)] ?_; (with_reducible refine (bocageref04_is.calls a0 t482 (⟨#[44]⟩ : ByteArray) true _ A47.out).mono ?_); rintro e w' ⟨rfl, ⟨nd, rfl⟩⟩; refine ⟨_, rfl, ?_⟩; (try (rw [drewN_self wc]; generalize hq_ : World.drewN wc _ = wc; have n0_ : Aside0 (wc.heap[gb472]? = some (.cells #[.int .i64 0, .int .i64 0, .int .i64 0, .int .i64 0] 27 (0, 0))) := ⟨by rw [← hq_]; exact (bk BK472)⟩; have n1_ : Aside0 (wc.heap[gb473]? = some (.cells #[.int .i64 0, .int .i64 0, .int .i64 0, .int .i64 0] 27 (0, 0))) := ⟨by rw [← hq_]; exact (bk BK473)⟩; have n2_ : Aside0 (wc.heap[gb480]? = some (.cells #[.int .i64 x481000_40, .int .i64 t478] 23 (0, 0))) := ⟨by rw [← hq_]; exact (bk BK480)⟩; have n3_ : Aside0 (Below w.heap.size w wc) := ⟨by rw [← hq_]; exact (bl HB)⟩; clear BK472 BK473 BK480 HB hq_; have BK472 := n0_; have BK473 := n1_; have BK480 := n2_; have HB := n3_; clear n0_ n1_ n2_ n3_))) | ((with_reducible refine gate_callee (f := 57) rfl ?_); refine gol (some 74) Try.func57 #[.string a0, .int .i64 (wrap64 (t482 + 1)), .bool a1] ?_; (with_reducible refine (bocageref04_blanks.calls kj40 a0 (wrap64 (t482 + 1)) a1 t484 _ A49.out).mono ?_); rintro e w' ⟨rfl, ⟨nd, rfl⟩⟩; refine ⟨_, rfl, ?_⟩; (try (rw [drewN_self wc]; generalize hq_ : World.drewN wc _ = wc; have n0_ : Aside0 (wc.heap[gb472]? = some (.cells #[.int .i64 0, .int .i64 0, .int .i64 0, .int .i64 0] 27 (0, 0))) := ⟨by rw [← hq_]; exact (bk BK472)⟩; have n1_ : Aside0 (wc.heap[gb473]? = some (.cells #[.int .i64 0, .int .i64 0, .int .i64 0, .int .i64 0] 27 (0, 0))) := ⟨by rw [← hq_]; exact (bk BK473)⟩; have n2_ : Aside0 (wc.heap[gb480]? = some (.cells #[.int .i64 x481000_40, .int .i64 t478] 23 (0, 0))) := ⟨by rw [← hq_]; exact (bk BK480)⟩; have n3_ : Aside0 (Below w.heap.size w wc) := ⟨by rw [← hq_]; exact (bl HB)⟩; clear BK472 BK473 BK480 HB hq_; have BK472 := n0_; have BK473 := n1_; have BK480 := n2_; have HB := n3_; clear n0_ n1_ n2_ n3_))) | ((with_reducible refine gate_callee (f := 58) rfl ?_); refine gol (some 80) Try.func58 #[.string a0, .int .i64 t484, .string (⟨#[43, 105, 110, 102]⟩ : ByteArray), .bool a1] ?_; (with_reducible refine (bocageref04_end.calls kj40 a0 t484 (⟨#[43, 105, 110, 102]⟩ : ByteArray) a1 t485 t486 t487 _ A50.out).mono ?_); rintro e w65 ⟨rfl, hb⟩; refine ⟨_, rfl, ?_⟩; replace BK472 := bkb BK472 hb; replace BK473 := bkb BK473 hb; replace BK480 := bkb BK480 hb; replace HB := bst HB hb; (try clear hb); (try clear hb2); (try clear hk); (try clear hi)) | ((with_reducible refine gate_dst (N := 13) rfl ?_); refine bxe (N := 13) (cs := #[.int .i64 0, .int .i64 0]) (t := 23) ?_; intro gb488 hg w66 hbox hb; have BK488 := Aside0.mk (hbox); have GW488 := lsz hg HB; have GE488 := lsz hg HB; replace HB := bst HB hb; have NB472_488 := nlt hg BK472; have NB488_472 := ngt hg BK472; replace BK472 := bkb BK472 hb; have NB473_488 := nlt hg BK473; have NB488_473 := ngt hg BK473; replace BK473 := bkb BK473 hb; have NB480_488 := nlt hg BK480; have NB488_480 := ngt hg BK480; replace BK480 := bkb BK480 hb; clear hb hbox hg; have hnb67 := NB488_472.out; have hnc67 := NB472_488.out; have hnb68 := NB488_473.out; have hnc68 := NB473_488.out; have hnb69 := NB488_480.out; have hnc69 := NB480_488.out; obtain ⟨hcz70_0, hcz70_1⟩ := e2 BK488; obtain ⟨hfz70_0, hfz70_1⟩ := f2 BK488) | ((with_reducible refine gate_callee (f := 57) rfl ?_); refine gol (some 90) Try.func57 #[.string a0, .int .i64 t487, .bool a1] ?_; (with_reducible refine (bocageref04_blanks.calls kj40 a0 t487 a1 t489 _ A63.out).mono ?_); rintro e w' ⟨rfl, ⟨nd, rfl⟩⟩; refine ⟨_, rfl, ?_⟩))
               (try simp only [Act.put, List.setIfInBounds_toArray, List.set_cons_zero, List.set_cons_succ])
               go_cut [15] (fun v15 wc => ∃ (kq : Nat) (x15_63 : Bool), v15 = .bool x15_63 ∧ Aside0 (bocageref04_read.j5 kq a0 t489 t484 x15_63 0 0 0 0 x481000_40 t478 t485 t486 = some (r1, r2, r3, r4, r5, r6)) ∧ Aside0 (kq ≤ kj40) ∧ Aside0 (wc.heap[gb472]? = some (.cells #[.int .i64 0, .int .i64 0, .int .i64 0, .int .i64 0] 27 (0, 0))) ∧ Aside0 (wc.heap[gb473]? = some (.cells #[.int .i64 0, .int .i64 0, .int .i64 0, .int .i64 0] 27 (0, 0))) ∧ Aside0 (wc.heap[gb480]? = some (.cells #[.int .i64 x481000_40, .int .i64 t478] 23 (0, 0))) ∧ Aside0 (wc.heap[gb488]? = some (.cells #[.int .i64 t485, .int .i64 t486] 23 (0, 0))) ∧ Aside0 (Below w.heap.size w wc))
               case first =>
                have H := HC64.out
                clear HC64
                by_cases c71 : a1 = true
                ·subst c71
                 have H1 : ((bocageref04_is.f a0 t489 (⟨#[93]⟩ : ByteArray)).bind fun t490 => (bocageref04_read.j5 kj40 a0 t489 t484 t490 0 0 0 0 x481000_40 t478 t485 t486)) = some (r1, r2, r3, r4, r5, r6) := by rw [if_pos rfl] at H; exact H
                 clear H
                 have H := H1
                 clear H1
                 replace H := Option.bind_eq_some_iff.mp H
                 obtain ⟨t490, A720, H⟩ := H
                 (try (set_option simprocs false in dsimp only at H))
                 have A72 := Aside0.mk A720
                 clear A720
                 have H' := Aside0.mk H
                 clear H
                 go_wp2_with (first | (go_at_call 56; (with_reducible refine (bocageref04_is.calls a0 t489 (⟨#[93]⟩ : ByteArray) t490 _ A72.out).mono ?_); rintro e w' ⟨rfl, ⟨nd, rfl⟩⟩))
                 go_meet
                 case rel => exact ⟨_, (t490), (by first | rfl | (simp; done) | (simp [*]; done)), H', ⟨by have := HJ3.out; have := HJ16.out; have := HJ24.out; have := HJ32.out; have := HJ40.out; first | omega | exact Nat.le_refl _⟩, ⟨by (with_reducible repeat (first | refine blk_drewN ?_ _ | refine blk_drew ?_ | refine blk_alloc ?_ _)); refine blk_far ?_ NB472_488.out _; (with_reducible repeat (first | refine blk_drewN ?_ _ | refine blk_drew ?_ | refine blk_alloc ?_ _)); refine blk_far ?_ NB472_488.out _; (with_reducible repeat (first | refine blk_drewN ?_ _ | refine blk_drew ?_ | refine blk_alloc ?_ _)); exact BK472.out⟩, ⟨by (with_reducible repeat (first | refine blk_drewN ?_ _ | refine blk_drew ?_ | refine blk_alloc ?_ _)); refine blk_far ?_ NB473_488.out _; (with_reducible repeat (first | refine blk_drewN ?_ _ | refine blk_drew ?_ | refine blk_alloc ?_ _)); refine blk_far ?_ NB473_488.out _; (with_reducible repeat (first | refine blk_drewN ?_ _ | refine blk_drew ?_ | refine blk_alloc ?_ _)); exact BK473.out⟩, ⟨by (with_reducible repeat (first | refine blk_drewN ?_ _ | refine blk_drew ?_ | refine blk_alloc ?_ _)); refine blk_far ?_ NB480_488.out _; (with_reducible repeat (first | refine blk_drewN ?_ _ | refine blk_drew ?_ | refine blk_alloc ?_ _)); refine blk_far ?_ NB480_488.out _; (with_reducible repeat (first | refine blk_drewN ?_ _ | refine blk_drew ?_ | refine blk_alloc ?_ _)); exact BK480.out⟩, ⟨by (with_reducible repeat (first | refine blk_drewN ?_ _ | refine blk_drew ?_ | refine blk_alloc ?_ _)); refine blk_put (cs := #[.int .i64 t485, .int .i64 0]) ?_ 1 _ rfl; (with_reducible repeat (first | refine blk_drewN ?_ _ | refine blk_drew ?_ | refine blk_alloc ?_ _)); refine blk_put (cs := #[.int .i64 0, .int .i64 0]) ?_ 0 _ rfl; (with_reducible repeat (first | refine blk_drewN ?_ _ | refine blk_drew ?_ | refine blk_alloc ?_ _)); exact BK488.out⟩, ⟨bl HB⟩⟩
                ·replace c71 := Bool.eq_false_iff.mpr c71
                 subst c71
                 have H1 : (bocageref04_read.j5 kj40 a0 t489 t484 false 0 0 0 0 x481000_40 t478 t485 t486) = some (r1, r2, r3, r4, r5, r6) := by rw [if_neg (show ¬ (false = true) by decide)] at H; exact H
                 clear H
                 have H := H1
                 clear H1
                 have H' := Aside0.mk H
                 clear H
                 go_wp2
                 go_meet
                 case rel => exact ⟨_, (false), (by first | rfl | (simp; done) | (simp [*]; done)), H', ⟨by have := HJ3.out; have := HJ16.out; have := HJ24.out; have := HJ32.out; have := HJ40.out; first | omega | exact Nat.le_refl _⟩, ⟨by (with_reducible repeat (first | refine blk_drewN ?_ _ | refine blk_drew ?_ | refine blk_alloc ?_ _)); refine blk_far ?_ NB472_488.out _; (with_reducible repeat (first | refine blk_drewN ?_ _ | refine blk_drew ?_ | refine blk_alloc ?_ _)); refine blk_far ?_ NB472_488.out _; (with_reducible repeat (first | refine blk_drewN ?_ _ | refine blk_drew ?_ | refine blk_alloc ?_ _)); exact BK472.out⟩, ⟨by (with_reducible repeat (first | refine blk_drewN ?_ _ | refine blk_drew ?_ | refine blk_alloc ?_ _)); refine blk_far ?_ NB473_488.out _; (with_reducible repeat (first | refine blk_drewN ?_ _ | refine blk_drew ?_ | refine blk_alloc ?_ _)); refine blk_far ?_ NB473_488.out _; (with_reducible repeat (first | refine blk_drewN ?_ _ | refine blk_drew ?_ | refine blk_alloc ?_ _)); exact BK473.out⟩, ⟨by (with_reducible repeat (first | refine blk_drewN ?_ _ | refine blk_drew ?_ | refine blk_alloc ?_ _)); refine blk_far ?_ NB480_488.out _; (with_reducible repeat (first | refine blk_drewN ?_ _ | refine blk_drew ?_ | refine blk_alloc ?_ _)); refine blk_far ?_ NB480_488.out _; (with_reducible repeat (first | refine blk_drewN ?_ _ | refine blk_drew ?_ | refine blk_alloc ?_ _)); exact BK480.out⟩, ⟨by (with_reducible repeat (first | refine blk_drewN ?_ _ | refine blk_drew ?_ | refine blk_alloc ?_ _)); refine blk_put (cs := #[.int .i64 t485, .int .i64 0]) ?_ 1 _ rfl; (with_reducible repeat (first | refine blk_drewN ?_ _ | refine blk_drew ?_ | refine blk_alloc ?_ _)); refine blk_put (cs := #[.int .i64 0, .int .i64 0]) ?_ 0 _ rfl; (with_reducible repeat (first | refine blk_drewN ?_ _ | refine blk_drew ?_ | refine blk_alloc ?_ _)); exact BK488.out⟩, ⟨bl HB⟩⟩
               case rest =>
                clear HC64
                try clear c48
                try clear c51
                try clear c51b0
                try clear hcz70_0
                try clear hcz70_1
                try clear hfz70_0
                try clear hfz70_1
                obtain ⟨kq, x15_63, rfl, HA, HJ63, BK472, BK473, BK480, BK488, HB⟩ := hcut
                cases kq with
                | zero => exact absurd HA.out (by simp [bocageref04_read.j5])
                | succ kj63 =>
                 have H := HA.out
                 clear HA
                 simp only [bocageref04_read.j5] at H
                 have HC73 := Aside0.mk H
                 clear H
                 go_upto_region 23 with (fail)
                 go_cut [104] (fun v104 wc => ∃ (kq : Nat) (x104_72 : Bool), v104 = .bool x104_72 ∧ Aside0 (bocageref04_read.j6 kq t489 t484 x15_63 x104_72 0 0 0 0 x481000_40 t478 t485 t486 = some (r1, r2, r3, r4, r5, r6)) ∧ Aside0 (kq ≤ kj63) ∧ Aside0 (wc.heap[gb472]? = some (.cells #[.int .i64 0, .int .i64 0, .int .i64 0, .int .i64 0] 27 (0, 0))) ∧ Aside0 (wc.heap[gb473]? = some (.cells #[.int .i64 0, .int .i64 0, .int .i64 0, .int .i64 0] 27 (0, 0))) ∧ Aside0 (wc.heap[gb480]? = some (.cells #[.int .i64 x481000_40, .int .i64 t478] 23 (0, 0))) ∧ Aside0 (wc.heap[gb488]? = some (.cells #[.int .i64 t485, .int .i64 t486] 23 (0, 0))) ∧ Aside0 (Below w.heap.size w wc))
                 case first =>
                  have H := HC73.out
                  clear HC73
                  by_cases c74 : x15_63 = true
                  ·subst c74
                   have H1 : (bocageref04_read.j6 kj63 t489 t484 true false 0 0 0 0 x481000_40 t478 t485 t486) = some (r1, r2, r3, r4, r5, r6) := by rw [if_pos rfl] at H; exact H
                   clear H
                   have H := H1
                   clear H1
                   have H' := Aside0.mk H
                   clear H
                   go_wp2
                   go_meet
                   case rel => exact ⟨_, (false), (by first | rfl | (simp; done) | (simp [*]; done)), H', ⟨by have := HJ3.out; have := HJ16.out; have := HJ24.out; have := HJ32.out; have := HJ40.out; have := HJ63.out; first | omega | exact Nat.le_refl _⟩, ⟨bk BK472⟩, ⟨bk BK473⟩, ⟨bk BK480⟩, ⟨bk BK488⟩, ⟨bl HB⟩⟩
                  ·replace c74 := Bool.eq_false_iff.mpr c74
                   subst c74
                   have H1 : ((bocageref04_is.f a0 t489 (⟨#[41]⟩ : ByteArray)).bind fun t491 => (bocageref04_read.j6 kj63 t489 t484 false (!t491) 0 0 0 0 x481000_40 t478 t485 t486)) = some (r1, r2, r3, r4, r5, r6) := by rw [if_neg (show ¬ (false = true) by decide)] at H; exact H
                   clear H
                   have H := H1
                   clear H1
                   replace H := Option.bind_eq_some_iff.mp H
                   obtain ⟨t491, A750, H⟩ := H
                   (try (set_option simprocs false in dsimp only at H))
                   have A75 := Aside0.mk A750
                   clear A750
                   have H' := Aside0.mk H
                   clear H
                   go_wp2_with (first | (go_at_call 56; (with_reducible refine (bocageref04_is.calls a0 t489 (⟨#[41]⟩ : ByteArray) t491 _ A75.out).mono ?_); rintro e w' ⟨rfl, ⟨nd, rfl⟩⟩))
                   go_meet
                   case rel => exact ⟨_, (!t491), (by first | rfl | (simp; done) | (simp [*]; done)), H', ⟨by have := HJ3.out; have := HJ16.out; have := HJ24.out; have := HJ32.out; have := HJ40.out; have := HJ63.out; first | omega | exact Nat.le_refl _⟩, ⟨bk BK472⟩, ⟨bk BK473⟩, ⟨bk BK480⟩, ⟨bk BK488⟩, ⟨bl HB⟩⟩
                 case rest =>
                  clear HC73
                  obtain ⟨kq, x104_72, rfl, HA, HJ72, BK472, BK473, BK480, BK488, HB⟩ := hcut
                  cases kq with
                  | zero => exact absurd HA.out (by simp [bocageref04_read.j6])
                  | succ kj72 =>
                   have H := HA.out
                   clear HA
                   simp only [bocageref04_read.j6] at H
                   by_cases c76 : x104_72 = true
                   ·subst c76
                    have H1 : (some (0, 0, 0, 0, t489, 40)) = some (r1, r2, r3, r4, r5, r6) := by rw [if_pos rfl] at H; exact H
                    clear H
                    have H := H1
                    clear H1
                    simp only [Option.some.injEq, Prod.mk.injEq] at H
                    obtain ⟨rfl, rfl, rfl, rfl, rfl, rfl⟩ := H
                    have hnb77 := NB473_472.out
                    have hnc77 := NB472_473.out
                    have hnb78 := NB473_480.out
                    have hnc78 := NB480_473.out
                    have hnb79 := NB473_488.out
                    have hnc79 := NB488_473.out
                    have hcz80_0 : wc.cell? ⟨gb473, 0, none⟩ = some (.int .i64 0) := (blk_cell BK473.out 0).trans rfl
                    have hcz80_1 : wc.cell? ⟨gb473, 1, none⟩ = some (.int .i64 0) := (blk_cell BK473.out 1).trans rfl
                    have hcz80_2 : wc.cell? ⟨gb473, 2, none⟩ = some (.int .i64 0) := (blk_cell BK473.out 2).trans rfl
                    have hcz80_3 : wc.cell? ⟨gb473, 3, none⟩ = some (.int .i64 0) := (blk_cell BK473.out 3).trans rfl
                    have hfz80_0 := blk_frozen BK473.out 0
                    have hfz80_1 := blk_frozen BK473.out 1
                    have hfz80_2 := blk_frozen BK473.out 2
                    have hfz80_3 := blk_frozen BK473.out 3
                    have hnb81 := NB472_480.out
                    have hnc81 := NB480_472.out
                    have hnb82 := NB472_488.out
                    have hnc82 := NB488_472.out
                    have hcz83_0 : wc.cell? ⟨gb472, 0, none⟩ = some (.int .i64 0) := (blk_cell BK472.out 0).trans rfl
                    have hcz83_1 : wc.cell? ⟨gb472, 1, none⟩ = some (.int .i64 0) := (blk_cell BK472.out 1).trans rfl
                    have hcz83_2 : wc.cell? ⟨gb472, 2, none⟩ = some (.int .i64 0) := (blk_cell BK472.out 2).trans rfl
                    have hcz83_3 : wc.cell? ⟨gb472, 3, none⟩ = some (.int .i64 0) := (blk_cell BK472.out 3).trans rfl
                    have hfz83_0 := blk_frozen BK472.out 0
                    have hfz83_1 := blk_frozen BK472.out 1
                    have hfz83_2 := blk_frozen BK472.out 2
                    have hfz83_3 := blk_frozen BK472.out 3
                    go_wp2
                    refine bodyPost_ret (results_ctt rfl _ _ gb472 27 #[.int .i64 0, .int .i64 0, .int .i64 0, .int .i64 0] (0, 0) _ rfl (bkp BK472) Try.underlying27 rfl (by kernel_rfl)) rfl ?_
                    exact endB HB
                   ·replace c76 := Bool.eq_false_iff.mpr c76
                    subst c76
                    have H1 : (if t485 = 1 then (bocageref04_read.j7 kj72 t489 t484 x15_63 0 0 0 0 x481000_40 t478 t485 t486) else (bocageref04_read.j7 kj72 t489 t484 false 0 0 0 0 x481000_40 t478 t485 t486)) = some (r1, r2, r3, r4, r5, r6) := by rw [if_neg (show ¬ (false = true) by decide)] at H; exact H
                    clear H
                    have H := H1
                    clear H1
                    have HC84 := Aside0.mk H
                    clear H
                    go_upto_region 25 with (fail)
                    go_cut [112] (fun v112 wc => ∃ (kq : Nat) (x112_83 : Bool), v112 = .bool x112_83 ∧ Aside0 (bocageref04_read.j7 kq t489 t484 x112_83 0 0 0 0 x481000_40 t478 t485 t486 = some (r1, r2, r3, r4, r5, r6)) ∧ Aside0 (kq ≤ kj72) ∧ Aside0 (wc.heap[gb472]? = some (.cells #[.int .i64 0, .int .i64 0, .int .i64 0, .int .i64 0] 27 (0, 0))) ∧ Aside0 (wc.heap[gb473]? = some (.cells #[.int .i64 0, .int .i64 0, .int .i64 0, .int .i64 0] 27 (0, 0))) ∧ Aside0 (wc.heap[gb480]? = some (.cells #[.int .i64 x481000_40, .int .i64 t478] 23 (0, 0))) ∧ Aside0 (wc.heap[gb488]? = some (.cells #[.int .i64 t485, .int .i64 t486] 23 (0, 0))) ∧ Aside0 (Below w.heap.size w wc))
                    case first =>
                     have H := HC84.out
                     clear HC84
                     by_cases c85 : t485 = 1
                     ·rw [if_pos c85] at H
                      have c85b0 : (t485 == 1) = true := beq_iff_eq.mpr c85
                      have c85b1 : (t485 != 1) = false := bne_eq_false_iff_eq.mpr c85
                      clear c85
                      (first | rw [c85b0] | (simp only [i64_w, i32_w]; rw [c85b0]) | skip)
                      have H' := Aside0.mk H
                      clear H
                      have hnb86 := NB488_472.out
                      have hnc86 := NB472_488.out
                      have hnb87 := NB488_473.out
                      have hnc87 := NB473_488.out
                      have hnb88 := NB488_480.out
                      have hnc88 := NB480_488.out
                      have hcz89_0 : wc.cell? ⟨gb488, 0, none⟩ = some (.int .i64 t485) := (blk_cell BK488.out 0).trans rfl
                      have hcz89_1 : wc.cell? ⟨gb488, 1, none⟩ = some (.int .i64 t486) := (blk_cell BK488.out 1).trans rfl
                      have hfz89_0 := blk_frozen BK488.out 0
                      have hfz89_1 := blk_frozen BK488.out 1
                      go_wp2
                      go_meet
                      case rel => exact ⟨_, (x15_63), (by first | rfl | (simp; done) | (simp [*]; done)), H', ⟨by have := HJ3.out; have := HJ16.out; have := HJ24.out; have := HJ32.out; have := HJ40.out; have := HJ63.out; have := HJ72.out; first | omega | exact Nat.le_refl _⟩, ⟨bk BK472⟩, ⟨bk BK473⟩, ⟨bk BK480⟩, ⟨bk BK488⟩, ⟨bl HB⟩⟩
                     ·rw [if_neg c85] at H
                      have c85b0 : (t485 == 1) = false := beq_eq_false_iff_ne.mpr c85
                      have c85b1 : (t485 != 1) = true := bne_iff_ne.mpr c85
                      (first | rw [c85b0] | (simp only [i64_w, i32_w]; rw [c85b0]) | skip)
                      have H' := Aside0.mk H
                      clear H
                      have hnb90 := NB488_472.out
                      have hnc90 := NB472_488.out
                      have hnb91 := NB488_473.out
                      have hnc91 := NB473_488.out
                      have hnb92 := NB488_480.out
                      have hnc92 := NB480_488.out
                      have hcz93_0 : wc.cell? ⟨gb488, 0, none⟩ = some (.int .i64 t485) := (blk_cell BK488.out 0).trans rfl
                      have hcz93_1 : wc.cell? ⟨gb488, 1, none⟩ = some (.int .i64 t486) := (blk_cell BK488.out 1).trans rfl
                      have hfz93_0 := blk_frozen BK488.out 0
                      have hfz93_1 := blk_frozen BK488.out 1
                      go_wp2
                      go_meet
                      case rel => exact ⟨_, (false), (by first | rfl | (simp; done) | (simp [*]; done)), H', ⟨by have := HJ3.out; have := HJ16.out; have := HJ24.out; have := HJ32.out; have := HJ40.out; have := HJ63.out; have := HJ72.out; first | omega | exact Nat.le_refl _⟩, ⟨bk BK472⟩, ⟨bk BK473⟩, ⟨bk BK480⟩, ⟨bk BK488⟩, ⟨bl HB⟩⟩
                    case rest =>
                     clear HC84
                     try clear c76
                     obtain ⟨kq, x112_83, rfl, HA, HJ83, BK472, BK473, BK480, BK488, HB⟩ := hcut
                     cases kq with
                     | zero => exact absurd HA.out (by simp [bocageref04_read.j7])
                     | succ kj83 =>
                      have H := HA.out
                      clear HA
                      simp only [bocageref04_read.j7] at H
                      by_cases c94 : x112_83 = true
                      ·subst c94
                       have H1 : ((bocageref04_Span.f kj83 x481000_40 t478 2 t486).bind fun bt492 => (if bt492.2.2.2.2 = 0 then (some (bt492.1, bt492.2.1, bt492.2.2.1, bt492.2.2.2.1, wrap64 (t489 + 1), 0)) else (some (0, 0, 0, 0, t484, bt492.2.2.2.2)))) = some (r1, r2, r3, r4, r5, r6) := by rw [if_pos rfl] at H; exact H
                       clear H
                       have H := H1
                       clear H1
                       replace H := Option.bind_eq_some_iff.mp H
                       obtain ⟨⟨t492, t493, t494, t495, t496⟩, A950, H⟩ := H
                       (try (set_option simprocs false in dsimp only at H))
                       have A95 := Aside0.mk A950
                       clear A950
                       by_cases c96 : t496 = 0
                       ·rw [if_pos c96] at H
                        have c96b0 : (t496 == 0) = true := beq_iff_eq.mpr c96
                        have c96b1 : (t496 != 0) = false := bne_eq_false_iff_eq.mpr c96
                        clear c96
                        simp only [Option.some.injEq, Prod.mk.injEq] at H
                        obtain ⟨rfl, rfl, rfl, rfl, rfl, rfl⟩ := H
                        have hnb97 := NB488_472.out
                        have hnc97 := NB472_488.out
                        have hnb98 := NB488_473.out
                        have hnc98 := NB473_488.out
                        have hnb99 := NB488_480.out
                        have hnc99 := NB480_488.out
                        have hcz100_0 : wc.cell? ⟨gb488, 0, none⟩ = some (.int .i64 t485) := (blk_cell BK488.out 0).trans rfl
                        have hcz100_1 : wc.cell? ⟨gb488, 1, none⟩ = some (.int .i64 t486) := (blk_cell BK488.out 1).trans rfl
                        have hfz100_0 := blk_frozen BK488.out 0
                        have hfz100_1 := blk_frozen BK488.out 1
                        have hnb101 := NB480_472.out
                        have hnc101 := NB472_480.out
                        have hnb102 := NB480_473.out
                        have hnc102 := NB473_480.out
                        have hcz103_0 : wc.cell? ⟨gb480, 0, none⟩ = some (.int .i64 x481000_40) := (blk_cell BK480.out 0).trans rfl
                        have hcz103_1 : wc.cell? ⟨gb480, 1, none⟩ = some (.int .i64 t478) := (blk_cell BK480.out 1).trans rfl
                        have hfz103_0 := blk_frozen BK480.out 0
                        have hfz103_1 := blk_frozen BK480.out 1
                        go_wp2_with (first | ((with_reducible refine gate_callee (f := 22) rfl ?_); refine gol (some 117) Try.func22 #[.agg #[.int .i64 x481000_40, .int .i64 t478], .agg #[.int .i64 2, .int .i64 t486]] ?_; (with_reducible refine (bocageref04_Span.calls kj83 x481000_40 t478 2 t486 t492 t493 t494 t495 t496 _ A95.out).mono ?_); rintro e w104 ⟨rfl, hb⟩; refine ⟨_, rfl, ?_⟩; replace BK472 := Aside0.mk (blk_below (bkf BK472 NB472_488) hb); replace BK473 := Aside0.mk (blk_below (bkf BK473 NB473_488) hb); replace BK480 := Aside0.mk (blk_below (bkf BK480 NB480_488) hb); replace BK488 := Aside0.mk (blk_below (g := gb488) (o := .cells #[.int .i64 2, .int .i64 t486] 23 (0, 0)) (bkp BK488) hb); replace HB := bst HB hb; (try clear hb); (try clear hb2); (try clear hk); (try clear hi)) | ((with_reducible refine gate_dst (N := 16) rfl ?_); refine bxe (N := 16) (cs := #[.int .i64 0, .int .i64 0, .int .i64 0, .int .i64 0]) (t := 27) ?_; intro gb497 hg w105 hbox hb; have BK497 := Aside0.mk (hbox); have GW497 := lsz hg HB; have GE497 := lsz hg HB; replace HB := bst HB hb; have NB472_497 := nlt hg BK472; have NB497_472 := ngt hg BK472; replace BK472 := bkb BK472 hb; have NB473_497 := nlt hg BK473; have NB497_473 := ngt hg BK473; replace BK473 := bkb BK473 hb; have NB480_497 := nlt hg BK480; have NB497_480 := ngt hg BK480; replace BK480 := bkb BK480 hb; have NB488_497 := nlt hg BK488; have NB497_488 := ngt hg BK488; replace BK488 := bkb BK488 hb; clear hb hbox hg; have hnb106 := NB497_472.out; have hnc106 := NB472_497.out; have hnb107 := NB497_473.out; have hnc107 := NB473_497.out; have hnb108 := NB497_480.out; have hnc108 := NB480_497.out; have hnb109 := NB497_488.out; have hnc109 := NB488_497.out; obtain ⟨hcz110_0, hcz110_1, hcz110_2, hcz110_3⟩ := e4 BK497; obtain ⟨hfz110_0, hfz110_1, hfz110_2, hfz110_3⟩ := f4 BK497; have hnb111 := NB472_473.out; have hnc111 := NB473_472.out; obtain ⟨hcz112_0, hcz112_1, hcz112_2, hcz112_3⟩ := e4 BK472; obtain ⟨hfz112_0, hfz112_1, hfz112_2, hfz112_3⟩ := f4 BK472))
                        refine bodyPost_ret (results_ctt rfl _ _ gb472 27 #[.int .i64 t492, .int .i64 t493, .int .i64 t494, .int .i64 t495] (0, 0) _ rfl (by (with_reducible repeat (first | refine blk_drewN ?_ _ | refine blk_drew ?_ | refine blk_alloc ?_ _)); refine blk_put (cs := #[.int .i64 t492, .int .i64 t493, .int .i64 t494, .int .i64 0]) ?_ 3 _ rfl; (with_reducible repeat (first | refine blk_drewN ?_ _ | refine blk_drew ?_ | refine blk_alloc ?_ _)); refine blk_put (cs := #[.int .i64 t492, .int .i64 t493, .int .i64 0, .int .i64 0]) ?_ 2 _ rfl; (with_reducible repeat (first | refine blk_drewN ?_ _ | refine blk_drew ?_ | refine blk_alloc ?_ _)); refine blk_put (cs := #[.int .i64 t492, .int .i64 0, .int .i64 0, .int .i64 0]) ?_ 1 _ rfl; (with_reducible repeat (first | refine blk_drewN ?_ _ | refine blk_drew ?_ | refine blk_alloc ?_ _)); refine blk_put (cs := #[.int .i64 0, .int .i64 0, .int .i64 0, .int .i64 0]) ?_ 0 _ rfl; (with_reducible repeat (first | refine blk_drewN ?_ _ | refine blk_drew ?_ | refine blk_alloc ?_ _)); refine blk_far ?_ NB472_497.out _; (with_reducible repeat (first | refine blk_drewN ?_ _ | refine blk_drew ?_ | refine blk_alloc ?_ _)); refine blk_far ?_ NB472_497.out _; (with_reducible repeat (first | refine blk_drewN ?_ _ | refine blk_drew ?_ | refine blk_alloc ?_ _)); refine blk_far ?_ NB472_497.out _; (with_reducible repeat (first | refine blk_drewN ?_ _ | refine blk_drew ?_ | refine blk_alloc ?_ _)); refine blk_far ?_ NB472_497.out _; (with_reducible repeat (first | refine blk_drewN ?_ _ | refine blk_drew ?_ | refine blk_alloc ?_ _)); exact BK472.out) Try.underlying27 rfl (by kernel_rfl)) rfl ?_
                        exact endB HB
                       ·rw [if_neg c96] at H
                        have c96b0 : (t496 == 0) = false := beq_eq_false_iff_ne.mpr c96
                        have c96b1 : (t496 != 0) = true := bne_iff_ne.mpr c96
                        simp only [Option.some.injEq, Prod.mk.injEq] at H
                        obtain ⟨rfl, rfl, rfl, rfl, rfl, rfl⟩ := H
                        have hnb113 := NB488_472.out
                        have hnc113 := NB472_488.out
                        have hnb114 := NB488_473.out
                        have hnc114 := NB473_488.out
                        have hnb115 := NB488_480.out
                        have hnc115 := NB480_488.out
                        have hcz116_0 : wc.cell? ⟨gb488, 0, none⟩ = some (.int .i64 t485) := (blk_cell BK488.out 0).trans rfl
                        have hcz116_1 : wc.cell? ⟨gb488, 1, none⟩ = some (.int .i64 t486) := (blk_cell BK488.out 1).trans rfl
                        have hfz116_0 := blk_frozen BK488.out 0
                        have hfz116_1 := blk_frozen BK488.out 1
                        have hnb117 := NB480_472.out
                        have hnc117 := NB472_480.out
                        have hnb118 := NB480_473.out
                        have hnc118 := NB473_480.out
                        have hcz119_0 : wc.cell? ⟨gb480, 0, none⟩ = some (.int .i64 x481000_40) := (blk_cell BK480.out 0).trans rfl
                        have hcz119_1 : wc.cell? ⟨gb480, 1, none⟩ = some (.int .i64 t478) := (blk_cell BK480.out 1).trans rfl
                        have hfz119_0 := blk_frozen BK480.out 0
                        have hfz119_1 := blk_frozen BK480.out 1
                        go_wp2_with (first | ((with_reducible refine gate_callee (f := 22) rfl ?_); refine gol (some 117) Try.func22 #[.agg #[.int .i64 x481000_40, .int .i64 t478], .agg #[.int .i64 2, .int .i64 t486]] ?_; (with_reducible refine (bocageref04_Span.calls kj83 x481000_40 t478 2 t486 t492 t493 t494 t495 t496 _ A95.out).mono ?_); rintro e w120 ⟨rfl, hb⟩; refine ⟨_, rfl, ?_⟩; replace BK472 := Aside0.mk (blk_below (bkf BK472 NB472_488) hb); replace BK473 := Aside0.mk (blk_below (bkf BK473 NB473_488) hb); replace BK480 := Aside0.mk (blk_below (bkf BK480 NB480_488) hb); replace BK488 := Aside0.mk (blk_below (g := gb488) (o := .cells #[.int .i64 2, .int .i64 t486] 23 (0, 0)) (bkp BK488) hb); replace HB := bst HB hb; (try clear hb); (try clear hb2); (try clear hk); (try clear hi)) | ((with_reducible refine gate_dst (N := 16) rfl ?_); refine bxe (N := 16) (cs := #[.int .i64 0, .int .i64 0, .int .i64 0, .int .i64 0]) (t := 27) ?_; intro gb497 hg w121 hbox hb; have BK497 := Aside0.mk (hbox); have GW497 := lsz hg HB; have GE497 := lsz hg HB; replace HB := bst HB hb; have NB472_497 := nlt hg BK472; have NB497_472 := ngt hg BK472; replace BK472 := bkb BK472 hb; have NB473_497 := nlt hg BK473; have NB497_473 := ngt hg BK473; replace BK473 := bkb BK473 hb; have NB480_497 := nlt hg BK480; have NB497_480 := ngt hg BK480; replace BK480 := bkb BK480 hb; have NB488_497 := nlt hg BK488; have NB497_488 := ngt hg BK488; replace BK488 := bkb BK488 hb; clear hb hbox hg; have hnb122 := NB497_472.out; have hnc122 := NB472_497.out; have hnb123 := NB497_473.out; have hnc123 := NB473_497.out; have hnb124 := NB497_480.out; have hnc124 := NB480_497.out; have hnb125 := NB497_488.out; have hnc125 := NB488_497.out; obtain ⟨hcz126_0, hcz126_1, hcz126_2, hcz126_3⟩ := e4 BK497; obtain ⟨hfz126_0, hfz126_1, hfz126_2, hfz126_3⟩ := f4 BK497; have hnb127 := NB473_472.out; have hnc127 := NB472_473.out; obtain ⟨hcz128_0, hcz128_1, hcz128_2, hcz128_3⟩ := e4 BK473; obtain ⟨hfz128_0, hfz128_1, hfz128_2, hfz128_3⟩ := f4 BK473; obtain ⟨hcz129_0, hcz129_1, hcz129_2, hcz129_3⟩ := e4 BK472; obtain ⟨hfz129_0, hfz129_1, hfz129_2, hfz129_3⟩ := f4 BK472))
                        refine bodyPost_ret (results_ctt rfl _ _ gb472 27 #[.int .i64 0, .int .i64 0, .int .i64 0, .int .i64 0] (0, 0) _ rfl (by (with_reducible repeat (first | refine blk_drewN ?_ _ | refine blk_drew ?_ | refine blk_alloc ?_ _)); refine blk_put (cs := #[.int .i64 0, .int .i64 0, .int .i64 0, .int .i64 0]) ?_ 3 _ rfl; (with_reducible repeat (first | refine blk_drewN ?_ _ | refine blk_drew ?_ | refine blk_alloc ?_ _)); refine blk_put (cs := #[.int .i64 0, .int .i64 0, .int .i64 0, .int .i64 0]) ?_ 2 _ rfl; (with_reducible repeat (first | refine blk_drewN ?_ _ | refine blk_drew ?_ | refine blk_alloc ?_ _)); refine blk_put (cs := #[.int .i64 0, .int .i64 0, .int .i64 0, .int .i64 0]) ?_ 1 _ rfl; (with_reducible repeat (first | refine blk_drewN ?_ _ | refine blk_drew ?_ | refine blk_alloc ?_ _)); refine blk_put (cs := #[.int .i64 0, .int .i64 0, .int .i64 0, .int .i64 0]) ?_ 0 _ rfl; (with_reducible repeat (first | refine blk_drewN ?_ _ | refine blk_drew ?_ | refine blk_alloc ?_ _)); refine blk_far ?_ NB472_497.out _; (with_reducible repeat (first | refine blk_drewN ?_ _ | refine blk_drew ?_ | refine blk_alloc ?_ _)); refine blk_far ?_ NB472_497.out _; (with_reducible repeat (first | refine blk_drewN ?_ _ | refine blk_drew ?_ | refine blk_alloc ?_ _)); refine blk_far ?_ NB472_497.out _; (with_reducible repeat (first | refine blk_drewN ?_ _ | refine blk_drew ?_ | refine blk_alloc ?_ _)); refine blk_far ?_ NB472_497.out _; (with_reducible repeat (first | refine blk_drewN ?_ _ | refine blk_drew ?_ | refine blk_alloc ?_ _)); exact BK472.out) Try.underlying27 rfl (by kernel_rfl)) rfl ?_
                        exact endB HB
                      ·replace c94 := Bool.eq_false_iff.mpr c94
                       subst c94
                       have H1 : ((bocageref04_Span.f kj83 x481000_40 t478 t485 t486).bind fun bt498 => (if bt498.2.2.2.2 = 0 then (some (bt498.1, bt498.2.1, bt498.2.2.1, bt498.2.2.2.1, wrap64 (t489 + 1), 0)) else (some (0, 0, 0, 0, t484, bt498.2.2.2.2)))) = some (r1, r2, r3, r4, r5, r6) := by rw [if_neg (show ¬ (false = true) by decide)] at H; exact H
                       clear H
                       have H := H1
                       clear H1
                       replace H := Option.bind_eq_some_iff.mp H
                       obtain ⟨⟨t498, t499, t500, t501, t502⟩, A1300, H⟩ := H
                       (try (set_option simprocs false in dsimp only at H))
                       have A130 := Aside0.mk A1300
                       clear A1300
                       by_cases c131 : t502 = 0
                       ·rw [if_pos c131] at H
                        have c131b0 : (t502 == 0) = true := beq_iff_eq.mpr c131
                        have c131b1 : (t502 != 0) = false := bne_eq_false_iff_eq.mpr c131
                        clear c131
                        simp only [Option.some.injEq, Prod.mk.injEq] at H
                        obtain ⟨rfl, rfl, rfl, rfl, rfl, rfl⟩ := H
                        have hnb132 := NB480_472.out
                        have hnc132 := NB472_480.out
                        have hnb133 := NB480_473.out
                        have hnc133 := NB473_480.out
                        have hnb134 := NB480_488.out
                        have hnc134 := NB488_480.out
                        have hcz135_0 : wc.cell? ⟨gb480, 0, none⟩ = some (.int .i64 x481000_40) := (blk_cell BK480.out 0).trans rfl
                        have hcz135_1 : wc.cell? ⟨gb480, 1, none⟩ = some (.int .i64 t478) := (blk_cell BK480.out 1).trans rfl
                        have hfz135_0 := blk_frozen BK480.out 0
                        have hfz135_1 := blk_frozen BK480.out 1
                        have hnb136 := NB488_472.out
                        have hnc136 := NB472_488.out
                        have hnb137 := NB488_473.out
                        have hnc137 := NB473_488.out
                        have hcz138_0 : wc.cell? ⟨gb488, 0, none⟩ = some (.int .i64 t485) := (blk_cell BK488.out 0).trans rfl
                        have hcz138_1 : wc.cell? ⟨gb488, 1, none⟩ = some (.int .i64 t486) := (blk_cell BK488.out 1).trans rfl
                        have hfz138_0 := blk_frozen BK488.out 0
                        have hfz138_1 := blk_frozen BK488.out 1
                        go_wp2_with (first | ((with_reducible refine gate_callee (f := 22) rfl ?_); refine gol (some 117) Try.func22 #[.agg #[.int .i64 x481000_40, .int .i64 t478], .agg #[.int .i64 t485, .int .i64 t486]] ?_; (with_reducible refine (bocageref04_Span.calls kj83 x481000_40 t478 t485 t486 t498 t499 t500 t501 t502 _ A130.out).mono ?_); rintro e w139 ⟨rfl, hb⟩; refine ⟨_, rfl, ?_⟩; replace BK472 := bkb BK472 hb; replace BK473 := bkb BK473 hb; replace BK480 := bkb BK480 hb; replace BK488 := bkb BK488 hb; replace HB := bst HB hb; (try clear hb); (try clear hb2); (try clear hk); (try clear hi)) | ((with_reducible refine gate_dst (N := 16) rfl ?_); refine bxe (N := 16) (cs := #[.int .i64 0, .int .i64 0, .int .i64 0, .int .i64 0]) (t := 27) ?_; intro gb503 hg w140 hbox hb; have BK503 := Aside0.mk (hbox); have GW503 := lsz hg HB; have GE503 := lsz hg HB; replace HB := bst HB hb; have NB472_503 := nlt hg BK472; have NB503_472 := ngt hg BK472; replace BK472 := bkb BK472 hb; have NB473_503 := nlt hg BK473; have NB503_473 := ngt hg BK473; replace BK473 := bkb BK473 hb; have NB480_503 := nlt hg BK480; have NB503_480 := ngt hg BK480; replace BK480 := bkb BK480 hb; have NB488_503 := nlt hg BK488; have NB503_488 := ngt hg BK488; replace BK488 := bkb BK488 hb; clear hb hbox hg; have hnb141 := NB503_472.out; have hnc141 := NB472_503.out; have hnb142 := NB503_473.out; have hnc142 := NB473_503.out; have hnb143 := NB503_480.out; have hnc143 := NB480_503.out; have hnb144 := NB503_488.out; have hnc144 := NB488_503.out; obtain ⟨hcz145_0, hcz145_1, hcz145_2, hcz145_3⟩ := e4 BK503; obtain ⟨hfz145_0, hfz145_1, hfz145_2, hfz145_3⟩ := f4 BK503; have hnb146 := NB472_473.out; have hnc146 := NB473_472.out; obtain ⟨hcz147_0, hcz147_1, hcz147_2, hcz147_3⟩ := e4 BK472; obtain ⟨hfz147_0, hfz147_1, hfz147_2, hfz147_3⟩ := f4 BK472))
                        refine bodyPost_ret (results_ctt rfl _ _ gb472 27 #[.int .i64 t498, .int .i64 t499, .int .i64 t500, .int .i64 t501] (0, 0) _ rfl (by (with_reducible repeat (first | refine blk_drewN ?_ _ | refine blk_drew ?_ | refine blk_alloc ?_ _)); refine blk_put (cs := #[.int .i64 t498, .int .i64 t499, .int .i64 t500, .int .i64 0]) ?_ 3 _ rfl; (with_reducible repeat (first | refine blk_drewN ?_ _ | refine blk_drew ?_ | refine blk_alloc ?_ _)); refine blk_put (cs := #[.int .i64 t498, .int .i64 t499, .int .i64 0, .int .i64 0]) ?_ 2 _ rfl; (with_reducible repeat (first | refine blk_drewN ?_ _ | refine blk_drew ?_ | refine blk_alloc ?_ _)); refine blk_put (cs := #[.int .i64 t498, .int .i64 0, .int .i64 0, .int .i64 0]) ?_ 1 _ rfl; (with_reducible repeat (first | refine blk_drewN ?_ _ | refine blk_drew ?_ | refine blk_alloc ?_ _)); refine blk_put (cs := #[.int .i64 0, .int .i64 0, .int .i64 0, .int .i64 0]) ?_ 0 _ rfl; (with_reducible repeat (first | refine blk_drewN ?_ _ | refine blk_drew ?_ | refine blk_alloc ?_ _)); refine blk_far ?_ NB472_503.out _; (with_reducible repeat (first | refine blk_drewN ?_ _ | refine blk_drew ?_ | refine blk_alloc ?_ _)); refine blk_far ?_ NB472_503.out _; (with_reducible repeat (first | refine blk_drewN ?_ _ | refine blk_drew ?_ | refine blk_alloc ?_ _)); refine blk_far ?_ NB472_503.out _; (with_reducible repeat (first | refine blk_drewN ?_ _ | refine blk_drew ?_ | refine blk_alloc ?_ _)); refine blk_far ?_ NB472_503.out _; (with_reducible repeat (first | refine blk_drewN ?_ _ | refine blk_drew ?_ | refine blk_alloc ?_ _)); exact BK472.out) Try.underlying27 rfl (by kernel_rfl)) rfl ?_
                        exact endB HB
                       ·rw [if_neg c131] at H
                        have c131b0 : (t502 == 0) = false := beq_eq_false_iff_ne.mpr c131
                        have c131b1 : (t502 != 0) = true := bne_iff_ne.mpr c131
                        simp only [Option.some.injEq, Prod.mk.injEq] at H
                        obtain ⟨rfl, rfl, rfl, rfl, rfl, rfl⟩ := H
                        have hnb148 := NB480_472.out
                        have hnc148 := NB472_480.out
                        have hnb149 := NB480_473.out
                        have hnc149 := NB473_480.out
                        have hnb150 := NB480_488.out
                        have hnc150 := NB488_480.out
                        have hcz151_0 : wc.cell? ⟨gb480, 0, none⟩ = some (.int .i64 x481000_40) := (blk_cell BK480.out 0).trans rfl
                        have hcz151_1 : wc.cell? ⟨gb480, 1, none⟩ = some (.int .i64 t478) := (blk_cell BK480.out 1).trans rfl
                        have hfz151_0 := blk_frozen BK480.out 0
                        have hfz151_1 := blk_frozen BK480.out 1
                        have hnb152 := NB488_472.out
                        have hnc152 := NB472_488.out
                        have hnb153 := NB488_473.out
                        have hnc153 := NB473_488.out
                        have hcz154_0 : wc.cell? ⟨gb488, 0, none⟩ = some (.int .i64 t485) := (blk_cell BK488.out 0).trans rfl
                        have hcz154_1 : wc.cell? ⟨gb488, 1, none⟩ = some (.int .i64 t486) := (blk_cell BK488.out 1).trans rfl
                        have hfz154_0 := blk_frozen BK488.out 0
                        have hfz154_1 := blk_frozen BK488.out 1
                        go_wp2_with (first | ((with_reducible refine gate_callee (f := 22) rfl ?_); refine gol (some 117) Try.func22 #[.agg #[.int .i64 x481000_40, .int .i64 t478], .agg #[.int .i64 t485, .int .i64 t486]] ?_; (with_reducible refine (bocageref04_Span.calls kj83 x481000_40 t478 t485 t486 t498 t499 t500 t501 t502 _ A130.out).mono ?_); rintro e w155 ⟨rfl, hb⟩; refine ⟨_, rfl, ?_⟩; replace BK472 := bkb BK472 hb; replace BK473 := bkb BK473 hb; replace BK480 := bkb BK480 hb; replace BK488 := bkb BK488 hb; replace HB := bst HB hb; (try clear hb); (try clear hb2); (try clear hk); (try clear hi)) | ((with_reducible refine gate_dst (N := 16) rfl ?_); refine bxe (N := 16) (cs := #[.int .i64 0, .int .i64 0, .int .i64 0, .int .i64 0]) (t := 27) ?_; intro gb503 hg w156 hbox hb; have BK503 := Aside0.mk (hbox); have GW503 := lsz hg HB; have GE503 := lsz hg HB; replace HB := bst HB hb; have NB472_503 := nlt hg BK472; have NB503_472 := ngt hg BK472; replace BK472 := bkb BK472 hb; have NB473_503 := nlt hg BK473; have NB503_473 := ngt hg BK473; replace BK473 := bkb BK473 hb; have NB480_503 := nlt hg BK480; have NB503_480 := ngt hg BK480; replace BK480 := bkb BK480 hb; have NB488_503 := nlt hg BK488; have NB503_488 := ngt hg BK488; replace BK488 := bkb BK488 hb; clear hb hbox hg; have hnb157 := NB503_472.out; have hnc157 := NB472_503.out; have hnb158 := NB503_473.out; have hnc158 := NB473_503.out; have hnb159 := NB503_480.out; have hnc159 := NB480_503.out; have hnb160 := NB503_488.out; have hnc160 := NB488_503.out; obtain ⟨hcz161_0, hcz161_1, hcz161_2, hcz161_3⟩ := e4 BK503; obtain ⟨hfz161_0, hfz161_1, hfz161_2, hfz161_3⟩ := f4 BK503; have hnb162 := NB473_472.out; have hnc162 := NB472_473.out; obtain ⟨hcz163_0, hcz163_1, hcz163_2, hcz163_3⟩ := e4 BK473; obtain ⟨hfz163_0, hfz163_1, hfz163_2, hfz163_3⟩ := f4 BK473; obtain ⟨hcz164_0, hcz164_1, hcz164_2, hcz164_3⟩ := e4 BK472; obtain ⟨hfz164_0, hfz164_1, hfz164_2, hfz164_3⟩ := f4 BK472))
                        refine bodyPost_ret (results_ctt rfl _ _ gb472 27 #[.int .i64 0, .int .i64 0, .int .i64 0, .int .i64 0] (0, 0) _ rfl (by (with_reducible repeat (first | refine blk_drewN ?_ _ | refine blk_drew ?_ | refine blk_alloc ?_ _)); refine blk_put (cs := #[.int .i64 0, .int .i64 0, .int .i64 0, .int .i64 0]) ?_ 3 _ rfl; (with_reducible repeat (first | refine blk_drewN ?_ _ | refine blk_drew ?_ | refine blk_alloc ?_ _)); refine blk_put (cs := #[.int .i64 0, .int .i64 0, .int .i64 0, .int .i64 0]) ?_ 2 _ rfl; (with_reducible repeat (first | refine blk_drewN ?_ _ | refine blk_drew ?_ | refine blk_alloc ?_ _)); refine blk_put (cs := #[.int .i64 0, .int .i64 0, .int .i64 0, .int .i64 0]) ?_ 1 _ rfl; (with_reducible repeat (first | refine blk_drewN ?_ _ | refine blk_drew ?_ | refine blk_alloc ?_ _)); refine blk_put (cs := #[.int .i64 0, .int .i64 0, .int .i64 0, .int .i64 0]) ?_ 0 _ rfl; (with_reducible repeat (first | refine blk_drewN ?_ _ | refine blk_drew ?_ | refine blk_alloc ?_ _)); refine blk_far ?_ NB472_503.out _; (with_reducible repeat (first | refine blk_drewN ?_ _ | refine blk_drew ?_ | refine blk_alloc ?_ _)); refine blk_far ?_ NB472_503.out _; (with_reducible repeat (first | refine blk_drewN ?_ _ | refine blk_drew ?_ | refine blk_alloc ?_ _)); refine blk_far ?_ NB472_503.out _; (with_reducible repeat (first | refine blk_drewN ?_ _ | refine blk_drew ?_ | refine blk_alloc ?_ _)); refine blk_far ?_ NB472_503.out _; (with_reducible repeat (first | refine blk_drewN ?_ _ | refine blk_drew ?_ | refine blk_alloc ?_ _)); exact BK472.out) Try.underlying27 rfl (by kernel_rfl)) rfl ?_
                        exact endB HB
             ·replace c48 := Bool.eq_false_iff.mpr c48
              subst c48
              have H1 : (some (0, 0, 0, 0, t482, 40)) = some (r1, r2, r3, r4, r5, r6) := by rw [if_neg (show ¬ (false = true) by decide)] at H; exact H
              clear H
              have H := H1
              clear H1
              simp only [Option.some.injEq, Prod.mk.injEq] at H
              obtain ⟨rfl, rfl, rfl, rfl, rfl, rfl⟩ := H
              go_wp2_with (first | ((with_reducible refine gate_callee (f := 57) rfl ?_); refine gol (some 63) Try.func57 #[.string a0, .int .i64 x11_24, .bool a1] ?_; (with_reducible refine (bocageref04_blanks.calls kj40 a0 x11_24 a1 t482 _ A46.out).mono ?_); rintro e w' ⟨rfl, ⟨nd, rfl⟩⟩; refine ⟨_, rfl, ?_⟩; (try (rw [drewN_self wc]; generalize hq_ : World.drewN wc _ = wc; have n0_ : Aside0 (wc.heap[gb472]? = some (.cells #[.int .i64 0, .int .i64 0, .int .i64 0, .int .i64 0] 27 (0, 0))) := ⟨by rw [← hq_]; exact (bk BK472)⟩; have n1_ : Aside0 (wc.heap[gb473]? = some (.cells #[.int .i64 0, .int .i64 0, .int .i64 0, .int .i64 0] 27 (0, 0))) := ⟨by rw [← hq_]; exact (bk BK473)⟩; have n2_ : Aside0 (wc.heap[gb480]? = some (.cells #[.int .i64 x481000_40, .int .i64 t478] 23 (0, 0))) := ⟨by rw [← hq_]; exact (bk BK480)⟩; have n3_ : Aside0 (Below w.heap.size w wc) := ⟨by rw [← hq_]; exact (bl HB)⟩; clear BK472 BK473 BK480 HB hq_; have BK472 := n0_; have BK473 := n1_; have BK480 := n2_; have HB := n3_; clear n0_ n1_ n2_ n3_))) | ((with_reducible refine gate_callee (f := 56) rfl ?_); refine gol (some 66) Try.func56 #[.string a0, .int .i64 t482, .string (⟨#[44]⟩ : ByteArray)] ?_; (with_reducible refine (bocageref04_is.calls a0 t482 (⟨#[44]⟩ : ByteArray) false _ A47.out).mono ?_); rintro e w' ⟨rfl, ⟨nd, rfl⟩⟩; refine ⟨_, rfl, ?_⟩; (try (rw [drewN_self wc]; generalize hq_ : World.drewN wc _ = wc; have n0_ : Aside0 (wc.heap[gb472]? = some (.cells #[.int .i64 0, .int .i64 0, .int .i64 0, .int .i64 0] 27 (0, 0))) := ⟨by rw [← hq_]; exact (bk BK472)⟩; have n1_ : Aside0 (wc.heap[gb473]? = some (.cells #[.int .i64 0, .int .i64 0, .int .i64 0, .int .i64 0] 27 (0, 0))) := ⟨by rw [← hq_]; exact (bk BK473)⟩; have n2_ : Aside0 (wc.heap[gb480]? = some (.cells #[.int .i64 x481000_40, .int .i64 t478] 23 (0, 0))) := ⟨by rw [← hq_]; exact (bk BK480)⟩; have n3_ : Aside0 (Below w.heap.size w wc) := ⟨by rw [← hq_]; exact (bl HB)⟩; clear BK472 BK473 BK480 HB hq_; have BK472 := n0_; have BK473 := n1_; have BK480 := n2_; have HB := n3_; clear n0_ n1_ n2_ n3_)); have hnb165 := NB473_472.out; have hnc165 := NB472_473.out; have hnb166 := NB473_480.out; have hnc166 := NB480_473.out; obtain ⟨hcz167_0, hcz167_1, hcz167_2, hcz167_3⟩ := e4 BK473; obtain ⟨hfz167_0, hfz167_1, hfz167_2, hfz167_3⟩ := f4 BK473; have hnb168 := NB472_480.out; have hnc168 := NB480_472.out; obtain ⟨hcz169_0, hcz169_1, hcz169_2, hcz169_3⟩ := e4 BK472; obtain ⟨hfz169_0, hfz169_1, hfz169_2, hfz169_3⟩ := f4 BK472))
              refine bodyPost_ret (results_ctt rfl _ _ gb472 27 #[.int .i64 0, .int .i64 0, .int .i64 0, .int .i64 0] (0, 0) _ rfl (bkp BK472) Try.underlying27 rfl (by kernel_rfl)) rfl ?_
              exact endB HB
end Go.Proofs.Ytpeidnkbliafkaa.Print
