import Derived.Test.YtkkbmjfhpngalaaPrint17
import Derived.Test.YtkkbmjfhpngalaaLSat
import Derived.Test.YtkkbmjfhpngalaaLBigE
import Derived.Test.YtkkbmjfhpngalaaLCutA
import Derived.Test.YtkkbmjfhpngalaaLCutC
namespace Go.Proofs.Ytkkbmjfhpngalaa.Print
open Go.RowKit Go.Proofs.YtkkbmjfhpngalaaW.PrintWords Go.Proofs.YtkkbmjfhpngalaaW.PrintLast
set_option linter.unusedVariables false
set_option linter.unusedSimpArgs false
def shiftOf (p : Int × Int) (by_ : Int) : Int × Int × Bool := if p.1 = 0 then (if -9223372036854775808 < p.2 + by_ ∧ p.2 + by_ ≤ 9223372036854775807 then (0, p.2 + by_, true) else (0, 0, false)) else (p.1, p.2, true)
theorem clamp_low {x : Int} (h : x < -9223372036854775808) : clamp x = -9223372036854775808 := by unfold clamp; rw [if_pos h]
theorem clamp_high {x : Int} (h : x > 9223372036854775807) : clamp x = 9223372036854775807 := by unfold clamp; rw [if_neg (by omega), if_pos h]
theorem cut_Shift.eq (s : Int) {a n : Int} (ha : I64 a) (hn : I64 n) (k : Nat) (hk : 1 ≤ k) : cut_Shift.f k s a n = some (shiftOf (canon s a) n) := by
  unfold cut_Shift.f
  rw [cut_Canon.eq _ _ k hk, Option.bind_some]
  rcases canon_CC (s := s) ha with h | h | ⟨x, h, h1, h2⟩
  · rw [h]; rfl
  · rw [h]; rfl
  · rw [h]
    unfold shiftOf
    rw [if_pos rfl, if_pos rfl]
    have hx : I64 x := by unfold I64; omega
    show (sat_Add.f x n).bind _ = some (if -9223372036854775808 < x + n ∧ x + n ≤ 9223372036854775807 then (0, x + n, true) else (0, 0, false))
    rw [sat_Add.eq hx hn, Option.bind_some, sat_Sub.eq (clamp_I64 _) hn, Option.bind_some]
    unfold I64 at hn
    by_cases c : -9223372036854775808 < x + n ∧ x + n ≤ 9223372036854775807
    · rw [if_pos c, clamp_of (x := x + n) (by unfold I64; omega), if_neg (by omega), show x + n - n = x by omega, clamp_of hx, if_pos rfl]
    · rw [if_neg c]
      by_cases c2 : x + n ≤ -9223372036854775808
      · have : clamp (x + n) = -9223372036854775808 := by
          by_cases c3 : x + n < -9223372036854775808
          · exact clamp_low c3
          · rw [clamp_of (by unfold I64; omega)]; omega
        rw [this, if_pos rfl]
      · rw [clamp_high (show x + n > 9223372036854775807 by omega), if_neg (by decide), if_neg]
        by_cases c4 : 9223372036854775807 - n > 9223372036854775807
        · omega
        · by_cases c5 : 9223372036854775807 - n < -9223372036854775808
          · omega
          · rw [clamp_of (by unfold I64; omega)]; show ¬ (9223372036854775807 - n = x); omega
theorem bocageref02_Shift.eq (s : Int) {a n : Int} (ha : I64 a) (hn : I64 n) (k : Nat) (hk : 300 ≤ k) : bocageref02_Shift.f k s a n = some (shiftOf (canon s a) n) := by
  unfold bocageref02_Shift.f
  rw [bocageref02_Canon.eq _ _ k (by omega), Option.bind_some]
  rcases canon_CC (s := s) ha with h | h | ⟨x, h, h1, h2⟩
  · rw [h]; rfl
  · rw [h]; rfl
  · rw [h]
    unfold shiftOf
    rw [if_pos rfl, if_pos rfl]
    have hx : I64 x := by unfold I64; omega
    obtain ⟨u, d, f1, f2, f3⟩ := bocageref01_Of.eq hx k (by omega)
    obtain ⟨v, e, g1, g2, g3⟩ := bocageref01_Of.eq hn k (by omega)
    obtain ⟨p, q, p1, p2, p3⟩ := bocageref01_Plus.eq f2 g2 k (by omega) (by omega) (by omega) (by omega)
    show (bocageref01_Of.f k x).bind _ = some (if -9223372036854775808 < x + n ∧ x + n ≤ 9223372036854775807 then (0, x + n, true) else (0, 0, false))
    rw [f1, Option.bind_some, g1, Option.bind_some, p1, Option.bind_some, bocageref01_Is.eq p2 k (by omega) (by omega), Option.bind_some, bocageref01_End.eq p2 k (by omega) (by omega), Option.bind_some, show bocageref02_Least64.f = some (-9223372036854775808) from rfl, Option.bind_some, Option.bind_some]
    by_cases c : -9223372036854775808 ≤ x + n ∧ x + n ≤ 9223372036854775807
    · rw [if_pos (decide_eq_true c), clamp_of (by unfold I64; omega)]
      by_cases c2 : x + n = -9223372036854775808
      · rw [if_pos c2, if_neg (by omega)]
      · rw [if_neg c2, if_pos (by omega)]
    · rw [if_neg (by rw [decide_eq_false c]; exact Bool.false_ne_true), if_neg (by omega)]

end Go.Proofs.Ytkkbmjfhpngalaa.Print
