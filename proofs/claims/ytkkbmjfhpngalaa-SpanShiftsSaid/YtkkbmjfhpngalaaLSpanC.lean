import Derived.Test.YtkkbmjfhpngalaaPrint2
import Derived.Test.YtkkbmjfhpngalaaLSpanR1
import Derived.Test.YtkkbmjfhpngalaaLCutN
import Derived.Test.YtkkbmjfhpngalaaLCutP
namespace Go.Proofs.Ytkkbmjfhpngalaa.Print
open Go.RowKit Go.Proofs.YtkkbmjfhpngalaaW.PrintWords Go.Proofs.YtkkbmjfhpngalaaW.PrintLast
set_option linter.unusedVariables false
set_option linter.unusedSimpArgs false
theorem RR.next {x : Sp} (h : RR x) : nextOf (lo x) = (pos (lo x), true) := by
  unfold nextOf
  rcases h.1.pos_cases with ⟨e, e2⟩ | ⟨e, e2⟩ | ⟨e, h1, h2⟩
  · rw [e2, e]; rfl
  · have := h.2.1.range; have := h.2.2; omega
  · rw [e]; exact Prod.ext rfl rfl
theorem RR.prev {x : Sp} (h : RR x) : prevOf (hi x) = (pos (hi x) - 1, true) := by
  unfold prevOf
  rcases h.2.1.pos_cases with ⟨e, e2⟩ | ⟨e, e2⟩ | ⟨e, h1, h2⟩
  · have := h.1.range; have := h.2.2; omega
  · rw [e2, e]; rfl
  · rw [e]; exact Prod.ext rfl rfl
theorem span_Ends.eq (x : Sp) (w : WS x) (k : Nat) (hk : 3 ≤ k) : span_Ends.f k x.f0.f0 x.f0.f1 x.f1.f0 x.f1.f1 = some (if RS (lo x) (hi x) then (pos (lo x), pos (hi x) - 1) else (0, 0)) := by
  unfold span_Ends.f
  rw [span_Right.eq _ _ _ _ k hk, Option.bind_some]
  have eR : decide (RS (x.f0.f0, x.f0.f1) (x.f1.f0, x.f1.f1)) = decide (RS (lo x) (hi x)) := rfl
  rw [eR]
  by_cases h : RS (lo x) (hi x)
  · have rr := (RS_iff w).1 h
    have e1 : canon x.f0.f0 x.f0.f1 = lo x := h.1
    have e2 : canon x.f1.f0 x.f1.f1 = hi x := h.2.1
    rw [decide_eq_true h, if_pos rfl, if_pos h, cut_Next.eq _ w.1 k (by omega), Option.bind_some, cut_Prev.eq _ w.2 k (by omega), Option.bind_some, e1, e2, rr.next, rr.prev]
  · rw [decide_eq_false h, if_neg Bool.false_ne_true, if_neg h]
theorem wrapu (x : Int) : IntKind.u64.wrap x = x % 18446744073709551616 := by
  simp [IntKind.wrap, IntKind.bits, IntKind.signed]
/-- how many numbers, and whether that is a number of 64 bits -/
def cntS (x : Sp) : Int × Bool := if RS (lo x) (hi x) ∧ pos (hi x) - pos (lo x) < 18446744073709551616 then (pos (hi x) - pos (lo x), true) else (0, false)
theorem span_Count.eq (x : Sp) (w : WS x) (k : Nat) (hk : 3 ≤ k) : span_Count.f k x.f0.f0 x.f0.f1 x.f1.f0 x.f1.f1 = some (cntS x) := by
  unfold span_Count.f
  rw [span_Right.eq _ _ _ _ k hk, Option.bind_some]
  have eR : decide (RS (x.f0.f0, x.f0.f1) (x.f1.f0, x.f1.f1)) = decide (RS (lo x) (hi x)) := rfl
  rw [eR]
  unfold cntS
  by_cases h : RS (lo x) (hi x)
  · have rr := (RS_iff w).1 h
    have r1 := rr.1.range
    have r2 := rr.2.1.range
    have r3 := rr.2.2
    rw [decide_eq_true h, if_pos rfl, span_Ends.eq x w k hk, Option.bind_some, if_pos h]
    dsimp only
    rw [wrapu, wrapu, wrapu, wrapu]
    by_cases h2 : pos (hi x) - pos (lo x) < 18446744073709551616
    · rw [if_pos ⟨h, h2⟩]
      have e : (((pos (hi x) - 1) % 18446744073709551616 - pos (lo x) % 18446744073709551616) % 18446744073709551616 + 1) % 18446744073709551616 = pos (hi x) - pos (lo x) := by omega
      rw [e, decide_eq_true (by omega)]
    · rw [if_neg (fun g => h2 g.2)]
      have e : (((pos (hi x) - 1) % 18446744073709551616 - pos (lo x) % 18446744073709551616) % 18446744073709551616 + 1) % 18446744073709551616 = 0 := by omega
      rw [e, decide_eq_false (by omega)]
  · rw [decide_eq_false h, if_neg Bool.false_ne_true, if_neg (fun g => h g.1)]

end Go.Proofs.Ytkkbmjfhpngalaa.Print
