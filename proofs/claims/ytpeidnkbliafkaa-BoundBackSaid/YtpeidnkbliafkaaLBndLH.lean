import Derived.Test.YtpeidnkbliafkaaPrint1
import Derived.Test.YtpeidnkbliafkaaPrint4
import Derived.Test.YtpeidnkbliafkaaPrint7
import Derived.Test.YtpeidnkbliafkaaLBndS
namespace Go.Proofs.Ytpeidnkbliafkaa.Print
open Go.RowKit Go.Proofs.YtpeidnkbliafkaaW.PrintWords Go.Proofs.YtpeidnkbliafkaaW.PrintLast
set_option linter.unusedVariables false
set_option linter.unusedSimpArgs false
/-- the bounds of a cut -/
def lowOf (p : Int × Int) : Int × Int := if p.1 < 0 then (0, 0) else if p.1 > 0 then (1, 9223372036854775807) else (2, p.2)
def highOf (p : Int × Int) : Int × Int := if p.1 > 0 then (0, 0) else if p.1 < 0 then (1, -9223372036854775808) else (1, p.2)
theorem bound_Low.eq (s : Int) {a : Int} (ha : I64 a) (k : Nat) (hk : 1 ≤ k) : bound_Low.f k s a = some (lowOf (canon s a)) := by
  unfold bound_Low.f
  rw [cut_Next.eq s ha k hk, Option.bind_some, cut_Canon.eq s a k hk, Option.bind_some, show cut_First.f = some (-1, 0) from rfl, Option.bind_some]
  rcases canon_CC (s := s) ha with h | h | ⟨x, h, h1, h2⟩
  · rw [h]; rfl
  · rw [h]; rfl
  · rw [h]; rfl
theorem bound_High.eq (s : Int) {a : Int} (ha : I64 a) (k : Nat) (hk : 1 ≤ k) : bound_High.f k s a = some (highOf (canon s a)) := by
  unfold bound_High.f
  rw [cut_Next.eq s ha k hk, Option.bind_some]
  rcases canon_CC (s := s) ha with h | h | ⟨x, h, h1, h2⟩ <;> rw [h] <;> rfl
theorem lowOf_I64 {p : Int × Int} (h : CC p) : I64 (lowOf p).2 := by
  rcases h with h | h | ⟨x, h, h1, h2⟩ <;> rw [h]
  · exact ⟨by decide, by decide⟩
  · exact ⟨by decide, by decide⟩
  · show I64 x; unfold I64; omega
theorem highOf_I64 {p : Int × Int} (h : CC p) : I64 (highOf p).2 := by
  rcases h with h | h | ⟨x, h, h1, h2⟩ <;> rw [h]
  · exact ⟨by decide, by decide⟩
  · exact ⟨by decide, by decide⟩
  · show I64 x; unfold I64; omega
/-- a span of the bounds of two cuts is the span between them -/
theorem span_back {p q : Int × Int} (hp : CC p) (hq : CC q) : spanB (lowOf p).1 (lowOf p).2 (highOf q).1 (highOf q).2 = spanOf p q := by
  have h1 : lowC (lowOf p).1 (lowOf p).2 = p ∧ 0 ≤ (lowOf p).1 ∧ (lowOf p).1 ≤ 2 := by
    rcases hp with h | h | ⟨x, h, h1, h2⟩
    · subst h; exact ⟨rfl, by decide, by decide⟩
    · subst h; exact ⟨rfl, by decide, by decide⟩
    · subst h; exact ⟨canon_zero h1, show (0 : Int) ≤ 2 by decide, show (2 : Int) ≤ 2 by decide⟩
  have h2 : highC (highOf q).1 (highOf q).2 = q ∧ 0 ≤ (highOf q).1 ∧ (highOf q).1 ≤ 2 := by
    rcases hq with h | h | ⟨x, h, h1, h2⟩
    · subst h; exact ⟨rfl, by decide, by decide⟩
    · subst h; exact ⟨rfl, by decide, by decide⟩
    · subst h; exact ⟨canon_zero h1, show (0 : Int) ≤ 1 by decide, show (1 : Int) ≤ 2 by decide⟩
  unfold spanB
  rw [h1.1, h2.1, if_neg (by omega)]

end Go.Proofs.Ytpeidnkbliafkaa.Print
