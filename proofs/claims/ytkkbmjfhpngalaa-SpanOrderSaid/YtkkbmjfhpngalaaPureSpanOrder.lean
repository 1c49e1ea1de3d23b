/- Spans are in order by where they begin, then by where they end (law03 SpanOrder), for every two spans; no conditions. -/
import Derived.Test.YtkkbmjfhpngalaaPrint3
import Derived.Test.YtkkbmjfhpngalaaRSpanOrder
import Derived.Test.YtkkbmjfhpngalaaLCutA
import Derived.Test.YtkkbmjfhpngalaaLCutCmp
import Derived.Test.YtkkbmjfhpngalaaLAlive03
namespace Go.Proofs.Ytkkbmjfhpngalaa.Pure
open Go.RowKit Go.Proofs.Ytkkbmjfhpngalaa.Print Go.Proofs.YtkkbmjfhpngalaaW.PrintWords Go.Proofs.YtkkbmjfhpngalaaW.PrintLast
set_option linter.unusedVariables false
set_option linter.unusedSimpArgs false
theorem SpanOrder : bocagelaw03_SpanOrder.Pure := by
  intro s a t b s' a' t' b' hs ha ht hb hs' ha' ht' hb'
  refine ⟨200, ?_⟩
  have key : ∀ s a t b s' a' t' b' : Int, span_Compare.f 200 s a t b s' a' t' b' = some (if cmp2 (canon s a) (canon s' a') = 0 then cmp2 (canon t b) (canon t' b') else cmp2 (canon s a) (canon s' a')) := by
    intro s a t b s' a' t' b'
    unfold span_Compare.f
    rw [cut_Compare.eq _ _ _ _ 200 (by omega), Option.bind_some, cut_Compare.eq _ _ _ _ 200 (by omega), Option.bind_some, cmp_Or_int.eq _ _ 200 (by omega)]
    rfl
  unfold bocagelaw03_SpanOrder.f
  rw [key, key, bocageref02_Compare.eq _ _ _ _ 200 (by omega), bocageref02_Compare.eq _ _ _ _ 200 (by omega), bocagelaw03_alive.ge 200 (by omega)]
  simp only [Option.bind_some, if_true]
  have h1 := cmp2_cases (canon s a) (canon s' a')
  have h2 := cmp2_cases (canon t b) (canon t' b')
  have e1 := cmp2_swap (canon s' a') (canon s a)
  have e2 := cmp2_swap (canon t' b') (canon t b)
  rw [e1, e2]
  generalize cmp2 (canon s a) (canon s' a') = x at *
  generalize cmp2 (canon t b) (canon t' b') = y at *
  have hx : x = -1 ∨ x = 1 ∨ x = 0 := by omega
  have hy : y = -1 ∨ y = 1 ∨ y = 0 := by omega
  clear h1 h2 e1 e2 key
  rcases hx with rfl | rfl | rfl <;> rcases hy with rfl | rfl | rfl <;> decide +kernel

end Go.Proofs.Ytkkbmjfhpngalaa.Pure
