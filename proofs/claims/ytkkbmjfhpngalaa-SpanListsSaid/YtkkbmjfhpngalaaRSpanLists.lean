import Derived.Test.YtkkbmjfhpngalaaPrint16
namespace Go.Proofs.Ytkkbmjfhpngalaa.Print
open Go.RowKit Go.Proofs.YtkkbmjfhpngalaaW.PrintWords
set_option linter.unusedVariables false
def bocagelaw03_SpanLists.Pure : Prop := ∀ (l0 : List S25) (a1 : Int), (∀ x ∈ l0, (Lit.int .i64 x.f0.f0).wf = true ∧ (Lit.int .i64 x.f0.f1).wf = true ∧ (Lit.int .i64 x.f1.f0).wf = true ∧ (Lit.int .i64 x.f1.f1).wf = true) → (Lit.int .i64 a1).wf = true → ∃ k, bocagelaw03_SpanLists.f k l0 a1 = some true
theorem bocagelaw03_SpanLists.walk (P : bocagelaw03_SpanLists.Pure) (A0 : Option Addr) (c0 : Nat) (l0 : List S25) (a1 : Int) (w : World) (hr0 : Kd.C k25 w A0 l0.length l0) (hc0 : l0.length ≤ c0) (wl0 : (∀ x ∈ l0, (Lit.int .i64 x.f0.f0).wf = true ∧ (Lit.int .i64 x.f0.f1).wf = true ∧ (Lit.int .i64 x.f1.f0).wf = true ∧ (Lit.int .i64 x.f1.f1).wf = true)) (wa1 : (Lit.int .i64 a1).wf = true) :
    Calls Try.prog 7 #[.slice A0 l0.length c0, .int .i64 a1] w fun e w' => e = .returned (.bool true) ∧ Below w.heap.size w w' := by
  obtain ⟨k, h⟩ := P l0 a1 wl0 wa1
  refine (bocagelaw03_SpanLists.calls k A0 c0 l0 a1 true w hr0 hc0 h rfl).mono ?_
  rintro e w' ⟨rfl, hd⟩
  exact ⟨rfl, hd⟩
end Go.Proofs.Ytkkbmjfhpngalaa.Print
