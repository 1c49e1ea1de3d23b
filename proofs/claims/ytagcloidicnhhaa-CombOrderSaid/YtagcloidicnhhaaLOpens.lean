import Derived.RowKit
import Derived.OpenShut
namespace Go.Proofs.Ytagcloidicnhhaa.Print
set_option linter.unusedVariables false
set_option linter.unusedSimpArgs false
open Go Go.ChangeShapes Go.WideShapes Go.RowKit
/-- an argument of the type, read as data, is one of these rows of cells -/
def Opens (P : Program) (t : TypeId) {α : Type} (g : α → List Value) (ok : α → Prop) : Prop :=
  ∀ (H : Type) (enc : TypeId × Value → H) (w : World) (base : Nat) (spare : Nat → Bool) (held : Bool) (fuel : Nat) (cs : List Value) (x : DataW H × List MemPlace),
    DataW.trod enc P w base spare held fuel t cs = some x → ∃ a, cs = g a ∧ ok a
theorem Opens.int {P : Program} {t : TypeId} {k : IntKind} (ht : P.underlying t = some (.int k)) : Opens P t (fun n : Int => [Value.int k n]) (fun n => (Lit.int k n).wf = true) :=
  fun H enc w base spare held fuel cs x h => by
    obtain ⟨n, e, _, hw⟩ := DataW.trod_int ht h
    exact ⟨n, e, hw⟩
theorem Opens.bool {P : Program} {t : TypeId} (ht : P.underlying t = some .bool) : Opens P t (fun b : Bool => [Value.bool b]) (fun _ => True) :=
  fun H enc w base spare held fuel cs x h => by
    obtain ⟨n, e, _⟩ := DataW.trod_bool ht h
    exact ⟨n, e, trivial⟩
theorem Opens.struct2 {P : Program} {t : TypeId} {f0 f1 : Field} {α β : Type} {g0 : α → List Value} {g1 : β → List Value} {k0 : α → Prop} {k1 : β → Prop} (ht : P.underlying t = some (.struct #[f0, f1]))
    (o0 : Opens P f0.type g0 k0) (o1 : Opens P f1.type g1 k1) (h0 : f0.offset = 0) (h1 : f1.offset = P.cellsOf f0.type) (hc : P.cellsOf t = f1.offset + P.cellsOf f1.type) :
    Opens P t (fun a : α × β => g0 a.1 ++ g1 a.2) (fun a => k0 a.1 ∧ k1 a.2) :=
  fun H enc w base spare held fuel cs x h => by
    obtain ⟨y0, y1, n, _, hl, e0, e1⟩ := trod_struct2 ht h
    obtain ⟨a, ea, wa⟩ := o0 _ _ _ _ _ _ _ _ _ e0
    obtain ⟨b, eb, wb⟩ := o1 _ _ _ _ _ _ _ _ _ e1
    refine ⟨(a, b), ?_, wa, wb⟩
    show cs = g0 a ++ g1 b
    rw [← ea, ← eb, h0, h1, List.drop_zero, List.take_of_length_le (l := List.drop _ cs) (by rw [List.length_drop]; omega), List.take_append_drop]
theorem Opens.array2 {P : Program} {t e : TypeId} {α : Type} {g : α → List Value} {k : α → Prop} (ht : P.underlying t = some (.array 2 e)) (o : Opens P e g k) (hc : P.cellsOf t = P.cellsOf e + P.cellsOf e) :
    Opens P t (fun a : α × α => g a.1 ++ g a.2) (fun a => k a.1 ∧ k a.2) :=
  fun H enc w base spare held fuel cs x h => by
    obtain ⟨xs, m, _, _, hl, hn, hi⟩ := DataW.trod_array ht h
    have e0 := hi 0 (by omega)
    have e1 := hi 1 (by omega)
    rw [List.getElem?_eq_getElem (by omega)] at e0 e1
    obtain ⟨a, ea, wa⟩ := o _ _ _ _ _ _ _ _ _ e0
    obtain ⟨b, eb, wb⟩ := o _ _ _ _ _ _ _ _ _ e1
    refine ⟨(a, b), ?_, wa, wb⟩
    show cs = g a ++ g b
    rw [← ea, ← eb, Nat.zero_mul, Nat.one_mul, List.drop_zero, List.take_of_length_le (l := List.drop _ cs) (by rw [List.length_drop]; omega), List.take_append_drop]
theorem Opens.agg {P : Program} {t : TypeId} {α : Type} {g : α → List Value} {k : α → Prop} (o : Opens P t g k) (hs : (∃ fs, P.underlying t = some (.struct fs)) ∨ ∃ n e, P.underlying t = some (.array n e))
    {H : Type} {enc : TypeId × Value → H} {w : World} {r : Reach} {b0 base : Nat} {spare : Nat → Bool} {held : Bool} {v : Value} {d : DataW H} {ps : List MemPlace} (hval : Value.okWide P w r b0 t v)
    (hd : DataW.Trod enc P w base spare held t v d ps) : ∃ a, v = .agg (g a).toArray ∧ k a := by
  have hv : ∃ cs, v = .agg cs := by
    unfold Value.okWide at hval
    rcases hs with ⟨fs, h⟩ | ⟨n, e, h⟩
    · rw [h] at hval; obtain ⟨cs, h, _⟩ := hval; exact ⟨cs, h⟩
    · rw [h] at hval; obtain ⟨cs, h, _⟩ := hval; exact ⟨cs, h⟩
  obtain ⟨cs, rfl⟩ := hv
  obtain ⟨fuel, hf⟩ := hd
  obtain ⟨a, ea, wa⟩ := o _ _ _ _ _ _ _ _ _ hf
  refine ⟨a, ?_, wa⟩
  have : cs.toList = g a := ea
  rw [← this]

end Go.Proofs.Ytagcloidicnhhaa.Print
