import Derived.Test.YtihhagfdfhojnaaRows
import Derived.Test.YtihhagfdfhojnaaLOpenK
import Derived.Test.YtihhagfdfhojnaaRCutSorts
import Derived.Test.YtihhagfdfhojnaaPureCutSorts
import Derived.WalkKit
import Derived.ProofKit
import Derived.OpenShut
import Derived.ShutString
import Derived.ChangeOld
import Derived.Below
import Derived.SizedLaws
namespace Go.Proofs.Ytihhagfdfhojnaa.cutSorts
open Go.ChangeShapes Go.WideShapes Go.ChangeAt Go.RowKit
open Go.ChangeMaps (open_string shut_string)
open Print (Opens Opens.agg)
open Print Go.Proofs.YtihhagfdfhojnaaW.PrintWords
set_option linter.unusedVariables false
theorem own : ownKnob Try.prog.godebug = none := by kernel_rfl
theorem laidOut : laidOutB Try.prog = true := by kernel_rfl
set_option maxRecDepth 100000 in
theorem lifted (os : Os) (started : os.Started) (H : Type) (enc : TypeId × Value → H) :
    ReturnsInHanded {} Try.checked os 9 .any (Rows.cutSortsSpec.pre6 enc Try.prog Try.f9 Rows.cutSortsRow.domain false) (Rows.cutSortsSpec.post enc Try.prog Try.f9 false true false false) := by
  refine returnsInHanded_of_change_sized (C := Try.checked) own started (by kernel_rfl) Try.func9
    (ChangeSpec.witness6 (enc := enc) (C := Try.checked) false ⟨#[], #[.slice none 0 0], []⟩ 8 (by kernel_rfl) (by kernel_rfl) (by kernel_rfl) (by kernel_rfl)) ?_
  intro W base args ds gs before hval0 hW hcnd hsz0 _
  have hsz : (DataW.weightsEach Try.prog (Try.f9.params.toList ++ Rows.cutSortsSpec.plain.varTypes Try.prog) (ds ++ gs)).all (· ≤ reachBytes) = true := hsz0
  have hval : ∀ (j : Nat) t v, Try.f9.params[j]? = some t → args[j]? = some v → Value.okWide Try.prog W .any base t v := hval0
  have hW' := hW
  obtain ⟨p, q, hA0, hV, rfl, hfz, hnd⟩ := hW
  have hA : DataW.TrodAll enc Try.prog W 0 (fun _ => true) true Try.f9.params.toList args.toList ds p := hA0
  rw [Try.params9] at hA hval hsz
  obtain ⟨v0, vs0, d0, ds0, p0, q0, hargs, rfl, rfl, h0, r0⟩ := trodAll_cons hA
  obtain ⟨rfl, rfl, rfl⟩ := trodAll_nil r0
  obtain rfl : args = #[v0] := by cases args; simp_all
  obtain ⟨rfl, rfl⟩ := trodVars_none hV
  obtain ⟨q0, len0, cap0, rfl⟩ := okWide_slice Try.underlying44 (hval 0 44 v0 rfl rfl)
  have lt0 : ∀ x ∈ p0, x.block < W.heap.size := by obtain ⟨m, hm⟩ := h0; exact DataW.trod_lt m _ _ _ hm
  obtain ⟨xs0, hl0, ok0, hle0, hmx0, hcell0⟩ := Opens.slice Try.underlying44 (Opens.struct2 Try.underlying23 (Opens.int Try.underlying3) (Opens.int Try.underlying2) (by kernel_rfl) (by kernel_rfl) (by kernel_rfl)) h0
  have hx0 : len0 = (xs0.map fun x => (⟨x.1, x.2⟩ : S23)).length := by rw [List.length_map, hl0]
  have rC0 : Kd.C k23 W q0 (xs0.map fun x => (⟨x.1, x.2⟩ : S23)).length (xs0.map fun x => (⟨x.1, x.2⟩ : S23)) := kdC_of k23 _ (fun x => (⟨x.1, x.2⟩ : S23)) (fun w x => k23_mk w (⟨x.1, x.2⟩ : S23)) xs0 _ (by kernel_rfl) (by omega) (fun hp => hcell0 (by omega))
  have wl0 : ∀ x ∈ (xs0.map fun x => (⟨x.1, x.2⟩ : S23)), (Lit.int .i64 x.f0).wf = true ∧ (Lit.int .i64 x.f1).wf = true := fun x hx => by obtain ⟨y, hy, rfl⟩ := List.mem_map.1 hx; obtain ⟨h_0, h_1⟩ := ok0 y hy; exact ⟨h_0, h_1⟩
  generalize (xs0.map fun x => (⟨x.1, x.2⟩ : S23)) = l0 at hx0 rC0 wl0
  subst hx0
  clear hA0 hval0 hsz0 hsz
  refine (Print.bocagelaw02_CutSorts.walk Pure.CutSorts q0 cap0 l0 W rC0 hle0 wl0).mono fun e W' ⟨he, bel⟩ => ?_
  subst he
  exact ⟨_, rfl, _, _, _, [], _, [], hW', trodAll_mk1 (shut_bool Try.underlying4 _), (trodAll_cons_mk (Below.trod laidOut (by kernel_rfl) (of_decide_eq_true (by kernel_rfl)) h0 bel lt0) trodAll_mk0), rfl, bel.frame _, fun h => by cases h⟩
theorem over : Rows.cutSortsRow.holds Try.pinned (OpenSpec.ofChange Rows.cutSortsSpec) :=
  OpenClaim.holds_of_wide 9 Try.f9 rfl rfl rfl rfl rfl rfl rfl ⟨rfl, rfl, rfl, rfl, rfl⟩ rfl rfl rfl rfl rfl (by kernel_rfl) Try.func9 (by kernel_rfl)
    (of_decide_eq_true (by kernel_rfl)) (by unfold Func.isWrapper; first | (rw [if_pos (by decide +kernel)]; kernel_rfl) | (rw [if_neg (by decide +kernel)]; exact ⟨rfl, rfl⟩))
    (fun os started H enc _ => lifted os started H enc)
theorem proved : Rows.CutSortsSaid := over
#print axioms proved
end Go.Proofs.Ytihhagfdfhojnaa.cutSorts
namespace Go.Proofs.Ytihhagfdfhojnaa
/-- The row, under a short name, for the claim. -/
theorem cutSorts_holds : Rows.CutSortsSaid := cutSorts.proved
end Go.Proofs.Ytihhagfdfhojnaa
