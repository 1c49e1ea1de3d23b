/- The sum of all values of a window of a row, held at the ends of int64 as the document says, is the reference's (law16 MapalgSums), for every row of parts and every window; no conditions. -/
import Derived.Test.YtbcpnejdbookkaaGreatZSums6
import Derived.Test.YtbcpnejdbookkaaGreatRows
import Derived.WalkKit
import Derived.ProofKit
import Derived.OpenShut
import Derived.ShutString
import Derived.ChangeOld
import Derived.Below
import Derived.SizedLaws
namespace Go.Proofs.YtbcpnejdbookkaaGreat.mapalgSums
open Go.ChangeShapes Go.WideShapes Go.ChangeAt Go.RowKit
open Go.ChangeMaps (open_string shut_string)
open Print (Opens Opens.agg)
open Print Go.Proofs.YtbcpnejdbookkaaGreatW.PrintWords
set_option linter.unusedVariables false
theorem own : ownKnob Tryz.prog.godebug = none := by kernel_rfl
theorem laidOut : laidOutB Tryz.prog = true := by kernel_rfl
set_option maxRecDepth 100000 in
theorem lifted (os : Os) (started : os.Started) (H : Type) (enc : TypeId × Value → H) :
    ReturnsInHanded {} Tryz.checked os 5 .any (Rows.mapalgSumsSpec.pre6 enc Tryz.prog Tryz.f5 Rows.mapalgSumsRow.domain false) (Rows.mapalgSumsSpec.post enc Tryz.prog Tryz.f5 false true false false) := by
  refine returnsInHanded_of_change_sized (C := Tryz.checked) own started (by kernel_rfl) Tryz.func5
    (ChangeSpec.witness6 (enc := enc) (C := Tryz.checked) false ⟨#[], #[.slice none 0 0, (.agg #[.int .i64 0, .int .i64 0, .int .i64 0, .int .i64 0])], []⟩ 8 (by kernel_rfl) (by kernel_rfl) (by kernel_rfl) (by kernel_rfl)) ?_
  intro W base args ds gs before hval0 hW hcnd hsz0 _
  have hsz : (DataW.weightsEach Tryz.prog (Tryz.f5.params.toList ++ Rows.mapalgSumsSpec.plain.varTypes Tryz.prog) (ds ++ gs)).all (· ≤ reachBytes) = true := hsz0
  have hval : ∀ (j : Nat) t v, Tryz.f5.params[j]? = some t → args[j]? = some v → Value.okWide Tryz.prog W .any base t v := hval0
  have hW' := hW
  obtain ⟨p, q, hA0, hV, rfl, hfz, hnd⟩ := hW
  have hA : DataW.TrodAll enc Tryz.prog W 0 (fun _ => true) true Tryz.f5.params.toList args.toList ds p := hA0
  rw [Tryz.params5] at hA hval hsz
  obtain ⟨v0, vs0, d0, ds0, p0, q0, hargs, rfl, rfl, h0, r0⟩ := trodAll_cons hA
  obtain ⟨v1, vs1, d1, ds1, p1, q1, rfl, rfl, rfl, h1, r1⟩ := trodAll_cons r0
  obtain ⟨rfl, rfl, rfl⟩ := trodAll_nil r1
  obtain rfl : args = #[v0, v1] := by cases args; simp_all
  obtain ⟨rfl, rfl⟩ := trodVars_none hV
  obtain ⟨q0, len0, cap0, rfl⟩ := okWide_slice Tryz.underlying22 (hval 0 22 v0 rfl rfl)
  have lt0 : ∀ x ∈ p0, x.block < W.heap.size := by obtain ⟨m, hm⟩ := h0; exact DataW.trod_lt m _ _ _ hm
  obtain ⟨xs0, hl0, ok0, hle0, hmx0, hcell0⟩ := Opens.slice Tryz.underlying22 (Opens.struct2 Tryz.underlying37 (Opens.struct2 Tryz.underlying35 (Opens.struct2 Tryz.underlying33 (Opens.int Tryz.underlying3) (Opens.int Tryz.underlying2) (by kernel_rfl) (by kernel_rfl) (by kernel_rfl)) (Opens.struct2 Tryz.underlying33 (Opens.int Tryz.underlying3) (Opens.int Tryz.underlying2) (by kernel_rfl) (by kernel_rfl) (by kernel_rfl)) (by kernel_rfl) (by kernel_rfl) (by kernel_rfl)) (Opens.int Tryz.underlying2) (by kernel_rfl) (by kernel_rfl) (by kernel_rfl)) h0
  have hx0 : len0 = (xs0.map fun x => (⟨(⟨(⟨x.1.1.1, x.1.1.2⟩ : S33), (⟨x.1.2.1, x.1.2.2⟩ : S33)⟩ : S35), x.2⟩ : S37)).length := by rw [List.length_map, hl0]
  have rC0 : Kd.C k37 W q0 (xs0.map fun x => (⟨(⟨(⟨x.1.1.1, x.1.1.2⟩ : S33), (⟨x.1.2.1, x.1.2.2⟩ : S33)⟩ : S35), x.2⟩ : S37)).length (xs0.map fun x => (⟨(⟨(⟨x.1.1.1, x.1.1.2⟩ : S33), (⟨x.1.2.1, x.1.2.2⟩ : S33)⟩ : S35), x.2⟩ : S37)) := kdC_of k37 _ (fun x => (⟨(⟨(⟨x.1.1.1, x.1.1.2⟩ : S33), (⟨x.1.2.1, x.1.2.2⟩ : S33)⟩ : S35), x.2⟩ : S37)) (fun w x => k37_mk w (⟨(⟨(⟨x.1.1.1, x.1.1.2⟩ : S33), (⟨x.1.2.1, x.1.2.2⟩ : S33)⟩ : S35), x.2⟩ : S37)) xs0 _ (by kernel_rfl) (by omega) (fun hp => hcell0 (by omega))
  have wl0 : ∀ x ∈ (xs0.map fun x => (⟨(⟨(⟨x.1.1.1, x.1.1.2⟩ : S33), (⟨x.1.2.1, x.1.2.2⟩ : S33)⟩ : S35), x.2⟩ : S37)), (Lit.int .i64 x.f0.f0.f0).wf = true ∧ (Lit.int .i64 x.f0.f0.f1).wf = true ∧ (Lit.int .i64 x.f0.f1.f0).wf = true ∧ (Lit.int .i64 x.f0.f1.f1).wf = true ∧ (Lit.int .i64 x.f1).wf = true := fun x hx => by obtain ⟨y, hy, rfl⟩ := List.mem_map.1 hx; obtain ⟨⟨⟨h_0_0_0, h_0_0_1⟩, ⟨h_0_1_0, h_0_1_1⟩⟩, h_1⟩ := ok0 y hy; exact ⟨h_0_0_0, h_0_0_1, h_0_1_0, h_0_1_1, h_1⟩
  generalize (xs0.map fun x => (⟨(⟨(⟨x.1.1.1, x.1.1.2⟩ : S33), (⟨x.1.2.1, x.1.2.2⟩ : S33)⟩ : S35), x.2⟩ : S37)) = l0 at hx0 rC0 wl0
  subst hx0
  have lt1 : ∀ x ∈ p1, x.block < W.heap.size := by obtain ⟨m, hm⟩ := h1; exact DataW.trod_lt m _ _ _ hm
  obtain ⟨⟨⟨a1_0_0, a1_0_1⟩, ⟨a1_1_0, a1_1_1⟩⟩, rfl, ⟨⟨wa1_0_0, wa1_0_1⟩, ⟨wa1_1_0, wa1_1_1⟩⟩⟩ := Opens.agg (Opens.struct2 Tryz.underlying35 (Opens.struct2 Tryz.underlying33 (Opens.int Tryz.underlying3) (Opens.int Tryz.underlying2) (by kernel_rfl) (by kernel_rfl) (by kernel_rfl)) (Opens.struct2 Tryz.underlying33 (Opens.int Tryz.underlying3) (Opens.int Tryz.underlying2) (by kernel_rfl) (by kernel_rfl) (by kernel_rfl)) (by kernel_rfl) (by kernel_rfl) (by kernel_rfl)) (.inl ⟨_, Tryz.underlying35⟩) (hval 1 35 v1 rfl rfl) h1
  clear hA0 hval0 hsz0 hsz
  refine (Print.bocagelaw16_MapalgSums.walk Pure.MapalgSums q0 cap0 l0 a1_0_0 a1_0_1 a1_1_0 a1_1_1 W rC0 hle0 wl0 wa1_0_0 wa1_0_1 wa1_1_0 wa1_1_1).mono fun e W' ⟨he, bel⟩ => ?_
  subst he
  exact ⟨_, rfl, _, _, _, [], _, [], hW', trodAll_mk1 (shut_bool Tryz.underlying4 _), (trodAll_cons_mk (Below.trod laidOut (by kernel_rfl) (of_decide_eq_true (by kernel_rfl)) h0 bel lt0) (trodAll_cons_mk (Below.trod laidOut (by kernel_rfl) (of_decide_eq_true (by kernel_rfl)) h1 bel lt1) trodAll_mk0)), rfl, bel.frame _, fun h => by cases h⟩
theorem over : Rows.mapalgSumsRow.holds Tryz.pinned (OpenSpec.ofChange Rows.mapalgSumsSpec) :=
  OpenClaim.holds_of_wide 5 Tryz.f5 rfl rfl rfl rfl rfl rfl rfl ⟨rfl, rfl, rfl, rfl, rfl⟩ rfl rfl rfl rfl rfl (by kernel_rfl) Tryz.func5 (by kernel_rfl)
    (of_decide_eq_true (by kernel_rfl)) (by unfold Func.isWrapper; first | (rw [if_pos (by decide +kernel)]; kernel_rfl) | (rw [if_neg (by decide +kernel)]; exact ⟨rfl, rfl⟩))
    (fun os started H enc _ => lifted os started H enc)
theorem proved : Rows.MapalgSumsSaid := over
#print axioms proved
end Go.Proofs.YtbcpnejdbookkaaGreat.mapalgSums
namespace Go.Proofs.YtbcpnejdbookkaaGreat
/-- The row, under a short name, for the claim. -/
theorem mapalgSums_holds : Rows.MapalgSumsSaid := mapalgSums.proved
end Go.Proofs.YtbcpnejdbookkaaGreat
