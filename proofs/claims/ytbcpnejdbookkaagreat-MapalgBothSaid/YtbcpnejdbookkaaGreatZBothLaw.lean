/- What two rows of parts become by any kind is what the document says: joined (law16 MapalgBoth), for every kind and any two rows of parts; no conditions. -/
import Derived.Test.YtbcpnejdbookkaaGreatZBoth6
import Derived.Test.YtbcpnejdbookkaaGreatRows
import Derived.WalkKit
import Derived.ProofKit
import Derived.OpenShut
import Derived.ShutString
import Derived.ChangeOld
import Derived.Below
import Derived.SizedLaws
namespace Go.Proofs.YtbcpnejdbookkaaGreat.mapalgBoth
open Go.ChangeShapes Go.WideShapes Go.ChangeAt Go.RowKit
open Go.ChangeMaps (open_string shut_string)
open Print (Opens Opens.agg Opens.sized)
open Print Go.Proofs.YtbcpnejdbookkaaGreatW.PrintWords
set_option linter.unusedVariables false
theorem own : ownKnob Tryz.prog.godebug = none := by kernel_rfl
theorem laidOut : laidOutB Tryz.prog = true := by kernel_rfl
set_option maxRecDepth 100000 in
theorem lifted (os : Os) (started : os.Started) (H : Type) (enc : TypeId × Value → H) :
    ReturnsInHanded {} Tryz.checked os 3 .any (Rows.mapalgBothSpec.pre6 enc Tryz.prog Tryz.f3 Rows.mapalgBothRow.domain false) (Rows.mapalgBothSpec.post enc Tryz.prog Tryz.f3 false true false false) := by
  refine returnsInHanded_of_change_sized (C := Tryz.checked) own started (by kernel_rfl) Tryz.func3
    (ChangeSpec.witness6 (enc := enc) (C := Tryz.checked) false ⟨#[], #[.int .i64 0, .slice none 0 0, .slice none 0 0], []⟩ 8 (by kernel_rfl) (by kernel_rfl) (by kernel_rfl) (by kernel_rfl)) ?_
  intro W base args ds gs before hval0 hW hcnd hsz0 _
  have hsz : (DataW.weightsEach Tryz.prog (Tryz.f3.params.toList ++ Rows.mapalgBothSpec.plain.varTypes Tryz.prog) (ds ++ gs)).all (· ≤ reachBytes) = true := hsz0
  have hval : ∀ (j : Nat) t v, Tryz.f3.params[j]? = some t → args[j]? = some v → Value.okWide Tryz.prog W .any base t v := hval0
  have hW' := hW
  obtain ⟨p, q, hA0, hV, rfl, hfz, hnd⟩ := hW
  have hA : DataW.TrodAll enc Tryz.prog W 0 (fun _ => true) true Tryz.f3.params.toList args.toList ds p := hA0
  rw [Tryz.params3] at hA hval hsz
  obtain ⟨v0, vs0, d0, ds0, p0, q0, hargs, rfl, rfl, h0, r0⟩ := trodAll_cons hA
  obtain ⟨v1, vs1, d1, ds1, p1, q1, rfl, rfl, rfl, h1, r1⟩ := trodAll_cons r0
  obtain ⟨v2, vs2, d2, ds2, p2, q2, rfl, rfl, rfl, h2, r2⟩ := trodAll_cons r1
  obtain ⟨rfl, rfl, rfl⟩ := trodAll_nil r2
  obtain rfl : args = #[v0, v1, v2] := by cases args; simp_all
  obtain ⟨rfl, rfl⟩ := trodVars_none hV
  obtain ⟨a0, rfl, rfl, rfl, wa0⟩ := open_int Tryz.underlying3 (hval 0 3 v0 rfl rfl) h0
  obtain ⟨q1, len1, cap1, rfl⟩ := okWide_slice Tryz.underlying22 (hval 1 22 v1 rfl rfl)
  have lt1 : ∀ x ∈ p1, x.block < W.heap.size := by obtain ⟨m, hm⟩ := h1; exact DataW.trod_lt m _ _ _ hm
  obtain ⟨xs1, hl1, ok1, hle1, hmx1, hcell1⟩ := Opens.slice Tryz.underlying22 (Opens.struct2 Tryz.underlying37 (Opens.struct2 Tryz.underlying35 (Opens.struct2 Tryz.underlying33 (Opens.int Tryz.underlying3) (Opens.int Tryz.underlying2) (by kernel_rfl) (by kernel_rfl) (by kernel_rfl)) (Opens.struct2 Tryz.underlying33 (Opens.int Tryz.underlying3) (Opens.int Tryz.underlying2) (by kernel_rfl) (by kernel_rfl) (by kernel_rfl)) (by kernel_rfl) (by kernel_rfl) (by kernel_rfl)) (Opens.int Tryz.underlying2) (by kernel_rfl) (by kernel_rfl) (by kernel_rfl)) h1
  have hx1 : len1 = (xs1.map fun x => (⟨(⟨(⟨x.1.1.1, x.1.1.2⟩ : S33), (⟨x.1.2.1, x.1.2.2⟩ : S33)⟩ : S35), x.2⟩ : S37)).length := by rw [List.length_map, hl1]
  have rC1 : Kd.C k37 W q1 (xs1.map fun x => (⟨(⟨(⟨x.1.1.1, x.1.1.2⟩ : S33), (⟨x.1.2.1, x.1.2.2⟩ : S33)⟩ : S35), x.2⟩ : S37)).length (xs1.map fun x => (⟨(⟨(⟨x.1.1.1, x.1.1.2⟩ : S33), (⟨x.1.2.1, x.1.2.2⟩ : S33)⟩ : S35), x.2⟩ : S37)) := kdC_of k37 _ (fun x => (⟨(⟨(⟨x.1.1.1, x.1.1.2⟩ : S33), (⟨x.1.2.1, x.1.2.2⟩ : S33)⟩ : S35), x.2⟩ : S37)) (fun w x => k37_mk w (⟨(⟨(⟨x.1.1.1, x.1.1.2⟩ : S33), (⟨x.1.2.1, x.1.2.2⟩ : S33)⟩ : S35), x.2⟩ : S37)) xs1 _ (by kernel_rfl) (by omega) (fun hp => hcell1 (by omega))
  have wl1 : ∀ x ∈ (xs1.map fun x => (⟨(⟨(⟨x.1.1.1, x.1.1.2⟩ : S33), (⟨x.1.2.1, x.1.2.2⟩ : S33)⟩ : S35), x.2⟩ : S37)), (Lit.int .i64 x.f0.f0.f0).wf = true ∧ (Lit.int .i64 x.f0.f0.f1).wf = true ∧ (Lit.int .i64 x.f0.f1.f0).wf = true ∧ (Lit.int .i64 x.f0.f1.f1).wf = true ∧ (Lit.int .i64 x.f1).wf = true := fun x hx => by obtain ⟨y, hy, rfl⟩ := List.mem_map.1 hx; obtain ⟨⟨⟨h_0_0_0, h_0_0_1⟩, ⟨h_0_1_0, h_0_1_1⟩⟩, h_1⟩ := ok1 y hy; exact ⟨h_0_0_0, h_0_0_1, h_0_1_0, h_0_1_1, h_1⟩
  have sz1 : len1 * 40 ≤ 140737488351232 := Opens.sized hsz (j := 1) (t := 22) rfl rfl Tryz.underlying22 (by kernel_rfl) h1
  generalize (xs1.map fun x => (⟨(⟨(⟨x.1.1.1, x.1.1.2⟩ : S33), (⟨x.1.2.1, x.1.2.2⟩ : S33)⟩ : S35), x.2⟩ : S37)) = l1 at hx1 rC1 wl1
  subst hx1
  obtain ⟨q2, len2, cap2, rfl⟩ := okWide_slice Tryz.underlying22 (hval 2 22 v2 rfl rfl)
  have lt2 : ∀ x ∈ p2, x.block < W.heap.size := by obtain ⟨m, hm⟩ := h2; exact DataW.trod_lt m _ _ _ hm
  obtain ⟨xs2, hl2, ok2, hle2, hmx2, hcell2⟩ := Opens.slice Tryz.underlying22 (Opens.struct2 Tryz.underlying37 (Opens.struct2 Tryz.underlying35 (Opens.struct2 Tryz.underlying33 (Opens.int Tryz.underlying3) (Opens.int Tryz.underlying2) (by kernel_rfl) (by kernel_rfl) (by kernel_rfl)) (Opens.struct2 Tryz.underlying33 (Opens.int Tryz.underlying3) (Opens.int Tryz.underlying2) (by kernel_rfl) (by kernel_rfl) (by kernel_rfl)) (by kernel_rfl) (by kernel_rfl) (by kernel_rfl)) (Opens.int Tryz.underlying2) (by kernel_rfl) (by kernel_rfl) (by kernel_rfl)) h2
  have hx2 : len2 = (xs2.map fun x => (⟨(⟨(⟨x.1.1.1, x.1.1.2⟩ : S33), (⟨x.1.2.1, x.1.2.2⟩ : S33)⟩ : S35), x.2⟩ : S37)).length := by rw [List.length_map, hl2]
  have rC2 : Kd.C k37 W q2 (xs2.map fun x => (⟨(⟨(⟨x.1.1.1, x.1.1.2⟩ : S33), (⟨x.1.2.1, x.1.2.2⟩ : S33)⟩ : S35), x.2⟩ : S37)).length (xs2.map fun x => (⟨(⟨(⟨x.1.1.1, x.1.1.2⟩ : S33), (⟨x.1.2.1, x.1.2.2⟩ : S33)⟩ : S35), x.2⟩ : S37)) := kdC_of k37 _ (fun x => (⟨(⟨(⟨x.1.1.1, x.1.1.2⟩ : S33), (⟨x.1.2.1, x.1.2.2⟩ : S33)⟩ : S35), x.2⟩ : S37)) (fun w x => k37_mk w (⟨(⟨(⟨x.1.1.1, x.1.1.2⟩ : S33), (⟨x.1.2.1, x.1.2.2⟩ : S33)⟩ : S35), x.2⟩ : S37)) xs2 _ (by kernel_rfl) (by omega) (fun hp => hcell2 (by omega))
  have wl2 : ∀ x ∈ (xs2.map fun x => (⟨(⟨(⟨x.1.1.1, x.1.1.2⟩ : S33), (⟨x.1.2.1, x.1.2.2⟩ : S33)⟩ : S35), x.2⟩ : S37)), (Lit.int .i64 x.f0.f0.f0).wf = true ∧ (Lit.int .i64 x.f0.f0.f1).wf = true ∧ (Lit.int .i64 x.f0.f1.f0).wf = true ∧ (Lit.int .i64 x.f0.f1.f1).wf = true ∧ (Lit.int .i64 x.f1).wf = true := fun x hx => by obtain ⟨y, hy, rfl⟩ := List.mem_map.1 hx; obtain ⟨⟨⟨h_0_0_0, h_0_0_1⟩, ⟨h_0_1_0, h_0_1_1⟩⟩, h_1⟩ := ok2 y hy; exact ⟨h_0_0_0, h_0_0_1, h_0_1_0, h_0_1_1, h_1⟩
  have sz2 : len2 * 40 ≤ 140737488351232 := Opens.sized hsz (j := 2) (t := 22) rfl rfl Tryz.underlying22 (by kernel_rfl) h2
  generalize (xs2.map fun x => (⟨(⟨(⟨x.1.1.1, x.1.1.2⟩ : S33), (⟨x.1.2.1, x.1.2.2⟩ : S33)⟩ : S35), x.2⟩ : S37)) = l2 at hx2 rC2 wl2
  subst hx2
  clear hA0 hval0 hsz0 hsz
  refine (Print.bocagelaw16_MapalgBoth.walk Pure.MapalgBoth a0 q1 cap1 l1 q2 cap2 l2 W rC1 hle1 rC2 hle2 sz1 sz2 wa0 wl1 wl2).mono fun e W' ⟨he, bel⟩ => ?_
  subst he
  exact ⟨_, rfl, _, _, _, [], _, [], hW', trodAll_mk1 (shut_bool Tryz.underlying4 _), (trodAll_cons_mk (shut_int Tryz.underlying3 wa0) (trodAll_cons_mk (Below.trod laidOut (by kernel_rfl) (of_decide_eq_true (by kernel_rfl)) h1 bel lt1) (trodAll_cons_mk (Below.trod laidOut (by kernel_rfl) (of_decide_eq_true (by kernel_rfl)) h2 bel lt2) trodAll_mk0))), rfl, bel.frame _, fun h => by cases h⟩
theorem over : Rows.mapalgBothRow.holds Tryz.pinned (OpenSpec.ofChange Rows.mapalgBothSpec) :=
  OpenClaim.holds_of_wide 3 Tryz.f3 rfl rfl rfl rfl rfl rfl rfl ⟨rfl, rfl, rfl, rfl, rfl⟩ rfl rfl rfl rfl rfl (by kernel_rfl) Tryz.func3 (by kernel_rfl)
    (of_decide_eq_true (by kernel_rfl)) (by unfold Func.isWrapper; first | (rw [if_pos (by decide +kernel)]; kernel_rfl) | (rw [if_neg (by decide +kernel)]; exact ⟨rfl, rfl⟩))
    (fun os started H enc _ => lifted os started H enc)
theorem proved : Rows.MapalgBothSaid := over
#print axioms proved
end Go.Proofs.YtbcpnejdbookkaaGreat.mapalgBoth
namespace Go.Proofs.YtbcpnejdbookkaaGreat
/-- The row, under a short name, for the claim. -/
theorem mapalgBoth_holds : Rows.MapalgBothSaid := mapalgBoth.proved
end Go.Proofs.YtbcpnejdbookkaaGreat
