-- The texts of this repo that the claim reaches, in one (wip/print/bundle.py): only what is reached; not trusted: Lean checks it.
import Derived.Test.YtbcpnejdbookkaaGreatZDiffs5
import Derived.SizedLaws
set_option maxHeartbeats 8000000
set_option maxRecDepth 100000
set_option linter.unusedVariables false
set_option linter.unusedSimpArgs false
namespace Go.Proofs.YtbcpnejdbookkaaGreat.Print
open Go.RowKit Go.Proofs.YtbcpnejdbookkaaGreatW.PrintWords Go.Proofs.YtbcpnejdbookkaaGreatW.PrintLast
theorem diff_l0 (a b : List Sg) (wa : WM a) (wb : WM b) (la : a.length + b.length ≤ 40) (al : List Sp) (wl : ∀ s ∈ al, WS s) (ll : al.length ≤ 40) (vs : List Int) (lv : vs.length ≤ 40) : ∀ (c i : Nat) (sm : List Sp), i + c = vs.length → sm.length ≤ 240 * i → (∀ s ∈ sm, WS s) → (∀ n, anyB sm n = true ↔ ∃ v ∈ vs.take i, valM (mergeM a) n = some v ∧ valM (mergeM b) n = some v) →
    ∃ R, Ev (fun k => bocageref16_Diff.l0 k a b al sm vs (i : Int)) R ∧ GoodL R ∧ R.length ≤ 100000 ∧ ∀ n, anyB R n = true ↔ anyB al n = true ∧ ¬ ∃ v ∈ vs, valM (mergeM a) n = some v ∧ valM (mergeM b) n = some v := by
  intro c
  induction c with
  | zero =>
    intro i sm hic hs ws hv
    obtain ⟨R, r1, r2, r4, r3⟩ := bocageref03_Minus.ev al sm (by omega) (by omega) wl ws
    refine ⟨R, Ev.step (f := fun k => (bocageref03_Minus.f k al sm).bind fun t => some t) (fun k => ?_) (Ev.bind r1 (Ev.now _)), r2, by omega, fun n => ?_⟩
    · rw [bocageref16_Diff.l0, if_neg (by omega)]
    · rw [anyB_iff r2.ws, r3, ← anyB_iff wl, ← anyB_iff ws, hv, List.take_of_length_le (by omega)]
  | succ c ih =>
    intro i sm hic hs ws hv
    have hlt : i < vs.length := by omega
    have hw : wrap64 ((i : Int) + 1) = ((i + 1 : Nat) : Int) := by unfold wrap64; omega
    obtain ⟨P, p1, p2, p3, p4⟩ := bocageref16_Where.ev a wa (by omega) vs[i]
    obtain ⟨Q, q1, q2, q3, q4⟩ := bocageref16_Where.ev b wb (by omega) vs[i]
    obtain ⟨M, m1, m2, m4, m3⟩ := bocageref03_Meet.ev P Q (by omega) (by omega) p2.ws q2.ws
    have ws' : ∀ s ∈ sm ++ M, WS s := fun s h => (List.mem_append.1 h).elim (ws s) (m2.ws s)
    obtain ⟨R, r1, r2, r3, r4⟩ := ih (i + 1) (sm ++ M) (by omega) (by rw [List.length_append]; omega) ws' (fun n => by
      rw [anyB_app, Bool.or_eq_true, hv, anyB_iff m2.ws, m3, ← anyB_iff p2.ws, ← anyB_iff q2.ws, p4, q4, decide_eq_true_eq, decide_eq_true_eq, List.take_add_one, List.getElem?_eq_getElem hlt]
      constructor
      · rintro (⟨v, h1, h2⟩ | h)
        · exact ⟨v, List.mem_append_left _ h1, h2⟩
        · exact ⟨vs[i], List.mem_append_right _ (List.mem_singleton.2 rfl), h⟩
      · rintro ⟨v, h1, h2⟩
        rcases List.mem_append.1 h1 with h1 | h1
        · exact .inl ⟨v, h1, h2⟩
        · rcases List.mem_singleton.1 h1 with rfl; exact .inr h2)
    refine ⟨R, Ev.step (f := fun k => (bocageref16_Where.f k a vs[i]).bind fun t645 => ((bocageref16_Where.f k b vs[i]).bind fun t649 => ((bocageref03_Meet.f k t645 t649).bind fun t652 => (if sm.length + t652.length < 4398046511104 then (bocageref16_Diff.l0 k a b al (sm ++ t652) vs ((i + 1 : Nat) : Int)) else (none))))) (fun k => ?_) (Ev.bind p1 (Ev.bind q1 (Ev.bind m1 ?_))), r2, r3, r4⟩
    · rw [bocageref16_Diff.l0, if_pos (by omega), if_pos (by omega), rdI hlt, hw]
    · have hlen : sm.length + M.length < 4398046511104 := by omega
      refine Ev.congr (f := fun k => bocageref16_Diff.l0 k a b al (sm ++ M) vs ((i + 1 : Nat) : Int)) (fun k => ?_) r1
      rw [if_pos hlen]
theorem bocageref16_Diff.ev (a b : List Sg) (wa : WM a) (wb : WM b) (la : a.length + b.length ≤ 40) :
    ∃ R, Ev (fun k => bocageref16_Diff.f k a b) R ∧ GoodL R ∧ R.length ≤ 100000 ∧ ∀ n, anyB R n = !decide (valM (mergeM a) n = valM (mergeM b) n) := by
  have oa := mergeM_ok wa
  have ob := mergeM_ok wb
  have ma := mergeM_len a
  have mb := mergeM_len b
  obtain ⟨vs, v1, v2, v3, v4⟩ := bocageref16_Values.ev a (by omega)
  have hl : (spsM (mergeM a)).length + (spsM (mergeM b)).length < 4398046511104 := by rw [spsM_len, spsM_len]; omega
  obtain ⟨R, r1, r2, r3, r4⟩ := diff_l0 a b wa wb la (spsM (mergeM a) ++ spsM (mergeM b)) (fun s h => (List.mem_append.1 h).elim (oa.wm.sps s) (ob.wm.sps s)) (by rw [List.length_append, spsM_len, spsM_len]; omega) vs (by omega) vs.length 0 [] (by omega) (Nat.zero_le _) (fun _ h => by cases h) (fun n => ⟨fun h => (by cases h), fun ⟨v, h, _⟩ => (by cases h)⟩)
  refine ⟨R, ?_, r2, r3, fun n => ?_⟩
  · refine Ev.bind (bocageref16_Merge.ev a (by omega)) (Ev.bind (bocageref09_Spans.ev _ (by omega)) (Ev.bind (bocageref16_Merge.ev b (by omega)) (Ev.bind (bocageref09_Spans.ev _ (by omega)) ?_)))
    refine Ev.congr (f := fun k => (bocageref16_Values.f k a).bind fun t => bocageref16_Diff.l0 k a b (spsM (mergeM a) ++ spsM (mergeM b)) [] t 0) (fun k => ?_) (Ev.bind v1 r1)
    rw [if_pos hl]
  · rw [Bool.eq_iff_iff, r4, anyB_app, any_spsM oa, any_spsM ob, Bool.or_eq_true, Bool.not_eq_true', decide_eq_false_iff_not]
    have hmem : ∀ v, valM (mergeM a) n = some v → v ∈ vs := fun v h => by
      obtain ⟨s, hs, _, e⟩ := oa.val_mem.1 h
      exact (v4 v).2 ⟨s, hs, e⟩
    revert hmem
    cases valM (mergeM a) n with
    | none =>
      intro _
      cases valM (mergeM b) n <;> simp
    | some u =>
      intro hm
      have hu := hm u rfl
      cases valM (mergeM b) n with
      | none => simp
      | some w =>
        simp only [Option.isSome_some, true_or, true_and, Option.some.injEq]
        constructor
        · intro h e; exact h ⟨u, hu, rfl, e.symm⟩
        · rintro h ⟨v, _, rfl, rfl⟩; exact h rfl
theorem bocagelaw16_alive.ge (k : Nat) (hk : 100 ≤ k) : bocagelaw16_alive.f k = some true := at_rounds (g := fun k => bocagelaw16_alive.f k) bocagelaw16_alive.mono hk (by decide +kernel)
end Go.Proofs.YtbcpnejdbookkaaGreat.Print
namespace Go.Proofs.YtbcpnejdbookkaaGreat.Pure
open Go.RowKit Go.Proofs.YtbcpnejdbookkaaGreat.Print Go.Proofs.YtbcpnejdbookkaaGreatW.PrintWords Go.Proofs.YtbcpnejdbookkaaGreatW.PrintLast
theorem MapalgDiffs : bocagelaw16_MapalgDiffs.Pure := by
  intro l0 l1 w0 w1
  have W0 : WM l0 := fun s hs => ⟨I64.of_wf (w0 s hs).2.1, I64.of_wf (w0 s hs).2.2.2.1⟩
  have W1 : WM l1 := fun s hs => ⟨I64.of_wf (w1 s hs).2.1, I64.of_wf (w1 s hs).2.2.2.1⟩
  by_cases hl : l0.length + l1.length ≤ 40
  · obtain ⟨d, a0, b0, d0, v0⟩ := mapalg_Diff.ev l0 l1 W0 W1 (by omega) (by omega)
    have a1 := bocageref16_Merge.ev l0 (by omega)
    have a2 := bocageref16_Merge.ev l1 (by omega)
    obtain ⟨r3, a3, b3, d3, v3⟩ := bocageref16_Diff.ev l0 l1 W0 W1 hl
    obtain ⟨r4, a4, b4, d4, v4⟩ := mapalg_Diff.ev l0 l0 W0 W0 (by omega) (by omega)
    obtain ⟨r5, a5, b5, d5, v5⟩ := mapalg_Diff.ev l1 l0 W1 W0 (by omega) (by omega)
    have e3 : d = r3 := goodB b0 b3 (fun n => by rw [v0, v3])
    have e4 : r4 = [] := goodL_nil b4 (fun n => by rw [v4]; simp)
    have e5 : r5 = d := goodB b5 b0 (fun n => by rw [v5, v0]; congr 2; exact propext ⟨Eq.symm, Eq.symm⟩)
    subst e4
    have s3 := bocageref03_Same.ev d r3 (by omega)
    have s5 := bocageref03_Same.ev r5 d (by omega)
    rw [decide_eq_true e3] at s3
    rw [decide_eq_true e5] at s5
    have X := mergeM_ok W0
    have Y := mergeM_ok W1
    have xl := mergeM_len l0
    have yl := mergeM_len l1
    have wd : ∀ s ∈ d, WS s := b0.ws
    clear e3 e5 v3 v4 v5 b3 b4 b5
    generalize mergeM l0 = x at X xl a1 v0
    generalize mergeM l1 = y at Y yl a2 v0
    have hany : ∀ n : Int, -12 ≤ n → n < 12 → Ev (fun k => bocageref03_Any.f k d n) (anyB d n) := fun n h1 h2 => bocageref03_Any.ev d (by omega) wd ⟨by omega, by omega⟩
    have hall : ∃ K, ∀ n : Int, -12 ≤ n → n < 12 → ∀ k, K ≤ k → bocageref03_Any.f k d n = some (anyB d n) := by
      have : ∀ m : Nat, m ≤ 24 → ∃ K, ∀ n : Int, -12 ≤ n → n < (m : Int) - 12 → ∀ k, K ≤ k → bocageref03_Any.f k d n = some (anyB d n) := by
        intro m
        induction m with
        | zero => exact fun _ => ⟨0, fun n h1 h2 => by omega⟩
        | succ m ih =>
          intro hm
          obtain ⟨K, hK⟩ := ih (by omega)
          obtain ⟨K', hK'⟩ := hany ((m : Int) - 12) (by omega) (by omega)
          refine ⟨K + K', fun n h1 h2 k hk => ?_⟩
          by_cases h : n = (m : Int) - 12
          · subst h; exact hK' k (by omega)
          · exact hK n h1 (by omega) k (by omega)
      obtain ⟨K, hK⟩ := this 24 (by omega)
      exact ⟨K, fun n h1 h2 => hK n h1 (by omega)⟩
    obtain ⟨K0, f0⟩ := a0
    obtain ⟨K1, f1⟩ := a1
    obtain ⟨K2, f2⟩ := a2
    obtain ⟨K3, f3⟩ := a3
    obtain ⟨K4, f4⟩ := a4
    obtain ⟨K5, f5⟩ := a5
    obtain ⟨K6, f6⟩ := hall
    obtain ⟨J3, g3⟩ := s3
    obtain ⟨J5, g5⟩ := s5
    refine ⟨K0 + K1 + K2 + K3 + K4 + K5 + K6 + J3 + J5 + 100, by omega, bocagelaw16_alive.ge _ (by omega), fun _ => ⟨d, x, y, r3, r5, f0 _ (by omega), f1 _ (by omega), f2 _ (by omega), fun n n1 n2 => ?_, f3 _ (by omega), g3 _ (by omega), f4 _ (by omega), f5 _ (by omega), g5 _ (by omega)⟩⟩
    have hn : I64 n := ⟨by omega, by omega⟩
    obtain ⟨i, pi, ci⟩ := bocageref14_Part.eq x (by omega) X.wm hn
    obtain ⟨j, pj, cj⟩ := bocageref14_Part.eq y (by omega) Y.wm hn
    refine ⟨i, j, anyB d n, pi _ (by omega), pj _ (by omega), f6 n n1 n2 _ (by omega), ?_⟩
    rw [v0]
    rcases ci with ⟨rfl, c1⟩ | ⟨p, rfl, hp, c1⟩ <;> rw [c1] <;> rcases cj with ⟨rfl, c2⟩ | ⟨q, rfl, hq, c2⟩ <;> rw [c2]
    · exact .inl ⟨by omega, by omega, by simp⟩
    · exact .inr (.inl ⟨by omega, by omega, by simp⟩)
    · exact .inr (.inr (.inl ⟨by omega, by omega, by simp⟩))
    · rw [rdM hp, rdM hq]
      by_cases e : x[p].f1 = y[q].f1
      · exact .inr (.inr (.inr (.inl ⟨by omega, by omega, by omega, by omega, e, by simp [e]⟩)))
      · exact .inr (.inr (.inr (.inr ⟨by omega, by omega, by omega, by omega, e, by simp [e]⟩)))
  · exact ⟨100, by omega, bocagelaw16_alive.ge _ (by omega), fun h0 => absurd h0 hl⟩
end Go.Proofs.YtbcpnejdbookkaaGreat.Pure
namespace Go.Proofs.YtbcpnejdbookkaaGreat.Print
open Go.RowKit
open Go Go.ChangeShapes Go.WideShapes Go.RowKit Go.Deep
theorem Opens.sized {H : Type} {enc : TypeId × Value → H} {P : Program} {W : World} {base : Nat} {spare : Nat → Bool} {held : Bool} {t e : TypeId} {a : Option Addr} {len cap : Nat} {d : DataW H} {ps : List MemPlace} {ts : List TypeId} {ds : List (DataW H)} {j : Nat}
    (hsz : (DataW.weightsEach P ts ds).all (· ≤ reachBytes) = true) (ht : ts[j]? = some t) (hd : ds[j]? = some d) (hu : P.underlying t = some (.slice e)) {B : Nat} (hB : P.bytesOf e = B)
    (h : DataW.Trod enc P W base spare held t (.slice a len cap) d ps) : len * B ≤ 140737488351232 := by
  obtain ⟨fuel, hf⟩ := h
  rcases open_slice hu hf with ⟨hcs, _⟩ | ⟨ad, l, c, m, n, D, Pl, hcs, _, hl, hm, hmm, hx, _⟩
  · simp [Value.cells] at hcs
    obtain ⟨rfl, rfl, rfl⟩ := hcs
    simp
  · simp [Value.cells] at hcs
    obtain ⟨rfl, rfl, rfl⟩ := hcs
    obtain ⟨hx, _⟩ := Prod.mk.inj hx
    subst hx
    have z := sized_slice hsz ht hd hu
    rw [hB] at z
    have h1 : len ≤ ((List.range len).map D).length + ((List.range (m - len)).map fun j => D (len + j)).length := by simp
    have h2 : reachBytes ≤ 140737488351232 := by decide
    exact Nat.le_trans (Nat.mul_le_mul_right _ h1) (Nat.le_trans z h2)
end Go.Proofs.YtbcpnejdbookkaaGreat.Print
