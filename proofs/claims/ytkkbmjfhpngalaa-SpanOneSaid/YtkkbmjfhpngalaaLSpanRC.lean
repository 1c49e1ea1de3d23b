import Derived.Test.YtkkbmjfhpngalaaPrint10
import Derived.Test.YtkkbmjfhpngalaaPrint5
import Derived.Test.YtkkbmjfhpngalaaLSpanC
import Derived.Test.YtkkbmjfhpngalaaLBigP
namespace Go.Proofs.Ytkkbmjfhpngalaa.Print
open Go.RowKit Go.Proofs.YtkkbmjfhpngalaaW.PrintWords Go.Proofs.YtkkbmjfhpngalaaW.PrintLast
set_option linter.unusedVariables false
set_option linter.unusedSimpArgs false
theorem bocageref02_Prev.eq (s : Int) {a : Int} (ha : I64 a) (k : Nat) (hk : 1 ≤ k) : bocageref02_Prev.f k s a = some (prevOf (canon s a)) := by
  unfold bocageref02_Prev.f
  rw [bocageref02_Canon.eq _ _ k hk, Option.bind_some]
  rcases canon_CC (s := s) ha with h | h | ⟨x, h, h1, h2⟩ <;> rw [h]
  · rfl
  · rfl
  · show some (wrap64 (x - 1), true) = some (x - 1, true)
    rw [wrap64_of (by unfold I64; omega)]
theorem bocageref02_Behind.eq {n : Int} (hn : I64 n) : bocageref02_Behind.f n = some (behindOf n) := by
  unfold bocageref02_Behind.f behindOf
  by_cases h : n = 9223372036854775807
  · rw [if_pos h, if_pos h]
  · rw [if_neg h, if_neg h, wrap64_of (by unfold I64 at hn ⊢; omega)]
theorem bocageref03_Of.eq (s a t b : Int) (k : Nat) (hk : 1 ≤ k) : bocageref03_Of.f k s a t b = some (if cmp2 (canon s a) (canon t b) < 0 then ((canon s a).1, (canon s a).2, (canon t b).1, (canon t b).2, 0) else (0, 0, 0, 0, 30)) := by
  unfold bocageref03_Of.f
  rw [bocageref02_Canon.eq s a k hk, Option.bind_some, bocageref02_Canon.eq t b k hk, Option.bind_some, bocageref03_Right.eq _ _ _ _ k hk, Option.bind_some]
  have e : decide (RS ((canon s a).1, (canon s a).2) ((canon t b).1, (canon t b).2)) = decide (cmp2 (canon s a) (canon t b) < 0) := by
    unfold RS
    simp [canon_idem]
  rw [e]
  by_cases h : cmp2 (canon s a) (canon t b) < 0
  · rw [decide_eq_true h, if_pos rfl, if_pos h]
  · rw [decide_eq_false h, if_neg Bool.false_ne_true, if_neg h]
theorem dv_drop_le {d : List Int} (hd : DOK d) : ∀ m, dv (d.drop m) ≤ dv d
  | 0 => by rw [List.drop_zero]; exact Int.le_refl _
  | m + 1 => by
    have ih := dv_drop_le hd m
    have h1 := dv_drop d m
    have h2 := (hd.dg m).1
    have h3 := dv_nonneg (hd.drop (m + 1))
    omega
theorem count_l0 {d : List Int} (hd : DOK d) (hb : dv d < 18446744073709551616) (hl : d.length ≤ 1000000) (s : Int) : ∀ m, m ≤ d.length → Ev (fun k => bocageref03_Count.l0 k (dv (d.drop m)) ((m : Int) - 1) s d) (dv d, true) := by
  intro m
  induction m with
  | zero =>
    intro _
    refine Ev.step (f := fun _ => some (dv (d.drop 0), true)) (fun k => by rw [bocageref03_Count.l0, if_neg (by omega)]) ?_
    rw [List.drop_zero]; exact Ev.now _
  | succ m ih =>
    intro hm
    have e1 : ((m + 1 : Nat) : Int) - 1 = (m : Int) := by omega
    have e2 : wrap64 ((m : Int) - 1) = (m : Int) - 1 := by unfold wrap64; omega
    have h1 := dv_drop d m
    have h2 := hd.dg m
    have h3 := dv_nonneg (hd.drop (m + 1))
    have h4 := dv_drop_le hd m
    have e3 : IntKind.u64.wrap (IntKind.u64.wrap (dv (d.drop (m + 1)) * 10) + IntKind.u64.wrap (rd d (m : Int))) = dv (d.drop m) := by
      rw [wrapu, wrapu, wrapu, rd_nat]
      omega
    refine Ev.step (f := fun k => bocageref03_Count.l0 k (dv (d.drop m)) ((m : Int) - 1) s d) (fun k => ?_) (ih (by omega))
    rw [e1, bocageref03_Count.l0, if_pos (by omega), if_pos (by omega), if_pos (by omega), e3, e2]
theorem bocageref03_Count.ev (x : Sp) (w : WS x) : Ev (fun k => bocageref03_Count.f k x.f0.f0 x.f0.f1 x.f1.f0 x.f1.f1) (cntS x) := by
  unfold bocageref03_Count.f
  refine Ev.bind (a := decide (RS (lo x) (hi x))) ⟨1, fun k hk => bocageref03_Right.eq _ _ _ _ k hk⟩ ?_
  have no : cntS x = (0, false) → Ev (fun k => bocageref03_Count.j0 k true x.f0.f0 x.f0.f1 x.f1.f0 x.f1.f1) (cntS x) := fun h => by
    rw [h]
    exact Ev.step (f := fun _ => some (0, false)) (fun k => by rw [bocageref03_Count.j0, if_pos rfl]) (Ev.now _)
  by_cases h : RS (lo x) (hi x)
  · have rr := (RS_iff w).1 h
    have r1 := rr.1.range
    have r2 := rr.2.1.range
    have r3 := rr.2.2
    simp only [h, decide_true, if_true]
    -- it has so many numbers that a number of 64 bits tells it
    have yes : pos (hi x) - pos (lo x) < 18446744073709551616 → Ev (fun k => bocageref03_Count.j0 k false x.f0.f0 x.f0.f1 x.f1.f0 x.f1.f1) (cntS x) := by
      intro hN
      have e : cntS x = (pos (hi x) - pos (lo x), true) := by unfold cntS; exact if_pos ⟨h, hN⟩
      have e1 : canon x.f0.f0 x.f0.f1 = lo x := h.1
      have e2 : canon x.f1.f0 x.f1.f1 = hi x := h.2.1
      have ilo : I64 (pos (lo x)) := by unfold I64; omega
      have ihi : I64 (pos (hi x) - 1) := by unfold I64; omega
      obtain ⟨s1, d1, f1, f2, f3⟩ := bocageref01_Of.eq ihi 100 (by omega)
      obtain ⟨s2, d2, g1, g2, g3⟩ := bocageref01_Of.eq ilo 100 (by omega)
      obtain ⟨m1, m2⟩ := bocageref01_Minus.eq g2
      obtain ⟨s3, d3, p1, p2, p3⟩ := bocageref01_Plus.eq f2 m2 200 (by omega) (by omega) (by omega) (by omega)
      obtain ⟨s4, d4, q1, q2, q3⟩ := bocageref01_Of.eq (n := 1) (by unfold I64; omega) 100 (by omega)
      obtain ⟨s5, d5, t1, t2, t3⟩ := bocageref01_Plus.eq p2 q2 200 (by omega) (by omega) (by omega) (by omega)
      have hv : dv d5 = pos (hi x) - pos (lo x) := by
        have hb := t2.val
        have hnn := dv_nonneg t2.ok
        rcases hb with ⟨_, rfl, h5⟩ | ⟨_, _, h5⟩ | ⟨_, _, h5⟩
        · exfalso; omega
        · omega
        · exfalso; omega
      refine Ev.step (f := fun k => (bocageref02_Next.f k x.f0.f0 x.f0.f1).bind fun bt588 => (bocageref02_Prev.f k x.f1.f0 x.f1.f1).bind fun bt590 => (bocageref01_Of.f k bt590.1).bind fun bt592 => (bocageref01_Of.f k bt588.1).bind fun bt596 => (bocageref01_Minus.f bt596.1 bt596.2).bind fun bt600 => (bocageref01_Plus.f k bt592.1 bt592.2 bt600.1 bt600.2).bind fun bt604 => (bocageref01_Of.f k 1).bind fun bt609 => (bocageref01_Plus.f k bt604.1 bt604.2 bt609.1 bt609.2).bind fun bt613 => bocageref03_Count.l0 k 0 (wrap64 ((bt613.2.length : Int) - 1)) bt613.1 bt613.2) (fun k => by rw [bocageref03_Count.j0, if_neg Bool.false_ne_true]) ?_
      refine Ev.bind (a := (pos (lo x), true)) ⟨1, fun k hk => by dsimp only; rw [bocageref02_Next.eq _ w.1 k hk, e1, rr.next]⟩ ?_
      refine Ev.bind (a := (pos (hi x) - 1, true)) ⟨1, fun k hk => by dsimp only; rw [bocageref02_Prev.eq _ w.2 k hk, e2, rr.prev]⟩ ?_
      refine Ev.bind (a := (s1, d1)) ⟨100, fun k hk => at_rounds (g := fun k => bocageref01_Of.f k (pos (hi x) - 1)) (bocageref01_Of.mono _) hk f1⟩ ?_
      refine Ev.bind (a := (s2, d2)) ⟨100, fun k hk => at_rounds (g := fun k => bocageref01_Of.f k (pos (lo x))) (bocageref01_Of.mono _) hk g1⟩ ?_
      refine Ev.bind (a := (-s2, d2)) ⟨0, fun k _ => m1⟩ ?_
      refine Ev.bind (a := (s3, d3)) ⟨200, fun k hk => at_rounds (g := fun k => bocageref01_Plus.f k s1 d1 (-s2) d2) (bocageref01_Plus.mono _ _ _ _) hk p1⟩ ?_
      refine Ev.bind (a := (s4, d4)) ⟨100, fun k hk => at_rounds (g := fun k => bocageref01_Of.f k 1) (bocageref01_Of.mono _) hk q1⟩ ?_
      refine Ev.bind (a := (s5, d5)) ⟨200, fun k hk => at_rounds (g := fun k => bocageref01_Plus.f k s3 d3 s4 d4) (bocageref01_Plus.mono _ _ _ _) hk t1⟩ ?_
      have hl5 : d5.length ≤ 1000 := by omega
      have hl := count_l0 t2.ok (by omega) (by omega) s5 d5.length (Nat.le_refl _)
      rw [List.drop_length] at hl
      have ew : wrap64 ((d5.length : Int) - 1) = (d5.length : Int) - 1 := by unfold wrap64; omega
      rw [e, ← hv]
      dsimp only
      rw [ew]
      exact hl
    have key : (x.f0.f0 < 0 ↔ pos (lo x) = -9223372036854775808) ∧ (x.f1.f0 > 0 ↔ pos (hi x) = 9223372036854775808) := by
      have a1 : x.f0.f0 = (lo x).1 := rfl
      have a2 : x.f1.f0 = (hi x).1 := rfl
      rw [a1, a2]
      constructor
      · rcases rr.1.pos_cases with ⟨g, g2⟩ | ⟨g, g2⟩ | ⟨g, g2, g3⟩
        · rw [g2, g]; simp
        · rw [g2, g]; simp
        · have g1 := congrArg Prod.fst g; dsimp only at g1; omega
      · rcases rr.2.1.pos_cases with ⟨g, g2⟩ | ⟨g, g2⟩ | ⟨g, g2, g3⟩
        · rw [g2, g]; simp
        · rw [g2, g]; simp
        · have g1 := congrArg Prod.fst g; dsimp only at g1; omega
    by_cases k1 : x.f0.f0 < 0
    · simp only [k1, if_true]
      have p1 := key.1.1 k1
      by_cases k2 : x.f1.f0 > 0
      · simp only [k2, decide_true]
        have p2 := key.2.1 k2
        exact no (by unfold cntS; rw [if_neg (fun g => by have := g.2; omega)])
      · simp only [k2, decide_false]
        have p2 : ¬ pos (hi x) = 9223372036854775808 := fun g => k2 (key.2.2 g)
        exact yes (by omega)
    · simp only [k1, if_false]
      have p1 : ¬ pos (lo x) = -9223372036854775808 := fun g => k1 (key.1.2 g)
      exact yes (by omega)
  · simp only [h, decide_false, Bool.false_eq_true, if_false]
    exact no (by unfold cntS; rw [if_neg (fun g => h g.1)])

end Go.Proofs.Ytkkbmjfhpngalaa.Print
