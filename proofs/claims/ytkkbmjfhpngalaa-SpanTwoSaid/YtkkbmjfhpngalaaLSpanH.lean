import Derived.Test.YtkkbmjfhpngalaaPrint2
import Derived.Test.YtkkbmjfhpngalaaLSpanR1
namespace Go.Proofs.Ytkkbmjfhpngalaa.Print
open Go.RowKit Go.Proofs.YtkkbmjfhpngalaaW.PrintWords Go.Proofs.YtkkbmjfhpngalaaW.PrintLast
set_option linter.unusedVariables false
set_option linter.unusedSimpArgs false
theorem span_Holds.eq (x y : Sp) (k : Nat) (hk : 3 ≤ k) : span_Holds.f k x.f0.f0 x.f0.f1 x.f1.f0 x.f1.f1 y.f0.f0 y.f0.f1 y.f1.f0 y.f1.f1 =
    some (decide (RS (lo x) (hi x) ∧ RS (lo y) (hi y) ∧ cmp2 (lo x) (lo y) ≤ 0 ∧ cmp2 (hi y) (hi x) ≤ 0)) := by
  unfold span_Holds.f
  rw [span_both.eq _ _ _ _ _ _ _ _ k hk, Option.bind_some]
  have e0 : decide (RS (x.f0.f0, x.f0.f1) (x.f1.f0, x.f1.f1) ∧ RS (y.f0.f0, y.f0.f1) (y.f1.f0, y.f1.f1)) = decide (RS (lo x) (hi x) ∧ RS (lo y) (hi y)) := rfl
  rw [e0]
  by_cases h : RS (lo x) (hi x) ∧ RS (lo y) (hi y)
  · have e1 : canon x.f0.f0 x.f0.f1 = lo x := h.1.1
    have e2 : canon x.f1.f0 x.f1.f1 = hi x := h.1.2.1
    have e3 : canon y.f0.f0 y.f0.f1 = lo y := h.2.1
    have e4 : canon y.f1.f0 y.f1.f1 = hi y := h.2.2.1
    rw [decide_eq_true h, if_pos rfl, cut_Compare.eq _ _ _ _ k hk, Option.bind_some, cut_Compare.eq _ _ _ _ k hk, e1, e2, e3, e4]
    by_cases h2 : cmp2 (lo x) (lo y) ≤ 0
    · rw [if_pos h2, Option.bind_some]
      congr 1
      rw [Bool.eq_iff_iff, decide_eq_true_eq, decide_eq_true_eq]
      exact ⟨fun g => ⟨h.1, h.2, h2, g⟩, fun g => g.2.2.2⟩
    · rw [if_neg h2, decide_eq_false (fun g => h2 g.2.2.1)]
  · rw [decide_eq_false h, if_neg Bool.false_ne_true, decide_eq_false (fun g => h ⟨g.1, g.2.1⟩)]
theorem behind_pos {n : Int} (hn : I64 n) : CC (behindOf n) ∧ pos (behindOf n) = n + 1 := by
  refine ⟨behindOf_CC hn, ?_⟩
  unfold behindOf
  by_cases h : n = 9223372036854775807
  · rw [if_pos h, h]; rfl
  · rw [if_neg h]; unfold pos; rw [if_neg (by show ¬ (0 : Int) < 0; omega), if_neg (by show ¬ (0 : Int) > 0; omega)]
/-- the span of one number -/
def ptS (n : Int) : Sp := sp (canon 0 n) (behindOf n)
theorem span_Point.eq {n : Int} (hn : I64 n) (k : Nat) (hk : 1 ≤ k) : span_Point.f k n = some ((canon 0 n).1, (canon 0 n).2, (behindOf n).1, (behindOf n).2) := by
  have e1 : cut_Ahead.f k n = some (canon 0 n) := by
    unfold cut_Ahead.f
    rw [cut_Canon.eq _ _ k hk, Option.bind_some]
  have e2 : cut_Behind.f n = some (behindOf n) := by
    unfold cut_Behind.f behindOf
    by_cases h : n = 9223372036854775807
    · rw [if_pos h, if_pos h]; rfl
    · rw [if_neg h, if_neg h, wrap64_of (by unfold I64 at hn ⊢; omega)]
  unfold span_Point.f
  rw [e1, Option.bind_some, e2, Option.bind_some]
theorem ptS_RR {n : Int} (hn : I64 n) : RR (ptS n) ∧ iv (ptS n) = (n, n + 1) := by
  obtain ⟨a1, a2⟩ := canon_pos hn
  obtain ⟨b1, b2⟩ := behind_pos hn
  have e1 : lo (ptS n) = canon 0 n := rfl
  have e2 : hi (ptS n) = behindOf n := rfl
  refine ⟨⟨a1, b1, by rw [e1, e2, a2, b2]; omega⟩, ?_⟩
  unfold iv
  rw [e1, e2, a2, b2]
theorem span_Has.eq (x : Sp) (w : WS x) {n : Int} (hn : I64 n) (k : Nat) (hk : 3 ≤ k) : span_Has.f k x.f0.f0 x.f0.f1 x.f1.f0 x.f1.f1 n = some (hasB x n) := by
  unfold span_Has.f
  rw [span_Point.eq hn k (by omega), Option.bind_some]
  dsimp only
  have h0 := span_Holds.eq x (ptS n) k hk
  have h1 : span_Holds.f k x.f0.f0 x.f0.f1 x.f1.f0 x.f1.f1 (canon 0 n).1 (canon 0 n).2 (behindOf n).1 (behindOf n).2 = _ := h0
  rw [h1, Option.bind_some]
  congr 1
  obtain ⟨p1, p2⟩ := ptS_RR hn
  have q1 : pos (lo (ptS n)) = n := congrArg Prod.fst p2
  have q2 : pos (hi (ptS n)) = n + 1 := congrArg Prod.snd p2
  rw [Bool.eq_iff_iff, decide_eq_true_eq, hasB_iff w]
  constructor
  · rintro ⟨r1, r2, g1, g2⟩
    have rr := (RS_iff w).1 r1
    have k1 : ¬ pos (lo (ptS n)) < pos (lo x) := fun g => by have := (cmp2_pos_gt rr.1 p1.1).2 g; omega
    have k2 : ¬ pos (hi x) < pos (hi (ptS n)) := fun g => by have := (cmp2_pos_gt p1.2.1 rr.2.1).2 g; omega
    exact ⟨rr, by omega, by omega⟩
  · rintro ⟨rr, g1, g2⟩
    refine ⟨rr.RS, p1.RS, ?_, ?_⟩
    · have := fun g => (cmp2_pos_gt rr.1 p1.1).1 g
      by_cases h : cmp2 (lo x) (lo (ptS n)) > 0
      · have := this h; omega
      · omega
    · have := fun g => (cmp2_pos_gt p1.2.1 rr.2.1).1 g
      by_cases h : cmp2 (hi (ptS n)) (hi x) > 0
      · have := this h; omega
      · omega

end Go.Proofs.Ytkkbmjfhpngalaa.Print
