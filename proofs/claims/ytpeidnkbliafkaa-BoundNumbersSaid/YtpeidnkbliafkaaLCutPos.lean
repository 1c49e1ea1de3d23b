import Derived.Test.YtpeidnkbliafkaaPrint1
import Derived.Test.YtpeidnkbliafkaaLCutA
namespace Go.Proofs.Ytpeidnkbliafkaa.Print
open Go.RowKit Go.Proofs.YtpeidnkbliafkaaW.PrintWords Go.Proofs.YtpeidnkbliafkaaW.PrintLast
set_option linter.unusedVariables false
set_option linter.unusedSimpArgs false
abbrev Ct := S25
theorem lex_lt {p q : Int × Int} : cmp2 p q < 0 ↔ p.1 < q.1 ∨ (p.1 = q.1 ∧ p.2 < q.2) := by
  rcases cmp2_cases p q with ⟨h, g⟩ | ⟨h, g⟩ | ⟨h, g⟩
  · rw [h]; exact ⟨fun _ => g, fun _ => by decide⟩
  · rw [h]; exact ⟨fun e => absurd e (by decide), fun e => by omega⟩
  · rw [h, g]; exact ⟨fun e => absurd e (by decide), fun e => by omega⟩
theorem lex_gt {p q : Int × Int} : cmp2 p q > 0 ↔ cmp2 q p < 0 := by
  rw [cmp2_swap p q]; omega
/-- a right cut's place among the numbers -/
def pos (p : Int × Int) : Int := if p.1 < 0 then -9223372036854775808 else if p.1 > 0 then 9223372036854775808 else p.2
theorem CC.pos_cases {p : Int × Int} (h : CC p) : (p = (-1, 0) ∧ pos p = -9223372036854775808) ∨ (p = (1, 0) ∧ pos p = 9223372036854775808) ∨ (p = (0, pos p) ∧ -9223372036854775808 < pos p ∧ pos p ≤ 9223372036854775807) := by
  rcases h with rfl | rfl | ⟨a, rfl, h1, h2⟩
  · exact .inl ⟨rfl, rfl⟩
  · exact .inr (.inl ⟨rfl, rfl⟩)
  · have e : pos (0, a) = a := by unfold pos; rw [if_neg (by show ¬ (0 : Int) < 0; omega), if_neg (by show ¬ (0 : Int) > 0; omega)]
    rw [e]; exact .inr (.inr ⟨rfl, h1, h2⟩)
theorem CC.range {p : Int × Int} (h : CC p) : -9223372036854775808 ≤ pos p ∧ pos p ≤ 9223372036854775808 := by
  rcases h.pos_cases with ⟨_, h⟩ | ⟨_, h⟩ | ⟨_, h, h'⟩ <;> omega
theorem pos_inj {p q : Int × Int} (hp : CC p) (hq : CC q) (h : pos p = pos q) : p = q := by
  rcases hp.pos_cases with ⟨e, h1⟩ | ⟨e, h1⟩ | ⟨e, h1, h2⟩ <;> rcases hq.pos_cases with ⟨e', h1'⟩ | ⟨e', h1'⟩ | ⟨e', h1', h2'⟩
  all_goals first
    | (rw [e, e']; done)
    | (rw [e, e', h]; done)
    | (exfalso; omega)
theorem cmp2_pos {p q : Int × Int} (hp : CC p) (hq : CC q) : cmp2 p q < 0 ↔ pos p < pos q := by
  rw [lex_lt]
  rcases hp.pos_cases with ⟨e, h1⟩ | ⟨e, h1⟩ | ⟨e, h1, h2⟩ <;> rcases hq.pos_cases with ⟨e', h1'⟩ | ⟨e', h1'⟩ | ⟨e', h1', h2'⟩
  all_goals
    have k1 := congrArg Prod.fst e
    have k2 := congrArg Prod.snd e
    have k3 := congrArg Prod.fst e'
    have k4 := congrArg Prod.snd e'
    dsimp only at k1 k2 k3 k4
    omega
theorem cmp2_pos_gt {p q : Int × Int} (hp : CC p) (hq : CC q) : cmp2 p q > 0 ↔ pos q < pos p := by
  rw [lex_gt, cmp2_pos hq hp]

end Go.Proofs.Ytpeidnkbliafkaa.Print
