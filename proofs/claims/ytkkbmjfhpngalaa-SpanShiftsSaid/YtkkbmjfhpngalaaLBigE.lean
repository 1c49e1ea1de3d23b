import Derived.Test.YtkkbmjfhpngalaaPrint17
import Derived.Test.YtkkbmjfhpngalaaLBigP
namespace Go.Proofs.Ytkkbmjfhpngalaa.Print
open Go.RowKit Go.Proofs.YtkkbmjfhpngalaaW.PrintWords Go.Proofs.YtkkbmjfhpngalaaW.PrintLast
set_option linter.unusedVariables false
set_option linter.unusedSimpArgs false
theorem bocageref01_ends.eq (s : Int) : ∃ d, bocageref01_ends.f s = some d ∧ DOK d ∧ d.length = 19 ∧ dv d = if s < 0 then 9223372036854775808 else 9223372036854775807 := by
  unfold bocageref01_ends.f
  simp only [Option.bind_some]
  by_cases h : s < 0
  · rw [if_pos h, if_pos h, if_pos (by decide)]
    exact ⟨_, rfl, by intro e he; revert e; decide, by decide, by decide⟩
  · rw [if_neg h, if_neg h]
    exact ⟨_, rfl, by intro e he; revert e; decide, by decide, by decide⟩
theorem bocageref01_Is.eq {s v : Int} {d : List Int} (h : Big s d v) (k : Nat) (hk : d.length + 25 ≤ k) (hl : d.length ≤ 2000000) : bocageref01_Is.f k s d = some (decide (-9223372036854775808 ≤ v ∧ v ≤ 9223372036854775807)) := by
  unfold bocageref01_Is.f
  obtain ⟨e, e1, e2, e3, e4⟩ := bocageref01_ends.eq s
  rw [e1, Option.bind_some, bocageref01_more.eq h.ok e2 k (by omega) (by omega), Option.bind_some, e4]
  have hp := h.pos
  have hn := dv_nonneg h.ok
  congr 1
  rw [Bool.eq_iff_iff]
  simp only [Bool.not_eq_true', decide_eq_false_iff_not, decide_eq_true_eq]
  rcases h.val with ⟨rfl, rfl, rfl⟩ | ⟨rfl, _, rfl⟩ | ⟨rfl, _, rfl⟩
  · simp [dv]
  · rw [if_neg (by omega)]; omega
  · rw [if_pos (by omega)]; omega
theorem bocageref01_End.l0_eq {s : Int} {d : List Int} (h : DOK d) (hs : s = 0 ∨ s = 1 ∨ s = -1) (hI : I64 (s * dv d)) (n : Nat) : ∀ k, n < k → n ≤ d.length → d.length ≤ 2000000 → bocageref01_End.l0 k s d ((n : Int) - 1) (s * dv (d.drop n)) = some (s * dv d) := by
  induction n with
  | zero =>
    intro k hk hn hl
    obtain ⟨k, rfl⟩ : ∃ j, k = j + 1 := ⟨k - 1, by omega⟩
    rw [bocageref01_End.l0, if_neg (by omega)]; simp
  | succ n ih =>
    intro k hk hn hl
    obtain ⟨k, rfl⟩ : ∃ j, k = j + 1 := ⟨k - 1, by omega⟩
    have e : ((n + 1 : Nat) : Int) - 1 = (n : Int) := by omega
    have hd := dv_drop d n
    have hg := h.dg n
    have hsp := dv_split d n (by omega)
    have ht := dv_nonneg (h.take n)
    have hdn := dv_nonneg (h.drop n)
    have hdn1 := dv_nonneg (h.drop (n + 1))
    have hp := p10_pos n
    have hle : dv (d.drop n) ≤ dv d := by
      have : 1 * dv (d.drop n) ≤ p10 n * dv (d.drop n) := Int.mul_le_mul_of_nonneg_right hp hdn
      omega
    rw [bocageref01_End.l0, e, if_pos (by omega), if_pos (by omega), rd_nat]
    have w1 : wrap64 (s * dv (d.drop (n + 1)) * 10) = s * dv (d.drop (n + 1)) * 10 := wrap64_of (by unfold I64 at *; rcases hs with rfl | rfl | rfl <;> omega)
    have w2 : wrap64 (s * dig d n) = s * dig d n := wrap64_of (by unfold I64 at *; rcases hs with rfl | rfl | rfl <;> omega)
    have w3 : s * dv (d.drop (n + 1)) * 10 + s * dig d n = s * dv (d.drop n) := by rcases hs with rfl | rfl | rfl <;> omega
    have w4 : wrap64 (s * dv (d.drop n)) = s * dv (d.drop n) := wrap64_of (by unfold I64 at *; rcases hs with rfl | rfl | rfl <;> omega)
    rw [w1, w2, w3, w4, wrap64_of (by unfold I64; omega)]
    exact ih k (by omega) (by omega) hl
theorem bocageref01_End.eq {s v : Int} {d : List Int} (h : Big s d v) (k : Nat) (hk : d.length + 25 ≤ k) (hl : d.length ≤ 2000000) : bocageref01_End.f k s d = some (clamp v) := by
  unfold bocageref01_End.f
  rw [bocageref01_Is.eq h k hk hl, Option.bind_some]
  have hm := h.mul
  have hs : s = 0 ∨ s = 1 ∨ s = -1 := by rcases h.val with ⟨e, _⟩ | ⟨e, _⟩ | ⟨e, _⟩ <;> omega
  by_cases hI : -9223372036854775808 ≤ v ∧ v ≤ 9223372036854775807
  · rw [if_pos (by simpa using hI), clamp_of hI]
    have := bocageref01_End.l0_eq h.ok hs (by rw [← hm]; exact hI) d.length k (by omega) (Nat.le_refl _) hl
    rw [dv_drop_end d d.length (Nat.le_refl _), Int.mul_zero, ← hm] at this
    rw [wrap64_of (by unfold I64; omega)]
    exact this
  · rw [if_neg (by simpa using hI)]
    obtain ⟨e, e1, e2, e3, e4⟩ := bocageref01_ends.eq s
    rw [e1, Option.bind_some]
    have hp := h.pos
    have hc : clamp v = s * dv e := by
      unfold clamp
      rw [e4]
      rcases hs with rfl | rfl | rfl
      · omega
      · rw [if_neg (by omega), if_pos (by omega), if_neg (by omega)]; omega
      · rw [if_pos (by omega), if_pos (by omega)]; omega
    have hI2 : I64 (s * dv e) := by rw [← hc]; exact clamp_I64 v
    have := bocageref01_End.l0_eq e2 hs hI2 e.length k (by omega) (Nat.le_refl _) (by omega)
    rw [dv_drop_end e e.length (Nat.le_refl _), Int.mul_zero] at this
    rw [wrap64_of (by unfold I64; omega), this, hc]

end Go.Proofs.Ytkkbmjfhpngalaa.Print
