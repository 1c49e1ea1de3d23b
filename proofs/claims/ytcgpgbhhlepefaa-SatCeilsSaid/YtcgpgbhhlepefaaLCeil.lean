import Derived.Test.YtcgpgbhhlepefaaPrint1
import Derived.Test.YtcgpgbhhlepefaaPrint6
import Derived.Test.YtcgpgbhhlepefaaLSat
import Derived.Test.YtcgpgbhhlepefaaLBig
namespace Go.Proofs.Ytcgpgbhhlepefaa.Print
open Go.RowKit Go.Proofs.YtcgpgbhhlepefaaW.PrintWords Go.Proofs.YtcgpgbhhlepefaaW.PrintLast
set_option linter.unusedVariables false
set_option linter.unusedSimpArgs false
/-- the next multiple -/
def ceilUp (n step : Int) : Int := if Int.tmod n step > 0 then n - Int.tmod n step + step else n - Int.tmod n step
def ceilOf (n step : Int) : Int × Bool := if step < 1 then (0, false) else if ceilUp n step ≤ 9223372036854775807 then (ceilUp n step, true) else (0, false)
theorem tmod_spec (n step : Int) (h : 1 ≤ step) : -step < Int.tmod n step ∧ Int.tmod n step < step ∧ (0 ≤ n → 0 ≤ Int.tmod n step ∧ Int.tmod n step ≤ n) ∧ (n ≤ 0 → Int.tmod n step ≤ 0 ∧ n ≤ Int.tmod n step) ∧ step ∣ n - Int.tmod n step := by
  have hd : step ∣ n - Int.tmod n step := ⟨Int.tdiv n step, by have := Int.mul_tdiv_add_tmod n step; omega⟩
  by_cases hn : 0 ≤ n
  · have e := Int.tmod_eq_emod_of_nonneg (b := step) hn
    have h1 := Int.emod_nonneg n (show step ≠ 0 by omega)
    have h2 := Int.emod_lt_of_pos n (show 0 < step by omega)
    have h3 : n % step ≤ n := by
      have := Int.mul_ediv_add_emod n step
      have h4 : 0 ≤ step * (n / step) := Int.mul_nonneg (by omega) (Int.ediv_nonneg hn (by omega))
      omega
    rw [e] at hd ⊢
    exact ⟨by omega, h2, fun _ => ⟨h1, h3⟩, fun _ => by omega, hd⟩
  · obtain ⟨y, rfl⟩ : ∃ y, n = -y := ⟨-n, by omega⟩
    have e := Int.tmod_eq_emod_of_nonneg (b := step) (show 0 ≤ y by omega)
    have h1 := Int.emod_nonneg y (show step ≠ 0 by omega)
    have h2 := Int.emod_lt_of_pos y (show 0 < step by omega)
    have h3 : y % step ≤ y := by
      have := Int.mul_ediv_add_emod y step
      have h4 : 0 ≤ step * (y / step) := Int.mul_nonneg (by omega) (Int.ediv_nonneg (by omega) (by omega))
      omega
    rw [Int.neg_tmod, e] at hd ⊢
    exact ⟨by omega, by omega, fun _ => by omega, fun _ => by omega, hd⟩
theorem ceilUp_spec (n step : Int) (h : 1 ≤ step) : step ∣ ceilUp n step ∧ n ≤ ceilUp n step ∧ ceilUp n step < n + step ∧ (n ≤ 0 → ceilUp n step ≤ 0) := by
  obtain ⟨h1, h2, h3, h4, h5⟩ := tmod_spec n step h
  unfold ceilUp
  by_cases hr : Int.tmod n step > 0
  · rw [if_pos hr]
    exact ⟨Int.dvd_add h5 (Int.dvd_refl _), by omega, by omega, by omega⟩
  · rw [if_neg hr]
    exact ⟨h5, by omega, by omega, by omega⟩
theorem sat_Ceil.eq {n step : Int} (hn : I64 n) (hs : I64 step) : sat_Ceil.f n step = some (ceilOf n step) := by
  unfold sat_Ceil.f ceilOf
  by_cases h1 : step < 1
  · rw [if_pos h1, if_pos h1]
  · rw [if_neg h1, if_neg h1, if_neg (by omega)]
    obtain ⟨h2, h3, h4, h5, h6⟩ := tmod_spec n step (by omega)
    obtain ⟨c1, c2, c3, c4⟩ := ceilUp_spec n step (by omega)
    have hu : ceilUp n step = if Int.tmod n step > 0 then n - Int.tmod n step + step else n - Int.tmod n step := rfl
    unfold I64 at hn hs
    by_cases hr : Int.tmod n step ≤ 0
    · rw [if_pos hr, wrap64_of (by unfold I64; omega)]
      rw [if_neg (by omega)] at hu
      rw [if_pos (by omega), hu]
    · rw [if_neg hr]
      rw [if_pos (by omega)] at hu
      have e : n + (step - Int.tmod n step) = ceilUp n step := by omega
      rw [wrap64_of (x := step - Int.tmod n step) (by unfold I64; omega), sat_Add.eq (by unfold I64; omega) (by unfold I64; omega), Option.bind_some, e]
      by_cases h7 : ceilUp n step ≤ 9223372036854775807
      · rw [clamp_of (by unfold I64; omega), if_pos (Int.tmod_eq_zero_of_dvd c1), if_pos h7]
      · have hc : clamp (ceilUp n step) = 9223372036854775807 := by unfold clamp; rw [if_neg (by omega), if_pos (by omega)]
        have hm : ¬ Int.tmod 9223372036854775807 step = 0 := by
          intro h0
          have hd : step ∣ 9223372036854775807 := Int.dvd_of_tmod_eq_zero h0
          have hd2 : step ∣ ceilUp n step - 9223372036854775807 := Int.dvd_sub c1 hd
          have := Int.le_of_dvd (by omega) hd2
          omega
        rw [hc, if_neg hm, if_neg h7]
theorem bocageref01_Ceil.j0_eq {u : Int} {s' : Int} {d' : List Int} (hlo : -9223372036854775808 ≤ u) (hb : Big s' d' u) (k : Nat) (hk : 150 ≤ k) (hl : d'.length ≤ 100) :
    bocageref01_Ceil.j0 (k + 1) s' d' = some (if u ≤ 9223372036854775807 then (u, true) else (0, false)) := by
  rw [bocageref01_Ceil.j0, bocageref01_Is.eq hb k (by omega) (by omega), Option.bind_some, bocageref01_End.eq hb k (by omega) (by omega)]
  by_cases h7 : u ≤ 9223372036854775807
  · rw [decide_eq_true (show -9223372036854775808 ≤ u ∧ u ≤ 9223372036854775807 from ⟨hlo, h7⟩), if_pos rfl, if_pos h7, Option.bind_some, clamp_of ⟨hlo, h7⟩]
  · rw [decide_eq_false (show ¬ (-9223372036854775808 ≤ u ∧ u ≤ 9223372036854775807) from fun h => h7 h.2), if_neg Bool.false_ne_true, if_neg h7]
theorem bocageref01_Ceil.eq {n step : Int} (hn : I64 n) (hs : I64 step) (k : Nat) (hk : 200 ≤ k) : bocageref01_Ceil.f k n step = some (ceilOf n step) := by
  obtain ⟨k, rfl⟩ : ∃ j, k = j + 1 := ⟨k - 1, by omega⟩
  unfold bocageref01_Ceil.f ceilOf
  by_cases h1 : step < 1
  · rw [if_pos h1, if_pos h1]
  · rw [if_neg h1, if_neg h1, if_neg (by omega)]
    obtain ⟨h2, h3, h4, h5, h6⟩ := tmod_spec n step (by omega)
    obtain ⟨c1, c2, c3, c4⟩ := ceilUp_spec n step (by omega)
    have hrI : I64 (Int.tmod n step) := by unfold I64 at *; omega
    have hlo : -9223372036854775808 ≤ ceilUp n step := by unfold I64 at hn; omega
    obtain ⟨s, d, f1, f2, f3⟩ := bocageref01_Of.eq hn (k + 1) (by omega)
    obtain ⟨t, e, g1, g2, g3⟩ := bocageref01_Of.eq hrI (k + 1) (by omega)
    obtain ⟨m1, m2⟩ := bocageref01_Minus.eq g2
    obtain ⟨p, q, p1, p2, p3⟩ := bocageref01_Plus.eq f2 m2 (k + 1) (by omega) (by omega) (by omega) (by omega)
    rw [f1, Option.bind_some, g1, Option.bind_some, m1, Option.bind_some, p1, Option.bind_some]
    by_cases hr : Int.tmod n step > 0
    · rw [if_pos hr]
      obtain ⟨u, w, w1, w2, w3⟩ := bocageref01_Of.eq hs (k + 1) (by omega)
      obtain ⟨p', q', p1', p2', p3'⟩ := bocageref01_Plus.eq p2 w2 (k + 1) (by omega) (by omega) (by omega) (by omega)
      have hu : ceilUp n step = n + -Int.tmod n step + step := by unfold ceilUp; rw [if_pos hr]; omega
      rw [← hu] at p2'
      rw [w1, Option.bind_some, p1', Option.bind_some]
      exact bocageref01_Ceil.j0_eq hlo p2' k (by omega) (by omega)
    · rw [if_neg hr]
      have hu : ceilUp n step = n + -Int.tmod n step := by unfold ceilUp; rw [if_neg hr]; omega
      rw [← hu] at p2
      exact bocageref01_Ceil.j0_eq hlo p2 k (by omega) (by omega)

end Go.Proofs.Ytcgpgbhhlepefaa.Print
