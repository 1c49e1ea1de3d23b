/- A number's text has a digit at least, at most twenty bytes, - ahead just of one below 0, and no nought ahead but of 0 (law01 SatDigits), for every number of 64 bits; no conditions. -/
import Derived.Test.YtcgpgbhhlepefaaPrint3
import Derived.Test.YtcgpgbhhlepefaaRSatDigits
import Derived.Test.YtcgpgbhhlepefaaLSat
import Derived.Test.YtcgpgbhhlepefaaLBig
import Derived.Test.YtcgpgbhhlepefaaLAlive01
import Derived.Test.YtcgpgbhhlepefaaLText
import Derived.Test.YtcgpgbhhlepefaaLRead
namespace Go.Proofs.Ytcgpgbhhlepefaa.Pure
open Go.RowKit Go.Proofs.Ytcgpgbhhlepefaa.Print Go.Proofs.YtcgpgbhhlepefaaW.PrintWords Go.Proofs.YtcgpgbhhlepefaaW.PrintLast
set_option linter.unusedVariables false
set_option linter.unusedSimpArgs false
theorem SatDigits : bocagelaw01_SatDigits.Pure := by
  intro n hn
  have hn := I64.of_wf hn
  obtain ⟨d, d1, d2, d3, d4, d5, d6, d7⟩ := digits_of hn
  have hl : 0 < d.length := List.length_pos_iff.2 d4
  have hT : textOf n = strOfNums (if n < 0 then 45 :: (d.map (48 + ·)).reverse else (d.map (48 + ·)).reverse) := by
    unfold textOf sat_Text.rev
    rw [d1]
    split <;> simp
  have hrev : ∀ i, i < d.length → dig (d.map (48 + ·)).reverse i = 48 + dig d (d.length - 1 - i) := by
    intro i hi
    unfold dig
    rw [List.getD_eq_getElem?_getD, List.getD_eq_getElem?_getD, List.getElem?_reverse (by simpa using hi), List.getElem?_map, List.length_map, List.getElem?_eq_getElem (show d.length - 1 - i < d.length by omega)]
    rfl
  have hbytes : ∀ x ∈ (d.map (48 + ·)).reverse, 0 ≤ x ∧ x ≤ 255 := by
    intro x hx
    rw [List.mem_reverse, List.mem_map] at hx
    obtain ⟨y, hy, rfl⟩ := hx
    have := d2 y hy; omega
  have hsz : (strOfNums (d.map (48 + ·)).reverse).size = d.length := by rw [strOfNums_size]; simp
  have hdig : ∀ i (h : i < (strOfNums (d.map (48 + ·)).reverse).size), 48 ≤ ((strOfNums (d.map (48 + ·)).reverse)[i]'h).toNat ∧ ((strOfNums (d.map (48 + ·)).reverse)[i]'h).toNat ≤ 57 := by
    intro i h
    have e := bt_lt h
    rw [bt_nums hbytes, hrev i (by omega)] at e
    have := d2.dg (d.length - 1 - i)
    have e2 : ((strOfNums (d.map (48 + ·)).reverse)[i]'h) = (strOfNums (d.map (48 + ·)).reverse).data[i]'h := rfl
    rw [e2]
    omega
  have hfirst : bt (strOfNums (d.map (48 + ·)).reverse) 0 = 48 + dig d (d.length - 1) := by
    have := bt_nums hbytes 0
    rw [hrev 0 hl] at this
    exact this
  have hnz : n ≠ 0 → dig d (d.length - 1) ≠ 0 := fun h => can_last (d6 h) d4
  refine ⟨500, textOf n, bocagelaw01_alive.ge 500 (by omega), sat_Text.eq hn, ?_⟩
  by_cases h : n < 0
  · rw [if_pos h] at hT
    have hcat : textOf n = strOfNums [45] ++ strOfNums (d.map (48 + ·)).reverse := by
      rw [hT, ← strOfNums_append]; rfl
    have h45 : (strOfNums [45]).size = 1 := by rw [strOfNums_size]; rfl
    have hs2 : (textOf n).size = 1 + d.length := by rw [hcat, ByteArray.size_append, h45, hsz]
    have hex : (textOf n).extract 1 (textOf n).size = strOfNums (d.map (48 + ·)).reverse := by
      rw [hcat, ByteArray.extract_append_eq_right h45.symm (by rw [ByteArray.size_append])]
    have hb0 : bt (textOf n) 0 = 45 := by
      have := bt_append (a := strOfNums [45]) (b := strOfNums (d.map (48 + ·)).reverse) 0
      rw [← hcat, if_pos (by omega)] at this
      exact this.trans (by decide +kernel)
    refine ⟨by omega, by omega, ?_, fun _ => ?_, fun hh => absurd h hh⟩
    · rw [hb0, decide_eq_true h]; rfl
    · rw [hex]
      exact ⟨hdig, by omega, by rw [hfirst]; have := hnz (by omega); omega⟩
  · rw [if_neg h] at hT
    have hs2 : (textOf n).size = d.length := by rw [hT, hsz]
    have h9 := d2.dg (d.length - 1)
    refine ⟨by omega, by omega, ?_, fun hh => absurd hh h, fun _ => ?_⟩
    · rw [hT, hfirst, decide_eq_false h, beq_eq_false_iff_ne.2 (by omega)]
    · rw [hT]
      refine ⟨hdig, fun h48 => ?_⟩
      rw [hfirst] at h48
      by_cases h0 : n = 0
      · refine ⟨h0, ?_⟩
        rw [hsz, d7 h0]; rfl
      · exact absurd (by omega) (hnz h0)

end Go.Proofs.Ytcgpgbhhlepefaa.Pure
