import Derived.Test.YtpeidnkbliafkaaPrint2
import Derived.Test.YtpeidnkbliafkaaPrint4
import Derived.Test.YtpeidnkbliafkaaLDig
import Derived.Test.YtpeidnkbliafkaaLNum
import Derived.Test.YtpeidnkbliafkaaLBig
import Derived.Test.YtpeidnkbliafkaaLText
import Derived.Test.YtpeidnkbliafkaaLRead
namespace Go.Proofs.Ytpeidnkbliafkaa.Print
open Go.RowKit Go.Proofs.YtpeidnkbliafkaaW.PrintWords Go.Proofs.YtpeidnkbliafkaaW.PrintLast
set_option linter.unusedVariables false
set_option linter.unusedSimpArgs false
/-- a number's text, something behind it that begins with no digit: it is read as the number -/
theorem textOf_size {n : Int} (hn : I64 n) : 1 ≤ (textOf n).size ∧ (textOf n).size ≤ 20 := by
  obtain ⟨d, d1, d2, d3, d4, d5, d6, d7⟩ := digits_of hn
  have : 0 < d.length := List.length_pos_iff.2 d4
  unfold textOf sat_Text.rev
  rw [strOfNums_size, List.length_reverse, d1, List.length_append, List.length_map]
  split <;> simp <;> omega
theorem textOf_read {n : Int} (hn : I64 n) (b : ByteArray) (hb : ¬ isD b 0) : ∃ m, Longest (textOf n ++ b) m ∧ ParseOK (textOf n ++ b) m ∧ fromOf (textOf n ++ b) + m = (textOf n).size ∧ sgnOf (textOf n ++ b) (hv (textOf n ++ b) (fromOf (textOf n ++ b)) m) = n := by
  obtain ⟨d, d1, d2, d3, d4, d5, d6, d7⟩ := digits_of hn
  have hl : 0 < d.length := List.length_pos_iff.2 d4
  have hT : textOf n = strOfNums (if n < 0 then 45 :: (d.map (48 + ·)).reverse else (d.map (48 + ·)).reverse) := by
    unfold textOf sat_Text.rev
    rw [d1]
    split <;> simp
  have hsz : (textOf n).size = (if (decide (n < 0)) then 1 else 0) + d.length := by
    rw [hT, strOfNums_size]
    by_cases h : n < 0
    · rw [if_pos h]; simp [h]; omega
    · rw [if_neg h]; simp [h]
  have hbytes : ∀ x ∈ (if n < 0 then 45 :: (d.map (48 + ·)).reverse else (d.map (48 + ·)).reverse), 0 ≤ x ∧ x ≤ 255 := by
    intro x hx
    have hm : ∀ x ∈ (d.map (48 + ·)).reverse, 0 ≤ x ∧ x ≤ 255 := by
      intro x hx
      rw [List.mem_reverse, List.mem_map] at hx
      obtain ⟨y, hy, rfl⟩ := hx
      have := d2 y hy; omega
    split at hx
    · rcases List.mem_cons.1 hx with rfl | hx
      · omega
      · exact hm x hx
    · exact hm x hx
  have hrev : ∀ i, i < d.length → dig (d.map (48 + ·)).reverse i = 48 + dig d (d.length - 1 - i) := by
    intro i hi
    unfold dig
    rw [List.getD_eq_getElem?_getD, List.getD_eq_getElem?_getD, List.getElem?_reverse (by simpa using hi), List.getElem?_map, List.length_map, List.getElem?_eq_getElem (show d.length - 1 - i < d.length by omega)]
    rfl
  have hat : ∀ i, i < (textOf n).size → bt (textOf n ++ b) (i : Int) = dig (if n < 0 then 45 :: (d.map (48 + ·)).reverse else (d.map (48 + ·)).reverse) i := by
    intro i hi
    rw [bt_append, if_pos hi, hT, bt_nums hbytes]
  have key := longest_of (s := textOf n ++ b) (d := d) (decide (n < 0)) d2 d4
    (fun h => by
      by_cases h0 : n = 0
      · rw [d7 h0] at h; simp at h
      · exact can_last (d6 h0) d4)
    (by rw [ByteArray.size_append, hsz]; omega)
    (fun h => by
      have hn0 : n < 0 := of_decide_eq_true h
      have := hat 0 (by rw [hsz]; omega)
      rw [if_pos hn0] at this
      exact this)
    (fun i hi => by
      have := hat ((if (decide (n < 0)) then 1 else 0) + i) (by rw [hsz]; omega)
      rw [this]
      by_cases h : n < 0
      · rw [if_pos h]
        simp only [h, decide_true, if_true]
        rw [Nat.add_comm, ← hrev i hi]; rfl
      · rw [if_neg h]
        simp only [h, decide_false, Bool.false_eq_true, if_false, Nat.zero_add]
        exact hrev i hi)
    (by rw [d3]; unfold I64 at hn; by_cases h : n < 0 <;> simp [h] <;> omega)
    (fun h => by
      obtain ⟨h1, h2, h3⟩ := h
      rw [bt_append, if_neg (by rw [hsz]; omega), hsz, Nat.sub_self] at h2 h3
      rw [ByteArray.size_append, hsz] at h1
      exact hb ⟨by omega, h2, h3⟩)
  obtain ⟨k1, k2, k3⟩ := key
  have hf : 0 < fromOf (textOf n ++ b) ↔ n < 0 := by
    rw [k1]
    by_cases h : n < 0 <;> simp [h]
  refine ⟨d.length, k2, ⟨hl, k2.good, ?_⟩, by rw [k1, hsz], ?_⟩
  · rintro ⟨h1, h2⟩
    have hn0 := hf.1 h1
    have h3 := (hv_zero k2.good hl).2 h2
    rw [k3, d3, if_pos hn0] at h3
    omega
  · unfold sgnOf
    rw [k3, d3]
    by_cases h : n < 0
    · rw [if_pos (hf.2 h), if_pos h]; omega
    · rw [if_neg (fun hh => h (hf.1 hh)), if_neg h]

end Go.Proofs.Ytpeidnkbliafkaa.Print
