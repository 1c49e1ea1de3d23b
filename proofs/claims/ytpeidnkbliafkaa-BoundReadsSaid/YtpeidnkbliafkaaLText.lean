import Derived.Test.YtpeidnkbliafkaaPrint4
import Derived.Test.YtpeidnkbliafkaaPrint8
import Derived.Test.YtpeidnkbliafkaaLDig
import Derived.Test.YtpeidnkbliafkaaLNum
import Derived.Test.YtpeidnkbliafkaaLBig
namespace Go.Proofs.Ytpeidnkbliafkaa.Print
open Go.RowKit Go.Proofs.YtpeidnkbliafkaaW.PrintWords Go.Proofs.YtpeidnkbliafkaaW.PrintLast
set_option linter.unusedVariables false
set_option linter.unusedSimpArgs false
theorem sat_Text.digs_spec : ∀ (k : Nat) (L : Int), sat_Text.fits k L = true → 0 ≤ L → ∃ d, sat_Text.digs k L = d.map (48 + ·) ∧ DOK d ∧ dv d = L ∧ d ≠ [] ∧ d.length ≤ k ∧ (L ≠ 0 → Can d) ∧ (L = 0 → d = [0])
  | 0, L, h, _ => by simp [sat_Text.fits] at h
  | k + 1, L, h, h0 => by
    simp only [sat_Text.digs]
    by_cases hc : 0 < L / 10
    · rw [if_pos hc]
      obtain ⟨d, d1, d2, d3, d4, d5, d6, _⟩ := sat_Text.digs_spec k (L / 10) (sat_Text.fits_next h hc) (by omega)
      refine ⟨L % 10 :: d, by simp [d1], DOK.cons (by omega) d2, by simp only [dv]; omega, by simp, by simp; omega, fun _ => .inr ?_, fun h => by omega⟩
      have := can_last (d6 (by omega)) d4
      have hdl : 0 < d.length := List.length_pos_iff.2 d4
      obtain ⟨n, hn⟩ : ∃ n, d.length = n + 1 := ⟨d.length - 1, by omega⟩
      rw [hn] at this
      simp only [List.length_cons, hn, Nat.add_sub_cancel]
      simpa using this
    · rw [if_neg hc]
      refine ⟨[L % 10], by simp, DOK.cons (by omega) DOK.nil, by simp only [dv]; omega, by simp, by simp, fun h => .inr (by simp; omega), fun h => by subst h; rfl⟩
/-- a number's digits, the lowest one first, one at least -/
theorem digits_of {n : Int} (hn : I64 n) : ∃ d, sat_Text.digs 20 (if n < 0 then -n else n) = d.map (48 + ·) ∧ DOK d ∧ dv d = (if n < 0 then -n else n) ∧ d ≠ [] ∧ d.length ≤ 19 ∧ (n ≠ 0 → Can d) ∧ (n = 0 → d = [0]) := by
  unfold I64 at hn
  obtain ⟨d, d1, d2, d3, d4, d5, d6, d7⟩ := sat_Text.digs_spec 20 (if n < 0 then -n else n) (sat_Text.fits_start _ (by split <;> omega)) (by split <;> omega)
  refine ⟨d, d1, d2, d3, d4, ?_, fun h => d6 (by split <;> omega), fun h => d7 (by split <;> omega)⟩
  by_cases h : n = 0
  · rw [d7 (by split <;> omega)]; simp
  · exact can_length d2 (d6 (by split <;> omega)) 19 (by rw [d3, p10_19]; split <;> omega)
/-- a number's text -/
def textOf (n : Int) : ByteArray := strOfNums (sat_Text.rev n).reverse
theorem sat_Text.eq {n : Int} (hn : I64 n) : sat_Text.f n = some (textOf n) := by
  unfold sat_Text.f
  unfold I64 at hn
  rw [if_pos hn]; rfl
theorem strOfNums_append (a b : List Int) : strOfNums (a ++ b) = strOfNums a ++ strOfNums b := by
  apply ByteArray.ext
  simp [strOfNums, ByteArray.data_append]
theorem chr_of {d : Int} (h : 0 ≤ d ∧ d ≤ 9) : (⟨#[48, 49, 50, 51, 52, 53, 54, 55, 56, 57]⟩ : ByteArray).extract d.toNat (d + 1).toNat = strOfNums [48 + d] := by
  obtain ⟨n, rfl⟩ : ∃ n : Nat, d = n := ⟨d.toNat, by omega⟩
  have : n ≤ 9 := by omega
  rcases (by omega : n = 0 ∨ n = 1 ∨ n = 2 ∨ n = 3 ∨ n = 4 ∨ n = 5 ∨ n = 6 ∨ n = 7 ∨ n = 8 ∨ n = 9) with rfl | rfl | rfl | rfl | rfl | rfl | rfl | rfl | rfl | rfl <;> rfl
theorem bocageref01_Text.l0_eq {s : Int} {d : List Int} (hd : DOK d) (hl : d.length ≤ 1000) (n : Nat) : ∀ (k i : Nat), i + n = d.length → n < k →
    bocageref01_Text.l0 k (strOfNums ((d.take i).map (48 + ·)).reverse) (i : Int) s d = some (if s < 0 then strOfNums (45 :: (d.map (48 + ·)).reverse) else if s = 0 then strOfNums [48] else strOfNums (d.map (48 + ·)).reverse) := by
  induction n with
  | zero =>
    intro k i h hk
    obtain ⟨k, rfl⟩ : ∃ j, k = j + 1 := ⟨k - 1, by omega⟩
    rw [bocageref01_Text.l0, if_neg (by omega), List.take_of_length_le (by omega)]
    by_cases hs : s < 0
    · rw [if_pos hs, if_pos hs, if_pos (by rw [strOfNums_size]; simp; omega)]
      show some (strOfNums [45] ++ _) = _
      rw [← strOfNums_append]; rfl
    · rw [if_neg hs, if_neg hs]
      split <;> rfl
  | succ n ih =>
    intro k i h hk
    obtain ⟨k, rfl⟩ : ∃ j, k = j + 1 := ⟨k - 1, by omega⟩
    have hg := hd.dg i
    rw [bocageref01_Text.l0, if_pos (by omega), if_pos (by omega), rd_nat, if_pos (by omega), wrap64_of (x := dig d i + 1) (by unfold I64; omega), if_pos (by omega), if_pos (by omega), chr_of hg,
      if_pos (by rw [strOfNums_size, strOfNums_size]; simp; omega), wrap64_of (by unfold I64; omega)]
    have e : strOfNums [48 + dig d i] ++ strOfNums ((d.take i).map (48 + ·)).reverse = strOfNums ((d.take (i + 1)).map (48 + ·)).reverse := by
      rw [← strOfNums_append, List.take_succ_eq_append_getElem (by omega), List.map_append, List.reverse_append]
      simp [dig, List.getElem?_eq_getElem (show i < d.length by omega), List.getD_eq_getElem?_getD]
    rw [e]
    exact ih k (i + 1) (by omega) (by omega)
theorem bocageref01_Text.eq {n : Int} (hn : I64 n) (k : Nat) (hk : 25 ≤ k) : bocageref01_Text.f k n = some (textOf n) := by
  obtain ⟨s, d, f1, f2, f3⟩ := bocageref01_Of.eq hn k (by omega)
  unfold bocageref01_Text.f
  rw [f1, Option.bind_some]
  have := bocageref01_Text.l0_eq (s := s) f2.ok (by omega) d.length k 0 (by omega) (by omega)
  simp only [List.take_zero, List.map_nil, List.reverse_nil] at this
  rw [show (⟨#[]⟩ : ByteArray) = strOfNums [] from rfl]
  rw [show ((0 : Nat) : Int) = 0 from rfl] at this
  rw [this]
  congr 1
  obtain ⟨e, e1, e2, e3, e4, e5, e6, e7⟩ := digits_of hn
  unfold textOf sat_Text.rev
  rw [e1]
  have hp := f2.pos
  rcases f2.val with ⟨rfl, rfl, rfl⟩ | ⟨rfl, h1, h2⟩ | ⟨rfl, h1, h2⟩
  · rw [e7 rfl]; rfl
  · have hn0 : ¬ n < 0 := by omega
    have : d = e := dv_inj f2.ok e2 f2.can (e6 (by omega)) (by rw [e3, if_neg hn0]; omega)
    subst this
    rw [if_neg (by omega), if_neg (by omega), if_neg hn0]; simp
  · have hn0 : n < 0 := by omega
    have : d = e := dv_inj f2.ok e2 f2.can (e6 (by omega)) (by rw [e3, if_pos hn0]; omega)
    subst this
    rw [if_pos (by omega), if_pos hn0]; simp

end Go.Proofs.Ytpeidnkbliafkaa.Print
