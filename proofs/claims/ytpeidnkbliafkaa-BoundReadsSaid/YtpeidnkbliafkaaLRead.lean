import Derived.Test.YtpeidnkbliafkaaPrint2
import Derived.Test.YtpeidnkbliafkaaPrint9
import Derived.Test.YtpeidnkbliafkaaLDig
import Derived.Test.YtpeidnkbliafkaaLNum
import Derived.Test.YtpeidnkbliafkaaLBig
namespace Go.Proofs.Ytpeidnkbliafkaa.Print
open Go.RowKit Go.Proofs.YtpeidnkbliafkaaW.PrintWords Go.Proofs.YtpeidnkbliafkaaW.PrintLast
set_option linter.unusedVariables false
set_option linter.unusedSimpArgs false
/-- bytes of slices, and of texts put together -/
theorem bt_lt {s : ByteArray} {i : Nat} (h : i < s.size) : bt s (i : Int) = ((s.data[i]'h).toNat : Int) := by simp only [bt, Int.toNat_natCast, dif_pos h]; rfl
theorem bt_extract {s : ByteArray} {n i : Nat} (h : n ≤ s.size) (hi : i < n) : bt (s.extract 0 n) (i : Int) = bt s (i : Int) := by
  have h1 : (s.extract 0 n).size = n := by simp [ByteArray.size_extract]; omega
  rw [bt_lt (by omega), bt_lt (by omega)]
  simp [ByteArray.data_extract]
theorem bt_append {a b : ByteArray} (i : Nat) : bt (a ++ b) (i : Int) = if i < a.size then bt a (i : Int) else bt b ((i - a.size : Nat) : Int) := by
  by_cases h : i < a.size
  · rw [if_pos h, bt_lt (by rw [ByteArray.size_append]; omega), bt_lt h]
    simp only [ByteArray.data_append]
    rw [Array.getElem_append_left (by exact h)]
  · rw [if_neg h]
    by_cases h2 : i < a.size + b.size
    · rw [bt_lt (by rw [ByteArray.size_append]; omega), bt_lt (by omega)]
      simp only [ByteArray.data_append]
      rw [Array.getElem_append_right (by exact Nat.le_of_not_lt h)]
      rfl
    · unfold bt
      rw [dif_neg (by rw [ByteArray.size_append]; omega), dif_neg (by omega)]
theorem bt_nums {xs : List Int} (h : ∀ x ∈ xs, 0 ≤ x ∧ x ≤ 255) (i : Nat) : bt (strOfNums xs) (i : Int) = dig xs i := by
  unfold dig
  by_cases hi : i < xs.length
  · rw [bt_lt (by rw [strOfNums_size]; exact hi)]
    have hx := h _ (List.getElem_mem hi)
    simp [strOfNums, List.getElem?_eq_getElem hi, List.getD_eq_getElem?_getD]
    omega
  · unfold bt
    rw [dif_neg (by rw [strOfNums_size]; omega), List.getD_eq_getElem?_getD, List.getElem?_eq_none (by omega)]; rfl
/-- is it a digit's sign? -/
def isD (s : ByteArray) (i : Nat) : Prop := i < s.size ∧ 48 ≤ bt s (i : Int) ∧ bt s (i : Int) ≤ 57
/-- what n digits from a place on say -/
def hv (s : ByteArray) (a : Nat) : Nat → Int
  | 0 => 0
  | n + 1 => 10 * hv s a n + (bt s ((a + n : Nat) : Int) - 48)
/-- n signs from a place on are a number's, up to most -/
structure Good (s : ByteArray) (a : Nat) (most : Int) (n : Nat) : Prop where
  dg : ∀ i, i < n → isD s (a + i)
  z : 2 ≤ n → bt s (a : Int) ≠ 48
  le : hv s a n ≤ most
theorem hv_nonneg {s : ByteArray} {a n : Nat} (h : ∀ i, i < n → isD s (a + i)) : 0 ≤ hv s a n := by
  induction n with
  | zero => simp [hv]
  | succ n ih =>
    have := ih (fun i hi => h i (by omega))
    have := (h n (by omega)).2
    simp only [hv]; omega
theorem Good.down {s : ByteArray} {a : Nat} {most : Int} {n : Nat} (h : Good s a most (n + 1)) : Good s a most n := by
  have h1 := hv_nonneg (s := s) (a := a) (n := n) (fun i hi => h.dg i (by omega))
  have h2 := (h.dg n (by omega)).2
  have h3 := h.le
  simp only [hv] at h3
  exact ⟨fun i hi => h.dg i (by omega), fun hn => h.z (by omega), by omega⟩
theorem Good.le_of {s : ByteArray} {a : Nat} {most : Int} {n m : Nat} (h : Good s a most n) (hm : m ≤ n) : Good s a most m := by
  obtain ⟨d, rfl⟩ := Nat.le.dest hm
  clear hm
  induction d with
  | zero => exact h
  | succ d ih => exact ih (Good.down h)
theorem hv_low {s : ByteArray} {a n : Nat} (h : ∀ i, i < n + 1 → isD s (a + i)) (hz : bt s (a : Int) ≠ 48) : p10 n ≤ hv s a (n + 1) := by
  induction n with
  | zero =>
    have := (h 0 (by omega)).2
    simp only [hv, p10, Nat.add_zero] at *; omega
  | succ n ih =>
    have := ih (fun i hi => h i (by omega))
    have := (h (n + 1) (by omega)).2
    rw [hv]; simp only [p10]; omega
theorem Good.short {s : ByteArray} {a : Nat} {most : Int} {n : Nat} (h : Good s a most n) (hm : most ≤ 9223372036854775808) : n ≤ 19 := by
  by_cases hn : n ≤ 19
  · exact hn
  · obtain ⟨m, rfl⟩ : ∃ m, n = m + 1 := ⟨n - 1, by omega⟩
    have h1 := hv_low h.dg (h.z (by omega))
    have h2 := p10_le (show 19 ≤ m by omega)
    have h3 := h.le
    rw [p10_19] at h2
    omega
theorem hv_zero {s : ByteArray} {a : Nat} {most : Int} {n : Nat} (h : Good s a most n) (hn : 1 ≤ n) : hv s a n = 0 ↔ bt s (a : Int) = 48 := by
  by_cases h1 : n = 1
  · subst h1
    simp only [hv, Nat.add_zero]; omega
  · obtain ⟨m, rfl⟩ : ∃ m, n = m + 1 := ⟨n - 1, by omega⟩
    have h2 := hv_low h.dg (h.z (by omega))
    have h3 := p10_pos m
    have h4 := h.z (by omega)
    constructor
    · intro h; omega
    · intro h; exact absurd h h4
/-- where the digits begin, how many they may say -/
def fromOf (s : ByteArray) : Nat := if 0 < s.size ∧ bt s 0 = 45 then 1 else 0
def mostOf (s : ByteArray) : Int := if 0 < fromOf s then 9223372036854775808 else 9223372036854775807
def sgnOf (s : ByteArray) (v : Int) : Int := if 0 < fromOf s then -v else v
theorem fromOf_le (s : ByteArray) : fromOf s ≤ 1 ∧ fromOf s ≤ s.size := by unfold fromOf; split <;> omega
theorem mostOf_le (s : ByteArray) : mostOf s ≤ 9223372036854775808 ∧ 9223372036854775807 ≤ mostOf s := by unfold mostOf; split <;> omega
/-- the longest beginning -/
structure Longest (s : ByteArray) (n : Nat) : Prop where
  good : Good s (fromOf s) (mostOf s) n
  no : ¬ Good s (fromOf s) (mostOf s) (n + 1)
/-- what is read -/
def readOf (s : ByteArray) (n : Nat) : Int × Int := if n = 0 ∨ (0 < fromOf s ∧ hv s (fromOf s) n = 0) then (0, 0) else (sgnOf s (hv s (fromOf s) n), ((fromOf s + n : Nat) : Int))
theorem u64_of {x : Int} (h0 : 0 ≤ x) (h1 : x ≤ 18446744073709551615) : IntKind.u64.wrap x = x := by simp [IntKind.wrap, IntKind.bits, IntKind.signed]; omega
theorem sat_Read.l0_eq {s : ByteArray} {a : Nat} {most : Int} (hm : most ≤ 9223372036854775808) (hm0 : 9 ≤ most) (ha : a ≤ 1) (hs : s.size ≤ 140737488351232) (d : Nat) : ∀ (k n : Nat), Good s a most n → n + d = 20 → 2 * d < k →
    ∃ m k', Good s a most m ∧ ¬ Good s a most (m + 1) ∧ k ≤ k' + 2 * d + 2 ∧ k' < k ∧ sat_Read.l0 k s (a : Int) most (hv s a n) ((a + n : Nat) : Int) = sat_Read.j5 k' (a : Int) (hv s a m) ((a + m : Nat) : Int) := by
  induction d with
  | zero =>
    intro k n hg hn hk
    have := hg.short hm
    omega
  | succ d ih =>
    intro k n hg hn hk
    obtain ⟨k, rfl⟩ : ∃ j, k = j + 2 := ⟨k - 2, by omega⟩
    have hgs := hg.short hm
    have hv0 := hv_nonneg hg.dg
    have hvl := hg.le
    by_cases hd : isD s (a + n)
    · obtain ⟨hd0, hd1, hd2⟩ := hd
      have hnx : hv s a (n + 1) = 10 * hv s a n + (bt s ((a + n : Nat) : Int) - 48) := rfl
      have hmod : (bt s ((a + n : Nat) : Int) - 48) % 256 = bt s ((a + n : Nat) : Int) - 48 := by omega
      have hdgs : ∀ i, i < n + 1 → isD s (a + i) := fun i hi => by
        by_cases h : i = n
        · subst h; exact ⟨hd0, hd1, hd2⟩
        · exact hg.dg i (by omega)
      have e1 : sat_Read.l0 (k + 2) s (a : Int) most (hv s a n) ((a + n : Nat) : Int) = sat_Read.j4 (k + 1) s (a : Int) most (hv s a n) ((a + n : Nat) : Int) true := by
        rw [sat_Read.l0, if_pos (by omega), if_pos (by omega), if_pos (by omega), decide_eq_true hd2]
      have hover : most < 10 * hv s a n + (bt s ((a + n : Nat) : Int) - 48) ∨ 10 * hv s a n + (bt s ((a + n : Nat) : Int) - 48) ≤ most := by omega
      have hdiv : (hv s a n > IntKind.u64.wrap (Int.tdiv (IntKind.u64.wrap (most - (bt s ((a + n : Nat) : Int) - 48))) 10)) ↔ most < 10 * hv s a n + (bt s ((a + n : Nat) : Int) - 48) := by
        rw [u64_of (x := most - _) (by omega) (by omega), Int.tdiv_eq_ediv_of_nonneg (by omega), u64_of (by omega) (by omega)]
        omega
      have body : ∀ (P : Option (Int × Int)), (if hv s a n > IntKind.u64.wrap (Int.tdiv (IntKind.u64.wrap (most - (bt s ((a + n : Nat) : Int) - 48))) 10) then (sat_Read.j5 k (a : Int) (hv s a n) ((a + n : Nat) : Int)) else (sat_Read.l0 k s (a : Int) most (IntKind.u64.wrap ((IntKind.u64.wrap (10 * hv s a n)) + (bt s ((a + n : Nat) : Int) - 48))) (wrap64 (((a + n : Nat) : Int) + 1)))) = P →
          (2 ≤ n + 1 → bt s (a : Int) ≠ 48) → ∃ m k', Good s a most m ∧ ¬ Good s a most (m + 1) ∧ k + 2 ≤ k' + 2 * (d + 1) + 2 ∧ k' < k + 2 ∧ P = sat_Read.j5 k' (a : Int) (hv s a m) ((a + m : Nat) : Int) := by
        intro P hP hz
        by_cases ho : most < 10 * hv s a n + (bt s ((a + n : Nat) : Int) - 48)
        · rw [if_pos (hdiv.2 ho)] at hP
          refine ⟨n, k, hg, fun h => ?_, by omega, by omega, hP.symm⟩
          have := h.le; omega
        · rw [if_neg (fun h => ho (hdiv.1 h)), u64_of (x := 10 * hv s a n) (by omega) (by omega), u64_of (by omega) (by omega), ← hnx, wrap64_of (by unfold I64; omega)] at hP
          obtain ⟨m, k', g1, g2, g3, g4, g5⟩ := ih k (n + 1) ⟨hdgs, hz, by omega⟩ (by omega) (by omega)
          exact ⟨m, k', g1, g2, by omega, by omega, hP.symm.trans g5⟩
      rw [e1, sat_Read.j4, if_pos rfl, if_pos (by omega), if_pos (by omega), hmod]
      by_cases hn0 : n = 0
      · subst hn0
        rw [if_neg (by omega)]
        exact body _ rfl (fun h => by omega)
      · rw [if_pos (by omega)]
        by_cases hz : hv s a n = 0
        · rw [if_pos hz]
          have hz48 := (hv_zero hg (by omega)).1 hz
          exact ⟨n, k, hg, fun h => h.z (by omega) hz48, by omega, by omega, rfl⟩
        · rw [if_neg hz]
          exact body _ rfl (fun _ h => hz ((hv_zero hg (by omega)).2 h))
    · have e1 : sat_Read.l0 (k + 2) s (a : Int) most (hv s a n) ((a + n : Nat) : Int) = sat_Read.j4 (k + 1) s (a : Int) most (hv s a n) ((a + n : Nat) : Int) false := by
        rw [sat_Read.l0]
        by_cases h1 : a + n < s.size
        · rw [if_pos (by omega), if_pos (by omega)]
          by_cases h2 : bt s ((a + n : Nat) : Int) ≥ 48
          · rw [if_pos h2, decide_eq_false (fun h => hd ⟨h1, h2, h⟩)]
          · rw [if_neg h2]
        · rw [if_neg (by omega)]
      rw [e1, sat_Read.j4, if_neg Bool.false_ne_true]
      exact ⟨n, k, hg, fun h => hd (h.dg n (by omega)), by omega, by omega, rfl⟩
theorem sat_size.max : sat_size.f 9223372036854775807 = some 9223372036854775807 := by decide
theorem sat_size.min : sat_size.f (-9223372036854775808) = some 9223372036854775808 := by decide
theorem sat_Read.eq {s : ByteArray} (hs : s.size ≤ 140737488351232) (k : Nat) (hk : 60 ≤ k) : ∃ n, Longest s n ∧ sat_Read.f k s = some (readOf s n) := by
  obtain ⟨k, rfl⟩ : ∃ j, k = j + 3 := ⟨k - 3, by omega⟩
  have hf := fromOf_le s
  have hm := mostOf_le s
  have start : sat_Read.f (k + 3) s = sat_Read.l0 k s (fromOf s : Int) (mostOf s) 0 (fromOf s : Int) := by
    unfold sat_Read.f
    by_cases h0 : 0 < s.size
    · rw [if_pos (by omega), if_pos (by omega)]
      by_cases h1 : bt s 0 = 45
      · have e1 : fromOf s = 1 := by unfold fromOf; rw [if_pos ⟨h0, h1⟩]
        have e2 : mostOf s = 9223372036854775808 := by unfold mostOf; rw [e1]; rfl
        rw [show (bt s 0 == 45) = true from beq_iff_eq.2 h1, sat_Read.j0, if_pos rfl, sat_Read.j1, sat_size.max, Option.bind_some, if_pos (by omega), sat_size.min, Option.bind_some, sat_Read.j2, e1, e2]
        rfl
      · have e1 : fromOf s = 0 := by unfold fromOf; rw [if_neg (fun h => h1 h.2)]
        have e2 : mostOf s = 9223372036854775807 := by unfold mostOf; rw [e1]; rfl
        rw [show (bt s 0 == 45) = false from beq_eq_false_iff_ne.2 h1, sat_Read.j0, if_neg Bool.false_ne_true, sat_Read.j1, sat_size.max, Option.bind_some, if_neg (by omega), sat_Read.j2, e1, e2]
        rfl
    · have e1 : fromOf s = 0 := by unfold fromOf; rw [if_neg (fun h => h0 h.1)]
      have e2 : mostOf s = 9223372036854775807 := by unfold mostOf; rw [e1]; rfl
      rw [if_neg (by omega), sat_Read.j0, if_neg Bool.false_ne_true, sat_Read.j1, sat_size.max, Option.bind_some, if_neg (by omega), sat_Read.j2, e1, e2]
      rfl
  obtain ⟨m, k', g1, g2, g3, g4, g5⟩ := sat_Read.l0_eq (s := s) (a := fromOf s) (most := mostOf s) hm.1 (by omega) hf.1 hs 20 k 0 ⟨fun i hi => by omega, fun h => by omega, by simp only [hv]; omega⟩ (by omega) (by omega)
  refine ⟨m, ⟨g1, g2⟩, ?_⟩
  simp only [hv, Nat.add_zero] at g5
  rw [start, g5]
  have hv0 := hv_nonneg g1.dg
  have hvl := g1.le
  obtain ⟨k', rfl⟩ : ∃ j, k' = j + 2 := ⟨k' - 2, by omega⟩
  have fin : ∀ b : Bool, b = decide (m = 0 ∨ (0 < fromOf s ∧ hv s (fromOf s) m = 0)) → sat_Read.j6 (k' + 1) (fromOf s : Int) (hv s (fromOf s) m) ((fromOf s + m : Nat) : Int) b = some (readOf s m) := by
    intro b hb
    rw [sat_Read.j6]
    unfold readOf
    by_cases hc : m = 0 ∨ (0 < fromOf s ∧ hv s (fromOf s) m = 0)
    · rw [if_pos (by rw [hb]; exact decide_eq_true hc), if_pos hc]
    · rw [if_neg (by rw [hb, decide_eq_false hc]; exact Bool.false_ne_true), if_neg hc]
      unfold sgnOf
      by_cases h1 : 0 < fromOf s
      · have e2 : mostOf s = 9223372036854775808 := by unfold mostOf; rw [if_pos h1]
        have hvp : 0 < hv s (fromOf s) m := by
          by_cases h : hv s (fromOf s) m = 0
          · exact absurd (.inr ⟨h1, h⟩) hc
          · omega
        have hw : wrap64 (IntKind.u64.wrap (-hv s (fromOf s) m)) = -hv s (fromOf s) m := by
          simp [IntKind.wrap, IntKind.bits, IntKind.signed, wrap64]; omega
        rw [if_pos (by omega), if_pos h1, hw]
      · have e2 : mostOf s = 9223372036854775807 := by unfold mostOf; rw [if_neg h1]
        rw [if_neg (by omega), if_neg h1, wrap64_of (by unfold I64; omega)]
  rw [sat_Read.j5]
  by_cases h1 : m = 0
  · rw [if_pos (by omega)]
    exact fin true (by simp [h1])
  · rw [if_neg (by omega)]
    by_cases h2 : 0 < fromOf s
    · rw [if_pos (by omega)]
      exact fin _ (by simp [h1, h2]; rfl)
    · rw [if_neg (by omega)]
      exact fin false (by simp [h1, h2])
/-- the digits from place p on, the lowest first, of the n signs behind a -/
theorem hv_split (s : ByteArray) (a m : Nat) : ∀ n, hv s a (m + n) = hv s a m * p10 n + hv s (a + m) n
  | 0 => by simp [hv, p10]
  | n + 1 => by
    rw [← Nat.add_assoc, hv, hv_split s a m n]
    simp only [hv, p10]
    rw [show a + (m + n) = a + m + n by omega, Int.mul_add, ← Int.mul_assoc, Int.mul_comm 10 (hv s a m), Int.mul_assoc]
    omega
/-- does the whole text say a number? -/
def wholeOK (s : ByteArray) : Prop := 1 ≤ s.size - fromOf s ∧ (∀ i, i < s.size - fromOf s → isD s (fromOf s + i)) ∧ (bt s (fromOf s : Int) = 48 → s.size - fromOf s = 1 ∧ fromOf s = 0)
theorem bocageref01_whole.l0_eq {s : ByteArray} {a : Nat} {sg : Int} (ha : a ≤ 1) (has : a ≤ s.size) (hs : s.size ≤ 1000000) (n : Nat) : ∀ (k : Nat) (acc : List Int), a + n + acc.length = s.size → DOK acc → dv acc = hv s (a + n) acc.length → n + 1 < k →
    (∀ j, j < acc.length → isD s (a + n + j)) → (acc ≠ [] → dig acc (acc.length - 1) = bt s ((a + n : Nat) : Int) - 48) →
    (∃ i, i < s.size - a ∧ ¬ isD s (a + i) ∧ bocageref01_whole.l0 k s (a : Int) (((a + n : Nat) : Int) - 1) sg acc = some (0, [], false)) ∨
    (∃ D k', (∀ i, i < s.size - a → isD s (a + i)) ∧ DOK D ∧ D.length = s.size - a ∧ dv D = hv s a (s.size - a) ∧ (D ≠ [] → dig D (D.length - 1) = bt s (a : Int) - 48) ∧
      bocageref01_whole.l0 k s (a : Int) (((a + n : Nat) : Int) - 1) sg acc = bocageref01_whole.l0 (k' + 1) s (a : Int) ((a : Int) - 1) sg D ∧ 1 ≤ k') := by
  induction n with
  | zero =>
    intro k acc hl hd hv' hk hdg hlast
    refine (.inr ⟨acc, k - 1, fun i hi => ?_, hd, by omega, ?_, hlast, ?_, by omega⟩)
    · exact hdg i (by omega)
    · rw [hv']; congr 1; omega
    · rw [show k - 1 + 1 = k by omega]; congr 1
  | succ n ih =>
    intro k acc hl hd hv' hk hdg hlast
    obtain ⟨k, rfl⟩ : ∃ j, k = j + 1 := ⟨k - 1, by omega⟩
    have e : ((a + (n + 1) : Nat) : Int) - 1 = ((a + n : Nat) : Int) := by omega
    have hr := bt_range s ((a + n : Nat) : Int)
    rw [e, bocageref01_whole.l0, if_pos (by omega), if_pos (by omega), if_pos (by omega)]
    by_cases h1 : bt s ((a + n : Nat) : Int) < 48
    · rw [if_pos h1]
      exact (.inl ⟨n, by omega, fun h => by have := h.2.1; omega, rfl⟩)
    · rw [if_neg h1]
      by_cases h2 : bt s ((a + n : Nat) : Int) > 57
      · rw [if_pos h2]
        exact (.inl ⟨n, by omega, fun h => by have := h.2.2; omega, rfl⟩)
      · rw [if_neg h2, if_pos (by omega), wrap64_of (x := bt s _) (by unfold I64; omega), wrap64_of (x := bt s _ - 48) (by unfold I64; omega), wrap64_of (by unfold I64; omega)]
        have hsp := hv_split s (a + n) 1 acc.length
        rw [show a + n + 1 = a + (n + 1) by omega, ← hv'] at hsp
        refine ih k (acc ++ [bt s ((a + n : Nat) : Int) - 48]) (by simp; omega) (hd.snoc (by omega)) ?_ (by omega) ?_ ?_
        · rw [dv_snoc, List.length_append, List.length_singleton, Nat.add_comm acc.length 1, hsp]
          simp only [hv, Int.mul_zero, Int.zero_add, Nat.add_zero]
          rw [Int.mul_comm]; omega
        · intro j hj
          by_cases hj0 : j = 0
          · subst hj0; exact ⟨by omega, by simp only [Nat.add_zero]; omega, by simp only [Nat.add_zero]; omega⟩
          · have := hdg (j - 1) (by simp at hj; omega)
            rwa [show a + (n + 1) + (j - 1) = a + n + j by omega] at this
        · intro _
          simp [dig]
theorem bocageref01_whole.j1_eq {s : ByteArray} {a : Nat} {sg : Int} (ha : a ≤ 1) (has : a ≤ s.size) (hs : s.size ≤ 1000000) (hsg : sg = 1 ∨ sg = -1) (k : Nat) (hk : s.size + 10 ≤ k) :
    (¬ (1 ≤ s.size - a ∧ (∀ i, i < s.size - a → isD s (a + i)) ∧ (bt s (a : Int) = 48 → s.size - a = 1 ∧ a = 0)) ∧ bocageref01_whole.j1 k s (a : Int) sg = some (0, [], false)) ∨
    (1 ≤ s.size - a ∧ (∀ i, i < s.size - a → isD s (a + i)) ∧ (bt s (a : Int) = 48 → s.size - a = 1 ∧ a = 0) ∧ ∃ sg' D, bocageref01_whole.j1 k s (a : Int) sg = some (sg', D, true) ∧ Big sg' D (sg * hv s a (s.size - a)) ∧ D.length ≤ s.size) := by
  obtain ⟨k, rfl⟩ : ∃ j, k = j + 1 := ⟨k - 1, by omega⟩
  rw [bocageref01_whole.j1, wrap64_of (by unfold I64; omega)]
  have h := bocageref01_whole.l0_eq (sg := sg) ha has hs (s.size - a) k [] (by simp; omega) DOK.nil rfl (by omega) (fun j hj => by simp at hj) (fun h => absurd rfl h)
  rw [show ((a + (s.size - a) : Nat) : Int) - 1 = (s.size : Int) - 1 by omega] at h
  rcases h with ⟨i, h1, h2, h3⟩ | ⟨D, k', h1, h2, h3, h4, h5, h6, h7⟩
  · exact .inl ⟨fun hh => h2 (hh.2.1 i h1), h3⟩
  · rw [h6, bocageref01_whole.l0, if_neg (by omega)]
    by_cases h0 : D.length = 0
    · rw [if_pos (by omega)]
      exact .inl ⟨fun hh => by omega, rfl⟩
    · have hne : D ≠ [] := fun h => h0 (by rw [h]; rfl)
      have hlast := h5 hne
      have hw : wrap64 ((D.length : Int) - 1) = ((D.length - 1 : Nat) : Int) := by rw [wrap64_of (by unfold I64; omega)]; omega
      have hd0 : ∀ b : Bool, bocageref01_whole.j3 k' b sg D = if b = true then some (0, [], false) else (if dig D (D.length - 1) = 0 then some (0, [], true) else some (sg, D, true)) := by
        intro b
        obtain ⟨k'', rfl⟩ : ∃ j, k' = j + 1 := ⟨k' - 1, by omega⟩
        rw [bocageref01_whole.j3, hw, rd_nat, if_pos (show (0 : Int) ≤ ((D.length - 1 : Nat) : Int) by omega), if_pos (show ((D.length - 1 : Nat) : Int) < (D.length : Int) by omega)]
      rw [if_neg (by omega), hw, rd_nat, if_pos (by omega), if_pos (by omega)]
      by_cases hz : dig D (D.length - 1) = 0
      · rw [if_pos hz]
        have hz48 : bt s (a : Int) = 48 := by omega
        by_cases h8 : (D.length : Int) > 1
        · rw [if_pos h8, hd0, if_pos rfl]
          exact .inl ⟨fun hh => by have := hh.2.2 hz48; omega, rfl⟩
        · rw [if_neg h8, hd0]
          by_cases h9 : a = 0
          · rw [decide_eq_false (by omega), if_neg Bool.false_ne_true, if_pos hz]
            refine .inr ⟨by omega, h1, fun _ => ⟨by omega, h9⟩, 0, [], rfl, ?_, by simp⟩
            have e1 : s.size - a = 1 := by omega
            have : hv s a (s.size - a) = 0 := by rw [e1]; simp only [hv, Nat.add_zero]; omega
            rw [this, Int.mul_zero]
            exact Big.zero
          · rw [decide_eq_true (by omega), if_pos rfl]
            exact .inl ⟨fun hh => by have := hh.2.2 hz48; omega, rfl⟩
      · rw [if_neg hz, hd0, if_neg Bool.false_ne_true, if_neg hz]
        refine .inr ⟨by omega, h1, fun h => by omega, sg, D, rfl, ⟨h2, .inr hz, ?_⟩, by omega⟩
        rcases hsg with rfl | rfl
        · exact .inr (.inl ⟨rfl, hne, by omega⟩)
        · exact .inr (.inr ⟨rfl, hne, by omega⟩)
/-- n signs behind the sign say a number -/
def ParseOK (s : ByteArray) (n : Nat) : Prop := 1 ≤ n ∧ Good s (fromOf s) (mostOf s) n ∧ ¬ (0 < fromOf s ∧ bt s (fromOf s : Int) = 48)
open Classical in
noncomputable def parseOf (s : ByteArray) (n : Nat) : Int × Int := if ParseOK s n then (sgnOf s (hv s (fromOf s) n), 0) else (0, 10)
theorem bocageref01_Parse.eq {s : ByteArray} (hs : s.size ≤ 1000000) (k : Nat) (hk : s.size + 50 ≤ k) : bocageref01_Parse.f k s = some (parseOf s (s.size - fromOf s)) := by
  have hf := fromOf_le s
  obtain ⟨k, rfl⟩ : ∃ j, k = j + 1 := ⟨k - 1, by omega⟩
  have start : bocageref01_whole.f (k + 1) s = bocageref01_whole.j1 k s (fromOf s : Int) (if 0 < fromOf s then -1 else 1) := by
    unfold bocageref01_whole.f
    by_cases h0 : 0 < s.size
    · rw [if_pos (by omega), if_pos (by omega)]
      by_cases h1 : bt s 0 = 45
      · have e1 : fromOf s = 1 := by unfold fromOf; rw [if_pos ⟨h0, h1⟩]
        rw [show (bt s 0 == 45) = true from beq_iff_eq.2 h1, bocageref01_whole.j0, if_pos rfl, e1]; rfl
      · have e1 : fromOf s = 0 := by unfold fromOf; rw [if_neg (fun h => h1 h.2)]
        rw [show (bt s 0 == 45) = false from beq_eq_false_iff_ne.2 h1, bocageref01_whole.j0, if_neg Bool.false_ne_true, e1]; rfl
    · have e1 : fromOf s = 0 := by unfold fromOf; rw [if_neg (fun h => h0 h.1)]
      rw [if_neg (by omega), bocageref01_whole.j0, if_neg Bool.false_ne_true, e1]; rfl
  unfold bocageref01_Parse.f
  rw [start]
  unfold parseOf
  rcases bocageref01_whole.j1_eq (sg := if 0 < fromOf s then -1 else 1) hf.1 hf.2 hs (by split <;> simp) k (by omega) with ⟨h1, h2⟩ | ⟨h1, h2, h3, sg', D, h4, h5, h6⟩
  · rw [h2, Option.bind_some, if_neg Bool.false_ne_true]
    rw [if_neg]
    rintro ⟨g1, g2, g3⟩
    refine h1 ⟨g1, g2.dg, fun h => ?_⟩
    by_cases hn : s.size - fromOf s = 1
    · by_cases hf0 : fromOf s = 0
      · exact ⟨hn, hf0⟩
      · exact absurd ⟨by omega, h⟩ g3
    · exact absurd h (g2.z (by omega))
  · rw [h4, Option.bind_some, if_pos rfl]
    have hv0 := hv_nonneg h2
    have hval : (if 0 < fromOf s then -1 else 1) * hv s (fromOf s) (s.size - fromOf s) = sgnOf s (hv s (fromOf s) (s.size - fromOf s)) := by unfold sgnOf; split <;> omega
    rw [hval] at h5
    simp only [bocageref01_Is.eq h5 (k + 1) (by omega) (by omega), Option.bind_some, bocageref01_End.eq h5 (k + 1) (by omega) (by omega)]
    have hiff : (-9223372036854775808 ≤ sgnOf s (hv s (fromOf s) (s.size - fromOf s)) ∧ sgnOf s (hv s (fromOf s) (s.size - fromOf s)) ≤ 9223372036854775807) ↔ hv s (fromOf s) (s.size - fromOf s) ≤ mostOf s := by
      unfold sgnOf mostOf; split <;> omega
    by_cases hle : hv s (fromOf s) (s.size - fromOf s) ≤ mostOf s
    · rw [if_pos (decide_eq_true (hiff.2 hle)), if_pos, clamp_of (hiff.2 hle)]
      refine ⟨h1, ⟨h2, fun hn h => ?_, hle⟩, fun h => ?_⟩
      · have := h3 h; omega
      · have := h3 h.2; omega
    · rw [if_neg (by rw [decide_eq_false (fun h => hle (hiff.1 h))]; exact Bool.false_ne_true), if_neg]
      exact fun h => hle h.2.1.le
theorem extract_size {s : ByteArray} {n : Nat} (h : n ≤ s.size) : (s.extract 0 n).size = n := by simp [ByteArray.size_extract]; omega
theorem fromOf_extract {s : ByteArray} {n : Nat} (h : n ≤ s.size) (h1 : 1 ≤ n) : fromOf (s.extract 0 n) = fromOf s := by
  unfold fromOf
  have := bt_extract h (show 0 < n by omega)
  rw [extract_size h]
  simp only [show (0 : Int) = ((0 : Nat) : Int) from rfl, this]
  by_cases h2 : bt s ((0 : Nat) : Int) = 45
  · rw [if_pos ⟨by omega, h2⟩, if_pos ⟨by omega, h2⟩]
  · rw [if_neg (fun h => h2 h.2), if_neg (fun h => h2 h.2)]
theorem mostOf_extract {s : ByteArray} {n : Nat} (h : n ≤ s.size) (h1 : 1 ≤ n) : mostOf (s.extract 0 n) = mostOf s := by unfold mostOf; rw [fromOf_extract h h1]
theorem hv_extract {s : ByteArray} {n a : Nat} (h : n ≤ s.size) : ∀ m, a + m ≤ n → hv (s.extract 0 n) a m = hv s a m
  | 0, _ => rfl
  | m + 1, hm => by simp only [hv]; rw [hv_extract h m (by omega), bt_extract h (by omega)]
theorem isD_extract {s : ByteArray} {n i : Nat} (h : n ≤ s.size) (hi : i < n) : isD (s.extract 0 n) i ↔ isD s i := by
  unfold isD
  rw [extract_size h, bt_extract h hi]
  constructor
  · exact fun hh => ⟨by omega, hh.2⟩
  · exact fun hh => ⟨hi, hh.2⟩
theorem Good.extract {s : ByteArray} {n a m : Nat} {most : Int} (h : n ≤ s.size) (hm : a + m ≤ n) (h1 : 1 ≤ m) : Good (s.extract 0 n) a most m ↔ Good s a most m := by
  constructor
  · rintro ⟨g1, g2, g3⟩
    exact ⟨fun i hi => (isD_extract h (by omega)).1 (g1 i hi), fun hh => by have := g2 hh; rwa [bt_extract h (by omega)] at this, by rwa [hv_extract h m hm] at g3⟩
  · rintro ⟨g1, g2, g3⟩
    exact ⟨fun i hi => (isD_extract h (by omega)).2 (g1 i hi), fun hh => by rw [bt_extract h (by omega)]; exact g2 hh, by rw [hv_extract h m hm]; exact g3⟩
theorem ParseOK.extract {s : ByteArray} {n : Nat} (h : n ≤ s.size) (h1 : 1 ≤ n) (hf : fromOf s < n) : ParseOK (s.extract 0 n) (n - fromOf s) ↔ ParseOK s (n - fromOf s) := by
  unfold ParseOK
  rw [fromOf_extract h h1, mostOf_extract h h1, Good.extract h (by omega) (by omega), bt_extract h hf]
theorem ParseOK.longest {s : ByteArray} {m n : Nat} (hl : Longest s m) (h : ParseOK s n) : n ≤ m := by
  by_cases hn : n ≤ m
  · exact hn
  · exact absurd (h.2.1.le_of (show m + 1 ≤ n by omega)) hl.no
theorem readOf_ok {s : ByteArray} {m : Nat} (hl : Longest s m) (h : ParseOK s m) : readOf s m = (sgnOf s (hv s (fromOf s) m), ((fromOf s + m : Nat) : Int)) := by
  unfold readOf
  rw [if_neg]
  rintro (h0 | ⟨h1, h2⟩)
  · have := h.1; omega
  · exact h.2.2 ⟨h1, (hv_zero h.2.1 h.1).1 h2⟩
theorem readOf_no {s : ByteArray} {m : Nat} (hl : Longest s m) (h : ¬ ParseOK s m) : readOf s m = (0, 0) ∧ ∀ n, ¬ ParseOK s n := by
  have key : m = 0 ∨ (0 < fromOf s ∧ bt s (fromOf s : Int) = 48) := by
    by_cases h0 : m = 0
    · exact .inl h0
    · by_cases h1 : 0 < fromOf s ∧ bt s (fromOf s : Int) = 48
      · exact .inr h1
      · exact absurd ⟨by omega, hl.good, h1⟩ h
  constructor
  · unfold readOf
    rw [if_pos]
    rcases key with h0 | ⟨h1, h2⟩
    · exact .inl h0
    · by_cases h0 : m = 0
      · exact .inl h0
      · exact .inr ⟨h1, (hv_zero hl.good (by omega)).2 h2⟩
  · intro n hn
    rcases key with h0 | h1
    · have := ParseOK.longest hl hn; have := hn.1; omega
    · exact hn.2.2 h1
theorem bocageref01_Read.l0_eq {s : ByteArray} {m : Nat} (hl : Longest s m) (hs : s.size ≤ 140737488351232) (n : Nat) : ∀ k, n ≤ s.size → n ≤ 20 → n + 200 < k → (ParseOK s m → fromOf s + m ≤ n) → bocageref01_Read.l0 k s (n : Int) = some (readOf s m) := by
  have hf := fromOf_le s
  induction n with
  | zero =>
    intro k hn h20 hk hm
    obtain ⟨k, rfl⟩ : ∃ j, k = j + 1 := ⟨k - 1, by omega⟩
    rw [bocageref01_Read.l0, if_neg (by omega), (readOf_no hl (fun h => by have := hm h; have := h.1; omega)).1]
  | succ n ih =>
    intro k hn h20 hk hm
    obtain ⟨k, rfl⟩ : ∃ j, k = j + 1 := ⟨k - 1, by omega⟩
    have et : ((n + 1 : Nat) : Int).toNat = n + 1 := by omega
    have e1 := extract_size hn
    have ep := bocageref01_Parse.eq (s := s.extract 0 (n + 1)) (by omega) k (by omega)
    rw [e1, fromOf_extract hn (by omega)] at ep
    have hnext : ¬ ParseOK s (n + 1 - fromOf s) → (ParseOK s m → fromOf s + m ≤ n) := by
      intro h hp
      have := hm hp
      by_cases he : fromOf s + m = n + 1
      · exact absurd (by rw [← he, show fromOf s + m - fromOf s = m by omega]; exact hp) h
      · omega
    rw [bocageref01_Read.l0, if_pos (by omega), if_pos (by omega), if_pos (by omega), et, ep, Option.bind_some]
    by_cases hc : fromOf s < n + 1
    · unfold parseOf
      by_cases hp : ParseOK s (n + 1 - fromOf s)
      · have hpe := (ParseOK.extract hn (by omega) hc).2 hp
        rw [if_pos hpe, if_pos rfl]
        have h1 := ParseOK.longest hl hp
        have h2 : ParseOK s m := ⟨by have := hp.1; omega, hl.good, hp.2.2⟩
        have h3 := hm h2
        have h4 : m = n + 1 - fromOf s := by omega
        rw [readOf_ok hl h2]
        unfold sgnOf
        rw [fromOf_extract hn (by omega), hv_extract hn _ (by omega), h4, show fromOf s + (n + 1 - fromOf s) = n + 1 by omega]
      · rw [if_neg (fun h => hp ((ParseOK.extract hn (by omega) hc).1 h)), if_neg (by omega), wrap64_of (by unfold I64; omega), show ((n + 1 : Nat) : Int) - 1 = (n : Int) by omega]
        exact ih k (by omega) (by omega) (by omega) (hnext hp)
    · unfold parseOf
      have h0 : n + 1 - fromOf s = 0 := by omega
      have hz : ¬ ParseOK (s.extract 0 (n + 1)) 0 := fun h => by have := h.1; omega
      rw [h0]
      simp only [if_neg hz]
      rw [if_neg (by decide), wrap64_of (by unfold I64; omega), show ((n + 1 : Nat) : Int) - 1 = (n : Int) by omega]
      exact ih k (by omega) (by omega) (by omega) (hnext (by rw [h0]; exact fun h => by have := h.1; omega))
theorem bocageref01_Read.eq {s : ByteArray} {m : Nat} (hl : Longest s m) (hs : s.size ≤ 140737488351232) (k : Nat) (hk : 300 ≤ k) : bocageref01_Read.f k s = some (readOf s m) := by
  obtain ⟨k, rfl⟩ : ∃ j, k = j + 1 := ⟨k - 1, by omega⟩
  have hf := fromOf_le s
  have hsh := hl.good.short (mostOf_le s).1
  have hin : ParseOK s m → fromOf s + m ≤ s.size := fun h => by
    have := (h.2.1.dg (m - 1) (by have := h.1; omega)).1
    have := h.1; omega
  unfold bocageref01_Read.f
  by_cases h : (s.size : Int) > 20
  · rw [if_pos h, bocageref01_Read.j0]
    exact bocageref01_Read.l0_eq hl hs 20 k (by omega) (by omega) (by omega) (fun h => by omega)
  · rw [if_neg h, bocageref01_Read.j0]
    exact bocageref01_Read.l0_eq hl hs s.size k (by omega) (by omega) (by omega) hin
/-- what a number's text, with whatever stands behind, is read as: sign, digits, then no digit -/
theorem longest_of {s : ByteArray} {d : List Int} (neg : Bool) (hd : DOK d) (hne : d ≠ []) (hz : 2 ≤ d.length → dig d (d.length - 1) ≠ 0) (hsz : s.size ≥ (if neg then 1 else 0) + d.length)
    (h0 : neg = true → bt s 0 = 45) (hdg : ∀ i, i < d.length → bt s (((if neg then 1 else 0) + i : Nat) : Int) = 48 + dig d (d.length - 1 - i)) (hle : dv d ≤ if neg then 9223372036854775808 else 9223372036854775807)
    (hno : ¬ isD s ((if neg then 1 else 0) + d.length)) : fromOf s = (if neg then 1 else 0) ∧ Longest s d.length ∧ hv s (fromOf s) d.length = dv d := by
  have hl : 0 < d.length := List.length_pos_iff.2 hne
  have e1 : fromOf s = (if neg then 1 else 0) := by
    unfold fromOf
    cases neg with
    | true => simp only [if_true] at *; rw [if_pos ⟨by omega, h0 trivial⟩]
    | false =>
      simp only [Bool.false_eq_true, if_false] at *
      rw [if_neg]
      intro h
      have := hdg 0 hl
      have h2 := hd.dg (d.length - 1 - 0)
      simp only [Nat.zero_add] at this
      rw [show ((0 : Nat) : Int) = 0 from rfl] at this
      omega
  have hv1 : ∀ n, n ≤ d.length → hv s (fromOf s) n = dv (d.drop (d.length - n)) := by
    intro n
    induction n with
    | zero => intro _; rw [dv_drop_end _ _ (by omega)]; rfl
    | succ n ih =>
      intro hn
      have h2 := dv_drop d (d.length - (n + 1))
      rw [show d.length - (n + 1) + 1 = d.length - n by omega] at h2
      rw [hv, ih (by omega), h2, e1, hdg n (by omega), show d.length - 1 - n = d.length - (n + 1) by omega]
      omega
  have hvd : hv s (fromOf s) d.length = dv d := by rw [hv1 _ (Nat.le_refl _), Nat.sub_self, List.drop_zero]
  have hm : mostOf s = if neg then 9223372036854775808 else 9223372036854775807 := by unfold mostOf; rw [e1]; cases neg <;> rfl
  refine ⟨e1, ⟨⟨fun i hi => ?_, fun h => ?_, by rw [hvd, hm]; exact hle⟩, fun h => ?_⟩, hvd⟩
  · have := hd.dg (d.length - 1 - i)
    have h2 := hdg i hi
    rw [e1]
    exact ⟨by omega, by omega, by omega⟩
  · have h2 := hdg 0 hl
    have h3 := hz h
    have h4 := hd.dg (d.length - 1)
    rw [e1]
    simp only [Nat.add_zero, Nat.sub_zero] at h2
    omega
  · have := h.dg d.length (by omega)
    rw [e1] at this
    exact hno this

end Go.Proofs.Ytpeidnkbliafkaa.Print
