import Derived.Test.YtpeidnkbliafkaaPrint4
import Derived.Test.YtpeidnkbliafkaaLCutRd
namespace Go.Proofs.Ytpeidnkbliafkaa.Print
open Go.RowKit Go.Proofs.YtpeidnkbliafkaaW.PrintWords Go.Proofs.YtpeidnkbliafkaaW.PrintLast
set_option linter.unusedVariables false
set_option linter.unusedSimpArgs false
/-- a number that is read at a text's beginning, written, is what was read -/
def dgl (t : ByteArray) (a : Nat) : Nat → List Int
  | 0 => []
  | n + 1 => (bt t ((a + n : Nat) : Int) - 48) :: dgl t a n
theorem dgl_len (t : ByteArray) (a : Nat) : ∀ n, (dgl t a n).length = n
  | 0 => rfl
  | n + 1 => by rw [dgl, List.length_cons, dgl_len t a n]
theorem dgl_ok {t : ByteArray} {a : Nat} : ∀ n, (∀ i, i < n → isD t (a + i)) → DOK (dgl t a n)
  | 0, _ => DOK.nil
  | n + 1, h => by
    have := h n (by omega)
    exact DOK.cons (by have h1 := this.2.1; have h2 := this.2.2; omega) (dgl_ok n (fun i hi => h i (by omega)))
theorem dgl_dv (t : ByteArray) (a : Nat) : ∀ n, dv (dgl t a n) = hv t a n
  | 0 => rfl
  | n + 1 => by
    have ih := dgl_dv t a n
    show bt t ((a + n : Nat) : Int) - 48 + 10 * dv (dgl t a n) = 10 * hv t a n + (bt t ((a + n : Nat) : Int) - 48)
    omega
theorem dgl_dig (t : ByteArray) (a : Nat) : ∀ n i, i < n → dig (dgl t a n) i = bt t ((a + (n - 1 - i) : Nat) : Int) - 48
  | 0, _, h => by omega
  | n + 1, 0, _ => by show bt t ((a + n : Nat) : Int) - 48 = _; rfl
  | n + 1, i + 1, h => by
    have := dgl_dig t a n i (by omega)
    show dig (dgl t a n) i = _
    rw [this, show n + 1 - 1 - (i + 1) = n - 1 - i by omega]
theorem eq_of_bt {a b : ByteArray} (hs : a.size = b.size) (h : ∀ i : Nat, i < a.size → bt a (i : Int) = bt b (i : Int)) : a = b := by
  apply ByteArray.ext
  apply Array.ext hs
  intro i h1 h2
  have := h i h1
  rw [bt_lt h1, bt_lt h2] at this
  exact UInt8.toNat_inj.1 (by omega)
theorem numText {t : ByteArray} {j : Nat} (hN : NumAt t j) (hj : j ≤ t.size) : textOf (sgnOf t (hv t (fromOf t) (j - fromOf t))) = t.extract 0 j := by
  obtain ⟨hf, hp, hne⟩ := hN
  have ha1 := fromOf_le t
  generalize hm : j - fromOf t = m at hp hne ⊢
  have hjm : j = fromOf t + m := by omega
  have hz := hv_zero hp.2.1 hp.1
  have h0 := hv_nonneg (s := t) (a := fromOf t) (n := m) hp.2.1.dg
  have hI : I64 (sgnOf t (hv t (fromOf t) m)) := by
    have h1 := hp.2.1.le
    unfold sgnOf I64
    unfold mostOf at h1
    split
    · rw [if_pos (by assumption)] at h1; omega
    · rw [if_neg (by assumption)] at h1; omega
  have hsg : (0 < fromOf t ↔ sgnOf t (hv t (fromOf t) m) < 0) ∧ (if sgnOf t (hv t (fromOf t) m) < 0 then -sgnOf t (hv t (fromOf t) m) else sgnOf t (hv t (fromOf t) m)) = hv t (fromOf t) m := by
    unfold sgnOf
    by_cases h : 0 < fromOf t
    · have hnz : hv t (fromOf t) m ≠ 0 := fun g => hp.2.2 ⟨h, hz.1 g⟩
      rw [if_pos h, if_pos (by omega)]
      exact ⟨⟨fun _ => by omega, fun _ => h⟩, by omega⟩
    · rw [if_neg h, if_neg (by omega)]
      exact ⟨⟨fun g => absurd g h, fun g => by omega⟩, rfl⟩
  generalize hv' : sgnOf t (hv t (fromOf t) m) = v at hI hsg hne ⊢
  obtain ⟨d, d1, d2, d3, d4, d5, d6, d7⟩ := digits_of hI
  rw [hsg.2] at d3
  have hd : dgl t (fromOf t) m = d := by
    by_cases h : hv t (fromOf t) m = 0
    · have hv0 : v = 0 := by
        by_cases g : v < 0
        · have := hsg.2; rw [if_pos g] at this; omega
        · have := hsg.2; rw [if_neg g] at this; omega
      have h48 := hz.1 h
      have hm1 : m = 1 := by
        by_cases g : 2 ≤ m
        · exact absurd h48 (hp.2.1.z g)
        · have := hp.1; omega
      rw [d7 hv0, hm1]
      show [bt t ((fromOf t + 0 : Nat) : Int) - 48] = [0]
      rw [Nat.add_zero, h48]; rfl
    · have hv0 : v ≠ 0 := fun g => by have := hsg.2; rw [g] at this; simp at this; omega
      refine dv_inj (dgl_ok m hp.2.1.dg) d2 (.inr ?_) (d6 hv0) (by rw [dgl_dv, d3])
      have := dgl_dig t (fromOf t) m (m - 1) (by have := hp.1; omega)
      rw [dgl_len]
      show dig (dgl t (fromOf t) m) (m - 1) ≠ 0
      rw [this, show fromOf t + (m - 1 - (m - 1)) = fromOf t by omega]
      have : bt t (fromOf t : Int) ≠ 48 := fun g => h (hz.2 g)
      omega
  have hl : d.length = m := by rw [← hd, dgl_len]
  have hT : textOf v = strOfNums (if v < 0 then 45 :: (d.map (48 + ·)).reverse else (d.map (48 + ·)).reverse) := by
    unfold textOf sat_Text.rev
    rw [d1]
    split <;> simp
  have hbytes : ∀ x ∈ (if v < 0 then 45 :: (d.map (48 + ·)).reverse else (d.map (48 + ·)).reverse), 0 ≤ x ∧ x ≤ 255 := by
    intro x hx
    have hm : ∀ x ∈ (d.map (48 + ·)).reverse, 0 ≤ x ∧ x ≤ 255 := by
      intro x hx
      rw [List.mem_reverse, List.mem_map] at hx
      obtain ⟨y, hy, rfl⟩ := hx
      have := d2 y hy; omega
    split at hx
    · rcases List.mem_cons.1 hx with rfl | hx
      · omega
      · exact hm x hx
    · exact hm x hx
  have hrev : ∀ i, i < m → dig (d.map (48 + ·)).reverse i = bt t ((fromOf t + i : Nat) : Int) := by
    intro i hi
    have e : dig (d.map (48 + ·)).reverse i = 48 + dig d (m - 1 - i) := by
      unfold dig
      rw [List.getD_eq_getElem?_getD, List.getD_eq_getElem?_getD, List.getElem?_reverse (by simpa [hl] using hi), List.getElem?_map, List.length_map, hl, List.getElem?_eq_getElem (show m - 1 - i < d.length by omega)]
      rfl
    have e2 := dgl_dig t (fromOf t) m (m - 1 - i) (by omega)
    rw [hd, show m - 1 - (m - 1 - i) = i by omega] at e2
    rw [e, e2]; omega
  have hsz : (textOf v).size = j := by
    rw [hT, strOfNums_size]
    by_cases h : v < 0
    · have := hsg.1.2 h
      rw [if_pos h]; simp [hl]; omega
    · have : ¬ 0 < fromOf t := fun g => h (hsg.1.1 g)
      rw [if_neg h]; simp [hl]; omega
  refine eq_of_bt (by rw [hsz, extract_size hj]) (fun i hi => ?_)
  rw [hsz] at hi
  rw [bt_extract hj hi, hT, bt_nums hbytes]
  by_cases h : v < 0
  · have hf1 := hsg.1.2 h
    rw [if_pos h]
    cases i with
    | zero =>
      show (45 : Int) = _
      unfold fromOf at hf1
      split at hf1
      · rename_i g; exact g.2.symm
      · omega
    | succ i =>
      show dig (d.map (48 + ·)).reverse i = _
      rw [hrev i (by omega), show fromOf t + i = i + 1 by omega]
  · have hf0 : ¬ 0 < fromOf t := fun g => h (hsg.1.1 g)
    rw [if_neg h, hrev i (by omega), show fromOf t + i = i by omega]

end Go.Proofs.Ytpeidnkbliafkaa.Print
