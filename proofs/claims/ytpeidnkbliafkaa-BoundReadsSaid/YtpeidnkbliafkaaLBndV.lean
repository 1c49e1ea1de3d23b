import Derived.Test.YtpeidnkbliafkaaPrint3
import Derived.Test.YtpeidnkbliafkaaLBndX
import Derived.Test.YtpeidnkbliafkaaLCutWr
namespace Go.Proofs.Ytpeidnkbliafkaa.Print
open Go.RowKit Go.Proofs.YtpeidnkbliafkaaW.PrintWords Go.Proofs.YtpeidnkbliafkaaW.PrintLast
set_option linter.unusedVariables false
set_option linter.unusedSimpArgs false
theorem ext_cat (s : ByteArray) {i j k : Nat} (h1 : i ≤ j) (h2 : j ≤ k) : s.extract i j ++ s.extract j k = s.extract i k := by
  apply ext_eq
  rw [ByteArray.data_append, ByteArray.data_extract, ByteArray.data_extract, ByteArray.data_extract, Array.extract_append_extract, Nat.min_eq_left h1, Nat.max_eq_right h2]
theorem ext_ext (s : ByteArray) {a j : Nat} (h : a + j ≤ s.size) : (s.extract a s.size).extract 0 j = s.extract a (a + j) := by
  apply ext_eq
  simp only [ByteArray.data_extract]
  rw [Array.extract_extract]
  congr 1
  have : s.data.size = s.size := rfl
  omega
theorem isW_ext {s : ByteArray} {a : Nat} {w : ByteArray} (h : isW s a w = true) : a + w.size ≤ s.size ∧ s.extract a (a + w.size) = w := by
  unfold isW at h
  rw [Bool.and_eq_true, decide_eq_true_eq, beq_iff_eq] at h
  exact ⟨h.1, toList_inj h.2⟩
theorem isC_ext {s : ByteArray} {a : Nat} (c : UInt8) (h : isC s a (c.toNat : Int) = true) : a + 1 ≤ s.size ∧ s.extract a (a + 1) = (⟨#[c]⟩ : ByteArray) := by
  rw [← isW_one] at h
  exact isW_ext h
/-- an end that was read strictly is an end's text -/
theorem endS_ext {s : ByteArray} (hs : s.size ≤ 140737488351232) {a : Nat} (ha : a ≤ s.size) {w : ByteArray} (hw : w.size = 4) {r : Int × Int × Nat} (h : endS false s a w = some r) :
    a ≤ r.2.2 ∧ r.2.2 ≤ s.size ∧ ((isW s a w = true ∧ r.1 = 0 ∧ r.2.1 = 0 ∧ s.extract a r.2.2 = w) ∨ (isW s a w = false ∧ r.1 = 1 ∧ -9223372036854775808 < r.2.1 ∧ r.2.1 ≤ 9223372036854775807 ∧ s.extract a r.2.2 = textOf r.2.1)) := by
  have hle := endS_le hs ha hw h
  unfold endS at h
  by_cases e : isW s a w = true
  · rw [if_pos e] at h
    obtain rfl := Option.some.inj h
    have := (isW_ext e).2
    rw [hw] at this
    exact ⟨by show a ≤ a + 4; omega, hle.1, .inl ⟨e, rfl, rfl, this⟩⟩
  · rw [if_neg e] at h
    by_cases z : (nv false (s.extract a s.size)).2 = 0
    · rw [if_pos z] at h; cases h
    · rw [if_neg z] at h
      obtain rfl := Option.some.inj h
      obtain ⟨r, r1, r2, _, _⟩ := num_strict (t := s.extract a s.size) (by rw [rest_size]; omega)
      rcases r1 with ⟨rfl, _⟩ | ⟨rfl, _⟩ | ⟨j, rfl, h1, h2, _, _⟩ | rfl
      · rw [r2] at z; exact absurd rfl z
      · rw [r2] at z; exact absurd rfl z
      · rw [if_pos rfl] at r2
        have hj := h2
        rw [rest_size] at hj
        have hI := sgn_I64 h1.2.1
        have hne := h1.2.2
        have ht := numText h1 h2
        rw [ext_ext s (by omega)] at ht
        rw [r2]
        unfold I64 at hI
        refine ⟨by show a ≤ a + j; omega, by show a + j ≤ s.size; omega, .inr ⟨Bool.eq_false_iff.2 e, rfl, ?_, ?_, ?_⟩⟩
        · show -9223372036854775808 < sgnOf _ _; omega
        · exact hI.2
        · exact ht.symm
      · rw [r2] at z; exact absurd rfl z
theorem errS_ne (a : Nat) : (errS a).2.2.2.2.2 ≠ 0 := by show (40 : Int) ≠ 0; decide
/-- what was read, written, is what was read -/
theorem rd_text {s : ByteArray} (hs : s.size ≤ 140737488351232) (h : (rdS false s).2.2.2.2.2 = 0) :
    ∃ p q : Int × Int, ∃ n : Nat, CC p ∧ CC q ∧ cmp2 p q < 0 ∧ rdS false s = (p.1, p.2, q.1, q.2, (n : Int), 0) ∧ n ≤ s.size ∧ s.extract 0 n = spanText p q := by
  -- behind the first end
  have key : ∀ (op : Bool), isC s 0 (if op = true then 40 else 91) = true → rdS false s = rd1 false s op → ∃ p q : Int × Int, ∃ n : Nat, CC p ∧ CC q ∧ cmp2 p q < 0 ∧ rdS false s = (p.1, p.2, q.1, q.2, (n : Int), 0) ∧ n ≤ s.size ∧ s.extract 0 n = spanText p q := by
    intro op h0 hrd
    have h1 := isC_le h0
    have hO : s.extract 0 1 = (⟨#[if op then 40 else 91]⟩ : ByteArray) := by
      cases op
      · exact (isC_ext 91 h0).2
      · exact (isC_ext 40 h0).2
    rw [hrd] at h ⊢
    unfold rd1 at h ⊢
    rw [blO_false] at h ⊢
    cases he : endS false s 1 MI with
    | none => rw [he] at h; exact absurd h (errS_ne _)
    | some r =>
      rw [he] at h
      obtain ⟨a1, a2, a3⟩ := endS_ext hs h1 (w := MI) (by decide) he
      by_cases hx : false = false ∧ (op != isW s 1 MI) = true
      · exfalso
        have h' : (if false = false ∧ (op != isW s 1 MI) = true then errS 1 else rd2 false s (if r.1 = 1 ∧ op = false then 2 else r.1) r.2.1 r.2.2).2.2.2.2.2 = 0 := h
        rw [if_pos hx] at h'
        exact errS_ne _ h'
      · have h' : (if false = false ∧ (op != isW s 1 MI) = true then errS 1 else rd2 false s (if r.1 = 1 ∧ op = false then 2 else r.1) r.2.1 r.2.2).2.2.2.2.2 = 0 := h
        rw [if_neg hx] at h'
        show ∃ p q : Int × Int, ∃ n : Nat, CC p ∧ CC q ∧ cmp2 p q < 0 ∧ (if false = false ∧ (op != isW s 1 MI) = true then errS 1 else rd2 false s (if r.1 = 1 ∧ op = false then 2 else r.1) r.2.1 r.2.2) = (p.1, p.2, q.1, q.2, (n : Int), 0) ∧ n ≤ s.size ∧ s.extract 0 n = spanText p q
        rw [if_neg hx]
        -- the low end
        have hp : ∃ p : Int × Int, CC p ∧ decide (p.1 < 0) = op ∧ lowC (if r.1 = 1 ∧ op = false then 2 else r.1) r.2.1 = p ∧ s.extract 1 r.2.2 = ctext p ∧ (0 ≤ (if r.1 = 1 ∧ op = false then 2 else r.1) ∧ (if r.1 = 1 ∧ op = false then 2 else r.1) ≤ 2) := by
          rcases a3 with ⟨w1, w2, w3, w4⟩ | ⟨w1, w2, w3, w4, w5⟩
          · have ho : op = true := by cases op; exact absurd ⟨rfl, by rw [w1]; rfl⟩ hx; rfl
            refine ⟨(-1, 0), .inl rfl, by rw [ho]; rfl, ?_, w4, ?_⟩
            · rw [w2, w3, if_neg (fun g => absurd g.1 (by decide))]; rfl
            · rw [w2, if_neg (fun g => absurd g.1 (by decide))]; omega
          · have ho : op = false := by cases op; rfl; exact absurd ⟨rfl, by rw [w1]; rfl⟩ hx
            refine ⟨(0, r.2.1), .inr (.inr ⟨r.2.1, rfl, w3, w4⟩), by rw [ho]; simp, ?_, w5, ?_⟩
            · rw [if_pos ⟨w2, ho⟩]; exact canon_zero w3
            · rw [if_pos ⟨w2, ho⟩]; omega
        obtain ⟨p, hpC, hpo, hpl, hpt, hpk⟩ := hp
        generalize (if r.1 = 1 ∧ op = false then (2 : Int) else r.1) = lk at h' hpl hpk ⊢
        unfold rd2 at h' ⊢
        rw [blO_false, blO_false] at h' ⊢
        by_cases hc : isC s r.2.2 44 = true
        · rw [if_pos hc] at h' ⊢
          obtain ⟨b1, b2⟩ := isC_ext 44 hc
          cases he2 : endS false s (r.2.2 + 1) PI with
          | none => rw [he2] at h'; exact absurd h' (errS_ne _)
          | some r2 =>
            rw [he2] at h'
            obtain ⟨c1, c2, c3⟩ := endS_ext hs b1 (w := PI) (by decide) he2
            have h'' : (rd3 false s lk r.2.1 (r.2.2 + 1) r2.1 r2.2.1 r2.2.2).2.2.2.2.2 = 0 := h'
            show ∃ p q : Int × Int, ∃ n : Nat, CC p ∧ CC q ∧ cmp2 p q < 0 ∧ rd3 false s lk r.2.1 (r.2.2 + 1) r2.1 r2.2.1 r2.2.2 = (p.1, p.2, q.1, q.2, (n : Int), 0) ∧ n ≤ s.size ∧ s.extract 0 n = spanText p q
            unfold rd3 at h'' ⊢
            rw [if_neg (show ¬ (false = true ∧ _) from fun g => Bool.false_ne_true g.1), blO_false] at h''
            rw [if_neg (show ¬ (false = true ∧ _) from fun g => Bool.false_ne_true g.1), blO_false]
            have hq : ∃ q : Int × Int, CC q ∧ highC r2.1 r2.2.1 = q ∧ s.extract (r.2.2 + 1) r2.2.2 = ctext q ∧ (0 ≤ r2.1 ∧ r2.1 ≤ 2) := by
              rcases c3 with ⟨w1, w2, w3, w4⟩ | ⟨w1, w2, w3, w4, w5⟩
              · exact ⟨(1, 0), .inr (.inl rfl), by rw [w2, w3]; rfl, w4, by omega⟩
              · exact ⟨(0, r2.2.1), .inr (.inr ⟨r2.2.1, rfl, w3, w4⟩), by rw [w2]; exact canon_zero w3, w5, by omega⟩
            obtain ⟨q, hqC, hqh, hqt, hqk⟩ := hq
            by_cases hd : isC s r2.2.2 41 = true
            · rw [if_pos hd] at h'' ⊢
              obtain ⟨d1, d2⟩ := isC_ext 41 hd
              unfold tellS at h'' ⊢
              have hB : spanB lk r.2.1 r2.1 r2.2.1 = spanOf p q := by
                unfold spanB
                rw [if_neg (by omega), hpl, hqh]
              rw [hB] at h'' ⊢
              by_cases hlt : cmp2 p q < 0
              · have hs5 : spanOf p q = (p.1, p.2, q.1, q.2, 0) := by unfold spanOf; rw [if_pos hlt]
                refine ⟨p, q, r2.2.2 + 1, hpC, hqC, hlt, ?_, d1, ?_⟩
                · rw [hs5, if_pos rfl]
                · rw [← ext_cat s (Nat.zero_le 1) (show 1 ≤ r2.2.2 + 1 by omega), hO, ← ext_cat s a1 (show r.2.2 ≤ r2.2.2 + 1 by omega), hpt, ← ext_cat s (show r.2.2 ≤ r.2.2 + 1 by omega) (show r.2.2 + 1 ≤ r2.2.2 + 1 by omega), b2, ← ext_cat s c1 (show r2.2.2 ≤ r2.2.2 + 1 by omega), hqt, d2]
                  unfold spanText
                  rw [hpo]
              · exfalso
                have hs5 : spanOf p q = (0, 0, 0, 0, 30) := by unfold spanOf; rw [if_neg hlt]
                rw [hs5, if_neg (show ¬ ((30 : Int) = 0) by decide)] at h''
                exact absurd h'' (by show ¬ ((30 : Int) = 0); decide)
            · rw [if_neg hd] at h''
              exact absurd h'' (errS_ne _)
        · rw [if_neg hc] at h'
          exact absurd h' (errS_ne _)
  by_cases e : isC s 0 40 = true
  · exact key true e (by unfold rdS; rw [if_pos e])
  · by_cases f : isC s 0 91 = true
    · exact key false f (by unfold rdS; rw [if_neg e, if_pos f])
    · unfold rdS at h
      rw [if_neg e, if_neg f] at h
      exact absurd h (errS_ne 0)

end Go.Proofs.Ytpeidnkbliafkaa.Print
