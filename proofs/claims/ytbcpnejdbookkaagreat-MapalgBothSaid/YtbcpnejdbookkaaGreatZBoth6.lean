-- The texts of this repo that the claim reaches, in one (wip/print/bundle.py): only what is reached; not trusted: Lean checks it.
import Derived.Test.YtbcpnejdbookkaaGreatZBoth5
import Derived.SizedLaws
set_option maxHeartbeats 8000000
set_option maxRecDepth 100000
set_option linter.unusedVariables false
set_option linter.unusedSimpArgs false
namespace Go.Proofs.YtbcpnejdbookkaaGreat.Print
open Go.RowKit Go.Proofs.YtbcpnejdbookkaaGreatW.PrintWords Go.Proofs.YtbcpnejdbookkaaGreatW.PrintLast
theorem bocageref01_digit.eq (l : List Int) (i : Nat) : bocageref01_digit.f l (i : Int) = some (dig l i) := by
  unfold bocageref01_digit.f
  by_cases hi : (i : Int) < (l.length : Int)
  · rw [if_pos hi, if_pos (by omega), rd_nat]
  · rw [if_neg hi]; unfold dig; rw [List.getD_eq_getElem?_getD, List.getElem?_eq_none (by omega)]; simp
theorem bocageref01_more.l0_eq {a b : List Int} (ha : DOK a) (hb : DOK b) (n : Nat) : ∀ (k : Nat), n < k → n ≤ 4000000 → dv (a.drop n) = dv (b.drop n) → bocageref01_more.l0 k a b ((n : Int) - 1) = some (decide (dv b < dv a)) := by
  induction n with
  | zero =>
    intro k hk hb' h
    obtain ⟨k, rfl⟩ : ∃ j, k = j + 1 := ⟨k - 1, by omega⟩
    rw [bocageref01_more.l0, if_neg (by omega)]
    simp only [List.drop_zero] at h
    rw [h]; simp
  | succ n ih =>
    intro k hk hbd h
    obtain ⟨k, rfl⟩ : ∃ j, k = j + 1 := ⟨k - 1, by omega⟩
    have e : ((n + 1 : Nat) : Int) - 1 = (n : Int) := by omega
    rw [bocageref01_more.l0, e, if_pos (by omega)]
    simp only [bocageref01_digit.eq, Option.bind_some]
    have h1 := dv_drop a n
    have h2 := dv_drop b n
    by_cases hd : dig a n = dig b n
    · rw [if_pos hd, wrap64_of (by unfold I64; omega)]
      exact ih k (by omega) (by omega) (by omega)
    · rw [if_neg hd]
      congr 1
      by_cases hlt : dig b n < dig a n
      · have := dv_more ha hb n (by omega)
        simp [hlt, this]
      · have := dv_more hb ha n (by omega)
        have h3 : ¬ (dig a n > dig b n) := by omega
        have h4 : ¬ (dv b < dv a) := by omega
        simp only [decide_eq_false h3, decide_eq_false h4]
theorem bocageref01_more.eq {a b : List Int} (ha : DOK a) (hb : DOK b) (k : Nat) (hk : a.length + b.length + 1 < k) (hl : a.length + b.length ≤ 3000000) : bocageref01_more.f k a b = some (decide (dv b < dv a)) := by
  unfold bocageref01_more.f
  have := bocageref01_more.l0_eq ha hb (a.length + b.length + 1) k (by omega) (by omega) (by rw [dv_drop_end _ _ (by omega), dv_drop_end _ _ (by omega)])
  rw [wrap64_of (by unfold I64; omega)]
  rw [← this]
  congr 1; omega
theorem bocageref01_Plus.add_eq {a b : List Int} (ha : DOK a) (hb : DOK b) : ∀ (n i : Nat) (o : Int), a.length ≤ i + n → b.length ≤ i + n → 0 ≤ o → o ≤ 1 →
    ∃ c, 0 ≤ c ∧ c ≤ 1 ∧ dv (bocageref01_Plus.add n a b o i) + p10 n * c = o + dv (a.drop i) + dv (b.drop i) ∧ DOK (bocageref01_Plus.add n a b o i) := by
  intro n
  induction n with
  | zero =>
    intro i o h1 h2 h3 h4
    exact ⟨o, h3, h4, by rw [dv_drop_end _ _ (by omega), dv_drop_end _ _ (by omega)]; simp [bocageref01_Plus.add, dv, p10], DOK.nil⟩
  | succ n ih =>
    intro i o h1 h2 h3 h4
    have da := ha.dg i
    have db := hb.dg i
    have ea := dv_drop a i
    have eb := dv_drop b i
    obtain ⟨c, c0, c1, hc, hok⟩ := ih (i + 1) ((dig a i + dig b i + o) / 10) (by omega) (by omega) (by omega) (by omega)
    refine ⟨c, c0, c1, ?_, ?_⟩
    · simp only [bocageref01_Plus.add, dv, p10]
      have e1 : a.getD i 0 = dig a i := rfl
      have e2 : b.getD i 0 = dig b i := rfl
      rw [e1, e2, Int.mul_assoc]
      generalize p10 n * c = z at *
      omega
    · simp only [bocageref01_Plus.add]
      exact DOK.cons (by have : 0 ≤ (dig a i + dig b i + o) % 10 ∧ (dig a i + dig b i + o) % 10 ≤ 9 := by omega
                         exact this) hok
theorem bocageref01_Plus.sub_eq {a b : List Int} (ha : DOK a) (hb : DOK b) : ∀ (n i : Nat) (o : Int), a.length ≤ i + n → b.length ≤ i + n → 0 ≤ o → o ≤ 1 →
    ∃ c, 0 ≤ c ∧ c ≤ 1 ∧ dv (bocageref01_Plus.sub n a b o i) - p10 n * c = dv (a.drop i) - dv (b.drop i) - o ∧ DOK (bocageref01_Plus.sub n a b o i) := by
  intro n
  induction n with
  | zero =>
    intro i o h1 h2 h3 h4
    exact ⟨o, h3, h4, by rw [dv_drop_end _ _ (by omega), dv_drop_end _ _ (by omega)]; simp [bocageref01_Plus.sub, dv, p10], DOK.nil⟩
  | succ n ih =>
    intro i o h1 h2 h3 h4
    have da := ha.dg i
    have db := hb.dg i
    have ea := dv_drop a i
    have eb := dv_drop b i
    have e1 : a.getD i 0 = dig a i := rfl
    have e2 : b.getD i 0 = dig b i := rfl
    simp only [bocageref01_Plus.sub, e1, e2]
    by_cases hn : dig a i - dig b i - o < 0
    · obtain ⟨c, c0, c1, hc, hok⟩ := ih (i + 1) 1 (by omega) (by omega) (by omega) (by omega)
      rw [if_pos hn]
      refine ⟨c, c0, c1, ?_, DOK.cons (by omega) hok⟩
      simp only [dv, p10]
      rw [Int.mul_assoc]
      generalize p10 n * c = z at *
      omega
    · obtain ⟨c, c0, c1, hc, hok⟩ := ih (i + 1) 0 (by omega) (by omega) (by omega) (by omega)
      rw [if_neg hn]
      refine ⟨c, c0, c1, ?_, DOK.cons (by omega) hok⟩
      simp only [dv, p10]
      rw [Int.mul_assoc]
      generalize p10 n * c = z at *
      omega
theorem bocageref01_Plus.ok_of {l : List Int} (h : DOK l) (hl : l.length ≤ 1000000) : bocageref01_Plus.ok l = true := by
  simp only [bocageref01_Plus.ok, Bool.and_eq_true, List.all_eq_true, decide_eq_true_eq]
  exact ⟨h, hl⟩
theorem bocageref01_Plus.less_eq {x y : List Int} (hx : DOK x) (hy : DOK y) (cy : Can y) (hle : dv y ≤ dv x) (s : Int) (k : Nat) (hk : x.length < k) (hl : x.length ≤ 1000000) :
    ∃ r, bocageref01_Plus.less k s x y = some (if r.length = 0 then 0 else s, r) ∧ DOK r ∧ Can r ∧ dv r = dv x - dv y ∧ r.length ≤ x.length := by
  have hyl : y.length ≤ x.length := can_length hy cy x.length (by have := dv_lt hx; omega)
  obtain ⟨c, c0, c1, hc, hok⟩ := bocageref01_Plus.sub_eq hx hy x.length 0 0 (by omega) (by omega) (by omega) (by omega)
  have hsl := bocageref01_Plus.sub_len x.length x y 0 0
  obtain ⟨r, r1, r2, r3, r4, r5⟩ := bocageref01_cut.eq hok k (by omega) (by omega)
  unfold bocageref01_Plus.less
  rw [r1]
  refine ⟨r, rfl, r2, r3, ?_, by omega⟩
  have hlt := dv_lt hok
  rw [hsl] at hlt
  simp only [List.drop_zero] at hc
  have hp := p10_pos x.length
  have : c = 0 := by
    by_cases h1 : c = 0
    · exact h1
    · have : c = 1 := by omega
      subst this
      rw [Int.mul_one] at hc
      omega
  subst this
  rw [r4]; simp at hc; omega
theorem bocageref01_Plus.eq {s v t u : Int} {a b : List Int} (ha : Big s a v) (hb : Big t b u) (k : Nat) (hk : a.length + b.length + 1 < k) (hla : a.length ≤ 1000000) (hlb : b.length ≤ 1000000) (hk2 : a.length + b.length + 2 ≤ k) :
    ∃ s' d', bocageref01_Plus.f k s a t b = some (s', d') ∧ Big s' d' (v + u) ∧ d'.length ≤ a.length + b.length + 1 := by
  unfold bocageref01_Plus.f
  rw [if_pos (by rw [bocageref01_Plus.ok_of ha.ok hla, bocageref01_Plus.ok_of hb.ok hlb]; rfl)]
  have pa := ha.pos
  have pb := hb.pos
  by_cases hs : s = 0
  · rw [if_pos hs]
    have : v = 0 := pa.1.1 hs
    exact ⟨t, b, rfl, by rw [this, Int.zero_add]; exact hb, by omega⟩
  · rw [if_neg hs]
    by_cases ht : t = 0
    · rw [if_pos ht]
      have : u = 0 := pb.1.1 ht
      exact ⟨s, a, rfl, by rw [this, Int.add_zero]; exact ha, by omega⟩
    · rw [if_neg ht]
      by_cases hst : s = t
      · rw [if_pos hst]
        subst hst
        obtain ⟨c, c0, c1, hc, hok⟩ := bocageref01_Plus.add_eq ha.ok hb.ok (a.length + b.length + 1) 0 0 (by omega) (by omega) (by omega) (by omega)
        have hal := bocageref01_Plus.add_len (a.length + b.length + 1) a b 0 0
        obtain ⟨r, r1, r2, r3, r4, r5⟩ := bocageref01_cut.eq hok k (by omega) (by omega)
        rw [r1]
        refine ⟨s, r, rfl, ?_, by omega⟩
        simp only [List.drop_zero] at hc
        have hva := dv_lt ha.ok
        have hvb := dv_lt hb.ok
        have l1 := p10_le (show a.length ≤ a.length + b.length by omega)
        have l2 := p10_le (show b.length ≤ a.length + b.length by omega)
        have l3 := p10_pos (a.length + b.length)
        have l4 : p10 (a.length + b.length + 1) = 10 * p10 (a.length + b.length) := rfl
        have n1 := dv_nonneg hok
        have : c = 0 := by
          by_cases h1 : c = 0
          · exact h1
          · have : c = 1 := by omega
            subst this
            rw [Int.mul_one] at hc
            omega
        subst this
        rw [Int.mul_zero, Int.add_zero] at hc
        have hne : r ≠ [] := by
          rintro rfl
          simp only [dv] at r4
          rcases ha.val with ⟨h1, _⟩ | ⟨_, h1, _⟩ | ⟨_, h1, _⟩
          · exact hs h1
          · have := dv_pos ha.ok ha.can h1; have := dv_nonneg hb.ok; omega
          · have := dv_pos ha.ok ha.can h1; have := dv_nonneg hb.ok; omega
        refine ⟨r2, r3, ?_⟩
        rcases ha.val with ⟨h1, _⟩ | ⟨h1, _, h2⟩ | ⟨h1, _, h2⟩
        · exact absurd h1 hs
        · subst h1
          rcases hb.val with ⟨h3, _⟩ | ⟨_, _, h4⟩ | ⟨h3, _⟩
          · omega
          · exact .inr (.inl ⟨rfl, hne, by omega⟩)
          · omega
        · subst h1
          rcases hb.val with ⟨h3, _⟩ | ⟨h3, _⟩ | ⟨_, _, h4⟩
          · omega
          · omega
          · exact .inr (.inr ⟨rfl, hne, by omega⟩)
      · rw [if_neg hst, bocageref01_more.eq hb.ok ha.ok k (by omega) (by omega), Option.bind_some]
        have key : ∀ {s' v' t' u' : Int} {x y : List Int}, Big s' x v' → Big t' y u' → s' ≠ t' → s' ≠ 0 → t' ≠ 0 → dv y ≤ dv x → x.length ≤ 1000000 → x.length < k → ∃ s'' d', bocageref01_Plus.less k s' x y = some (s'', d') ∧ Big s'' d' (v' + u') ∧ d'.length ≤ x.length := by
          intro s' v' t' u' x y hx hy h1 h2 h3 hle hxl hxk
          obtain ⟨r, r1, r2, r3, r4, r5⟩ := bocageref01_Plus.less_eq hx.ok hy.ok hy.can hle s' k hxk hxl
          refine ⟨_, r, r1, ⟨r2, r3, ?_⟩, r5⟩
          by_cases hr : r = []
          · subst hr
            simp only [dv] at r4
            left
            refine ⟨rfl, rfl, ?_⟩
            rcases hx.val with ⟨e, _⟩ | ⟨e, _, e2⟩ | ⟨e, _, e2⟩ <;> rcases hy.val with ⟨f, _⟩ | ⟨f, _, f2⟩ | ⟨f, _, f2⟩ <;> omega
          · have : r.length ≠ 0 := fun h => hr (List.eq_nil_of_length_eq_zero h)
            rw [if_neg this]
            right
            rcases hx.val with ⟨e, _⟩ | ⟨e, _, e2⟩ | ⟨e, _, e2⟩ <;> rcases hy.val with ⟨f, _⟩ | ⟨f, _, f2⟩ | ⟨f, _, f2⟩ <;> first | omega | exact .inl ⟨e, hr, by omega⟩ | exact .inr ⟨e, hr, by omega⟩
        by_cases hm : dv a < dv b
        · rw [if_pos (by simpa using hm)]
          obtain ⟨s'', d', e1, e2, e3⟩ := key hb ha (fun h => hst h.symm) ht hs (by omega) hlb (by omega)
          exact ⟨s'', d', e1, by rw [Int.add_comm]; exact e2, by omega⟩
        · rw [if_neg (by simpa using hm)]
          obtain ⟨s'', d', e1, e2, e3⟩ := key ha hb hst hs ht (by omega) hla (by omega)
          exact ⟨s'', d', e1, e2, by omega⟩
theorem bocageref01_ends.eq (s : Int) : ∃ d, bocageref01_ends.f s = some d ∧ DOK d ∧ d.length = 19 ∧ dv d = if s < 0 then 9223372036854775808 else 9223372036854775807 := by
  unfold bocageref01_ends.f
  simp only [Option.bind_some]
  by_cases h : s < 0
  · rw [if_pos h, if_pos h, if_pos (by decide)]
    exact ⟨_, rfl, by intro e he; revert e; decide, by decide, by decide⟩
  · rw [if_neg h, if_neg h]
    exact ⟨_, rfl, by intro e he; revert e; decide, by decide, by decide⟩
theorem bocageref01_Is.eq {s v : Int} {d : List Int} (h : Big s d v) (k : Nat) (hk : d.length + 25 ≤ k) (hl : d.length ≤ 2000000) : bocageref01_Is.f k s d = some (decide (-9223372036854775808 ≤ v ∧ v ≤ 9223372036854775807)) := by
  unfold bocageref01_Is.f
  obtain ⟨e, e1, e2, e3, e4⟩ := bocageref01_ends.eq s
  rw [e1, Option.bind_some, bocageref01_more.eq h.ok e2 k (by omega) (by omega), Option.bind_some, e4]
  have hp := h.pos
  have hn := dv_nonneg h.ok
  congr 1
  rw [Bool.eq_iff_iff]
  simp only [Bool.not_eq_true', decide_eq_false_iff_not, decide_eq_true_eq]
  rcases h.val with ⟨rfl, rfl, rfl⟩ | ⟨rfl, _, rfl⟩ | ⟨rfl, _, rfl⟩
  · simp [dv]
  · rw [if_neg (by omega)]; omega
  · rw [if_pos (by omega)]; omega
theorem bocageref01_End.l0_eq {s : Int} {d : List Int} (h : DOK d) (hs : s = 0 ∨ s = 1 ∨ s = -1) (hI : I64 (s * dv d)) (n : Nat) : ∀ k, n < k → n ≤ d.length → d.length ≤ 2000000 → bocageref01_End.l0 k s d ((n : Int) - 1) (s * dv (d.drop n)) = some (s * dv d) := by
  induction n with
  | zero =>
    intro k hk hn hl
    obtain ⟨k, rfl⟩ : ∃ j, k = j + 1 := ⟨k - 1, by omega⟩
    rw [bocageref01_End.l0, if_neg (by omega)]; simp
  | succ n ih =>
    intro k hk hn hl
    obtain ⟨k, rfl⟩ : ∃ j, k = j + 1 := ⟨k - 1, by omega⟩
    have e : ((n + 1 : Nat) : Int) - 1 = (n : Int) := by omega
    have hd := dv_drop d n
    have hg := h.dg n
    have hsp := dv_split d n (by omega)
    have ht := dv_nonneg (h.take n)
    have hdn := dv_nonneg (h.drop n)
    have hdn1 := dv_nonneg (h.drop (n + 1))
    have hp := p10_pos n
    have hle : dv (d.drop n) ≤ dv d := by
      have : 1 * dv (d.drop n) ≤ p10 n * dv (d.drop n) := Int.mul_le_mul_of_nonneg_right hp hdn
      omega
    rw [bocageref01_End.l0, e, if_pos (by omega), if_pos (by omega), rd_nat]
    have w1 : wrap64 (s * dv (d.drop (n + 1)) * 10) = s * dv (d.drop (n + 1)) * 10 := wrap64_of (by unfold I64 at *; rcases hs with rfl | rfl | rfl <;> omega)
    have w2 : wrap64 (s * dig d n) = s * dig d n := wrap64_of (by unfold I64 at *; rcases hs with rfl | rfl | rfl <;> omega)
    have w3 : s * dv (d.drop (n + 1)) * 10 + s * dig d n = s * dv (d.drop n) := by rcases hs with rfl | rfl | rfl <;> omega
    have w4 : wrap64 (s * dv (d.drop n)) = s * dv (d.drop n) := wrap64_of (by unfold I64 at *; rcases hs with rfl | rfl | rfl <;> omega)
    rw [w1, w2, w3, w4, wrap64_of (by unfold I64; omega)]
    exact ih k (by omega) (by omega) hl
theorem bocageref01_End.eq {s v : Int} {d : List Int} (h : Big s d v) (k : Nat) (hk : d.length + 25 ≤ k) (hl : d.length ≤ 2000000) : bocageref01_End.f k s d = some (clamp v) := by
  unfold bocageref01_End.f
  rw [bocageref01_Is.eq h k hk hl, Option.bind_some]
  have hm := h.mul
  have hs : s = 0 ∨ s = 1 ∨ s = -1 := by rcases h.val with ⟨e, _⟩ | ⟨e, _⟩ | ⟨e, _⟩ <;> omega
  by_cases hI : -9223372036854775808 ≤ v ∧ v ≤ 9223372036854775807
  · rw [if_pos (by simpa using hI), clamp_of hI]
    have := bocageref01_End.l0_eq h.ok hs (by rw [← hm]; exact hI) d.length k (by omega) (Nat.le_refl _) hl
    rw [dv_drop_end d d.length (Nat.le_refl _), Int.mul_zero, ← hm] at this
    rw [wrap64_of (by unfold I64; omega)]
    exact this
  · rw [if_neg (by simpa using hI)]
    obtain ⟨e, e1, e2, e3, e4⟩ := bocageref01_ends.eq s
    rw [e1, Option.bind_some]
    have hp := h.pos
    have hc : clamp v = s * dv e := by
      unfold clamp
      rw [e4]
      rcases hs with rfl | rfl | rfl
      · omega
      · rw [if_neg (by omega), if_pos (by omega), if_neg (by omega)]; omega
      · rw [if_pos (by omega), if_pos (by omega)]; omega
    have hI2 : I64 (s * dv e) := by rw [← hc]; exact clamp_I64 v
    have := bocageref01_End.l0_eq e2 hs hI2 e.length k (by omega) (Nat.le_refl _) (by omega)
    rw [dv_drop_end e e.length (Nat.le_refl _), Int.mul_zero] at this
    rw [wrap64_of (by unfold I64; omega), this, hc]
def doOf (k a v : Int) : Int := if k = 1 then clamp (a + v) else if k = 2 then clamp (a - v) else if k = 3 then (if v < a then v else a) else if k = 4 then (if a < v then v else a) else if k = 5 then v else a
theorem comb_Do.eq (k : Int) {a v : Int} (ha : I64 a) (hv : I64 v) : comb_Do.f k a v = some (doOf k a v) := by
  unfold comb_Do.f doOf
  by_cases h1 : k = 1
  · rw [if_pos h1, if_pos h1, sat_Add.eq ha hv]
  · rw [if_neg h1, if_neg h1]
    by_cases h2 : k = 2
    · rw [if_pos h2, if_pos h2, sat_Sub.eq ha hv]
    · rw [if_neg h2, if_neg h2]
      by_cases h3 : k = 3
      · rw [if_pos h3, if_pos h3]; rfl
      · rw [if_neg h3, if_neg h3]
        by_cases h4 : k = 4
        · rw [if_pos h4, if_pos h4]; rfl
        · rw [if_neg h4, if_neg h4]
          by_cases h5 : k = 5
          · rw [if_pos h5, if_pos h5]
          · rw [if_neg h5, if_neg h5]
theorem bocageref13_Do.eq (kind : Int) {a v : Int} (ha : I64 a) (hv : I64 v) (k : Nat) (hk : 200 ≤ k) : bocageref13_Do.f k kind a v = some (doOf kind a v) := by
  obtain ⟨s, d, f1, f2, f3⟩ := bocageref01_Of.eq ha k (by omega)
  obtain ⟨t, e, g1, g2, g3⟩ := bocageref01_Of.eq hv k (by omega)
  obtain ⟨m1, m2⟩ := bocageref01_Minus.eq g2
  obtain ⟨p, q, p1, p2, p3⟩ := bocageref01_Plus.eq f2 m2 k (by omega) (by omega) (by omega) (by omega)
  obtain ⟨u, w, u1, u2, u3⟩ := bocageref01_Plus.eq f2 g2 k (by omega) (by omega) (by omega) (by omega)
  unfold bocageref13_Do.f
  rw [f1, Option.bind_some, g1, Option.bind_some, m1, Option.bind_some, p1, Option.bind_some]
  unfold bocageref13_Do.g doOf
  by_cases h1 : kind = 1
  · rw [if_pos h1, if_pos h1, u1, Option.bind_some, bocageref01_End.eq u2 k (by omega) (by omega)]
  · rw [if_neg h1, if_neg h1]
    by_cases h2 : kind = 2
    · rw [if_pos h2, if_pos h2, bocageref01_End.eq p2 k (by omega) (by omega), Int.sub_eq_add_neg]
    · have hp := p2.pos
      rw [if_neg h2, if_neg h2]
      by_cases h3 : kind = 3
      · rw [if_pos h3, if_pos h3]
        by_cases h : v < a
        · rw [if_pos h, if_pos (by have := hp.2.1.2 (by omega); simpa using this)]
        · rw [if_neg h, if_neg (fun hh => h (by have := hp.2.1.1 hh; omega))]
      · rw [if_neg h3, if_neg h3]
        by_cases h4 : kind = 4
        · rw [if_pos h4, if_pos h4]
          by_cases h : a < v
          · rw [if_pos h, if_pos (by have := hp.2.2.2 (by omega); simpa using this)]
          · rw [if_neg h, if_neg (fun hh => h (by have := hp.2.2.1 hh; omega))]
        · rw [if_neg h4, if_neg h4]
          by_cases h5 : kind = 5
          · rw [if_pos h5, if_pos h5]
          · rw [if_neg h5, if_neg h5]
def firstOf (k v : Int) : Int := if k = 2 then clamp (-v) else v
theorem comb_First.eq (k : Int) {v : Int} (hv : I64 v) : comb_First.f k v = some (firstOf k v) := by
  unfold comb_First.f firstOf
  split
  · rw [sat_Neg.eq hv]; rfl
  · rfl
theorem bocageref13_First.eq (kind : Int) {v : Int} (hv : I64 v) (k : Nat) (hk : 200 ≤ k) : bocageref13_First.f k kind v = some (firstOf kind v) := by
  unfold bocageref13_First.f firstOf
  split
  · obtain ⟨t, e, g1, g2, g3⟩ := bocageref01_Of.eq hv k (by omega)
    obtain ⟨m1, m2⟩ := bocageref01_Minus.eq g2
    rw [g1, Option.bind_some, m1, Option.bind_some, bocageref01_End.eq m2 k (by omega) (by omega), Option.bind_some]
  · rfl
theorem foldM_vals : ∀ (l out : List Sg), ∀ s ∈ l.foldl joinM out, ∃ t ∈ out ++ l, t.f1 = s.f1
  | [], out, s, hs => ⟨s, by simpa using hs, rfl⟩
  | a :: l, out, s, hs => by
    obtain ⟨t, ht, e⟩ := foldM_vals l (joinM out a) s hs
    have key : ∀ t ∈ joinM out a, ∃ u ∈ out ++ [a], u.f1 = t.f1 := by
      intro t ht
      rcases List.eq_nil_or_concat out with rfl | ⟨ys, o, rfl⟩
      · exact ⟨t, ht, rfl⟩
      · have hl : ys.concat o = ys ++ [o] := by simp
        rw [hl] at ht ⊢
        rw [joinM_snoc] at ht
        split at ht
        · rcases List.mem_append.1 ht with h | h
          · exact ⟨t, List.mem_append_left _ (List.mem_append_left _ h), rfl⟩
          · rcases List.mem_singleton.1 h with rfl
            exact ⟨o, List.mem_append_left _ (List.mem_append_right _ (List.mem_singleton.2 rfl)), rfl⟩
        · exact ⟨t, ht, rfl⟩
    rcases List.mem_append.1 ht with h | h
    · obtain ⟨u, hu, e'⟩ := key t h
      refine ⟨u, ?_, e'.trans e⟩
      rcases List.mem_append.1 hu with h | h
      · exact List.mem_append_left _ h
      · exact List.mem_append_right _ (by rcases List.mem_singleton.1 h with rfl; exact List.mem_cons_self)
    · exact ⟨t, List.mem_append_right _ (List.mem_cons_of_mem _ h), e⟩
theorem mergeM_vals {a : List Sg} (h : ∀ s ∈ a, I64 s.f1) : ∀ s ∈ mergeM a, I64 s.f1 := by
  intro s hs
  unfold mergeM at hs
  split at hs
  · obtain ⟨t, ht, e⟩ := foldM_vals a [] s hs
    rw [← e]; exact h t (by simpa using ht)
  · cases hs
theorem outS_filter {ψ : Option Int → Option Int → Option Int} {x y : List Sg} (p : Sp → Bool) : ∀ l : List Sp, (∀ s ∈ l, p s = false → ψ (valM x (pos (lo s))) (valM y (pos (lo s))) = none) → outS ψ x y (l.filter p) = outS ψ x y l
  | [], _ => rfl
  | s :: l, h => by
    have ih := outS_filter (ψ := ψ) (x := x) (y := y) p l (fun t ht => h t (List.mem_cons_of_mem _ ht))
    have eo : ∀ rs, outS ψ x y (s :: rs) = (match ψ (valM x (pos (lo s))) (valM y (pos (lo s))) with | some v => [(⟨s, v⟩ : Sg)] | none => []) ++ outS ψ x y rs := fun _ => rfl
    cases hp : p s with
    | true => rw [List.filter_cons_of_pos hp, eo, eo, ih]
    | false => rw [List.filter_cons_of_neg (by simp [hp]), eo, h s List.mem_cons_self hp, ih]; rfl
theorem both_val (kind : Int) {x y : List Sg} (hx : OkM x) (hy : OkM y) (vx : ∀ s ∈ x, I64 s.f1) (vy : ∀ s ∈ y, I64 s.f1) (lx : x.length ≤ 100000) (ly : y.length ≤ 100000) {n : Int} (hn : I64 n) :
    ∃ p q : Int, Ev (fun k => bocageref14_Part.f k x n) p ∧ Ev (fun k => bocageref14_Part.f k y n) q ∧ Ev (fun k => both16.val k kind x y p q) (bothV kind (valM x n) (valM y n)) := by
  obtain ⟨p, hp, cp⟩ := bocageref14_Part.eq x (by omega) hx.wm hn
  obtain ⟨q, hq, cq⟩ := bocageref14_Part.eq y (by omega) hy.wm hn
  refine ⟨p, q, ⟨_, hp⟩, ⟨_, hq⟩, 200, fun k hk => ?_⟩
  have eF : ∀ v, I64 v → bocageref13_First.f k kind v = some (firstV kind v) := fun v hv => by
    have h1 := comb_First.eq kind hv
    rw [comb_First.eqV] at h1
    rw [bocageref13_First.eq kind hv k hk, ← Option.some.inj h1]
  have eD : ∀ u v, I64 u → I64 v → bocageref13_Do.f k kind u v = some (doV kind u v) := fun u v hu hv => by
    have h1 := comb_Do.eq kind hu hv
    rw [comb_Do.eqV] at h1
    rw [bocageref13_Do.eq kind hu hv k hk, ← Option.some.inj h1]
  show both16.val k kind x y p q = _
  unfold both16.val
  rcases cp with ⟨rfl, c1⟩ | ⟨i, rfl, hi, c1⟩ <;> rw [c1] <;> rcases cq with ⟨rfl, c2⟩ | ⟨j, rfl, hj, c2⟩ <;> rw [c2]
  · rfl
  · rw [if_neg (by omega), if_pos (by omega), if_pos (by omega), rdM hj, eF _ (vy _ (List.getElem_mem hj))]; rfl
  · rw [if_pos (by omega), if_pos (by omega), if_neg (by omega), rdM hi]; rfl
  · rw [if_pos (by omega), if_pos (by omega), if_pos (by omega), if_pos (by omega), rdM hi, rdM hj, eD _ _ (vx _ (List.getElem_mem hi)) (vy _ (List.getElem_mem hj))]; rfl
theorem both_l0 (kind : Int) {x y : List Sg} (hx : OkM x) (hy : OkM y) (vx : ∀ s ∈ x, I64 s.f1) (vy : ∀ s ∈ y, I64 s.f1) (lx : x.length ≤ 100000) (ly : y.length ≤ 100000) {C : List Ct} (hC : UpC C) : ∀ (m j : Nat) (xs : List Sg), j + m + 1 = C.length →
    Ev (fun k => both16.l0 k kind x y C m j xs) (xs ++ outS (bothV kind) x y (pcs (C.drop j))) := by
  intro m
  induction m with
  | zero =>
    intro j xs hj
    rw [List.drop_eq_getElem_cons (show j < C.length by omega), List.drop_of_length_le (by omega), show pcs [C[j]] = [] from rfl, outS_nil, List.append_nil]
    exact Ev.now _
  | succ m ih =>
    intro j xs hj
    have h1 : j < C.length := by omega
    have h2 : j + 1 < C.length := by omega
    have hlow := hC.low h2
    have hcc := hC.1 C[j] (List.getElem_mem h1)
    obtain ⟨b, hb⟩ := Next_pos hcc hlow 1 (by omega)
    obtain ⟨p, q, e1, e2, e3⟩ := both_val kind hx hy vx vy lx ly (pos_I64 hcc hlow)
    have ih' := ih (j + 1) (both16.put C j xs (bothV kind (valM x (pos (ct C[j]))) (valM y (pos (ct C[j]))))) (by omega)
    have er : both16.put C j xs (bothV kind (valM x (pos (ct C[j]))) (valM y (pos (ct C[j])))) ++ outS (bothV kind) x y (pcs (C.drop (j + 1))) = xs ++ outS (bothV kind) x y (pcs (C.drop j)) := by
      have ed : pcs (C.drop j) = ⟨C[j], C[j + 1]⟩ :: pcs (C.drop (j + 1)) := by
        rw [List.drop_eq_getElem_cons h1, List.drop_eq_getElem_cons h2]; rfl
      have eo : ∀ (s : Sp) rs, outS (bothV kind) x y (s :: rs) = (match bothV kind (valM x (pos (lo s))) (valM y (pos (lo s))) with | some v => [(⟨s, v⟩ : Sg)] | none => []) ++ outS (bothV kind) x y rs := fun _ _ => rfl
      rw [ed, eo, show lo (⟨C[j], C[j + 1]⟩ : Sp) = ct C[j] from rfl, ← List.append_assoc]
      congr 1
      unfold both16.put
      cases bothV kind (valM x (pos (ct C[j]))) (valM y (pos (ct C[j]))) with
      | none => exact (List.append_nil _).symm
      | some v => rw [rdC h1, rdC h2]
    rw [er] at ih'
    refine Ev.congr (f := fun k => (bocageref02_Next.f k C[j].f0 C[j].f1).bind fun t => (bocageref14_Part.f k x t.1).bind fun p => (bocageref14_Part.f k y t.1).bind fun q => (both16.val k kind x y p q).bind fun u => both16.l0 k kind x y C m (j + 1) (both16.put C j xs u)) (fun k => ?_) (Ev.bind (a := (pos (ct C[j]), b)) ⟨1, fun k hk => at_rounds (g := fun k => bocageref02_Next.f k C[j].f0 C[j].f1) (bocageref02_Next.mono _ _) hk hb⟩ (Ev.bind e1 (Ev.bind e2 (Ev.bind e3 ih'))))
    rw [both16.l0, rdC h1]
theorem bocageref16_Both.ev (kind : Int) (a b : List Sg) (wa : WM a) (wb : WM b) (va : ∀ s ∈ a, I64 s.f1) (vb : ∀ s ∈ b, I64 s.f1) (la : a.length ≤ 1000) (lb : b.length ≤ 1000) :
    (¬ (1 ≤ kind ∧ kind ≤ 6) → Ev (fun k => bocageref16_Both.f k kind a b) []) ∧ (1 ≤ kind ∧ kind ≤ 6 → ∃ R, Ev (fun k => bocageref16_Both.f k kind a b) R ∧ OkM R ∧ CanM R ∧ R.length ≤ 10000 ∧ ∀ n, valM R n = bothV kind (valM (mergeM a) n) (valM (mergeM b) n)) := by
  have e1 := bocageref16_Merge.ev a (by omega)
  have e2 := bocageref16_Merge.ev b (by omega)
  have hx := mergeM_ok wa
  have hy := mergeM_ok wb
  have lx := mergeM_len a
  have ly := mergeM_len b
  have vx := mergeM_vals va
  have vy := mergeM_vals vb
  generalize mergeM a = x at e1 hx lx vx
  generalize mergeM b = y at e2 hy ly vy
  have e3 := bocageref09_Spans.ev x (by omega)
  have e4 := bocageref09_Spans.ev y (by omega)
  have w : ∀ s ∈ spsM x ++ spsM y, WS s := fun s hs => by
    rcases List.mem_append.1 hs with hs | hs
    · obtain ⟨g, hg, rfl⟩ := List.mem_map.1 hs; exact hx.wm g hg
    · obtain ⟨g, hg, rfl⟩ := List.mem_map.1 hs; exact hy.wm g hg
  have hl : (spsM x ++ spsM y).length = x.length + y.length := by rw [List.length_append, spsM_len, spsM_len]
  have hLx : ∀ s ∈ x, s.f0 ∈ spsM x ++ spsM y := fun s hs => List.mem_append_left _ (List.mem_map_of_mem hs)
  have hLy : ∀ s ∈ y, s.f0 ∈ spsM x ++ spsM y := fun s hs => List.mem_append_right _ (List.mem_map_of_mem hs)
  obtain ⟨C, c1, c2, c3, hM, c5⟩ := bocageref03_Cuts.ev (spsM x ++ spsM y) (by omega) w
  have hU : UpC C := ⟨c2, c3⟩
  have e5 : Ev (fun k => bocageref16_Cuts.f k (spsM x) (spsM y)) C := by
    refine Ev.congr (f := fun k => (bocageref03_Cuts.f k (spsM x ++ spsM y)).bind fun t => some t) (fun k => ?_) (Ev.bind c1 (Ev.now _))
    unfold bocageref16_Cuts.f
    simp only [Option.bind_some, List.length_nil, Nat.zero_add, List.nil_append]
    rw [if_pos (by rw [spsM_len]; omega), if_pos (by rw [spsM_len, spsM_len]; omega)]
  have hcl : C.length < 1000000 := by omega
  have go : ∀ (m : Nat) (O R : List Sg), (if 1 ≤ kind ∧ kind ≤ 6 then C.length - 1 else 0) = m → Ev (fun k => both16.l0 k kind x y C m 0 []) O → Ev (fun k => bocageref16_Merge.f k O) R → Ev (fun k => bocageref16_Both.f k kind a b) R := fun m O R hm h1 h2 => by
    refine Ev.bind e1 (Ev.bind e2 (Ev.bind e3 (Ev.bind e4 (Ev.bind e5 ?_))))
    refine Ev.congr (f := fun k => (both16.l0 k kind x y C m 0 []).bind fun o => bocageref16_Merge.f k o) (fun k => ?_) (Ev.bind h1 h2)
    rw [if_pos hcl, hm]
  refine ⟨fun hk => go 0 [] [] (if_neg hk) (Ev.now _) (bocageref16_Merge.ev [] (by simp)), fun hk => ?_⟩
  have h0 : bothV kind none none = none := rfl
  have hO : (∀ n, valM (outS (bothV kind) x y (pcs C)) n = bothV kind (valM x n) (valM y n)) ∧ OkM (outS (bothV kind) x y (pcs C)) := by
    have ef : outS (bothV kind) x y ((pcs C).filter (fun s => anyB (spsM x ++ spsM y) (pos (lo s)))) = outS (bothV kind) x y (pcs C) := outS_filter _ _ (fun s _ hs => by
      have hA : ¬ Any (spsM x ++ spsM y) (pos (lo s)) := by rw [← anyB_iff w, hs]; simp
      rw [valM_any hx hLx hA, valM_any hy hLy hA, h0])
    rw [← ef]
    cases C with
    | nil =>
      refine ⟨fun n => ?_, OkM_nil⟩
      have hA : ¬ Any (spsM x ++ spsM y) n := by
        rintro ⟨s, hs, hr, _⟩
        obtain ⟨c, hc, _⟩ := (hM (lo s)).2 ⟨s, hs, hr, .inl rfl⟩
        cases hc
      rw [valM_any hx hLx hA, valM_any hy hLy hA, h0]
      rfl
    | cons c C =>
      have hF : Fine (spsM x ++ spsM y) (c :: C) := fun s hs hr => ⟨.inr ((hM _).2 ⟨s, hs, hr, .inl rfl⟩), .inr ((hM _).2 ⟨s, hs, hr, .inr rfl⟩)⟩
      obtain ⟨o1, o2, o3⟩ := out_ok hx hy hLx hLy w h0 C c hU hF
      refine ⟨fun n => ?_, o2⟩
      by_cases hn : pos (ct c) ≤ n
      · exact o1 n hn
      · have hA : ¬ Any (spsM x ++ spsM y) n := by
          rintro ⟨s, hs, hr, h1, _⟩
          obtain ⟨e, he, h⟩ := (hM (lo s)).2 ⟨s, hs, hr, .inl rfl⟩
          rw [← h] at h1
          rcases List.mem_cons.1 he with rfl | he
          · omega
          · have := (List.pairwise_cons.1 hU.2).1 e he; omega
        rw [valM_lo o2 (fun s hs => by have := o3 s hs; omega), valM_any hx hLx hA, valM_any hy hLy hA, h0]
  have hpl := pcs_len C
  have hol := outS_len (ψ := bothV kind) (x := x) (y := y) (pcs C)
  obtain ⟨o1, o2⟩ := hO
  have hml := mergeM_len (outS (bothV kind) x y (pcs C))
  refine ⟨mergeM (outS (bothV kind) x y (pcs C)), go (C.length - 1) (outS (bothV kind) x y (pcs C)) _ (if_pos hk) ?_ (bocageref16_Merge.ev _ (by omega)), mergeM_ok o2.wm, mergeM_can _, by omega, fun n => (mergeM_val o2 o2.wm n).trans (o1 n)⟩
  cases C with
  | nil => exact Ev.now _
  | cons c C => exact both_l0 kind hx hy vx vy (by omega) (by omega) hU C.length 0 [] (by rw [List.length_cons]; omega)
theorem bocagelaw16_alive.ge (k : Nat) (hk : 100 ≤ k) : bocagelaw16_alive.f k = some true := at_rounds (g := fun k => bocagelaw16_alive.f k) bocagelaw16_alive.mono hk (by decide +kernel)
end Go.Proofs.YtbcpnejdbookkaaGreat.Print
namespace Go.Proofs.YtbcpnejdbookkaaGreat.Pure
open Go.RowKit Go.Proofs.YtbcpnejdbookkaaGreat.Print Go.Proofs.YtbcpnejdbookkaaGreatW.PrintWords Go.Proofs.YtbcpnejdbookkaaGreatW.PrintLast
theorem MapalgBoth : bocagelaw16_MapalgBoth.Pure := by
  intro y l0 l1 wy w0 w1
  have W0 : WM l0 := fun s hs => ⟨I64.of_wf (w0 s hs).2.1, I64.of_wf (w0 s hs).2.2.2.1⟩
  have W1 : WM l1 := fun s hs => ⟨I64.of_wf (w1 s hs).2.1, I64.of_wf (w1 s hs).2.2.2.1⟩
  have V0 : ∀ s ∈ l0, I64 s.f1 := fun s hs => I64.of_wf (w0 s hs).2.2.2.2
  have V1 : ∀ s ∈ l1, I64 s.f1 := fun s hs => I64.of_wf (w1 s hs).2.2.2.2
  by_cases hl : l0.length + l1.length ≤ 40
  · obtain ⟨n1, n2⟩ := bocageref16_Both.ev y l0 l1 W0 W1 V0 V1 (by omega) (by omega)
    have key : ∃ r, Ev (fun k => mapalg_Both.f k y l0 l1) r ∧ Ev (fun k => bocageref16_Both.f k y l0 l1) r ∧ OkM r ∧ CanM r ∧ r.length ≤ 10000 := by
      by_cases hk : 1 ≤ y ∧ y ≤ 6
      · obtain ⟨r0, a0, b0, c0, d0, v0⟩ := mapalg_Both.ev y hk.1 hk.2 l0 l1 W0 W1 (by omega) (by omega)
        obtain ⟨r1, a1, b1, c1, d1, v1⟩ := n2 hk
        have e : r0 = r1 := CanM.unique b0 b1 c0 c1 (fun n => by rw [v0, v1])
        subst e
        exact ⟨r0, a0, a1, b0, c0, d1⟩
      · refine ⟨[], ?_, n1 hk, OkM_nil, trivial, by simp⟩
        refine Ev.congr (f := fun _ => some []) (fun k => ?_) (Ev.now _)
        unfold mapalg_Both.f comb_Right.f
        by_cases h1 : y ≥ 1
        · rw [if_pos h1, Option.bind_some, if_neg (by rw [decide_eq_true_eq]; omega)]
        · rw [if_neg h1]; rfl
    obtain ⟨r, a0, a1, br, cr, dr⟩ := key
    have a2 := mapalg_Merge.ev r br.wm (by omega)
    rw [br.merge cr] at a2
    have a3 := mapalg_Merge.ev l0 W0 (by omega)
    have a4 := bocageref16_Merge.ev l0 (by omega)
    have xl := mergeM_len l0
    have s1 := bocageref14_Same.ev r r (by omega)
    have s3 := bocageref14_Same.ev (mergeM l0) (mergeM l0) (by omega)
    rw [decide_eq_true rfl] at s1 s3
    obtain ⟨K0, f0⟩ := a0
    obtain ⟨K1, f1⟩ := a1
    obtain ⟨K2, f2⟩ := a2
    obtain ⟨K3, f3⟩ := a3
    obtain ⟨K4, f4⟩ := a4
    obtain ⟨J1, g1⟩ := s1
    obtain ⟨J3, g3⟩ := s3
    exact ⟨K0 + K1 + K2 + K3 + K4 + J1 + J3 + 100, by omega, bocagelaw16_alive.ge _ (by omega), fun _ => ⟨r, r, r, mergeM l0, mergeM l0, f0 _ (by omega), f1 _ (by omega), g1 _ (by omega), f2 _ (by omega), g1 _ (by omega), f3 _ (by omega), f4 _ (by omega), g3 _ (by omega)⟩⟩
  · exact ⟨100, by omega, bocagelaw16_alive.ge _ (by omega), fun h0 => absurd h0 hl⟩
end Go.Proofs.YtbcpnejdbookkaaGreat.Pure
namespace Go.Proofs.YtbcpnejdbookkaaGreat.Print
open Go.RowKit
open Go Go.ChangeShapes Go.WideShapes Go.RowKit Go.Deep
theorem Opens.sized {H : Type} {enc : TypeId × Value → H} {P : Program} {W : World} {base : Nat} {spare : Nat → Bool} {held : Bool} {t e : TypeId} {a : Option Addr} {len cap : Nat} {d : DataW H} {ps : List MemPlace} {ts : List TypeId} {ds : List (DataW H)} {j : Nat}
    (hsz : (DataW.weightsEach P ts ds).all (· ≤ reachBytes) = true) (ht : ts[j]? = some t) (hd : ds[j]? = some d) (hu : P.underlying t = some (.slice e)) {B : Nat} (hB : P.bytesOf e = B)
    (h : DataW.Trod enc P W base spare held t (.slice a len cap) d ps) : len * B ≤ 140737488351232 := by
  obtain ⟨fuel, hf⟩ := h
  rcases open_slice hu hf with ⟨hcs, _⟩ | ⟨ad, l, c, m, n, D, Pl, hcs, _, hl, hm, hmm, hx, _⟩
  · simp [Value.cells] at hcs
    obtain ⟨rfl, rfl, rfl⟩ := hcs
    simp
  · simp [Value.cells] at hcs
    obtain ⟨rfl, rfl, rfl⟩ := hcs
    obtain ⟨hx, _⟩ := Prod.mk.inj hx
    subst hx
    have z := sized_slice hsz ht hd hu
    rw [hB] at z
    have h1 : len ≤ ((List.range len).map D).length + ((List.range (m - len)).map fun j => D (len + j)).length := by simp
    have h2 : reachBytes ≤ 140737488351232 := by decide
    exact Nat.le_trans (Nat.mul_le_mul_right _ h1) (Nat.le_trans z h2)
end Go.Proofs.YtbcpnejdbookkaaGreat.Print
