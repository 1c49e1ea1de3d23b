import Derived.Test.YtagcloidicnhhaaPrint2
import Derived.Test.YtagcloidicnhhaaPrint3
import Derived.Test.YtagcloidicnhhaaLDig
import Derived.Test.YtagcloidicnhhaaLNum
namespace Go.Proofs.Ytagcloidicnhhaa.Print
open Go.RowKit Go.Proofs.YtagcloidicnhhaaW.PrintWords Go.Proofs.YtagcloidicnhhaaW.PrintLast
set_option linter.unusedVariables false
set_option linter.unusedSimpArgs false
/-- a whole number of any size, as the reference holds it -/
structure Big (s : Int) (d : List Int) (v : Int) : Prop where
  ok : DOK d
  can : Can d
  val : (s = 0 ∧ d = [] ∧ v = 0) ∨ (s = 1 ∧ d ≠ [] ∧ v = dv d) ∨ (s = -1 ∧ d ≠ [] ∧ v = -dv d)
theorem Big.zero : Big 0 [] 0 := ⟨DOK.nil, can_nil, .inl ⟨rfl, rfl, rfl⟩⟩
theorem Big.mul {s v : Int} {d : List Int} (h : Big s d v) : v = s * dv d := by
  rcases h.val with ⟨rfl, rfl, rfl⟩ | ⟨rfl, _, rfl⟩ | ⟨rfl, _, rfl⟩ <;> simp
theorem Big.pos {s v : Int} {d : List Int} (h : Big s d v) : (s = 0 ↔ v = 0) ∧ (0 < s ↔ 0 < v) ∧ (s < 0 ↔ v < 0) := by
  rcases h.val with ⟨rfl, rfl, rfl⟩ | ⟨rfl, hd, rfl⟩ | ⟨rfl, hd, rfl⟩
  · simp
  · have := dv_pos h.ok h.can hd; omega
  · have := dv_pos h.ok h.can hd; omega
theorem Big.of_pos {d : List Int} (h : DOK d) (hc : Can d) : Big (if d = [] then 0 else 1) d (dv d) := by
  by_cases hd : d = []
  · subst hd; exact Big.zero
  · rw [if_neg hd]; exact ⟨h, hc, .inr (.inl ⟨rfl, hd, rfl⟩)⟩
theorem tdiv10 (x : Int) : ∃ q r, Int.tdiv x 10 = q ∧ Int.tmod x 10 = r ∧ x = 10 * q + r ∧ ((0 ≤ x ∧ 0 ≤ q ∧ 0 ≤ r ∧ r ≤ 9) ∨ (x ≤ 0 ∧ q ≤ 0 ∧ -9 ≤ r ∧ r ≤ 0)) := by
  refine ⟨_, _, rfl, rfl, ?_, ?_⟩
  · have := Int.mul_tdiv_add_tmod x 10; omega
  · by_cases h : 0 ≤ x
    · left
      rw [Int.tdiv_eq_ediv_of_nonneg h, Int.tmod_eq_emod_of_nonneg h]; omega
    · right
      obtain ⟨y, rfl⟩ : ∃ y, x = -y := ⟨-x, by omega⟩
      rw [Int.neg_tdiv, Int.neg_tmod, Int.tdiv_eq_ediv_of_nonneg (by omega), Int.tmod_eq_emod_of_nonneg (by omega)]; omega
theorem bocageref01_Of.l0_eq (m : Nat) : ∀ (k : Nat) (x s : Int) (acc : List Int), I64 x → -p10 m < x → x < p10 m → m < k → acc.length + m ≤ 1000 →
    ∃ d, DOK d ∧ Can d ∧ (dv d = x ∨ dv d = -x) ∧ d.length ≤ m ∧ bocageref01_Of.l0 k x s acc = some (if acc ++ d = [] then 0 else s, acc ++ d) := by
  induction m with
  | zero =>
    intro k x s acc hx h1 h2 hk hl
    obtain ⟨k, rfl⟩ : ∃ j, k = j + 1 := ⟨k - 1, by omega⟩
    simp only [p10] at h1 h2
    have : x = 0 := by omega
    subst this
    refine ⟨[], DOK.nil, can_nil, .inl rfl, Nat.le_refl _, ?_⟩
    rw [bocageref01_Of.l0, if_pos rfl]
    by_cases ha : acc = []
    · subst ha; simp
    · have : acc.length ≠ 0 := fun h => ha (List.eq_nil_of_length_eq_zero h)
      rw [if_neg (by omega)]; simp [ha]
  | succ m ih =>
    intro k x s acc hx h1 h2 hk hl
    obtain ⟨k, rfl⟩ : ∃ j, k = j + 1 := ⟨k - 1, by omega⟩
    by_cases h0 : x = 0
    · subst h0
      refine ⟨[], DOK.nil, can_nil, .inl rfl, by simp, ?_⟩
      rw [bocageref01_Of.l0, if_pos rfl]
      by_cases ha : acc = []
      · subst ha; simp
      · have : acc.length ≠ 0 := fun h => ha (List.eq_nil_of_length_eq_zero h)
        rw [if_neg (by omega)]; simp [ha]
    · obtain ⟨q, r, hq, hr, hx10, hsg⟩ := tdiv10 x
      simp only [p10] at h1 h2
      have hp := p10_pos m
      have hqI : I64 q := by unfold I64 at hx ⊢; omega
      have step : ∀ e, (e = r ∨ e = -r) → 0 ≤ e → (e = r ↔ 0 ≤ x) ∨ r = 0 → ∃ d, DOK d ∧ Can d ∧ (dv d = x ∨ dv d = -x) ∧ d.length ≤ m + 1 ∧ bocageref01_Of.l0 k q s (acc ++ [e]) = some (if acc ++ d = [] then 0 else s, acc ++ d) := by
        intro e he he0 hes
        obtain ⟨d, d1, d2, d3, d4, d5⟩ := ih k q s (acc ++ [e]) hqI (by omega) (by omega) (by omega) (by simp; omega)
        have hn := dv_nonneg d1
        refine ⟨e :: d, DOK.cons (by omega) d1, ?_, ?_, by simp; omega, ?_⟩
        · right
          by_cases hd : d = []
          · subst hd
            simp [dv] at d3
            simp; omega
          · have := can_last d2 hd
            have hdl : 0 < d.length := List.length_pos_iff.2 hd
            obtain ⟨n, hn⟩ : ∃ n, d.length = n + 1 := ⟨d.length - 1, by omega⟩
            rw [hn] at this
            simp only [List.length_cons, hn, Nat.add_sub_cancel]
            simpa using this
        · simp only [dv]
          omega
        · rw [d5]; simp
      rw [bocageref01_Of.l0, if_neg h0, hr, hq, wrap64_of hqI]
      by_cases hneg : r < 0
      · rw [if_pos hneg, if_pos (by omega), wrap64_of (by unfold I64; omega)]
        exact step (-r) (.inr rfl) (by omega) (.inl (by omega))
      · rw [if_neg hneg, if_pos (by omega)]
        exact step r (.inl rfl) (by omega) (by omega)
theorem p10_19 : p10 19 = 10000000000000000000 := by decide
theorem bocageref01_Of.eq {n : Int} (hn : I64 n) (k : Nat) (hk : 25 ≤ k) : ∃ s d, bocageref01_Of.f k n = some (s, d) ∧ Big s d n ∧ d.length ≤ 19 := by
  obtain ⟨k, rfl⟩ : ∃ j, k = j + 1 := ⟨k - 1, by omega⟩
  have hb := hn
  unfold I64 at hb
  unfold bocageref01_Of.f
  by_cases h : n < 0
  · obtain ⟨d, d1, d2, d3, d4, d5⟩ := bocageref01_Of.l0_eq 19 k n (-1) [] hn (by rw [p10_19]; omega) (by rw [p10_19]; omega) (by omega) (by simp)
    have hn := dv_nonneg d1
    rw [if_pos h, bocageref01_Of.j0, d5]
    refine ⟨_, _, rfl, ?_, by simpa using d4⟩
    have hd : d ≠ [] := by rintro rfl; simp [dv] at d3; omega
    simp only [List.nil_append, if_neg hd]
    exact ⟨d1, d2, .inr (.inr ⟨rfl, hd, by omega⟩)⟩
  · obtain ⟨d, d1, d2, d3, d4, d5⟩ := bocageref01_Of.l0_eq 19 k n 1 [] hn (by rw [p10_19]; omega) (by rw [p10_19]; omega) (by omega) (by simp)
    have hn := dv_nonneg d1
    rw [if_neg h, bocageref01_Of.j0, d5]
    refine ⟨_, _, rfl, ?_, by simpa using d4⟩
    simp only [List.nil_append]
    have : n = dv d := by omega
    rw [this]
    exact Big.of_pos d1 d2
theorem bocageref01_Minus.eq {s v : Int} {d : List Int} (h : Big s d v) : bocageref01_Minus.f s d = some (-s, d) ∧ Big (-s) d (-v) := by
  constructor
  · unfold bocageref01_Minus.f
    rw [wrap64_of (by rcases h.val with ⟨rfl, _⟩ | ⟨rfl, _⟩ | ⟨rfl, _⟩ <;> (unfold I64; omega))]
  · refine ⟨h.ok, h.can, ?_⟩
    rcases h.val with ⟨rfl, hd, rfl⟩ | ⟨rfl, hd, rfl⟩ | ⟨rfl, hd, rfl⟩
    · exact .inl ⟨rfl, hd, rfl⟩
    · exact .inr (.inr ⟨rfl, hd, rfl⟩)
    · exact .inr (.inl ⟨rfl, hd, by omega⟩)
theorem rd_nat (l : List Int) (i : Nat) : rd l (i : Int) = dig l i := by simp [rd, dig]
theorem bocageref01_cut.l0_eq (n : Nat) : ∀ (k : Nat) (l : List Int), DOK l → l.length = n → n < k → n ≤ 3000000 → ∃ r, bocageref01_cut.l0 k l = some r ∧ DOK r ∧ Can r ∧ dv r = dv l ∧ r.length ≤ n := by
  induction n with
  | zero =>
    intro k l hl hn hk hb
    obtain ⟨k, rfl⟩ : ∃ j, k = j + 1 := ⟨k - 1, by omega⟩
    have : l = [] := List.eq_nil_of_length_eq_zero hn
    subst this
    exact ⟨[], by rw [bocageref01_cut.l0, if_neg (by simp)], DOK.nil, can_nil, rfl, Nat.le_refl _⟩
  | succ n ih =>
    intro k l hl hn hk hb
    obtain ⟨k, rfl⟩ : ∃ j, k = j + 1 := ⟨k - 1, by omega⟩
    have hw : wrap64 ((l.length : Int) - 1) = (n : Int) := by rw [wrap64_of (by unfold I64; omega)]; omega
    rw [bocageref01_cut.l0, hw, if_pos (by omega), if_pos (by omega), if_pos (by omega), rd_nat]
    by_cases h0 : dig l n = 0
    · rw [if_pos h0, if_pos (by omega)]
      have htk : ((n : Int)).toNat = n := by omega
      rw [htk]
      obtain ⟨r, r1, r2, r3, r4, r5⟩ := ih k (l.take n) (hl.take n) (by simp; omega) (by omega) (by omega)
      refine ⟨r, r1, r2, r3, ?_, by omega⟩
      rw [r4]
      have h1 := dv_split l n (by omega)
      have h2 := dv_drop l n
      rw [dv_drop_end l (n + 1) (by omega), h0] at h2
      rw [h1, h2]; simp
    · rw [if_neg h0]
      refine ⟨l, rfl, hl, .inr ?_, rfl, by omega⟩
      rw [hn, Nat.add_sub_cancel]; exact h0
theorem bocageref01_cut.eq {l : List Int} (h : DOK l) (k : Nat) (hk : l.length < k) (hb : l.length ≤ 3000000) : ∃ r, bocageref01_cut.f k l = some r ∧ DOK r ∧ Can r ∧ dv r = dv l ∧ r.length ≤ l.length :=
  bocageref01_cut.l0_eq l.length k l h rfl hk hb
theorem bocageref01_digit.eq (l : List Int) (i : Nat) : bocageref01_digit.f l (i : Int) = some (dig l i) := by
  unfold bocageref01_digit.f
  by_cases hi : (i : Int) < (l.length : Int)
  · rw [if_pos hi, if_pos (by omega), rd_nat]
  · rw [if_neg hi]; unfold dig; rw [List.getD_eq_getElem?_getD, List.getElem?_eq_none (by omega)]; simp
theorem bocageref01_more.l0_eq {a b : List Int} (ha : DOK a) (hb : DOK b) (n : Nat) : ∀ (k : Nat), n < k → n ≤ 4000000 → dv (a.drop n) = dv (b.drop n) → bocageref01_more.l0 k a b ((n : Int) - 1) = some (decide (dv b < dv a)) := by
  induction n with
  | zero =>
    intro k hk hb' h
    obtain ⟨k, rfl⟩ : ∃ j, k = j + 1 := ⟨k - 1, by omega⟩
    rw [bocageref01_more.l0, if_neg (by omega)]
    simp only [List.drop_zero] at h
    rw [h]; simp
  | succ n ih =>
    intro k hk hbd h
    obtain ⟨k, rfl⟩ : ∃ j, k = j + 1 := ⟨k - 1, by omega⟩
    have e : ((n + 1 : Nat) : Int) - 1 = (n : Int) := by omega
    rw [bocageref01_more.l0, e, if_pos (by omega)]
    simp only [bocageref01_digit.eq, Option.bind_some]
    have h1 := dv_drop a n
    have h2 := dv_drop b n
    by_cases hd : dig a n = dig b n
    · rw [if_pos hd, wrap64_of (by unfold I64; omega)]
      exact ih k (by omega) (by omega) (by omega)
    · rw [if_neg hd]
      congr 1
      by_cases hlt : dig b n < dig a n
      · have := dv_more ha hb n (by omega)
        simp [hlt, this]
      · have := dv_more hb ha n (by omega)
        have h3 : ¬ (dig a n > dig b n) := by omega
        have h4 : ¬ (dv b < dv a) := by omega
        simp only [decide_eq_false h3, decide_eq_false h4]
theorem bocageref01_more.eq {a b : List Int} (ha : DOK a) (hb : DOK b) (k : Nat) (hk : a.length + b.length + 1 < k) (hl : a.length + b.length ≤ 3000000) : bocageref01_more.f k a b = some (decide (dv b < dv a)) := by
  unfold bocageref01_more.f
  have := bocageref01_more.l0_eq ha hb (a.length + b.length + 1) k (by omega) (by omega) (by rw [dv_drop_end _ _ (by omega), dv_drop_end _ _ (by omega)])
  rw [wrap64_of (by unfold I64; omega)]
  rw [← this]
  congr 1; omega
theorem bocageref01_Plus.add_eq {a b : List Int} (ha : DOK a) (hb : DOK b) : ∀ (n i : Nat) (o : Int), a.length ≤ i + n → b.length ≤ i + n → 0 ≤ o → o ≤ 1 →
    ∃ c, 0 ≤ c ∧ c ≤ 1 ∧ dv (bocageref01_Plus.add n a b o i) + p10 n * c = o + dv (a.drop i) + dv (b.drop i) ∧ DOK (bocageref01_Plus.add n a b o i) := by
  intro n
  induction n with
  | zero =>
    intro i o h1 h2 h3 h4
    exact ⟨o, h3, h4, by rw [dv_drop_end _ _ (by omega), dv_drop_end _ _ (by omega)]; simp [bocageref01_Plus.add, dv, p10], DOK.nil⟩
  | succ n ih =>
    intro i o h1 h2 h3 h4
    have da := ha.dg i
    have db := hb.dg i
    have ea := dv_drop a i
    have eb := dv_drop b i
    obtain ⟨c, c0, c1, hc, hok⟩ := ih (i + 1) ((dig a i + dig b i + o) / 10) (by omega) (by omega) (by omega) (by omega)
    refine ⟨c, c0, c1, ?_, ?_⟩
    · simp only [bocageref01_Plus.add, dv, p10]
      have e1 : a.getD i 0 = dig a i := rfl
      have e2 : b.getD i 0 = dig b i := rfl
      rw [e1, e2, Int.mul_assoc]
      generalize p10 n * c = z at *
      omega
    · simp only [bocageref01_Plus.add]
      exact DOK.cons (by have : 0 ≤ (dig a i + dig b i + o) % 10 ∧ (dig a i + dig b i + o) % 10 ≤ 9 := by omega
                         exact this) hok
theorem bocageref01_Plus.sub_eq {a b : List Int} (ha : DOK a) (hb : DOK b) : ∀ (n i : Nat) (o : Int), a.length ≤ i + n → b.length ≤ i + n → 0 ≤ o → o ≤ 1 →
    ∃ c, 0 ≤ c ∧ c ≤ 1 ∧ dv (bocageref01_Plus.sub n a b o i) - p10 n * c = dv (a.drop i) - dv (b.drop i) - o ∧ DOK (bocageref01_Plus.sub n a b o i) := by
  intro n
  induction n with
  | zero =>
    intro i o h1 h2 h3 h4
    exact ⟨o, h3, h4, by rw [dv_drop_end _ _ (by omega), dv_drop_end _ _ (by omega)]; simp [bocageref01_Plus.sub, dv, p10], DOK.nil⟩
  | succ n ih =>
    intro i o h1 h2 h3 h4
    have da := ha.dg i
    have db := hb.dg i
    have ea := dv_drop a i
    have eb := dv_drop b i
    have e1 : a.getD i 0 = dig a i := rfl
    have e2 : b.getD i 0 = dig b i := rfl
    simp only [bocageref01_Plus.sub, e1, e2]
    by_cases hn : dig a i - dig b i - o < 0
    · obtain ⟨c, c0, c1, hc, hok⟩ := ih (i + 1) 1 (by omega) (by omega) (by omega) (by omega)
      rw [if_pos hn]
      refine ⟨c, c0, c1, ?_, DOK.cons (by omega) hok⟩
      simp only [dv, p10]
      rw [Int.mul_assoc]
      generalize p10 n * c = z at *
      omega
    · obtain ⟨c, c0, c1, hc, hok⟩ := ih (i + 1) 0 (by omega) (by omega) (by omega) (by omega)
      rw [if_neg hn]
      refine ⟨c, c0, c1, ?_, DOK.cons (by omega) hok⟩
      simp only [dv, p10]
      rw [Int.mul_assoc]
      generalize p10 n * c = z at *
      omega
theorem bocageref01_Plus.ok_of {l : List Int} (h : DOK l) (hl : l.length ≤ 1000000) : bocageref01_Plus.ok l = true := by
  simp only [bocageref01_Plus.ok, Bool.and_eq_true, List.all_eq_true, decide_eq_true_eq]
  exact ⟨h, hl⟩
theorem bocageref01_Plus.less_eq {x y : List Int} (hx : DOK x) (hy : DOK y) (cy : Can y) (hle : dv y ≤ dv x) (s : Int) (k : Nat) (hk : x.length < k) (hl : x.length ≤ 1000000) :
    ∃ r, bocageref01_Plus.less k s x y = some (if r.length = 0 then 0 else s, r) ∧ DOK r ∧ Can r ∧ dv r = dv x - dv y ∧ r.length ≤ x.length := by
  have hyl : y.length ≤ x.length := can_length hy cy x.length (by have := dv_lt hx; omega)
  obtain ⟨c, c0, c1, hc, hok⟩ := bocageref01_Plus.sub_eq hx hy x.length 0 0 (by omega) (by omega) (by omega) (by omega)
  have hsl := bocageref01_Plus.sub_len x.length x y 0 0
  obtain ⟨r, r1, r2, r3, r4, r5⟩ := bocageref01_cut.eq hok k (by omega) (by omega)
  unfold bocageref01_Plus.less
  rw [r1]
  refine ⟨r, rfl, r2, r3, ?_, by omega⟩
  have hlt := dv_lt hok
  rw [hsl] at hlt
  simp only [List.drop_zero] at hc
  have hp := p10_pos x.length
  have : c = 0 := by
    by_cases h1 : c = 0
    · exact h1
    · have : c = 1 := by omega
      subst this
      rw [Int.mul_one] at hc
      omega
  subst this
  rw [r4]; simp at hc; omega
theorem bocageref01_Plus.eq {s v t u : Int} {a b : List Int} (ha : Big s a v) (hb : Big t b u) (k : Nat) (hk : a.length + b.length + 1 < k) (hla : a.length ≤ 1000000) (hlb : b.length ≤ 1000000) (hk2 : a.length + b.length + 2 ≤ k) :
    ∃ s' d', bocageref01_Plus.f k s a t b = some (s', d') ∧ Big s' d' (v + u) ∧ d'.length ≤ a.length + b.length + 1 := by
  unfold bocageref01_Plus.f
  rw [if_pos (by rw [bocageref01_Plus.ok_of ha.ok hla, bocageref01_Plus.ok_of hb.ok hlb]; rfl)]
  have pa := ha.pos
  have pb := hb.pos
  by_cases hs : s = 0
  · rw [if_pos hs]
    have : v = 0 := pa.1.1 hs
    exact ⟨t, b, rfl, by rw [this, Int.zero_add]; exact hb, by omega⟩
  · rw [if_neg hs]
    by_cases ht : t = 0
    · rw [if_pos ht]
      have : u = 0 := pb.1.1 ht
      exact ⟨s, a, rfl, by rw [this, Int.add_zero]; exact ha, by omega⟩
    · rw [if_neg ht]
      by_cases hst : s = t
      · rw [if_pos hst]
        subst hst
        obtain ⟨c, c0, c1, hc, hok⟩ := bocageref01_Plus.add_eq ha.ok hb.ok (a.length + b.length + 1) 0 0 (by omega) (by omega) (by omega) (by omega)
        have hal := bocageref01_Plus.add_len (a.length + b.length + 1) a b 0 0
        obtain ⟨r, r1, r2, r3, r4, r5⟩ := bocageref01_cut.eq hok k (by omega) (by omega)
        rw [r1]
        refine ⟨s, r, rfl, ?_, by omega⟩
        simp only [List.drop_zero] at hc
        have hva := dv_lt ha.ok
        have hvb := dv_lt hb.ok
        have l1 := p10_le (show a.length ≤ a.length + b.length by omega)
        have l2 := p10_le (show b.length ≤ a.length + b.length by omega)
        have l3 := p10_pos (a.length + b.length)
        have l4 : p10 (a.length + b.length + 1) = 10 * p10 (a.length + b.length) := rfl
        have n1 := dv_nonneg hok
        have : c = 0 := by
          by_cases h1 : c = 0
          · exact h1
          · have : c = 1 := by omega
            subst this
            rw [Int.mul_one] at hc
            omega
        subst this
        rw [Int.mul_zero, Int.add_zero] at hc
        have hne : r ≠ [] := by
          rintro rfl
          simp only [dv] at r4
          rcases ha.val with ⟨h1, _⟩ | ⟨_, h1, _⟩ | ⟨_, h1, _⟩
          · exact hs h1
          · have := dv_pos ha.ok ha.can h1; have := dv_nonneg hb.ok; omega
          · have := dv_pos ha.ok ha.can h1; have := dv_nonneg hb.ok; omega
        refine ⟨r2, r3, ?_⟩
        rcases ha.val with ⟨h1, _⟩ | ⟨h1, _, h2⟩ | ⟨h1, _, h2⟩
        · exact absurd h1 hs
        · subst h1
          rcases hb.val with ⟨h3, _⟩ | ⟨_, _, h4⟩ | ⟨h3, _⟩
          · omega
          · exact .inr (.inl ⟨rfl, hne, by omega⟩)
          · omega
        · subst h1
          rcases hb.val with ⟨h3, _⟩ | ⟨h3, _⟩ | ⟨_, _, h4⟩
          · omega
          · omega
          · exact .inr (.inr ⟨rfl, hne, by omega⟩)
      · rw [if_neg hst, bocageref01_more.eq hb.ok ha.ok k (by omega) (by omega), Option.bind_some]
        have key : ∀ {s' v' t' u' : Int} {x y : List Int}, Big s' x v' → Big t' y u' → s' ≠ t' → s' ≠ 0 → t' ≠ 0 → dv y ≤ dv x → x.length ≤ 1000000 → x.length < k → ∃ s'' d', bocageref01_Plus.less k s' x y = some (s'', d') ∧ Big s'' d' (v' + u') ∧ d'.length ≤ x.length := by
          intro s' v' t' u' x y hx hy h1 h2 h3 hle hxl hxk
          obtain ⟨r, r1, r2, r3, r4, r5⟩ := bocageref01_Plus.less_eq hx.ok hy.ok hy.can hle s' k hxk hxl
          refine ⟨_, r, r1, ⟨r2, r3, ?_⟩, r5⟩
          by_cases hr : r = []
          · subst hr
            simp only [dv] at r4
            left
            refine ⟨rfl, rfl, ?_⟩
            rcases hx.val with ⟨e, _⟩ | ⟨e, _, e2⟩ | ⟨e, _, e2⟩ <;> rcases hy.val with ⟨f, _⟩ | ⟨f, _, f2⟩ | ⟨f, _, f2⟩ <;> omega
          · have : r.length ≠ 0 := fun h => hr (List.eq_nil_of_length_eq_zero h)
            rw [if_neg this]
            right
            rcases hx.val with ⟨e, _⟩ | ⟨e, _, e2⟩ | ⟨e, _, e2⟩ <;> rcases hy.val with ⟨f, _⟩ | ⟨f, _, f2⟩ | ⟨f, _, f2⟩ <;> first | omega | exact .inl ⟨e, hr, by omega⟩ | exact .inr ⟨e, hr, by omega⟩
        by_cases hm : dv a < dv b
        · rw [if_pos (by simpa using hm)]
          obtain ⟨s'', d', e1, e2, e3⟩ := key hb ha (fun h => hst h.symm) ht hs (by omega) hlb (by omega)
          exact ⟨s'', d', e1, by rw [Int.add_comm]; exact e2, by omega⟩
        · rw [if_neg (by simpa using hm)]
          obtain ⟨s'', d', e1, e2, e3⟩ := key ha hb hst hs ht (by omega) hla (by omega)
          exact ⟨s'', d', e1, e2, by omega⟩

end Go.Proofs.Ytagcloidicnhhaa.Print
