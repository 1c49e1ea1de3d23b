import Derived.Test.YtpeidnkbliafkaaPrint8
import Derived.Test.YtpeidnkbliafkaaPrint9
import Derived.Test.YtpeidnkbliafkaaLDig
import Derived.Test.YtpeidnkbliafkaaLNum
namespace Go.Proofs.Ytpeidnkbliafkaa.Print
open Go.RowKit Go.Proofs.YtpeidnkbliafkaaW.PrintWords Go.Proofs.YtpeidnkbliafkaaW.PrintLast
set_option linter.unusedVariables false
set_option linter.unusedSimpArgs false
/-- a whole number of any size, as the reference holds it -/
structure Big (s : Int) (d : List Int) (v : Int) : Prop where
  ok : DOK d
  can : Can d
  val : (s = 0 ∧ d = [] ∧ v = 0) ∨ (s = 1 ∧ d ≠ [] ∧ v = dv d) ∨ (s = -1 ∧ d ≠ [] ∧ v = -dv d)
theorem Big.zero : Big 0 [] 0 := ⟨DOK.nil, can_nil, .inl ⟨rfl, rfl, rfl⟩⟩
theorem Big.mul {s v : Int} {d : List Int} (h : Big s d v) : v = s * dv d := by
  rcases h.val with ⟨rfl, rfl, rfl⟩ | ⟨rfl, _, rfl⟩ | ⟨rfl, _, rfl⟩ <;> simp
theorem Big.pos {s v : Int} {d : List Int} (h : Big s d v) : (s = 0 ↔ v = 0) ∧ (0 < s ↔ 0 < v) ∧ (s < 0 ↔ v < 0) := by
  rcases h.val with ⟨rfl, rfl, rfl⟩ | ⟨rfl, hd, rfl⟩ | ⟨rfl, hd, rfl⟩
  · simp
  · have := dv_pos h.ok h.can hd; omega
  · have := dv_pos h.ok h.can hd; omega
theorem Big.of_pos {d : List Int} (h : DOK d) (hc : Can d) : Big (if d = [] then 0 else 1) d (dv d) := by
  by_cases hd : d = []
  · subst hd; exact Big.zero
  · rw [if_neg hd]; exact ⟨h, hc, .inr (.inl ⟨rfl, hd, rfl⟩)⟩
theorem tdiv10 (x : Int) : ∃ q r, Int.tdiv x 10 = q ∧ Int.tmod x 10 = r ∧ x = 10 * q + r ∧ ((0 ≤ x ∧ 0 ≤ q ∧ 0 ≤ r ∧ r ≤ 9) ∨ (x ≤ 0 ∧ q ≤ 0 ∧ -9 ≤ r ∧ r ≤ 0)) := by
  refine ⟨_, _, rfl, rfl, ?_, ?_⟩
  · have := Int.mul_tdiv_add_tmod x 10; omega
  · by_cases h : 0 ≤ x
    · left
      rw [Int.tdiv_eq_ediv_of_nonneg h, Int.tmod_eq_emod_of_nonneg h]; omega
    · right
      obtain ⟨y, rfl⟩ : ∃ y, x = -y := ⟨-x, by omega⟩
      rw [Int.neg_tdiv, Int.neg_tmod, Int.tdiv_eq_ediv_of_nonneg (by omega), Int.tmod_eq_emod_of_nonneg (by omega)]; omega
theorem bocageref01_Of.l0_eq (m : Nat) : ∀ (k : Nat) (x s : Int) (acc : List Int), I64 x → -p10 m < x → x < p10 m → m < k → acc.length + m ≤ 1000 →
    ∃ d, DOK d ∧ Can d ∧ (dv d = x ∨ dv d = -x) ∧ d.length ≤ m ∧ bocageref01_Of.l0 k x s acc = some (if acc ++ d = [] then 0 else s, acc ++ d) := by
  induction m with
  | zero =>
    intro k x s acc hx h1 h2 hk hl
    obtain ⟨k, rfl⟩ : ∃ j, k = j + 1 := ⟨k - 1, by omega⟩
    simp only [p10] at h1 h2
    have : x = 0 := by omega
    subst this
    refine ⟨[], DOK.nil, can_nil, .inl rfl, Nat.le_refl _, ?_⟩
    rw [bocageref01_Of.l0, if_pos rfl]
    by_cases ha : acc = []
    · subst ha; simp
    · have : acc.length ≠ 0 := fun h => ha (List.eq_nil_of_length_eq_zero h)
      rw [if_neg (by omega)]; simp [ha]
  | succ m ih =>
    intro k x s acc hx h1 h2 hk hl
    obtain ⟨k, rfl⟩ : ∃ j, k = j + 1 := ⟨k - 1, by omega⟩
    by_cases h0 : x = 0
    · subst h0
      refine ⟨[], DOK.nil, can_nil, .inl rfl, by simp, ?_⟩
      rw [bocageref01_Of.l0, if_pos rfl]
      by_cases ha : acc = []
      · subst ha; simp
      · have : acc.length ≠ 0 := fun h => ha (List.eq_nil_of_length_eq_zero h)
        rw [if_neg (by omega)]; simp [ha]
    · obtain ⟨q, r, hq, hr, hx10, hsg⟩ := tdiv10 x
      simp only [p10] at h1 h2
      have hp := p10_pos m
      have hqI : I64 q := by unfold I64 at hx ⊢; omega
      have step : ∀ e, (e = r ∨ e = -r) → 0 ≤ e → (e = r ↔ 0 ≤ x) ∨ r = 0 → ∃ d, DOK d ∧ Can d ∧ (dv d = x ∨ dv d = -x) ∧ d.length ≤ m + 1 ∧ bocageref01_Of.l0 k q s (acc ++ [e]) = some (if acc ++ d = [] then 0 else s, acc ++ d) := by
        intro e he he0 hes
        obtain ⟨d, d1, d2, d3, d4, d5⟩ := ih k q s (acc ++ [e]) hqI (by omega) (by omega) (by omega) (by simp; omega)
        have hn := dv_nonneg d1
        refine ⟨e :: d, DOK.cons (by omega) d1, ?_, ?_, by simp; omega, ?_⟩
        · right
          by_cases hd : d = []
          · subst hd
            simp [dv] at d3
            simp; omega
          · have := can_last d2 hd
            have hdl : 0 < d.length := List.length_pos_iff.2 hd
            obtain ⟨n, hn⟩ : ∃ n, d.length = n + 1 := ⟨d.length - 1, by omega⟩
            rw [hn] at this
            simp only [List.length_cons, hn, Nat.add_sub_cancel]
            simpa using this
        · simp only [dv]
          omega
        · rw [d5]; simp
      rw [bocageref01_Of.l0, if_neg h0, hr, hq, wrap64_of hqI]
      by_cases hneg : r < 0
      · rw [if_pos hneg, if_pos (by omega), wrap64_of (by unfold I64; omega)]
        exact step (-r) (.inr rfl) (by omega) (.inl (by omega))
      · rw [if_neg hneg, if_pos (by omega)]
        exact step r (.inl rfl) (by omega) (by omega)
theorem p10_19 : p10 19 = 10000000000000000000 := by decide
theorem bocageref01_Of.eq {n : Int} (hn : I64 n) (k : Nat) (hk : 25 ≤ k) : ∃ s d, bocageref01_Of.f k n = some (s, d) ∧ Big s d n ∧ d.length ≤ 19 := by
  obtain ⟨k, rfl⟩ : ∃ j, k = j + 1 := ⟨k - 1, by omega⟩
  have hb := hn
  unfold I64 at hb
  unfold bocageref01_Of.f
  by_cases h : n < 0
  · obtain ⟨d, d1, d2, d3, d4, d5⟩ := bocageref01_Of.l0_eq 19 k n (-1) [] hn (by rw [p10_19]; omega) (by rw [p10_19]; omega) (by omega) (by simp)
    have hn := dv_nonneg d1
    rw [if_pos h, bocageref01_Of.j0, d5]
    refine ⟨_, _, rfl, ?_, by simpa using d4⟩
    have hd : d ≠ [] := by rintro rfl; simp [dv] at d3; omega
    simp only [List.nil_append, if_neg hd]
    exact ⟨d1, d2, .inr (.inr ⟨rfl, hd, by omega⟩)⟩
  · obtain ⟨d, d1, d2, d3, d4, d5⟩ := bocageref01_Of.l0_eq 19 k n 1 [] hn (by rw [p10_19]; omega) (by rw [p10_19]; omega) (by omega) (by simp)
    have hn := dv_nonneg d1
    rw [if_neg h, bocageref01_Of.j0, d5]
    refine ⟨_, _, rfl, ?_, by simpa using d4⟩
    simp only [List.nil_append]
    have : n = dv d := by omega
    rw [this]
    exact Big.of_pos d1 d2
theorem rd_nat (l : List Int) (i : Nat) : rd l (i : Int) = dig l i := by simp [rd, dig]
theorem bocageref01_digit.eq (l : List Int) (i : Nat) : bocageref01_digit.f l (i : Int) = some (dig l i) := by
  unfold bocageref01_digit.f
  by_cases hi : (i : Int) < (l.length : Int)
  · rw [if_pos hi, if_pos (by omega), rd_nat]
  · rw [if_neg hi]; unfold dig; rw [List.getD_eq_getElem?_getD, List.getElem?_eq_none (by omega)]; simp
theorem bocageref01_more.l0_eq {a b : List Int} (ha : DOK a) (hb : DOK b) (n : Nat) : ∀ (k : Nat), n < k → n ≤ 4000000 → dv (a.drop n) = dv (b.drop n) → bocageref01_more.l0 k a b ((n : Int) - 1) = some (decide (dv b < dv a)) := by
  induction n with
  | zero =>
    intro k hk hb' h
    obtain ⟨k, rfl⟩ : ∃ j, k = j + 1 := ⟨k - 1, by omega⟩
    rw [bocageref01_more.l0, if_neg (by omega)]
    simp only [List.drop_zero] at h
    rw [h]; simp
  | succ n ih =>
    intro k hk hbd h
    obtain ⟨k, rfl⟩ : ∃ j, k = j + 1 := ⟨k - 1, by omega⟩
    have e : ((n + 1 : Nat) : Int) - 1 = (n : Int) := by omega
    rw [bocageref01_more.l0, e, if_pos (by omega)]
    simp only [bocageref01_digit.eq, Option.bind_some]
    have h1 := dv_drop a n
    have h2 := dv_drop b n
    by_cases hd : dig a n = dig b n
    · rw [if_pos hd, wrap64_of (by unfold I64; omega)]
      exact ih k (by omega) (by omega) (by omega)
    · rw [if_neg hd]
      congr 1
      by_cases hlt : dig b n < dig a n
      · have := dv_more ha hb n (by omega)
        simp [hlt, this]
      · have := dv_more hb ha n (by omega)
        have h3 : ¬ (dig a n > dig b n) := by omega
        have h4 : ¬ (dv b < dv a) := by omega
        simp only [decide_eq_false h3, decide_eq_false h4]
theorem bocageref01_more.eq {a b : List Int} (ha : DOK a) (hb : DOK b) (k : Nat) (hk : a.length + b.length + 1 < k) (hl : a.length + b.length ≤ 3000000) : bocageref01_more.f k a b = some (decide (dv b < dv a)) := by
  unfold bocageref01_more.f
  have := bocageref01_more.l0_eq ha hb (a.length + b.length + 1) k (by omega) (by omega) (by rw [dv_drop_end _ _ (by omega), dv_drop_end _ _ (by omega)])
  rw [wrap64_of (by unfold I64; omega)]
  rw [← this]
  congr 1; omega
theorem bocageref01_ends.eq (s : Int) : ∃ d, bocageref01_ends.f s = some d ∧ DOK d ∧ d.length = 19 ∧ dv d = if s < 0 then 9223372036854775808 else 9223372036854775807 := by
  unfold bocageref01_ends.f
  simp only [Option.bind_some]
  by_cases h : s < 0
  · rw [if_pos h, if_pos h, if_pos (by decide)]
    exact ⟨_, rfl, by intro e he; revert e; decide, by decide, by decide⟩
  · rw [if_neg h, if_neg h]
    exact ⟨_, rfl, by intro e he; revert e; decide, by decide, by decide⟩
theorem bocageref01_Is.eq {s v : Int} {d : List Int} (h : Big s d v) (k : Nat) (hk : d.length + 25 ≤ k) (hl : d.length ≤ 2000000) : bocageref01_Is.f k s d = some (decide (-9223372036854775808 ≤ v ∧ v ≤ 9223372036854775807)) := by
  unfold bocageref01_Is.f
  obtain ⟨e, e1, e2, e3, e4⟩ := bocageref01_ends.eq s
  rw [e1, Option.bind_some, bocageref01_more.eq h.ok e2 k (by omega) (by omega), Option.bind_some, e4]
  have hp := h.pos
  have hn := dv_nonneg h.ok
  congr 1
  rw [Bool.eq_iff_iff]
  simp only [Bool.not_eq_true', decide_eq_false_iff_not, decide_eq_true_eq]
  rcases h.val with ⟨rfl, rfl, rfl⟩ | ⟨rfl, _, rfl⟩ | ⟨rfl, _, rfl⟩
  · simp [dv]
  · rw [if_neg (by omega)]; omega
  · rw [if_pos (by omega)]; omega
theorem bocageref01_End.l0_eq {s : Int} {d : List Int} (h : DOK d) (hs : s = 0 ∨ s = 1 ∨ s = -1) (hI : I64 (s * dv d)) (n : Nat) : ∀ k, n < k → n ≤ d.length → d.length ≤ 2000000 → bocageref01_End.l0 k s d ((n : Int) - 1) (s * dv (d.drop n)) = some (s * dv d) := by
  induction n with
  | zero =>
    intro k hk hn hl
    obtain ⟨k, rfl⟩ : ∃ j, k = j + 1 := ⟨k - 1, by omega⟩
    rw [bocageref01_End.l0, if_neg (by omega)]; simp
  | succ n ih =>
    intro k hk hn hl
    obtain ⟨k, rfl⟩ : ∃ j, k = j + 1 := ⟨k - 1, by omega⟩
    have e : ((n + 1 : Nat) : Int) - 1 = (n : Int) := by omega
    have hd := dv_drop d n
    have hg := h.dg n
    have hsp := dv_split d n (by omega)
    have ht := dv_nonneg (h.take n)
    have hdn := dv_nonneg (h.drop n)
    have hdn1 := dv_nonneg (h.drop (n + 1))
    have hp := p10_pos n
    have hle : dv (d.drop n) ≤ dv d := by
      have : 1 * dv (d.drop n) ≤ p10 n * dv (d.drop n) := Int.mul_le_mul_of_nonneg_right hp hdn
      omega
    rw [bocageref01_End.l0, e, if_pos (by omega), if_pos (by omega), rd_nat]
    have w1 : wrap64 (s * dv (d.drop (n + 1)) * 10) = s * dv (d.drop (n + 1)) * 10 := wrap64_of (by unfold I64 at *; rcases hs with rfl | rfl | rfl <;> omega)
    have w2 : wrap64 (s * dig d n) = s * dig d n := wrap64_of (by unfold I64 at *; rcases hs with rfl | rfl | rfl <;> omega)
    have w3 : s * dv (d.drop (n + 1)) * 10 + s * dig d n = s * dv (d.drop n) := by rcases hs with rfl | rfl | rfl <;> omega
    have w4 : wrap64 (s * dv (d.drop n)) = s * dv (d.drop n) := wrap64_of (by unfold I64 at *; rcases hs with rfl | rfl | rfl <;> omega)
    rw [w1, w2, w3, w4, wrap64_of (by unfold I64; omega)]
    exact ih k (by omega) (by omega) hl
theorem bocageref01_End.eq {s v : Int} {d : List Int} (h : Big s d v) (k : Nat) (hk : d.length + 25 ≤ k) (hl : d.length ≤ 2000000) : bocageref01_End.f k s d = some (clamp v) := by
  unfold bocageref01_End.f
  rw [bocageref01_Is.eq h k hk hl, Option.bind_some]
  have hm := h.mul
  have hs : s = 0 ∨ s = 1 ∨ s = -1 := by rcases h.val with ⟨e, _⟩ | ⟨e, _⟩ | ⟨e, _⟩ <;> omega
  by_cases hI : -9223372036854775808 ≤ v ∧ v ≤ 9223372036854775807
  · rw [if_pos (by simpa using hI), clamp_of hI]
    have := bocageref01_End.l0_eq h.ok hs (by rw [← hm]; exact hI) d.length k (by omega) (Nat.le_refl _) hl
    rw [dv_drop_end d d.length (Nat.le_refl _), Int.mul_zero, ← hm] at this
    rw [wrap64_of (by unfold I64; omega)]
    exact this
  · rw [if_neg (by simpa using hI)]
    obtain ⟨e, e1, e2, e3, e4⟩ := bocageref01_ends.eq s
    rw [e1, Option.bind_some]
    have hp := h.pos
    have hc : clamp v = s * dv e := by
      unfold clamp
      rw [e4]
      rcases hs with rfl | rfl | rfl
      · omega
      · rw [if_neg (by omega), if_pos (by omega), if_neg (by omega)]; omega
      · rw [if_pos (by omega), if_pos (by omega)]; omega
    have hI2 : I64 (s * dv e) := by rw [← hc]; exact clamp_I64 v
    have := bocageref01_End.l0_eq e2 hs hI2 e.length k (by omega) (Nat.le_refl _) (by omega)
    rw [dv_drop_end e e.length (Nat.le_refl _), Int.mul_zero] at this
    rw [wrap64_of (by unfold I64; omega), this, hc]

end Go.Proofs.Ytpeidnkbliafkaa.Print
