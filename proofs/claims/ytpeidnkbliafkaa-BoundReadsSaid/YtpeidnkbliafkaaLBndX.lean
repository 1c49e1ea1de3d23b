import Derived.Test.YtpeidnkbliafkaaPrint4
import Derived.Test.YtpeidnkbliafkaaLBndF
namespace Go.Proofs.Ytpeidnkbliafkaa.Print
open Go.RowKit Go.Proofs.YtpeidnkbliafkaaW.PrintWords Go.Proofs.YtpeidnkbliafkaaW.PrintLast
set_option linter.unusedVariables false
set_option linter.unusedSimpArgs false
/-- a right span's text -/
def spanText (p q : Int × Int) : ByteArray := (⟨#[if decide (p.1 < 0) then 40 else 91]⟩ : ByteArray) ++ (ctext p ++ ((⟨#[44]⟩ : ByteArray) ++ (ctext q ++ (⟨#[41]⟩ : ByteArray))))
theorem CC_of {s a : Int} (ha : I64 a) (h : canon s a = (s, a)) : CC (s, a) := by
  have := canon_CC (s := s) ha
  rwa [h] at this
theorem RS.cc {s a t b : Int} (ha : I64 a) (hb : I64 b) (h : RS (s, a) (t, b)) : CC (s, a) ∧ CC (t, b) := ⟨CC_of ha h.1, CC_of hb h.2.1⟩
theorem low_cases {p q : Int × Int} (hp : CC p) (h : cmp2 p q < 0) (hq : CC q) : p = (-1, 0) ∨ ∃ v, p = (0, v) ∧ -9223372036854775808 < v ∧ v ≤ 9223372036854775807 := by
  rcases hp with h1 | h1 | h1
  · exact .inl h1
  · exfalso
    subst h1
    rcases hq with rfl | rfl | ⟨b, rfl, _, _⟩
    · exact absurd h (by decide)
    · exact absurd h (by decide)
    · unfold cmp2 at h
      rw [if_neg (show ¬ ((1 : Int) < 0) by decide), if_pos (show (1 : Int) > 0 by decide)] at h
      exact absurd h (by decide)
  · exact .inr h1
theorem high_cases {p q : Int × Int} (hp : CC p) (h : cmp2 p q < 0) (hq : CC q) : q = (1, 0) ∨ ∃ v, q = (0, v) ∧ -9223372036854775808 < v ∧ v ≤ 9223372036854775807 := by
  rcases hq with h1 | h1 | h1
  · exfalso
    subst h1
    rcases hp with rfl | rfl | ⟨b, rfl, _, _⟩
    · exact absurd h (by decide)
    · exact absurd h (by decide)
    · unfold cmp2 at h
      rw [if_neg (show ¬ ((0 : Int) < -1) by decide), if_pos (show (0 : Int) > -1 by decide)] at h
      exact absurd h (by decide)
  · exact .inl h1
  · exact .inr h1
theorem sp0_app (y : ByteArray) : sp32 0 ++ y = y := by apply ext_eq; rw [ByteArray.data_append]; simp [sp32]
theorem ctext_num (v : Int) : ctext (0, v) = textOf v := rfl
/-- a right span's text, and something behind it, is read as the span -/
theorem texts_rd (o : Bool) {p q : Int × Int} (hp : CC p) (hq : CC q) (h : cmp2 p q < 0) (rest : ByteArray) (hr : rest.size ≤ 10000) : rdS o (spanText p q ++ rest) = (p.1, p.2, q.1, q.2, ((spanText p q).size : Int), 0) := by
  have key : ∀ (k1 v1 k2 v2 : Int), EndOk o MI (ctext p) k1 v1 → EndOk o PI (ctext q) k2 v2 → (decide (p.1 < 0) = true ↔ k1 = 0) → lowC (if k1 = 1 ∧ decide (p.1 < 0) = false then 2 else k1) v1 = p → highC k2 v2 = q → (k1 = 0 ∨ k1 = 1) → (k2 = 0 ∨ k2 = 1) →
      rdS o (spanText p q ++ rest) = (p.1, p.2, q.1, q.2, ((spanText p q).size : Int), 0) := by
    intro k1 v1 k2 v2 h1 h2 h3 h4 h5 h6 h7
    have hz : (spanText p q).size = 1 + 0 + (ctext p).size + 0 + 1 + 0 + (ctext q).size + 0 + 1 := by
      unfold spanText
      simp only [ByteArray.size_append]
      show 1 + ((ctext p).size + (1 + ((ctext q).size + 1))) = _
      omega
    rw [rd_form (o := o) (n := 0) (fun _ => rfl) (by omega) h1 h2 (op := decide (p.1 < 0)) (cl := false) (fun _ => h3) (fun g => absurd g Bool.false_ne_true) rest hr (by unfold spanText; simp only [bapp, sp0_app]; rfl)]
    have e2 : (if k2 = 1 ∧ false = true then 2 else k2) = k2 := if_neg (fun g => Bool.false_ne_true g.2)
    unfold tellS
    rw [e2]
    have hs : spanB (if k1 = 1 ∧ decide (p.1 < 0) = false then 2 else k1) v1 k2 v2 = (p.1, p.2, q.1, q.2, 0) := by
      unfold spanB
      rw [if_neg (by split <;> omega), h4, h5]
      unfold spanOf
      rw [if_pos h]
    rw [hs, if_pos rfl, hz]
  have hmin : ∀ v : Int, -9223372036854775808 < v → v ≤ 9223372036854775807 → I64 v ∧ (o = false → v ≠ -9223372036854775808) := fun v a b => ⟨by unfold I64; omega, fun _ => by omega⟩
  rcases low_cases hp h hq with e1 | ⟨v1, e1, a1, a2⟩
  · rcases high_cases hp h hq with e2 | ⟨v2, e2, b1, b2⟩
    · subst e1; subst e2
      exact key 0 0 0 0 (.inl ⟨rfl, rfl, rfl⟩) (.inl ⟨rfl, rfl, rfl⟩) (by decide) rfl rfl (.inl rfl) (.inl rfl)
    · subst e1; subst e2
      exact key 0 0 1 v2 (.inl ⟨rfl, rfl, rfl⟩) (.inr ⟨rfl, rfl, hmin v2 b1 b2⟩) (by decide) rfl (canon_zero b1) (.inl rfl) (.inr rfl)
  · have hd : decide (((0 : Int), v1).1 < 0) = false := by simp
    rcases high_cases hp h hq with e2 | ⟨v2, e2, b1, b2⟩
    · subst e1; subst e2
      exact key 1 v1 0 0 (.inr ⟨rfl, rfl, hmin v1 a1 a2⟩) (.inl ⟨rfl, rfl, rfl⟩) (by rw [hd]; decide) (by rw [hd]; exact canon_zero a1) rfl (.inr rfl) (.inl rfl)
    · subst e1; subst e2
      exact key 1 v1 1 v2 (.inr ⟨rfl, rfl, hmin v1 a1 a2⟩) (.inr ⟨rfl, rfl, hmin v2 b1 b2⟩) (by rw [hd]; decide) (by rw [hd]; exact canon_zero a1) (canon_zero b1) (.inr rfl) (.inr rfl)
theorem spanText_size {p q : Int × Int} (hp : CC p) (hq : CC q) : (spanText p q).size ≤ 43 := by
  have h1 := ctext_size hp
  have h2 := ctext_size hq
  unfold spanText
  simp only [ByteArray.size_append]
  show 1 + ((ctext p).size + (1 + ((ctext q).size + 1))) ≤ 43
  omega
theorem bound_Text.eq {s a t b : Int} (ha : I64 a) (hb : I64 b) (k : Nat) (hk : 30 ≤ k) : bound_Text.f k s a t b = some (if RS (s, a) (t, b) then spanText (s, a) (t, b) else (⟨#[]⟩ : ByteArray)) := by
  unfold bound_Text.f
  rw [span_Right.eq s a t b k (by omega), Option.bind_some]
  by_cases h : RS (s, a) (t, b)
  · obtain ⟨hp, hq⟩ := h.cc ha hb
    have h1 := ctext_size hp
    have h2 := ctext_size hq
    have z1 : (⟨#[40]⟩ : ByteArray).size = 1 := rfl
    have z2 : (⟨#[44]⟩ : ByteArray).size = 1 := rfl
    have z3 : (⟨#[91]⟩ : ByteArray).size = 1 := rfl
    have e1 : canon s a = (s, a) := h.1
    have e2 : canon t b = (t, b) := h.2.1
    rw [decide_eq_true h, if_pos rfl, if_pos h, show cut_First.f = some (-1, 0) from rfl, Option.bind_some, cut_Text.eq s ha k (by omega), cut_Text.eq t hb k (by omega), e1, e2]
    unfold spanText
    rcases low_cases hp h.2.2 hq with e | ⟨v, e, _, _⟩
    · obtain ⟨rfl, rfl⟩ : s = -1 ∧ a = 0 := ⟨congrArg Prod.fst e, congrArg Prod.snd e⟩
      rw [if_pos (by decide), Option.bind_some, if_pos (by omega), if_pos (by simp only [ByteArray.size_append, z1]; omega), Option.bind_some, if_pos (by simp only [ByteArray.size_append, z1, z2]; omega), if_pos (by simp only [ByteArray.size_append, z1, z2]; omega)]
      simp only [bapp]
      rfl
    · obtain ⟨rfl, rfl⟩ : s = 0 ∧ a = v := ⟨congrArg Prod.fst e, congrArg Prod.snd e⟩
      rw [if_neg (by simp), Option.bind_some, if_pos (by omega), if_pos (by simp only [ByteArray.size_append, z3]; omega), Option.bind_some, if_pos (by simp only [ByteArray.size_append, z3, z2]; omega), if_pos (by simp only [ByteArray.size_append, z3, z2]; omega)]
      simp only [bapp]
      rfl
  · rw [decide_eq_false h, if_neg Bool.false_ne_true, if_neg h]

end Go.Proofs.Ytpeidnkbliafkaa.Print
