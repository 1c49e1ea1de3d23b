import Derived.Test.YtpeidnkbliafkaaPrint8
import Derived.Test.YtpeidnkbliafkaaLBndX
import Derived.Test.YtpeidnkbliafkaaLBndR
namespace Go.Proofs.Ytpeidnkbliafkaa.Print
open Go.RowKit Go.Proofs.YtpeidnkbliafkaaW.PrintWords Go.Proofs.YtpeidnkbliafkaaW.PrintLast
set_option linter.unusedVariables false
set_option linter.unusedSimpArgs false
theorem bocageref04_Text.eq {s a t b : Int} (ha : I64 a) (hb : I64 b) (k : Nat) (hk : 30 ≤ k) : bocageref04_Text.f k s a t b = some (if RS (s, a) (t, b) then spanText (s, a) (t, b) else (⟨#[]⟩ : ByteArray)) := by
  unfold bocageref04_Text.f
  rw [bocageref03_Right.eq s a t b k (by omega), Option.bind_some]
  by_cases h : RS (s, a) (t, b)
  · obtain ⟨hp, hq⟩ := h.cc ha hb
    have h1 := ctext_size hp
    have h2 := ctext_size hq
    have z1 : (⟨#[40, 45, 105, 110, 102, 44]⟩ : ByteArray).size = 6 := rfl
    have z2 : (⟨#[44]⟩ : ByteArray).size = 1 := rfl
    have z3 : (⟨#[91]⟩ : ByteArray).size = 1 := rfl
    have e1 : canon s a = (s, a) := h.1
    have e2 : canon t b = (t, b) := h.2.1
    rw [decide_eq_true h, if_pos rfl, if_pos h, bocageref02_Text.eq s ha k (by omega), bocageref02_Text.eq t hb k (by omega), e1, e2]
    unfold spanText
    rcases low_cases hp h.2.2 hq with e | ⟨v, e, _, _⟩
    · obtain ⟨rfl, rfl⟩ : s = -1 ∧ a = 0 := ⟨congrArg Prod.fst e, congrArg Prod.snd e⟩
      rw [if_pos (by decide), Option.bind_some, if_pos (by omega), if_pos (by simp only [ByteArray.size_append, z1]; omega)]
      have e6 : (⟨#[40, 45, 105, 110, 102, 44]⟩ : ByteArray) = (⟨#[40]⟩ : ByteArray) ++ (MI ++ (⟨#[44]⟩ : ByteArray)) := by decide +kernel
      rw [e6]
      simp only [bapp]
      rfl
    · obtain ⟨rfl, rfl⟩ : s = 0 ∧ a = v := ⟨congrArg Prod.fst e, congrArg Prod.snd e⟩
      rw [if_neg (by decide), Option.bind_some, if_pos (by omega), if_pos (by simp only [ByteArray.size_append, z3]; omega), Option.bind_some, if_pos (by simp only [ByteArray.size_append, z3, z2]; omega), if_pos (by simp only [ByteArray.size_append, z3, z2]; omega)]
      simp only [bapp]
      rfl
  · rw [decide_eq_false h, if_neg Bool.false_ne_true, if_neg h]

end Go.Proofs.Ytpeidnkbliafkaa.Print
