import Derived.Test.YtpeidnkbliafkaaPrint1
import Derived.Test.YtpeidnkbliafkaaPrint2
import Derived.Test.YtpeidnkbliafkaaLNum
namespace Go.Proofs.Ytpeidnkbliafkaa.Print
open Go.RowKit Go.Proofs.YtpeidnkbliafkaaW.PrintWords Go.Proofs.YtpeidnkbliafkaaW.PrintLast
set_option linter.unusedVariables false
set_option linter.unusedSimpArgs false
/-- does a word, a sign stand at a place -/
def isW (s : ByteArray) (a : Nat) (w : ByteArray) : Bool := decide (a + w.size ≤ s.size) && ((s.extract a (a + w.size)).toList == w.toList)
def isC (s : ByteArray) (a : Nat) (c : Int) : Bool := decide (a < s.size ∧ bt s (a : Int) = c)
theorem bt_lt' {s : ByteArray} {i : Nat} (h : i < s.size) : bt s (i : Int) = ((s.data[i]'h).toNat : Int) := by simp only [bt, Int.toNat_natCast, dif_pos h]; rfl
theorem ext1 {s : ByteArray} {a : Nat} (h : a < s.size) : (s.extract a (a + 1)).toList = [s.data[a]'h] := by
  rw [ByteArray.toList_eq]
  have h' : a < s.data.size := h
  apply List.ext_getElem
  · simp [ByteArray.data_extract]; omega
  · intro i h1 h2
    have h0 : i = 0 := by simpa using h2
    subst h0
    simp [ByteArray.data_extract]
theorem isW_one (s : ByteArray) (a : Nat) (c : UInt8) : isW s a ⟨#[c]⟩ = isC s a (c.toNat : Int) := by
  have hz : (⟨#[c]⟩ : ByteArray).size = 1 := rfl
  unfold isW isC
  rw [hz]
  by_cases h : a < s.size
  · rw [decide_eq_true (show a + 1 ≤ s.size by omega), Bool.true_and, ext1 h, bt_lt' h, Bool.eq_iff_iff, beq_iff_eq, decide_eq_true_eq, ByteArray.toList_eq]
    constructor
    · intro e
      have e2 : s.data[a]'h = c := by simpa using e
      exact ⟨h, by rw [e2]⟩
    · intro e
      have e2 : s.data[a]'h = c := UInt8.toNat_inj.1 (by have := e.2; omega)
      simp [e2]
  · rw [decide_eq_false (show ¬ (a + 1 ≤ s.size) by omega), Bool.false_and, decide_eq_false (fun g => h g.1)]
theorem isC_lt {s : ByteArray} {a : Nat} {c : Int} (h : isC s a c = true) : a < s.size ∧ bt s (a : Int) = c := of_decide_eq_true h
theorem bound_reader_word.amiss (s : ByteArray) (a : Int) (o : Bool) (w : ByteArray) : bound_reader_word.f s a true o w = some (false, s, a, true, o) := by
  unfold bound_reader_word.f; rw [if_pos rfl]
theorem bound_reader_word.eq {s : ByteArray} (hs : s.size ≤ 140737488351232) {a : Nat} (ha : a ≤ s.size) (o : Bool) (w : ByteArray) (hw : w.size ≤ 1000) :
    bound_reader_word.f s (a : Int) false o w = some (isW s a w, s, ((if isW s a w = true then a + w.size else a : Nat) : Int), false, o) := by
  unfold bound_reader_word.f isW
  rw [if_neg Bool.false_ne_true, wrap64_of (show I64 ((s.size : Int) - (a : Int)) by unfold I64; omega)]
  by_cases h : a + w.size ≤ s.size
  · have ea : wrap64 ((a : Int) + (w.size : Int)) = ((a + w.size : Nat) : Int) := by rw [wrap64_of (by unfold I64; omega)]; omega
    rw [if_pos (by omega), ea, if_pos (by omega), if_pos (by omega), if_pos (by omega), decide_eq_true h, Bool.true_and, Int.toNat_natCast, Int.toNat_natCast]
    by_cases e : (s.extract a (a + w.size)).toList = w.toList
    · rw [if_pos e, beq_iff_eq.2 e]; rfl
    · rw [if_neg e, beq_eq_false_iff_ne.2 e]; rfl
  · rw [if_neg (by omega), decide_eq_false h, Bool.false_and]; rfl
theorem bound_reader_sign.amiss (s : ByteArray) (a : Int) (o : Bool) (w : ByteArray) (k : Nat) : bound_reader_sign.f k s a true o w = some (0, s, a, true, o) := by
  unfold bound_reader_sign.f; rw [if_pos rfl]
theorem wrap_succ {s : ByteArray} (hs : s.size ≤ 140737488351232) {a : Nat} (ha : a ≤ s.size) : wrap64 ((a : Int) + 1) = ((a + 1 : Nat) : Int) := by rw [wrap64_of (by unfold I64; omega)]; omega
/-- one round of `sign` -/
theorem bound_reader_sign.step {s : ByteArray} (hs : s.size ≤ 140737488351232) {a : Nat} (ha : a ≤ s.size) (o : Bool) (w : ByteArray) (hw : w.size ≤ 1000) {i : Nat} (hi : i < w.size) (k : Nat) :
    bound_reader_sign.l0 (k + 1) w (w.size : Int) (i : Int) s (a : Int) false o = if isC s a (bt w (i : Int)) = true then some (bt w (i : Int), s, ((a + 1 : Nat) : Int), false, o) else bound_reader_sign.l0 k w (w.size : Int) ((i + 1 : Nat) : Int) s (a : Int) false o := by
  have e1 : wrap64 ((i : Int) + 1) = ((i + 1 : Nat) : Int) := by rw [wrap64_of (by unfold I64; omega)]; omega
  rw [bound_reader_sign.l0, if_pos (by omega), e1]
  unfold isC
  by_cases h : a < s.size
  · rw [if_pos (by omega), if_pos (by omega), if_pos (by omega), if_pos (by omega)]
    by_cases e : bt s (a : Int) = bt w (i : Int)
    · rw [if_pos e, decide_eq_true ⟨h, e⟩, if_pos rfl, wrap_succ hs ha]
    · rw [if_neg e, decide_eq_false (fun g => e g.2), if_neg Bool.false_ne_true]
  · rw [if_neg (by omega), decide_eq_false (fun g => h g.1), if_neg Bool.false_ne_true]
theorem bound_reader_sign.stop (s : ByteArray) (a : Int) (o : Bool) (w : ByteArray) (k : Nat) : bound_reader_sign.l0 (k + 1) w (w.size : Int) (w.size : Int) s a false o = some (0, s, a, true, o) := by
  rw [bound_reader_sign.l0, if_neg (by omega)]
theorem bound_reader_sign.one {s : ByteArray} (hs : s.size ≤ 140737488351232) {a : Nat} (ha : a ≤ s.size) (o : Bool) (c : UInt8) (k : Nat) (hk : 2 ≤ k) :
    bound_reader_sign.f k s (a : Int) false o ⟨#[c]⟩ = if isC s a (c.toNat : Int) = true then some ((c.toNat : Int), s, ((a + 1 : Nat) : Int), false, o) else some (0, s, (a : Int), true, o) := by
  obtain ⟨k, rfl⟩ : ∃ j, k = j + 2 := ⟨k - 2, by omega⟩
  unfold bound_reader_sign.f
  rw [if_neg Bool.false_ne_true]
  exact (bound_reader_sign.step hs ha o ⟨#[c]⟩ (by show 1 ≤ 1000; decide) (i := 0) (by show 0 < 1; decide) (k + 1)).trans (by
    have e : bound_reader_sign.l0 (k + 1) ⟨#[c]⟩ (((⟨#[c]⟩ : ByteArray).size : Nat) : Int) ((0 + 1 : Nat) : Int) s (a : Int) false o = some (0, s, (a : Int), true, o) := bound_reader_sign.stop s a o ⟨#[c]⟩ k
    rw [e]; rfl)
theorem bound_reader_sign.two {s : ByteArray} (hs : s.size ≤ 140737488351232) {a : Nat} (ha : a ≤ s.size) (o : Bool) (c d : UInt8) (k : Nat) (hk : 3 ≤ k) :
    bound_reader_sign.f k s (a : Int) false o ⟨#[c, d]⟩ = if isC s a (c.toNat : Int) = true then some ((c.toNat : Int), s, ((a + 1 : Nat) : Int), false, o) else if isC s a (d.toNat : Int) = true then some ((d.toNat : Int), s, ((a + 1 : Nat) : Int), false, o) else some (0, s, (a : Int), true, o) := by
  obtain ⟨k, rfl⟩ : ∃ j, k = j + 3 := ⟨k - 3, by omega⟩
  unfold bound_reader_sign.f
  rw [if_neg Bool.false_ne_true]
  refine (bound_reader_sign.step hs ha o ⟨#[c, d]⟩ (by show 2 ≤ 1000; decide) (i := 0) (by show 0 < 2; decide) (k + 2)).trans ?_
  have e := bound_reader_sign.step hs ha o ⟨#[c, d]⟩ (by show 2 ≤ 1000; decide) (i := 1) (by show 1 < 2; decide) (k + 1)
  have e2 : bound_reader_sign.l0 (k + 1) ⟨#[c, d]⟩ (((⟨#[c, d]⟩ : ByteArray).size : Nat) : Int) ((1 + 1 : Nat) : Int) s (a : Int) false o = some (0, s, (a : Int), true, o) := bound_reader_sign.stop s a o ⟨#[c, d]⟩ k
  rw [e2] at e
  show (if isC s a (c.toNat : Int) = true then _ else bound_reader_sign.l0 (k + 2) ⟨#[c, d]⟩ (((⟨#[c, d]⟩ : ByteArray).size : Nat) : Int) ((1 : Nat) : Int) s (a : Int) false o) = _
  rw [e]; rfl
/-- the place behind blanks -/
def blk (s : ByteArray) : Nat → Nat → Nat
  | 0, a => a
  | n + 1, a => if isC s a 32 = true then blk s n (a + 1) else a
def blO (o : Bool) (s : ByteArray) (a : Nat) : Nat := if o = true then blk s (s.size - a) a else a
theorem blk_le (s : ByteArray) : ∀ (n a : Nat), a ≤ s.size → a ≤ blk s n a ∧ blk s n a ≤ s.size
  | 0, a, h => ⟨Nat.le_refl _, h⟩
  | n + 1, a, h => by
    unfold blk
    by_cases e : isC s a 32 = true
    · rw [if_pos e]
      have := blk_le s n (a + 1) (isC_lt e).1
      omega
    · rw [if_neg e]; exact ⟨Nat.le_refl _, h⟩
theorem blO_le (o : Bool) {s : ByteArray} {a : Nat} (h : a ≤ s.size) : a ≤ blO o s a ∧ blO o s a ≤ s.size := by
  unfold blO
  split
  · exact blk_le s _ a h
  · exact ⟨Nat.le_refl _, h⟩
theorem bound_reader_blanks.amiss (s : ByteArray) (a : Int) (o : Bool) (k : Nat) (hk : 1 ≤ k) : bound_reader_blanks.f k s a true o = some (s, a, true, o) := by
  obtain ⟨k, rfl⟩ : ∃ j, k = j + 1 := ⟨k - 1, by omega⟩
  unfold bound_reader_blanks.f
  rw [bound_reader_blanks.l0]
  by_cases h : o = true
  · rw [if_pos h, if_pos rfl]
  · rw [if_neg h]
theorem bound_reader_blanks.l0_eq {s : ByteArray} (hs : s.size ≤ 140737488351232) : ∀ (n a k : Nat), a + n = s.size → n < k → bound_reader_blanks.l0 k s (a : Int) false true = some (s, (blk s n a : Int), false, true)
  | 0, a, k, ha, hk => by
    obtain ⟨k, rfl⟩ : ∃ j, k = j + 1 := ⟨k - 1, by omega⟩
    rw [bound_reader_blanks.l0, if_pos rfl, if_neg Bool.false_ne_true, if_neg (by omega)]; rfl
  | n + 1, a, k, ha, hk => by
    obtain ⟨k, rfl⟩ : ∃ j, k = j + 1 := ⟨k - 1, by omega⟩
    rw [bound_reader_blanks.l0, if_pos rfl, if_neg Bool.false_ne_true, if_pos (by omega), if_pos (by omega), blk]
    unfold isC
    by_cases e : bt s (a : Int) = 32
    · rw [if_pos e, decide_eq_true ⟨by omega, e⟩, if_pos rfl, wrap_succ hs (by omega)]
      exact bound_reader_blanks.l0_eq hs n (a + 1) k (by omega) (by omega)
    · rw [if_neg e, decide_eq_false (fun g => e g.2), if_neg Bool.false_ne_true]
theorem bound_reader_blanks.eq {s : ByteArray} (hs : s.size ≤ 140737488351232) {a : Nat} (ha : a ≤ s.size) (o : Bool) (k : Nat) (hk : s.size + 1 ≤ k) : bound_reader_blanks.f k s (a : Int) false o = some (s, (blO o s a : Int), false, o) := by
  unfold bound_reader_blanks.f blO
  cases o
  · obtain ⟨k, rfl⟩ : ∃ j, k = j + 1 := ⟨k - 1, by omega⟩
    rw [bound_reader_blanks.l0, if_neg Bool.false_ne_true, if_neg Bool.false_ne_true]
  · rw [if_pos rfl]
    exact bound_reader_blanks.l0_eq hs (s.size - a) a k (by omega) (by omega)

end Go.Proofs.Ytpeidnkbliafkaa.Print
