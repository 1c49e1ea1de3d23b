import Derived.Test.YtpeidnkbliafkaaPrint2
import Derived.Test.YtpeidnkbliafkaaPrint3
import Derived.Test.YtpeidnkbliafkaaPrint9
import Derived.Test.YtpeidnkbliafkaaLBndW
import Derived.Test.YtpeidnkbliafkaaLCutRd
import Derived.Test.YtpeidnkbliafkaaHBnd0
namespace Go.Proofs.Ytpeidnkbliafkaa.Print
open Go.RowKit Go.Proofs.YtpeidnkbliafkaaW.PrintWords Go.Proofs.YtpeidnkbliafkaaW.PrintLast
set_option linter.unusedVariables false
set_option linter.unusedSimpArgs false
/-- the number with which a text begins (loosely: any number; else: a cut's), and how long it is; no sign: none -/
def nv (o : Bool) (t : ByteArray) : Int × Int := if o = true then (sat_Read.f 60 t).getD (0, 0) else (bound_plain.f 500 t).getD (0, 0)
theorem readOf_range {s : ByteArray} {m : Nat} (hl : Longest s m) : 0 ≤ (readOf s m).2 ∧ (readOf s m).2 ≤ s.size ∧ I64 (readOf s m).1 := by
  by_cases hp : ParseOK s m
  · have hin := ParseOK.inside hp
    rw [readOf_ok hl hp]
    have h0 := hv_nonneg (s := s) (a := fromOf s) (n := m) hl.good.dg
    have h1 := hl.good.le
    have h2 := (mostOf_le s).1
    refine ⟨by show (0 : Int) ≤ ((fromOf s + m : Nat) : Int); omega, by show ((fromOf s + m : Nat) : Int) ≤ _; omega, ?_⟩
    show I64 (sgnOf s (hv s (fromOf s) m))
    unfold sgnOf I64
    unfold mostOf at h1
    split
    · rw [if_pos (by assumption)] at h1; omega
    · rw [if_neg (by assumption)] at h1; omega
  · rw [(readOf_no hl hp).1]; exact ⟨by decide, by show (0 : Int) ≤ _; omega, by show I64 0; exact ⟨by decide, by decide⟩⟩
theorem num_loose {t : ByteArray} (ht : t.size ≤ 140737488351232) : (∀ k, 60 ≤ k → sat_Read.f k t = some (nv true t)) ∧ (∀ k, 300 ≤ k → bocageref01_Read.f k t = some (nv true t)) ∧ ∃ m, Longest t m ∧ nv true t = readOf t m := by
  obtain ⟨m, hl, hr⟩ := sat_Read.eq ht 60 (Nat.le_refl _)
  have e : nv true t = readOf t m := by unfold nv; rw [if_pos rfl, hr]; rfl
  refine ⟨fun k hk => ?_, fun k hk => ?_, m, hl, e⟩
  · rw [e]; exact at_rounds (g := fun k => sat_Read.f k t) (fun k => sat_Read.mono t k) hk hr
  · rw [e]; exact bocageref01_Read.eq hl ht k hk
theorem num_strict {t : ByteArray} (ht : t.size ≤ 140737488351232) : ∃ r, CutAt t r ∧ nv false t = (if r.1 = 0 then (r.2.1, r.2.2) else (0, 0)) ∧ (∀ k, 500 ≤ k → bound_plain.f k t = some (nv false t)) ∧ (∀ k, 500 ≤ k → bocageref02_Read.f k t = some r) := by
  obtain ⟨r, r1, r2, r3⟩ := both_read ht 500 (Nat.le_refl _)
  have hp : ∀ k, 500 ≤ k → bound_plain.f k t = some (if r.1 = 0 then (r.2.1, r.2.2) else (0, 0)) := by
    intro k hk
    have := at_rounds (g := fun k => cut_Read.f k t) (fun k => cut_Read.mono t k) hk r1
    unfold bound_plain.f
    rw [show cut_Read.f k t = some r from this, Option.bind_some]
    split <;> rfl
  have e : nv false t = (if r.1 = 0 then (r.2.1, r.2.2) else (0, 0)) := by unfold nv; rw [if_neg Bool.false_ne_true, hp 500 (Nat.le_refl _)]; rfl
  refine ⟨r, r3, e, fun k hk => by rw [e]; exact hp k hk, fun k hk => ?_⟩
  obtain ⟨r', q1, q2, _⟩ := both_read ht k hk
  have := at_rounds (g := fun k => cut_Read.f k t) (fun k => cut_Read.mono t k) hk r1
  rw [show cut_Read.f k t = some r from this] at q1
  rw [q2, ← q1]
theorem sgn_I64 {s : ByteArray} {n : Nat} (h : ParseOK s n) : I64 (sgnOf s (hv s (fromOf s) n)) := by
  have h0 := hv_nonneg (s := s) (a := fromOf s) (n := n) h.2.1.dg
  have h1 := h.2.1.le
  unfold sgnOf I64
  unfold mostOf at h1
  split
  · rw [if_pos (by assumption)] at h1; omega
  · rw [if_neg (by assumption)] at h1; omega
theorem nv_range (o : Bool) {t : ByteArray} (ht : t.size ≤ 140737488351232) : 0 ≤ (nv o t).2 ∧ (nv o t).2 ≤ t.size ∧ I64 (nv o t).1 := by
  cases o
  · obtain ⟨r, r1, r2, _, _⟩ := num_strict ht
    rw [r2]
    rcases r1 with ⟨rfl, _⟩ | ⟨rfl, _⟩ | ⟨j, rfl, h1, h2, _, _⟩ | rfl
    · rw [if_neg (by decide)]; exact ⟨by decide, by show (0 : Int) ≤ _; omega, by exact ⟨by decide, by decide⟩⟩
    · rw [if_neg (by decide)]; exact ⟨by decide, by show (0 : Int) ≤ _; omega, by exact ⟨by decide, by decide⟩⟩
    · rw [if_pos rfl]
      exact ⟨by show (0 : Int) ≤ (j : Int); omega, by show (j : Int) ≤ _; omega, sgn_I64 h1.2.1⟩
    · rw [if_pos rfl]; exact ⟨by decide, by show (0 : Int) ≤ _; omega, by exact ⟨by decide, by decide⟩⟩
  · obtain ⟨_, _, m, hl, e⟩ := num_loose ht
    rw [e]; exact readOf_range hl
theorem rest_size (s : ByteArray) (a : Nat) : (s.extract a s.size).size = s.size - a := by simp [ByteArray.size_extract]
/-- a number read by a reader -/
theorem bound_num.eq {q : ByteArray → Option (Int × Int)} {s : ByteArray} (hs : s.size ≤ 140737488351232) {a : Nat} (ha : a ≤ s.size) (o o' : Bool) (hq : q (s.extract a s.size) = some (nv o (s.extract a s.size))) :
    bound_num.f q s (a : Int) false o' = some ((nv o (s.extract a s.size)).1, s, ((a + (nv o (s.extract a s.size)).2.toNat : Nat) : Int), ((nv o (s.extract a s.size)).2 == 0), o') := by
  have hr := nv_range o (t := s.extract a s.size) (by rw [rest_size]; omega)
  rw [rest_size] at hr
  unfold bound_num.f
  rw [if_neg Bool.false_ne_true, if_pos (by omega), if_pos (by omega), Int.toNat_natCast, hq, Option.bind_some]
  generalize nv o (s.extract a s.size) = v at *
  rw [wrap64_of (show I64 ((a : Int) + v.2) by unfold I64; omega), show (a : Int) + v.2 = ((a + v.2.toNat : Nat) : Int) by omega]
theorem bound_num.amiss (q : ByteArray → Option (Int × Int)) (s : ByteArray) (a : Int) (o : Bool) : bound_num.f q s a true o = some (0, s, a, true, o) := by
  unfold bound_num.f; rw [if_pos rfl]
theorem Pre_of {s : ByteArray} {a : Nat} {w : ByteArray} (hw : w.size = 4) (h : isW s a w = true) : Pre (s.extract a s.size) w := by
  unfold isW at h
  rw [Bool.and_eq_true, decide_eq_true_eq, beq_iff_eq, hw] at h
  refine ⟨by rw [rest_size]; omega, ?_⟩
  have := toList_inj h.2
  rw [← this]
  apply ByteArray.ext
  simp only [ByteArray.data_extract]
  rw [Array.extract_extract]
  congr 1
  have : s.data.size = s.size := rfl
  omega
/-- where a word of infinity stands no cut's number does -/
theorem nv_inf {s : ByteArray} (hs : s.size ≤ 140737488351232) {a : Nat} {w : ByteArray} (hw : w = MI ∨ w = PI) (h : isW s a w = true) : (nv false (s.extract a s.size)).2 = 0 := by
  have hp := Pre_of (by rcases hw with rfl | rfl <;> rfl) h
  obtain ⟨r, r1, r2, _, _⟩ := num_strict (t := s.extract a s.size) (by rw [rest_size]; omega)
  rw [r2]
  rcases r1 with ⟨rfl, _⟩ | ⟨rfl, _⟩ | ⟨j, rfl, h1, h2, h3, h4⟩ | rfl
  · rfl
  · rfl
  · rcases hw with rfl | rfl
    · exact absurd hp h3
    · exact absurd hp h4
  · rfl

end Go.Proofs.Ytpeidnkbliafkaa.Print
