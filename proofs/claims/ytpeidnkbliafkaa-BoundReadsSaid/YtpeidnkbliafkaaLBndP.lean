import Derived.Test.YtpeidnkbliafkaaPrint2
import Derived.Test.YtpeidnkbliafkaaLBndS
import Derived.Test.YtpeidnkbliafkaaLBndN
import Derived.Test.YtpeidnkbliafkaaHBnd2
import Derived.Test.YtpeidnkbliafkaaHBnd4
namespace Go.Proofs.Ytpeidnkbliafkaa.Print
open Go.RowKit Go.Proofs.YtpeidnkbliafkaaW.PrintWords Go.Proofs.YtpeidnkbliafkaaW.PrintLast
set_option linter.unusedVariables false
set_option linter.unusedSimpArgs false
/-- an end at a place: no number, or a number, and the place behind it -/
def endS (o : Bool) (s : ByteArray) (a : Nat) (inf : ByteArray) : Option (Int × Int × Nat) :=
  if isW s a inf = true then some (0, 0, a + 4) else
  if (nv o (s.extract a s.size)).2 = 0 then none else some (1, (nv o (s.extract a s.size)).1, a + (nv o (s.extract a s.size)).2.toNat)
def errS (a : Nat) : Int × Int × Int × Int × Int × Int := (0, 0, 0, 0, (a : Int), 40)
def tellS (l1 l2 h1 h2 : Int) (sec b : Nat) : Int × Int × Int × Int × Int × Int :=
  if (spanB l1 l2 h1 h2).2.2.2.2 = 0 then ((spanB l1 l2 h1 h2).1, (spanB l1 l2 h1 h2).2.1, (spanB l1 l2 h1 h2).2.2.1, (spanB l1 l2 h1 h2).2.2.2.1, (b : Int), 0) else (0, 0, 0, 0, (sec : Int), (spanB l1 l2 h1 h2).2.2.2.2)
/-- behind the second end -/
def rd3 (o : Bool) (s : ByteArray) (l1 l2 : Int) (c : Nat) (k2 v2 : Int) (nx : Nat) : Int × Int × Int × Int × Int × Int :=
  if o = true ∧ isC s (blO o s nx) 93 = true then tellS l1 l2 (if k2 = 1 then 2 else k2) v2 c (blO o s nx + 1)
  else if isC s (blO o s nx) 41 = true then tellS l1 l2 k2 v2 c (blO o s nx + 1) else errS (blO o s nx)
/-- behind the first end -/
def rd2 (o : Bool) (s : ByteArray) (l1 l2 : Int) (nx : Nat) : Int × Int × Int × Int × Int × Int :=
  if isC s (blO o s nx) 44 = true then
    match endS o s (blO o s (blO o s nx + 1)) PI with
    | none => errS (blO o s (blO o s nx + 1))
    | some r => rd3 o s l1 l2 (blO o s (blO o s nx + 1)) r.1 r.2.1 r.2.2
  else errS (blO o s nx)
/-- a span's text -/
def rd1 (o : Bool) (s : ByteArray) (op : Bool) : Int × Int × Int × Int × Int × Int :=
  match endS o s (blO o s 1) MI with
  | none => errS (blO o s 1)
  | some r => if o = false ∧ (op != isW s (blO o s 1) MI) = true then errS (blO o s 1) else rd2 o s (if r.1 = 1 ∧ op = false then 2 else r.1) r.2.1 r.2.2
def rdS (o : Bool) (s : ByteArray) : Int × Int × Int × Int × Int × Int :=
  if isC s 0 40 = true then rd1 o s true else if isC s 0 91 = true then rd1 o s false else errS 0
theorem endS_le {o : Bool} {s : ByteArray} (hs : s.size ≤ 140737488351232) {a : Nat} (ha : a ≤ s.size) {w : ByteArray} (hw : w.size = 4) {r : Int × Int × Nat} (h : endS o s a w = some r) : r.2.2 ≤ s.size ∧ I64 r.2.1 ∧ (r.1 = 0 ∨ r.1 = 1) := by
  unfold endS at h
  by_cases e : isW s a w = true
  · rw [if_pos e] at h
    obtain rfl := Option.some.inj h
    unfold isW at e
    rw [Bool.and_eq_true, decide_eq_true_eq, hw] at e
    exact ⟨e.1, ⟨by show (-9223372036854775808 : Int) ≤ 0; decide, by show (0 : Int) ≤ 9223372036854775807; decide⟩, .inl rfl⟩
  · rw [if_neg e] at h
    have hr := nv_range o (t := s.extract a s.size) (by rw [rest_size]; omega)
    rw [rest_size] at hr
    by_cases e2 : (nv o (s.extract a s.size)).2 = 0
    · rw [if_pos e2] at h; cases h
    · rw [if_neg e2] at h
      obtain rfl := Option.some.inj h
      exact ⟨by show a + (nv o (s.extract a s.size)).2.toNat ≤ s.size; omega, hr.2.2, .inr rfl⟩
theorem bound_told.eq {l2 h2 : Int} (hl : I64 l2) (hh : I64 h2) (l1 h1 : Int) (sec b : Nat) (k : Nat) (hk : 5 ≤ k) : bound_told.f k (b : Int) false l1 l2 h1 h2 (sec : Int) = some (tellS l1 l2 h1 h2 sec b) := by
  unfold bound_told.f tellS
  rw [if_neg Bool.false_ne_true, bound_Span.eq hl hh l1 h1 k hk, Option.bind_some]
  generalize spanB l1 l2 h1 h2 = t
  by_cases e : t.2.2.2.2 = 0
  · rw [if_pos e, if_pos e]
  · rw [if_neg e, if_neg e]
theorem bound_told.amiss (l1 l2 h1 h2 sec : Int) (b : Nat) (k : Nat) : bound_told.f k (b : Int) true l1 l2 h1 h2 sec = some (errS b) := by
  unfold bound_told.f; rw [if_pos rfl]; rfl
theorem bound_Read.j1_amiss (l1 l2 h1 h2 sec : Int) (s : ByteArray) (a : Nat) (o : Bool) (k : Nat) : bound_Read.j1 k l1 l2 h1 h2 sec s (a : Int) true o = some (errS a) := by
  unfold bound_Read.j1
  rw [bound_reader_sign.amiss, Option.bind_some]
  exact bound_told.amiss _ _ _ _ _ _ _
theorem bound_Read.j0_amiss (l1 l2 : Int) (s : ByteArray) (a : Nat) (o : Bool) (k : Nat) : bound_Read.j0 k l1 l2 s (a : Int) true o = some (errS a) := by
  unfold bound_Read.j0
  rw [bound_reader_sign.amiss, Option.bind_some, bound_reader_word.amiss, Option.bind_some, if_neg Bool.false_ne_true, bound_num.amiss, Option.bind_some]
  exact bound_Read.j1_amiss _ _ _ _ _ _ _ _ _
theorem isC_le {s : ByteArray} {a : Nat} {c : Int} (h : isC s a c = true) : a + 1 ≤ s.size := (isC_lt h).1
theorem blO_false (s : ByteArray) (a : Nat) : blO false s a = a := rfl
theorem bound_Read.j1_eq {s : ByteArray} (hs : s.size ≤ 140737488351232) {l2 h2 : Int} (hl : I64 l2) (hh : I64 h2) (l1 h1 : Int) (sec : Nat) {a : Nat} (ha : a ≤ s.size) (k : Nat) (hk : 600 ≤ k) :
    bound_Read.j1 k l1 l2 h1 h2 (sec : Int) s (a : Int) false false = some (rd3 false s l1 l2 sec h1 h2 a) := by
  unfold bound_Read.j1 rd3
  rw [bound_reader_sign.one hs ha false 41 k (by omega), show ((41 : UInt8).toNat : Int) = 41 from rfl, if_neg (show ¬ (false = true ∧ _) from fun h => Bool.false_ne_true h.1), blO_false]
  by_cases e : isC s a 41 = true
  · rw [if_pos e, if_pos e, Option.bind_some]
    exact bound_told.eq hl hh l1 h1 sec (a + 1) k (by omega)
  · rw [if_neg e, if_neg e, Option.bind_some]
    exact bound_told.amiss _ _ _ _ _ _ _
theorem bound_Read.j0_eq {s : ByteArray} (hs : s.size ≤ 140737488351232) {l2 : Int} (hl : I64 l2) (l1 : Int) {a : Nat} (ha : a ≤ s.size) (k : Nat) (hk : 600 ≤ k) :
    bound_Read.j0 k l1 l2 s (a : Int) false false = some (rd2 false s l1 l2 a) := by
  unfold bound_Read.j0 rd2
  rw [bound_reader_sign.one hs ha false 44 k (by omega), show ((44 : UInt8).toNat : Int) = 44 from rfl, blO_false, blO_false]
  by_cases e : isC s a 44 = true
  · have ha1 := isC_le e
    rw [if_pos e, if_pos e, Option.bind_some]
    show (bound_reader_word.f s ((a + 1 : Nat) : Int) false false PI).bind _ = _
    rw [bound_reader_word.eq hs ha1 false PI (by decide), Option.bind_some]
    unfold endS
    by_cases w : isW s (a + 1) PI = true
    · have hle := (endS_le (o := false) hs ha1 (w := PI) (by decide) (r := (0, 0, a + 1 + 4)) (by unfold endS; rw [if_pos w])).1
      simp only [w, ↓reduceIte]
      exact bound_Read.j1_eq hs hl ⟨by decide, by decide⟩ l1 0 (a + 1) hle k hk
    · simp only [Bool.eq_false_iff.2 w, Bool.false_eq_true, ↓reduceIte]
      obtain ⟨r, _, _, hp, _⟩ := num_strict (t := s.extract (a + 1) s.size) (by rw [rest_size]; omega)
      rw [bound_num.eq hs ha1 false false (hp k (by omega)), Option.bind_some]
      have hr := nv_range false (t := s.extract (a + 1) s.size) (by rw [rest_size]; omega)
      rw [rest_size] at hr
      by_cases z : (nv false (s.extract (a + 1) s.size)).2 = 0
      · rw [if_pos z]
        show bound_Read.j1 k l1 l2 1 _ ((a + 1 : Nat) : Int) s ((a + 1 + (nv false (s.extract (a + 1) s.size)).2.toNat : Nat) : Int) ((nv false (s.extract (a + 1) s.size)).2 == 0) false = _
        rw [z]
        exact bound_Read.j1_amiss _ _ _ _ _ _ _ _ _
      · rw [if_neg z]
        show bound_Read.j1 k l1 l2 1 _ ((a + 1 : Nat) : Int) s ((a + 1 + (nv false (s.extract (a + 1) s.size)).2.toNat : Nat) : Int) ((nv false (s.extract (a + 1) s.size)).2 == 0) false = _
        rw [beq_eq_false_iff_ne.2 z]
        exact bound_Read.j1_eq hs hl hr.2.2 l1 1 (a + 1) (by omega) k hk
  · rw [if_neg e, if_neg e, Option.bind_some]
    show (bound_reader_word.f s (a : Int) true false PI).bind _ = _
    rw [bound_reader_word.amiss, Option.bind_some, if_neg Bool.false_ne_true, bound_num.amiss, Option.bind_some]
    exact bound_Read.j1_amiss _ _ _ _ _ _ _ _ _
theorem bound_Read.eq {s : ByteArray} (hs : s.size ≤ 140737488351232) (k : Nat) (hk : 600 ≤ k) : bound_Read.f k s = some (rdS false s) := by
  unfold bound_Read.f rdS
  rw [show (0 : Int) = ((0 : Nat) : Int) from rfl, bound_reader_sign.two hs (Nat.zero_le _) false 40 91 k (by omega), show ((40 : UInt8).toNat : Int) = 40 from rfl, show ((91 : UInt8).toNat : Int) = 91 from rfl]
  have z64 : I64 0 := ⟨by decide, by decide⟩
  by_cases e : isC s 0 40 = true
  · have h1 := isC_le e
    rw [if_pos e, if_pos e, Option.bind_some, if_pos rfl]
    show (bound_reader_word.f s ((1 : Nat) : Int) false false MI).bind _ = _
    rw [bound_reader_word.eq hs h1 false MI (by decide), Option.bind_some]
    unfold rd1 endS
    rw [blO_false]
    by_cases w : isW s 1 MI = true
    · have hle := (endS_le (o := false) hs h1 (w := MI) (by decide) (r := (0, 0, 1 + 4)) (by unfold endS; rw [if_pos w])).1
      have w0 : isW s (0 + 1) MI = true := w
      simp only [w, w0, ↓reduceIte]
      refine (show bound_Read.j0 k 0 0 s ((5 : Nat) : Int) false false = _ from bound_Read.j0_eq hs z64 0 hle k hk).trans ?_
      first | rfl | simp
    · have w0 : isW s (0 + 1) MI = false := Bool.eq_false_iff.2 w
      simp only [Bool.eq_false_iff.2 w, w0, Bool.false_eq_true, ↓reduceIte]
      show bound_Read.j0 k 0 0 s ((1 : Nat) : Int) true false = _
      rw [bound_Read.j0_amiss]
      split <;> first | rfl | simp
  · rw [if_neg e, if_neg e]
    by_cases f : isC s 0 91 = true
    · have h1 := isC_le f
      rw [if_pos f, if_pos f, Option.bind_some, if_neg (show ¬ ((91 : Int) = 40) by decide)]
      obtain ⟨r, _, _, hp, _⟩ := num_strict (t := s.extract 1 s.size) (by rw [rest_size]; omega)
      have hr := nv_range false (t := s.extract 1 s.size) (by rw [rest_size]; omega)
      rw [rest_size] at hr
      show (bound_num.f (bound_plain.f k) s ((1 : Nat) : Int) false false).bind _ = _
      rw [bound_num.eq hs h1 false false (hp k (by omega)), Option.bind_some]
      unfold rd1 endS
      rw [blO_false]
      by_cases w : isW s 1 MI = true
      · have z := nv_inf hs (.inl rfl) w
        rw [if_pos w]
        show bound_Read.j0 k 2 _ s ((1 + (nv false (s.extract 1 s.size)).2.toNat : Nat) : Int) ((nv false (s.extract 1 s.size)).2 == 0) false = some (if false = false ∧ (false != isW s 1 MI) = true then _ else _)
        rw [z, w, if_pos ⟨rfl, rfl⟩]
        exact bound_Read.j0_amiss _ _ _ _ _ _
      · rw [if_neg w]
        show bound_Read.j0 k 2 _ s ((1 + (nv false (s.extract 1 s.size)).2.toNat : Nat) : Int) ((nv false (s.extract 1 s.size)).2 == 0) false = _
        by_cases z : (nv false (s.extract 1 s.size)).2 = 0
        · rw [if_pos z, z]
          exact bound_Read.j0_amiss _ _ _ _ _ _
        · rw [if_neg z, beq_eq_false_iff_ne.2 z, Bool.eq_false_iff.2 w]
          show _ = some (if false = false ∧ (false != false) = true then _ else rd2 false s (if (1 : Int) = 1 ∧ false = false then 2 else 1) (nv false (s.extract 1 s.size)).1 (1 + (nv false (s.extract 1 s.size)).2.toNat))
          rw [if_neg (by decide), if_pos (by decide)]
          exact bound_Read.j0_eq hs hr.2.2 2 (by omega) k hk
    · rw [if_neg f, if_neg f, Option.bind_some, if_neg (show ¬ ((0 : Int) = 40) by decide)]
      show (bound_num.f (bound_plain.f k) s ((0 : Nat) : Int) true false).bind _ = _
      rw [bound_num.amiss, Option.bind_some]
      exact bound_Read.j0_amiss _ _ _ _ _ _

end Go.Proofs.Ytpeidnkbliafkaa.Print
