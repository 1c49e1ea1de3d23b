import Derived.Test.YtpeidnkbliafkaaPrint2
import Derived.Test.YtpeidnkbliafkaaLBndP
namespace Go.Proofs.Ytpeidnkbliafkaa.Print
open Go.RowKit Go.Proofs.YtpeidnkbliafkaaW.PrintWords Go.Proofs.YtpeidnkbliafkaaW.PrintLast
set_option linter.unusedVariables false
set_option linter.unusedSimpArgs false
theorem bound_end.ok {s : ByteArray} (hs : s.size ≤ 140737488351232) {a : Nat} (ha : a ≤ s.size) {w : ByteArray} (hw : w.size = 4) (cl : Bool) {r : Int × Int × Nat} (h : endS true s a w = some r) (k : Nat) (hk : 600 ≤ k) :
    bound_end.f k s (a : Int) false true w cl = some (if r.1 = 1 ∧ cl = true then 2 else r.1, r.2.1, s, (r.2.2 : Int), false, true) := by
  unfold bound_end.f
  unfold endS at h
  rw [bound_reader_word.eq hs ha true w (by omega), Option.bind_some]
  by_cases e : isW s a w = true
  · rw [if_pos e] at h
    obtain rfl := Option.some.inj h
    show (if isW s a w = true then some ((0 : Int), (0 : Int), s, ((if isW s a w = true then a + w.size else a : Nat) : Int), false, true) else _) = _
    rw [if_pos e, if_pos e, hw, if_neg (show ¬ ((0 : Int) = 1 ∧ cl = true) from fun g => absurd g.1 (by decide))]
  · rw [if_neg e] at h
    show (if isW s a w = true then _ else (bound_num.f (sat_Read.f k) s ((if isW s a w = true then a + w.size else a : Nat) : Int) false true).bind _) = _
    rw [if_neg e, if_neg e]
    obtain ⟨hp, _, _⟩ := num_loose (t := s.extract a s.size) (by rw [rest_size]; omega)
    rw [bound_num.eq hs ha true true (hp k (by omega)), Option.bind_some]
    by_cases z : (nv true (s.extract a s.size)).2 = 0
    · rw [if_pos z] at h; cases h
    · rw [if_neg z] at h
      obtain rfl := Option.some.inj h
      show some ((if cl = true then (2 : Int) else 1), (nv true (s.extract a s.size)).1, s, ((a + (nv true (s.extract a s.size)).2.toNat : Nat) : Int), ((nv true (s.extract a s.size)).2 == 0), true) = _
      rw [beq_eq_false_iff_ne.2 z]
      cases cl
      · rfl
      · rfl
theorem bound_end.no {s : ByteArray} (hs : s.size ≤ 140737488351232) {a : Nat} (ha : a ≤ s.size) {w : ByteArray} (hw : w.size = 4) (cl : Bool) (h : endS true s a w = none) (k : Nat) (hk : 600 ≤ k) :
    ∃ x y, bound_end.f k s (a : Int) false true w cl = some (x, y, s, (a : Int), true, true) := by
  unfold bound_end.f
  unfold endS at h
  rw [bound_reader_word.eq hs ha true w (by omega), Option.bind_some]
  by_cases e : isW s a w = true
  · rw [if_pos e] at h; cases h
  · rw [if_neg e] at h
    show ∃ x y, (if isW s a w = true then _ else (bound_num.f (sat_Read.f k) s ((if isW s a w = true then a + w.size else a : Nat) : Int) false true).bind _) = _
    rw [if_neg e, if_neg e]
    obtain ⟨hp, _, _⟩ := num_loose (t := s.extract a s.size) (by rw [rest_size]; omega)
    rw [bound_num.eq hs ha true true (hp k (by omega)), Option.bind_some]
    by_cases z : (nv true (s.extract a s.size)).2 = 0
    · refine ⟨if cl = true then (2 : Int) else 1, (nv true (s.extract a s.size)).1, ?_⟩
      show some ((if cl = true then (2 : Int) else 1), (nv true (s.extract a s.size)).1, s, ((a + (nv true (s.extract a s.size)).2.toNat : Nat) : Int), ((nv true (s.extract a s.size)).2 == 0), true) = _
      rw [z]; rfl
    · rw [if_neg z] at h; cases h
theorem bound_end.amiss (s : ByteArray) (a : Int) (o : Bool) (w : ByteArray) (cl : Bool) (k : Nat) : ∃ x y, bound_end.f k s a true o w cl = some (x, y, s, a, true, o) := by
  unfold bound_end.f
  rw [bound_reader_word.amiss, Option.bind_some, if_neg Bool.false_ne_true, bound_num.amiss, Option.bind_some]
  exact ⟨_, _, rfl⟩
theorem bound_Loose.j0_amiss (l1 l2 h1 h2 sec : Int) (s : ByteArray) (a : Nat) (o : Bool) (k : Nat) : bound_Loose.j0 k l1 l2 h1 h2 sec s (a : Int) true o = some (errS a) := by
  unfold bound_Loose.j0
  rw [bound_reader_sign.amiss, Option.bind_some, if_neg (show ¬ ((0 : Int) = 93) by decide)]
  exact bound_told.amiss _ _ _ _ _ _ _
theorem bound_Loose.j1_amiss (l1 l2 sec : Int) (s : ByteArray) (a : Nat) (o : Bool) (k : Nat) (hk : 1 ≤ k) : bound_Loose.j1 k l1 l2 sec s (a : Int) true o = some (errS a) := by
  unfold bound_Loose.j1
  obtain ⟨x, y, e⟩ := bound_end.amiss s (a : Int) o (⟨#[43, 105, 110, 102]⟩ : ByteArray) false k
  rw [e, Option.bind_some]
  show (bound_reader_blanks.f k s (a : Int) true o).bind _ = _
  rw [bound_reader_blanks.amiss _ _ _ k hk, Option.bind_some]
  exact bound_Loose.j0_amiss _ _ _ _ _ _ _ _ _
theorem bound_Loose.j2_amiss (l1 l2 : Int) (s : ByteArray) (a : Nat) (o : Bool) (k : Nat) (hk : 1 ≤ k) : bound_Loose.j2 k l1 l2 s (a : Int) true o = some (errS a) := by
  unfold bound_Loose.j2
  rw [bound_reader_blanks.amiss _ _ _ k hk, Option.bind_some]
  show (bound_reader_sign.f k s (a : Int) true o _).bind _ = _
  rw [bound_reader_sign.amiss, Option.bind_some]
  show (bound_reader_blanks.f k s (a : Int) true o).bind _ = _
  rw [bound_reader_blanks.amiss _ _ _ k hk, Option.bind_some]
  exact bound_Loose.j1_amiss _ _ _ _ _ _ _ hk
theorem bound_Loose.j0_eq {s : ByteArray} (hs : s.size ≤ 140737488351232) {l2 h2 : Int} (hl : I64 l2) (hh : I64 h2) (l1 h1 : Int) (sec : Nat) {a : Nat} (ha : a ≤ s.size) (k : Nat) (hk : 600 ≤ k) :
    bound_Loose.j0 k l1 l2 h1 h2 (sec : Int) s ((blO true s a : Nat) : Int) false true = some (rd3 true s l1 l2 sec h1 h2 a) := by
  have hb := (blO_le true ha).2
  unfold bound_Loose.j0 rd3
  rw [bound_reader_sign.two hs hb true 41 93 k (by omega), show ((41 : UInt8).toNat : Int) = 41 from rfl, show ((93 : UInt8).toNat : Int) = 93 from rfl]
  by_cases e : isC s (blO true s a) 41 = true
  · have ne : ¬ (true = true ∧ isC s (blO true s a) 93 = true) := fun g => by have h1 := (isC_lt e).2; have h2 := (isC_lt g.2).2; omega
    rw [if_pos e, if_neg ne, if_pos e, Option.bind_some, if_neg (show ¬ ((41 : Int) = 93) by decide)]
    exact bound_told.eq hl hh l1 h1 sec (blO true s a + 1) k (by omega)
  · rw [if_neg e, if_neg e]
    by_cases f : isC s (blO true s a) 93 = true
    · rw [if_pos f, if_pos ⟨rfl, f⟩, Option.bind_some, if_pos rfl]
      by_cases g : h1 = 1
      · rw [if_pos g, if_pos g]
        exact bound_told.eq hl hh l1 2 sec (blO true s a + 1) k (by omega)
      · rw [if_neg g, if_neg g]
        exact bound_told.eq hl hh l1 h1 sec (blO true s a + 1) k (by omega)
    · rw [if_neg f, if_neg (fun g => f g.2), Option.bind_some, if_neg (show ¬ ((0 : Int) = 93) by decide)]
      exact bound_told.amiss _ _ _ _ _ _ _
theorem bound_Loose.j1_eq {s : ByteArray} (hs : s.size ≤ 140737488351232) {l2 : Int} (hl : I64 l2) (l1 : Int) (sec : Nat) {a : Nat} (ha : a ≤ s.size) (k : Nat) (hk : s.size + 600 ≤ k) :
    bound_Loose.j1 k l1 l2 (sec : Int) s (a : Int) false true = some (match endS true s a PI with | none => errS a | some r => rd3 true s l1 l2 sec r.1 r.2.1 r.2.2) := by
  unfold bound_Loose.j1
  cases h : endS true s a PI with
  | none =>
    obtain ⟨x, y, e⟩ := bound_end.no hs ha (w := PI) (by decide) false h k (by omega)
    show (bound_end.f k s (a : Int) false true PI false).bind _ = _
    rw [e, Option.bind_some]
    show (bound_reader_blanks.f k s (a : Int) true true).bind _ = _
    rw [bound_reader_blanks.amiss _ _ _ k (by omega), Option.bind_some]
    exact bound_Loose.j0_amiss _ _ _ _ _ _ _ _ _
  | some r =>
    obtain ⟨r1, r2, r3⟩ := endS_le hs ha (w := PI) (by decide) h
    show (bound_end.f k s (a : Int) false true PI false).bind _ = _
    rw [bound_end.ok hs ha (w := PI) (by decide) false h k (by omega), Option.bind_some, if_neg (fun g => Bool.false_ne_true g.2)]
    show (bound_reader_blanks.f k s (r.2.2 : Int) false true).bind _ = _
    rw [bound_reader_blanks.eq hs r1 true k (by omega), Option.bind_some]
    exact bound_Loose.j0_eq hs hl r2 l1 r.1 sec r1 k (by omega)
theorem bound_Loose.j2_eq {s : ByteArray} (hs : s.size ≤ 140737488351232) {l2 : Int} (hl : I64 l2) (l1 : Int) {a : Nat} (ha : a ≤ s.size) (k : Nat) (hk : s.size + 600 ≤ k) :
    bound_Loose.j2 k l1 l2 s (a : Int) false true = some (rd2 true s l1 l2 a) := by
  have hb := (blO_le true ha).2
  unfold bound_Loose.j2 rd2
  rw [bound_reader_blanks.eq hs ha true k (by omega), Option.bind_some]
  show (bound_reader_sign.f k s ((blO true s a : Nat) : Int) false true (⟨#[44]⟩ : ByteArray)).bind _ = _
  rw [bound_reader_sign.one hs hb true 44 k (by omega), show ((44 : UInt8).toNat : Int) = 44 from rfl]
  by_cases e : isC s (blO true s a) 44 = true
  · have h1 := isC_le e
    have hb2 := (blO_le true h1).2
    rw [if_pos e, if_pos e, Option.bind_some]
    show (bound_reader_blanks.f k s ((blO true s a + 1 : Nat) : Int) false true).bind _ = _
    rw [bound_reader_blanks.eq hs h1 true k (by omega), Option.bind_some]
    exact bound_Loose.j1_eq hs hl l1 (blO true s (blO true s a + 1)) hb2 k hk
  · rw [if_neg e, if_neg e, Option.bind_some]
    show (bound_reader_blanks.f k s ((blO true s a : Nat) : Int) true true).bind _ = _
    rw [bound_reader_blanks.amiss _ _ _ k (by omega), Option.bind_some]
    exact bound_Loose.j1_amiss _ _ _ _ _ _ _ (by omega)
theorem bound_Loose.eq {s : ByteArray} (hs : s.size ≤ 140737488351232) (k : Nat) (hk : s.size + 600 ≤ k) : bound_Loose.f k s = some (rdS true s) := by
  unfold bound_Loose.f rdS
  rw [show (0 : Int) = ((0 : Nat) : Int) from rfl, bound_reader_sign.two hs (Nat.zero_le _) true 40 91 k (by omega), show ((40 : UInt8).toNat : Int) = 40 from rfl, show ((91 : UInt8).toNat : Int) = 91 from rfl]
  have key : ∀ (op : Bool) (c : Int), (c == 91) = !op → 1 ≤ s.size → (bound_reader_blanks.f k s ((1 : Nat) : Int) false true).bind (fun u => (bound_end.f k u.1 u.2.1 u.2.2.1 u.2.2.2 MI (c == 91)).bind fun v => bound_Loose.j2 k v.1 v.2.1 v.2.2.1 v.2.2.2.1 v.2.2.2.2.1 v.2.2.2.2.2) = some (rd1 true s op) := by
    intro op c hc h1
    have hb := (blO_le true h1).2
    rw [bound_reader_blanks.eq hs h1 true k (by omega), Option.bind_some]
    unfold rd1
    cases h : endS true s (blO true s 1) MI with
    | none =>
      obtain ⟨x, y, e⟩ := bound_end.no hs hb (w := MI) (by decide) (c == 91) h k (by omega)
      show (bound_end.f k s ((blO true s 1 : Nat) : Int) false true MI (c == 91)).bind _ = _
      rw [e, Option.bind_some]
      exact bound_Loose.j2_amiss _ _ _ _ _ _ (by omega)
    | some r =>
      obtain ⟨r1, r2, r3⟩ := endS_le hs hb (w := MI) (by decide) h
      show (bound_end.f k s ((blO true s 1 : Nat) : Int) false true MI (c == 91)).bind _ = some (if true = false ∧ _ then _ else _)
      rw [bound_end.ok hs hb (w := MI) (by decide) (c == 91) h k (by omega), Option.bind_some, if_neg (show ¬ (true = false ∧ _) from fun g => absurd g.1 (by decide)), hc]
      have e : (if r.1 = 1 ∧ (!op) = true then (2 : Int) else r.1) = if r.1 = 1 ∧ op = false then 2 else r.1 := by cases op <;> simp
      rw [e]
      exact bound_Loose.j2_eq hs r2 _ r1 k hk
  by_cases e : isC s 0 40 = true
  · rw [if_pos e, if_pos e, Option.bind_some]
    exact key true 40 (by decide) (isC_le e)
  · rw [if_neg e, if_neg e]
    by_cases f : isC s 0 91 = true
    · rw [if_pos f, if_pos f, Option.bind_some]
      exact key false 91 (by decide) (isC_le f)
    · rw [if_neg f, if_neg f, Option.bind_some]
      show (bound_reader_blanks.f k s ((0 : Nat) : Int) true true).bind _ = _
      rw [bound_reader_blanks.amiss _ _ _ k (by omega), Option.bind_some]
      obtain ⟨x, y, e2⟩ := bound_end.amiss s ((0 : Nat) : Int) true MI (((0 : Nat) : Int) == 91) k
      show (bound_end.f k s ((0 : Nat) : Int) true true MI (((0 : Nat) : Int) == 91)).bind _ = _
      rw [e2, Option.bind_some]
      exact bound_Loose.j2_amiss _ _ _ _ _ _ (by omega)

end Go.Proofs.Ytpeidnkbliafkaa.Print
