import Derived.Test.YtpeidnkbliafkaaPrint13
import Derived.Test.YtpeidnkbliafkaaPrint14
import Derived.Test.YtpeidnkbliafkaaLBndP
import Derived.Test.YtpeidnkbliafkaaLBndR
namespace Go.Proofs.Ytpeidnkbliafkaa.Print
open Go.RowKit Go.Proofs.YtpeidnkbliafkaaW.PrintWords Go.Proofs.YtpeidnkbliafkaaW.PrintLast
set_option linter.unusedVariables false
set_option linter.unusedSimpArgs false
theorem bocageref04_is.eq {s : ByteArray} (hs : s.size ≤ 140737488351232) {a : Nat} (ha : a ≤ s.size) (w : ByteArray) (hw : w.size ≤ 1000) : bocageref04_is.f s (a : Int) w = some (isW s a w) := by
  unfold bocageref04_is.f isW
  rw [wrap64_of (show I64 ((s.size : Int) - (a : Int)) by unfold I64; omega)]
  by_cases h : a + w.size ≤ s.size
  · have ea : wrap64 ((a : Int) + (w.size : Int)) = ((a + w.size : Nat) : Int) := by rw [wrap64_of (by unfold I64; omega)]; omega
    rw [if_pos (by omega), ea, if_pos (by omega), if_pos (by omega), if_pos (by omega), decide_eq_true h, Bool.true_and, Int.toNat_natCast, Int.toNat_natCast]
  · rw [if_neg (by omega), decide_eq_false h, Bool.false_and]
theorem bocageref04_is.one {s : ByteArray} (hs : s.size ≤ 140737488351232) {a : Nat} (ha : a ≤ s.size) (c : UInt8) : bocageref04_is.f s (a : Int) ⟨#[c]⟩ = some (isC s a (c.toNat : Int)) := by
  rw [bocageref04_is.eq hs ha _ (by show 1 ≤ 1000; decide), isW_one]
theorem bocageref04_blanks.l0_eq {s : ByteArray} (hs : s.size ≤ 140737488351232) : ∀ (n a k : Nat), a + n = s.size → n < k → bocageref04_blanks.l0 k s (a : Int) true = some (blk s n a : Int)
  | 0, a, k, ha, hk => by
    obtain ⟨k, rfl⟩ : ∃ j, k = j + 1 := ⟨k - 1, by omega⟩
    have e : isC s a 32 = false := decide_eq_false (fun g => by omega)
    rw [bocageref04_blanks.l0, if_pos rfl, bocageref04_is.one hs (by omega) 32, show ((32 : UInt8).toNat : Int) = 32 from rfl, Option.bind_some, e, if_neg Bool.false_ne_true]; rfl
  | n + 1, a, k, ha, hk => by
    obtain ⟨k, rfl⟩ : ∃ j, k = j + 1 := ⟨k - 1, by omega⟩
    rw [bocageref04_blanks.l0, if_pos rfl, bocageref04_is.one hs (by omega) 32, show ((32 : UInt8).toNat : Int) = 32 from rfl, Option.bind_some, blk]
    by_cases e : isC s a 32 = true
    · rw [if_pos e, if_pos e, wrap_succ hs (by omega)]
      exact bocageref04_blanks.l0_eq hs n (a + 1) k (by omega) (by omega)
    · rw [if_neg e, if_neg e]
theorem bocageref04_blanks.eq {s : ByteArray} (hs : s.size ≤ 140737488351232) {a : Nat} (ha : a ≤ s.size) (o : Bool) (k : Nat) (hk : s.size + 1 ≤ k) : bocageref04_blanks.f k s (a : Int) o = some (blO o s a : Int) := by
  unfold bocageref04_blanks.f blO
  cases o
  · obtain ⟨k, rfl⟩ : ∃ j, k = j + 1 := ⟨k - 1, by omega⟩
    rw [bocageref04_blanks.l0, if_neg Bool.false_ne_true, if_neg Bool.false_ne_true]
  · rw [if_pos rfl]
    exact bocageref04_blanks.l0_eq hs (s.size - a) a k (by omega) (by omega)
def endR : Option (Int × Int × Nat) → Int × Int × Int
  | none => (0, 0, -1)
  | some r => (r.1, r.2.1, (r.2.2 : Int))
theorem bocageref04_end.eq {s : ByteArray} (hs : s.size ≤ 140737488351232) {a : Nat} (ha : a ≤ s.size) {w : ByteArray} (hw : w.size = 4) (o : Bool) (k : Nat) (hk : 600 ≤ k) : bocageref04_end.f k s (a : Int) w o = some (endR (endS o s a w)) := by
  unfold bocageref04_end.f endS
  rw [bocageref04_is.eq hs ha w (by omega), Option.bind_some]
  by_cases e : isW s a w = true
  · have hle : a + 4 ≤ s.size := by
      unfold isW at e
      rw [Bool.and_eq_true, decide_eq_true_eq, hw] at e
      exact e.1
    rw [if_pos e, if_pos e, wrap64_of (by unfold I64; omega)]
    show some ((0 : Int), (0 : Int), (a : Int) + 4) = some (0, 0, ((a + 4 : Nat) : Int))
    rw [show ((a + 4 : Nat) : Int) = (a : Int) + 4 by omega]
  · rw [if_neg e, if_neg e]
    have hr := nv_range o (t := s.extract a s.size) (by rw [rest_size]; omega)
    rw [rest_size] at hr
    cases o
    · rw [if_neg Bool.false_ne_true, if_pos (by omega), if_pos (by omega), Int.toNat_natCast]
      obtain ⟨r, _, hv, _, hq⟩ := num_strict (t := s.extract a s.size) (by rw [rest_size]; omega)
      rw [hq k (by omega), Option.bind_some]
      by_cases z : r.2.2 = 0
      · have : (nv false (s.extract a s.size)).2 = 0 := by rw [hv]; split <;> simp [z]
        rw [if_pos z, if_pos this]; rfl
      · rw [if_neg z]
        by_cases z1 : r.1 = 0
        · rw [if_pos z1] at hv
          rw [hv] at hr
          have h1 : 0 ≤ r.2.2 := hr.1
          have h2 : r.2.2 ≤ ((s.size - a : Nat) : Int) := hr.2.1
          rw [if_pos z1, hv, if_neg z, wrap64_of (by unfold I64; omega)]
          show some ((1 : Int), r.2.1, (a : Int) + r.2.2) = some (1, r.2.1, ((a + r.2.2.toNat : Nat) : Int))
          rw [show ((a + r.2.2.toNat : Nat) : Int) = (a : Int) + r.2.2 by omega]
        · rw [if_neg z1] at hv
          rw [if_neg z1, hv, if_pos rfl]; rfl
    · rw [if_pos rfl, if_pos (by omega), if_pos (by omega), Int.toNat_natCast]
      obtain ⟨_, hq, _⟩ := num_loose (t := s.extract a s.size) (by rw [rest_size]; omega)
      rw [hq k (by omega), Option.bind_some]
      generalize nv true (s.extract a s.size) = v at *
      by_cases z : v.2 = 0
      · rw [if_pos z, if_pos z]; rfl
      · rw [if_neg z, if_neg z, wrap64_of (by unfold I64; omega)]
        show some ((1 : Int), v.1, (a : Int) + v.2) = some (1, v.1, ((a + v.2.toNat : Nat) : Int))
        rw [show ((a + v.2.toNat : Nat) : Int) = (a : Int) + v.2 by omega]
theorem read_tell {l2 h2 : Int} (hl : I64 l2) (hh : I64 h2) (l1 h1 : Int) (sec b : Nat) (hb : (b : Int) < 1000000000000000) (k : Nat) (hk : 8 ≤ k) :
    ((bocageref04_Span.f k l1 l2 h1 h2).bind fun t => if t.2.2.2.2 = 0 then some (t.1, t.2.1, t.2.2.1, t.2.2.2.1, wrap64 ((b : Int) + 1), (0 : Int)) else some (0, 0, 0, 0, (sec : Int), t.2.2.2.2)) = some (tellS l1 l2 h1 h2 sec (b + 1)) := by
  unfold tellS
  rw [bocageref04_Span.eq hl hh l1 h1 k hk, Option.bind_some, wrap64_of (by unfold I64; omega), show (b : Int) + 1 = ((b + 1 : Nat) : Int) by omega]
  generalize spanB l1 l2 h1 h2 = t
  by_cases e : t.2.2.2.2 = 0
  · rw [if_pos e, if_pos e]
  · rw [if_neg e, if_neg e]
theorem bocageref04_read.j7_eq {l2 h2 : Int} (hl : I64 l2) (hh : I64 h2) (l1 h1 : Int) (sec b : Nat) (hb : (b : Int) < 1000000000000000) (c : Bool) (k : Nat) (hk : 10 ≤ k) :
    bocageref04_read.j7 k (b : Int) (sec : Int) c 0 0 0 0 l1 l2 h1 h2 = some (tellS l1 l2 (if c = true then 2 else h1) h2 sec (b + 1)) := by
  obtain ⟨k, rfl⟩ : ∃ j, k = j + 1 := ⟨k - 1, by omega⟩
  rw [bocageref04_read.j7]
  by_cases e : c = true
  · rw [if_pos e, if_pos e]; exact read_tell hl hh l1 2 sec b hb k (by omega)
  · rw [if_neg e, if_neg e]; exact read_tell hl hh l1 h1 sec b hb k (by omega)
theorem bocageref04_read.j5_eq {s : ByteArray} (hs : s.size ≤ 140737488351232) {l2 h2 : Int} (hl : I64 l2) (hh : I64 h2) (l1 h1 : Int) (sec : Nat) {b : Nat} (hb : b ≤ s.size) (cl : Bool) (k : Nat) (hk : 20 ≤ k) :
    bocageref04_read.j5 k s (b : Int) (sec : Int) cl 0 0 0 0 l1 l2 h1 h2 = some (if cl = true then tellS l1 l2 (if h1 = 1 then 2 else h1) h2 sec (b + 1) else if isC s b 41 = true then tellS l1 l2 h1 h2 sec (b + 1) else errS b) := by
  obtain ⟨k, rfl⟩ : ∃ j, k = j + 2 := ⟨k - 2, by omega⟩
  rw [bocageref04_read.j5]
  by_cases e : cl = true
  · subst e
    rw [if_pos rfl, if_pos rfl, bocageref04_read.j6, if_neg Bool.false_ne_true]
    by_cases g : h1 = 1
    · rw [if_pos g, if_pos g, bocageref04_read.j7_eq hl hh l1 h1 sec b (by omega) true k (by omega), if_pos rfl]
    · rw [if_neg g, if_neg g, bocageref04_read.j7_eq hl hh l1 h1 sec b (by omega) false k (by omega), if_neg Bool.false_ne_true]
  · rw [if_neg e, if_neg e, bocageref04_is.one hs hb 41, show ((41 : UInt8).toNat : Int) = 41 from rfl, Option.bind_some, bocageref04_read.j6]
    by_cases f : isC s b 41 = true
    · rw [if_pos f, f, if_neg (by decide)]
      have e' := Bool.eq_false_iff.2 e
      subst e'
      by_cases g : h1 = 1
      · rw [if_pos g, bocageref04_read.j7_eq hl hh l1 h1 sec b (by omega) false k (by omega), if_neg Bool.false_ne_true]
      · rw [if_neg g, bocageref04_read.j7_eq hl hh l1 h1 sec b (by omega) false k (by omega), if_neg Bool.false_ne_true]
    · rw [if_neg f, Bool.eq_false_iff.2 f, if_pos (by decide)]; rfl
theorem bocageref04_read.j4_eq {s : ByteArray} (hs : s.size ≤ 140737488351232) {l2 : Int} (hl : I64 l2) (l1 : Int) (o : Bool) {a : Nat} (ha : a ≤ s.size) (k : Nat) (hk : s.size + 700 ≤ k) :
    bocageref04_read.j4 k s o (a : Int) 0 0 0 0 l1 l2 = some (rd2 o s l1 l2 a) := by
  obtain ⟨k, rfl⟩ : ∃ j, k = j + 1 := ⟨k - 1, by omega⟩
  have hb := (blO_le o ha).2
  rw [bocageref04_read.j4, bocageref04_blanks.eq hs ha o k (by omega), Option.bind_some, bocageref04_is.one hs hb 44, show ((44 : UInt8).toNat : Int) = 44 from rfl, Option.bind_some]
  unfold rd2
  by_cases e : isC s (blO o s a) 44 = true
  · have h1 := isC_le e
    have hb2 := (blO_le o h1).2
    rw [if_pos e, if_pos e, wrap_succ hs hb, bocageref04_blanks.eq hs h1 o k (by omega), Option.bind_some]
    show (bocageref04_end.f k s ((blO o s (blO o s a + 1) : Nat) : Int) PI o).bind _ = _
    rw [bocageref04_end.eq hs hb2 (w := PI) (by decide) o k (by omega), Option.bind_some]
    cases h : endS o s (blO o s (blO o s a + 1)) PI with
    | none => rfl
    | some r =>
      obtain ⟨r1, r2, r3⟩ := endS_le hs hb2 (w := PI) (by decide) h
      have hb3 := (blO_le o r1).2
      show (if (r.2.2 : Int) < 0 then _ else (bocageref04_blanks.f k s (r.2.2 : Int) o).bind _) = some (rd3 o s l1 l2 _ r.1 r.2.1 r.2.2)
      rw [if_neg (by omega), bocageref04_blanks.eq hs r1 o k (by omega), Option.bind_some]
      unfold rd3
      cases o
      · rw [if_neg Bool.false_ne_true, if_neg (show ¬ (false = true ∧ _) from fun g => Bool.false_ne_true g.1)]
        show bocageref04_read.j5 k s ((blO false s r.2.2 : Nat) : Int) ((blO false s (blO false s a + 1) : Nat) : Int) false 0 0 0 0 l1 l2 r.1 r.2.1 = _
        rw [bocageref04_read.j5_eq hs hl r2 l1 r.1 _ hb3 false k (by omega), if_neg Bool.false_ne_true]
      · rw [if_pos rfl, bocageref04_is.one hs hb3 93, show ((93 : UInt8).toNat : Int) = 93 from rfl, Option.bind_some]
        show bocageref04_read.j5 k s ((blO true s r.2.2 : Nat) : Int) ((blO true s (blO true s a + 1) : Nat) : Int) (isC s (blO true s r.2.2) 93) 0 0 0 0 l1 l2 r.1 r.2.1 = _
        rw [bocageref04_read.j5_eq hs hl r2 l1 r.1 _ hb3 _ k (by omega)]
        by_cases f : isC s (blO true s r.2.2) 93 = true
        · rw [if_pos f, if_pos (c := (true = true ∧ isC s (blO true s r.2.2) 93 = true)) ⟨rfl, f⟩]
        · rw [if_neg f, if_neg (c := (true = true ∧ isC s (blO true s r.2.2) 93 = true)) (fun g => f g.2)]
  · rw [if_neg e, if_neg e]; rfl
theorem bocageref04_read.j0_eq {s : ByteArray} (hs : s.size ≤ 140737488351232) (o op : Bool) (h1 : 1 ≤ s.size) (k : Nat) (hk : s.size + 800 ≤ k) :
    bocageref04_read.j0 k s o op false 0 0 0 0 = some (rd1 o s op) := by
  obtain ⟨k, rfl⟩ : ∃ j, k = j + 4 := ⟨k - 4, by omega⟩
  have hb := (blO_le o h1).2
  rw [bocageref04_read.j0, if_neg Bool.false_ne_true, show (1 : Int) = ((1 : Nat) : Int) from rfl, bocageref04_blanks.eq hs h1 o (k + 3) (by omega), Option.bind_some]
  show (bocageref04_end.f (k + 3) s ((blO o s 1 : Nat) : Int) MI o).bind _ = _
  rw [bocageref04_end.eq hs hb (w := MI) (by decide) o (k + 3) (by omega), Option.bind_some]
  have key : ∀ c : Bool, bocageref04_read.j1 (k + 3) s o op ((blO o s 1 : Nat) : Int) (endR (endS o s (blO o s 1) MI)).2.2 c 0 0 0 0 (endR (endS o s (blO o s 1) MI)).1 (endR (endS o s (blO o s 1) MI)).2.1 =
      some (match endS o s (blO o s 1) MI with | none => errS (blO o s 1) | some r => if c = true then errS (blO o s 1) else rd2 o s (if r.1 = 1 ∧ op = false then 2 else r.1) r.2.1 r.2.2) := by
    intro c
    rw [bocageref04_read.j1]
    by_cases hc : c = true
    · rw [if_pos hc, bocageref04_read.j2, if_pos (by decide)]
      cases endS o s (blO o s 1) MI with
      | none => rfl
      | some r => show some (errS _) = some (if c = true then _ else _); rw [if_pos hc]
    · rw [if_neg hc, bocageref04_read.j2]
      cases h : endS o s (blO o s 1) MI with
      | none => rfl
      | some r =>
        obtain ⟨r1, r2, r3⟩ := endS_le hs hb (w := MI) (by decide) h
        show (if (r.2.2 : Int) < 0 then _ else (if r.1 = 1 then bocageref04_read.j3 (k + 1) s o (r.2.2 : Int) (!op) 0 0 0 0 r.1 r.2.1 else bocageref04_read.j3 (k + 1) s o (r.2.2 : Int) false 0 0 0 0 r.1 r.2.1)) = some (if c = true then _ else _)
        rw [if_neg (by omega), if_neg hc]
        by_cases g : r.1 = 1
        · rw [if_pos g, bocageref04_read.j3]
          cases op
          · rw [if_pos (by decide), if_pos ⟨g, rfl⟩]
            exact bocageref04_read.j4_eq hs r2 2 o r1 k (by omega)
          · rw [if_neg (by decide), if_neg (fun q => absurd q.2 (by decide))]
            exact bocageref04_read.j4_eq hs r2 r.1 o r1 k (by omega)
        · rw [if_neg g, bocageref04_read.j3, if_neg Bool.false_ne_true, if_neg (fun q => g q.1)]
          exact bocageref04_read.j4_eq hs r2 r.1 o r1 k (by omega)
  unfold rd1
  cases o
  · rw [if_neg Bool.false_ne_true]
    show (bocageref04_is.f s ((blO false s 1 : Nat) : Int) MI).bind _ = _
    rw [bocageref04_is.eq hs hb MI (by decide), Option.bind_some]
    refine (key (op != isW s (blO false s 1) MI)).trans ?_
    cases endS false s (blO false s 1) MI with
    | none => rfl
    | some r =>
      show some (if (op != isW s (blO false s 1) MI) = true then _ else _) = some (if false = false ∧ (op != isW s (blO false s 1) MI) = true then _ else _)
      by_cases q : (op != isW s (blO false s 1) MI) = true
      · rw [if_pos q, if_pos (c := (false = false ∧ (op != isW s (blO false s 1) MI) = true)) ⟨rfl, q⟩]
      · rw [if_neg q, if_neg (c := (false = false ∧ (op != isW s (blO false s 1) MI) = true)) (fun g => q g.2)]
  · rw [if_pos rfl]
    refine (key false).trans ?_
    cases endS true s (blO true s 1) MI with
    | none => rfl
    | some r =>
      show some (if false = true then _ else _) = some (if true = false ∧ _ then _ else _)
      rw [if_neg Bool.false_ne_true, if_neg (c := (true = false ∧ (op != isW s (blO true s 1) MI) = true)) (fun g => absurd g.1 (by decide))]
theorem bocageref04_read.eq {s : ByteArray} (hs : s.size ≤ 140737488351232) (o : Bool) (k : Nat) (hk : s.size + 800 ≤ k) : bocageref04_read.f k s o = some (rdS o s) := by
  unfold bocageref04_read.f rdS
  rw [show (0 : Int) = ((0 : Nat) : Int) from rfl, bocageref04_is.one hs (Nat.zero_le _) 40, show ((40 : UInt8).toNat : Int) = 40 from rfl, Option.bind_some]
  by_cases e : isC s 0 40 = true
  · rw [if_pos e, if_pos e, e]
    exact bocageref04_read.j0_eq hs o true (isC_le e) k hk
  · rw [if_neg e, if_neg e, bocageref04_is.one hs (Nat.zero_le _) 91, show ((91 : UInt8).toNat : Int) = 91 from rfl, Option.bind_some, Bool.eq_false_iff.2 e]
    by_cases f : isC s 0 91 = true
    · rw [if_pos f, f]
      exact bocageref04_read.j0_eq hs o false (isC_le f) k hk
    · rw [if_neg f, Bool.eq_false_iff.2 f]
      obtain ⟨k, rfl⟩ : ∃ j, k = j + 1 := ⟨k - 1, by omega⟩
      rw [show (!false) = true from rfl, bocageref04_read.j0, if_pos rfl]; rfl

end Go.Proofs.Ytpeidnkbliafkaa.Print
