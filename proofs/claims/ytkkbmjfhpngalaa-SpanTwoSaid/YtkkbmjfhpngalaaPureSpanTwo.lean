/- Of any two spans: whether they overlap, touch, or one holds the other, what both have, what one has alone, and their hull, is what the document says (law03 SpanTwo), for every two spans; no conditions. -/
import Derived.Test.YtkkbmjfhpngalaaPrint19
import Derived.Test.YtkkbmjfhpngalaaPrint8
import Derived.Test.YtkkbmjfhpngalaaRSpanTwo
import Derived.Test.YtkkbmjfhpngalaaLSpanMi
import Derived.Test.YtkkbmjfhpngalaaLSpanRM
import Derived.Test.YtkkbmjfhpngalaaLAlive03
namespace Go.Proofs.Ytkkbmjfhpngalaa.Pure
open Go.RowKit Go.Proofs.Ytkkbmjfhpngalaa.Print Go.Proofs.YtkkbmjfhpngalaaW.PrintWords Go.Proofs.YtkkbmjfhpngalaaW.PrintLast
set_option linter.unusedVariables false
set_option linter.unusedSimpArgs false
theorem Low_eq (s a t b : Int) (k : Nat) (hk : 1 ≤ k) : bocageref02_Low.f k s a t b = some (minC (canon s a) (canon t b)) := by
  unfold bocageref02_Low.f minC
  rw [bocageref02_Less.eq _ _ _ _ k hk, Option.bind_some, bocageref02_Canon.eq _ _ k hk, bocageref02_Canon.eq _ _ k hk]
  by_cases h : cmp2 (canon t b) (canon s a) < 0
  · rw [decide_eq_true h, if_pos rfl, if_pos h]; rfl
  · rw [decide_eq_false h, if_neg Bool.false_ne_true, if_neg h]; rfl
theorem High_eq (s a t b : Int) (k : Nat) (hk : 1 ≤ k) : bocageref02_High.f k s a t b = some (maxC (canon s a) (canon t b)) := by
  unfold bocageref02_High.f maxC
  rw [bocageref02_Less.eq _ _ _ _ k hk, Option.bind_some, bocageref02_Canon.eq _ _ k hk, bocageref02_Canon.eq _ _ k hk]
  by_cases h : cmp2 (canon s a) (canon t b) < 0
  · rw [decide_eq_true h, if_pos rfl, if_pos (lex_gt.2 h)]; rfl
  · rw [decide_eq_false h, if_neg Bool.false_ne_true, if_neg (fun g => h (lex_gt.1 g))]; rfl
theorem GoodL_one {x : Sp} (h : RR x) : GoodL [x] := ⟨fun y hy => (by rcases List.mem_singleton.1 hy with rfl; exact h), NormI_one h.2.2⟩
theorem good_empty {L : List Sp} (h : GoodL L) (hn : ∀ n, ¬ Any L n) : L = [] := by
  cases L with
  | nil => rfl
  | cons x L =>
    have hx := h.1 x List.mem_cons_self
    exact absurd ⟨x, List.mem_cons_self, hx, Int.le_refl _, hx.2.2⟩ (hn (pos (lo x)))
theorem SpanTwo : bocagelaw03_SpanTwo.Pure := by
  intro s a t b s' a' t' b' hs ha ht hb hs' ha' ht' hb'
  have wx : WS (sp (s, a) (t, b)) := ⟨I64.of_wf ha, I64.of_wf hb⟩
  have wy : WS (sp (s', a') (t', b')) := ⟨I64.of_wf ha', I64.of_wf hb'⟩
  have w1 : ∀ z ∈ [sp (s, a) (t, b)], WS z := fun z hz => by rcases List.mem_singleton.1 hz with rfl; exact wx
  have w2 : ∀ z ∈ [sp (s', a') (t', b')], WS z := fun z hz => by rcases List.mem_singleton.1 hz with rfl; exact wy
  suffices h : Ev (fun k => bocagelaw03_SpanTwo.f k s a t b s' a' t' b') true from h.rounds
  unfold bocagelaw03_SpanTwo.f
  refine Ev.bind (a := [sp (s, a) (t, b)]) ⟨0, fun k _ => rfl⟩ (Ev.bind (a := [sp (s', a') (t', b')]) ⟨0, fun k _ => rfl⟩ ?_)
  by_cases hR : RS (s, a) (t, b) ∧ RS (s', a') (t', b')
  · obtain ⟨r1, r2⟩ := hR
    have X : RR (sp (s, a) (t, b)) := (RS_iff wx).1 r1
    have Y : RR (sp (s', a') (t', b')) := (RS_iff wy).1 r2
    have x3 : pos (s, a) < pos (t, b) := X.2.2
    have y3 : pos (s', a') < pos (t', b') := Y.2.2
    have aX : ∀ n, Any [sp (s, a) (t, b)] n ↔ pos (s, a) ≤ n ∧ n < pos (t, b) := fun n => by
      rw [Any_one]; exact ⟨fun h => h.2, fun h => ⟨X, h⟩⟩
    have aY : ∀ n, Any [sp (s', a') (t', b')] n ↔ pos (s', a') ≤ n ∧ n < pos (t', b') := fun n => by
      rw [Any_one]; exact ⟨fun h => h.2, fun h => ⟨Y, h⟩⟩
    obtain ⟨L, l1, l2, l3⟩ := span_Minus.eq X Y
    have l2' : ∀ m, Any L m ↔ (pos (s, a) ≤ m ∧ m < pos (t, b)) ∧ ¬ (pos (s', a') ≤ m ∧ m < pos (t', b')) := l2.2
    obtain ⟨B, b1, b2, b3⟩ := bocageref03_Meet.ev [sp (s, a) (t, b)] [sp (s', a') (t', b')] (Nat.le_of_ble_eq_true rfl) (Nat.le_of_ble_eq_true rfl) w1 w2 (fun R hG hA => by
      have : R = L := hG.unique l2.1 (fun n => by rw [hA, l2', aX, aY])
      rw [this]; omega)
    have b3' : ∀ n, Any B n ↔ (pos (s, a) ≤ n ∧ n < pos (t, b)) ∧ (pos (s', a') ≤ n ∧ n < pos (t', b')) := fun n => by rw [b3, aX, aY]
    obtain ⟨m1, m2⟩ := maxC_CC X.1 Y.1
    obtain ⟨n1, n2⟩ := minC_CC X.2.1 Y.2.1
    have m2' : pos (maxC (s, a) (s', a')) = if pos (s, a) < pos (s', a') then pos (s', a') else pos (s, a) := m2
    have n2' : pos (minC (t, b) (t', b')) = if pos (t', b') < pos (t, b) then pos (t', b') else pos (t, b) := n2
    obtain ⟨p1, p2⟩ := piece_ok (p := maxC (s, a) (s', a')) (q := minC (t, b) (t', b')) m1 n1
    have eB : B = if pos (maxC (s, a) (s', a')) < pos (minC (t, b) (t', b')) then [sp (maxC (s, a) (s', a')) (minC (t, b) (t', b'))] else [] := by
      refine b2.unique p1 (fun n => ?_)
      rw [b3', p2, m2', n2']; split <;> split <;> omega
    refine Ev.bind b1 (Ev.bind ⟨9, fun k hk => span_Meet.eq s a t b s' a' t' b' k hk⟩ (Ev.bind ⟨1, fun k hk => bocageref03_Right.eq s a t b k hk⟩ ?_))
    simp only [r1, decide_true, if_true]
    refine Ev.bind ⟨1, fun k hk => bocageref03_Right.eq s' a' t' b' k hk⟩ ?_
    simp only [r2, decide_true, true_and]
    -- from the hull on
    have j4 : ∀ x9 x10 : Bool, x9 = decide (pos (s, a) ≤ pos (s', a') ∧ pos (t', b') ≤ pos (t, b)) → x10 = decide ((t, b) = (s', a') ∨ (t', b') = (s, a)) → Ev (fun k => bocagelaw03_SpanTwo.j3 k true x9 x10 s a t b s' a' t' b') true := by
      intro x9 x10 h9 h10
      refine Ev.step (f := fun k => _) (fun k => by rw [bocagelaw03_SpanTwo.j3, if_pos rfl]) ?_
      refine Ev.bind ⟨1, fun k hk => Low_eq s a s' a' k hk⟩ (Ev.bind ⟨1, fun k hk => High_eq t b t' b' k hk⟩ ?_)
      refine Ev.bind (a := [sp (s, a) (t, b)]) ⟨0, fun k _ => rfl⟩ (Ev.bind (a := [sp (s', a') (t', b')]) ⟨0, fun k _ => rfl⟩ ?_)
      obtain ⟨M, q1, q2, q3⟩ := bocageref03_Minus.ev [sp (s, a) (t, b)] [sp (s', a') (t', b')] (Nat.le_of_ble_eq_true rfl) (Nat.le_of_ble_eq_true rfl) w1 w2
      have eM : M = L := q2.unique l2.1 (fun n => by rw [q3, l2', aX, aY])
      refine Ev.bind q1 (Ev.step (f := fun k => _) (fun k => by rw [bocagelaw03_SpanTwo.j4]) (Ev.bind bocagelaw03_alive.ev ?_))
      simp only [if_true]
      refine Ev.bind (a := x9) ⟨3, fun k hk => (span_Holds.eq (sp (s, a) (t, b)) (sp (s', a') (t', b')) k hk).trans (congrArg some ?_)⟩ ?_
      · rw [h9, Bool.eq_iff_iff, decide_eq_true_eq, decide_eq_true_eq]
        constructor
        · rintro ⟨_, _, g1, g2⟩
          constructor
          · by_cases g : pos (s', a') < pos (s, a)
            · have := (cmp2_pos_gt X.1 Y.1).2 g; omega
            · omega
          · by_cases g : pos (t, b) < pos (t', b')
            · have := (cmp2_pos_gt Y.2.1 X.2.1).2 g; omega
            · omega
        · rintro ⟨g1, g2⟩
          refine ⟨X.RS, Y.RS, ?_, ?_⟩
          · by_cases g : cmp2 (s, a) (s', a') > 0
            · have := (cmp2_pos_gt X.1 Y.1).1 g; exact absurd this (by show ¬ pos (s', a') < pos (s, a); omega)
            · exact Int.not_lt.1 g
          · by_cases g : cmp2 (t', b') (t, b) > 0
            · have := (cmp2_pos_gt Y.2.1 X.2.1).1 g; exact absurd this (by show ¬ pos (t, b) < pos (t', b'); omega)
            · exact Int.not_lt.1 g
      simp only [beq_self_eq_true, if_true]
      refine Ev.bind (a := x10) ⟨9, fun k hk => (span_Touch.eq s a t b s' a' t' b' k hk).trans (congrArg some ?_)⟩ ?_
      · rw [h10, Bool.eq_iff_iff, decide_eq_true_eq, decide_eq_true_eq]
        exact ⟨fun h => h.2.2, fun h => ⟨r1, r2, h⟩⟩
      simp only [beq_self_eq_true, if_true]
      refine Ev.bind ⟨9, fun k hk => span_Hull.eq s a t b s' a' t' b' k hk⟩ ?_
      have c1 : canon s a = (s, a) := r1.1
      have c2 : canon t b = (t, b) := r1.2.1
      have c3 : canon s' a' = (s', a') := r2.1
      have c4 : canon t' b' = (t', b') := r2.2.1
      simp only [if_pos (And.intro r1 r2), c1, c2, c3, c4, beq_self_eq_true, Bool.and_self, if_true]
      refine Ev.bind l1 ?_
      rw [eM]
      refine Ev.bind (bocageref03_Same.ev L L (by omega)) ?_
      simp only [decide_true]
      exact Ev.now _
    have j1 : Ev (fun k => bocagelaw03_SpanTwo.j1 k B true false s a t b s' a' t' b') true := by
      refine Ev.step (f := fun k => _) (fun k => by rw [bocagelaw03_SpanTwo.j1, if_neg Bool.false_ne_true, if_pos rfl]) ?_
      refine Ev.bind (a := [sp (s', a') (t', b')]) ⟨0, fun k _ => rfl⟩ (Ev.bind (a := [sp (s, a) (t, b)]) ⟨0, fun k _ => rfl⟩ ?_)
      obtain ⟨M, q1, q2, q3⟩ := bocageref03_Minus.ev [sp (s', a') (t', b')] [sp (s, a) (t, b)] (Nat.le_of_ble_eq_true rfl) (Nat.le_of_ble_eq_true rfl) w2 w1
      refine Ev.bind q1 ?_
      have h9 : ((M.length : Int) == 0) = decide (pos (s, a) ≤ pos (s', a') ∧ pos (t', b') ≤ pos (t, b)) := by
        rw [Bool.eq_iff_iff, beq_iff_eq, decide_eq_true_eq]
        constructor
        · intro hM
          have hM0 : M = [] := List.eq_nil_of_length_eq_zero (by omega)
          have hno : ∀ n, ¬ ((pos (s', a') ≤ n ∧ n < pos (t', b')) ∧ ¬ (pos (s, a) ≤ n ∧ n < pos (t, b))) := fun n h => by
            have := (q3 n).2 ⟨(aY n).2 h.1, fun g => h.2 ((aX n).1 g)⟩
            rw [hM0] at this; exact Any_nil this
          have k1 := hno (pos (s', a'))
          have k2 := hno (pos (t', b') - 1)
          omega
        · rintro ⟨g1, g2⟩
          rw [good_empty q2 (fun n h => by
            have h' := (q3 n).1 h
            rw [aX, aY] at h'
            omega)]
          rfl
      rw [h9]
      refine Ev.step (f := fun k => _) (fun k => by rw [bocagelaw03_SpanTwo.j2, if_pos rfl]) ?_
      by_cases hi_ : pos (maxC (s, a) (s', a')) < pos (minC (t, b) (t', b'))
      · have eB1 : B = [sp (maxC (s, a) (s', a')) (minC (t, b) (t', b'))] := eB.trans (if_pos hi_)
        have hl : ¬ ((B.length : Int) = 0) := by rw [eB1]; simp
        simp only [hl, if_false]
        refine j4 _ _ rfl ?_
        symm
        rw [decide_eq_false_iff_not]
        rw [m2', n2'] at hi_
        rintro (g | g)
        · have := congrArg pos g; split at hi_ <;> split at hi_ <;> omega
        · have := congrArg pos g; split at hi_ <;> split at hi_ <;> omega
      · have eB0 : B = [] := eB.trans (if_neg hi_)
        have hl : (B.length : Int) = 0 := by rw [eB0]; rfl
        simp only [hl, if_true]
        have wl : ∀ z ∈ [sp (s, a) (t, b), sp (s', a') (t', b')], WS z := fun z hz => by
          rcases List.mem_cons.1 hz with rfl | hz
          · exact wx
          · rcases List.mem_singleton.1 hz with rfl; exact wy
        obtain ⟨R, u1, u2, u3⟩ := bocageref03_List.ev [sp (s, a) (t, b), sp (s', a') (t', b')] (Nat.le_of_ble_eq_true rfl) wl
        have u3' : ∀ n, Any R n ↔ (pos (s, a) ≤ n ∧ n < pos (t, b)) ∨ (pos (s', a') ≤ n ∧ n < pos (t', b')) := fun n => by
          rw [u3, ← aX, ← aY]
          exact Any_append (l := [sp (s, a) (t, b)]) (m := [sp (s', a') (t', b')])
        refine Ev.bind u1 (j4 _ _ rfl ?_)
        rw [m2', n2'] at hi_
        have two : ∀ p q : Sp, RR p → RR q → pos (hi p) < pos (lo q) → (∀ n, Any R n ↔ (pos (lo p) ≤ n ∧ n < pos (hi p)) ∨ (pos (lo q) ≤ n ∧ n < pos (hi q))) → (R.length : Int) = 2 := by
          intro p q hp hq hpq hA
          have hG : GoodL [p, q] := ⟨fun z hz => by
            rcases List.mem_cons.1 hz with rfl | hz
            · exact hp
            · rcases List.mem_singleton.1 hz with rfl; exact hq,
            (NormI_one (p := iv p) hp.2.2).snoc (p := iv q) hq.2.2 (fun z hz => by rcases List.mem_singleton.1 hz with rfl; exact hpq)⟩
          have e : R = [p, q] := u2.unique hG (fun n => by
            rw [hA]
            have := Any_append (l := [p]) (m := [q]) (n := n)
            rw [Any_one, Any_one] at this
            exact ⟨fun h => this.2 (h.elim (fun h => .inl ⟨hp, h⟩) (fun h => .inr ⟨hq, h⟩)), fun h => (this.1 h).elim (fun h => .inl h.2) (fun h => .inr h.2)⟩)
          rw [e]; rfl
        have one : ∀ p q : Int × Int, CC p → CC q → pos p < pos q → (∀ n, Any R n ↔ pos p ≤ n ∧ n < pos q) → (R.length : Int) = 1 := by
          intro p q hp hq hpq hA
          have hr : RR (sp p q) := ⟨hp, hq, hpq⟩
          have e : R = [sp p q] := u2.unique (GoodL_one hr) (fun n => by
            rw [hA, Any_one]
            exact ⟨fun h => ⟨hr, h⟩, fun h => h.2⟩)
          rw [e]; rfl
        rw [Bool.eq_iff_iff, beq_iff_eq, decide_eq_true_eq]
        constructor
        · intro hlen
          by_cases g1 : pos (t, b) < pos (s', a')
          · have := two (sp (s, a) (t, b)) (sp (s', a') (t', b')) X Y g1 u3'
            omega
          · by_cases g2 : pos (t', b') < pos (s, a)
            · have := two (sp (s', a') (t', b')) (sp (s, a) (t, b)) Y X g2 (fun n => by rw [u3']; exact Or.comm)
              omega
            · by_cases g3 : pos (t, b) = pos (s', a')
              · exact .inl (pos_inj X.2.1 Y.1 g3)
              · refine .inr (pos_inj Y.2.1 X.1 ?_)
                show pos (t', b') = pos (s, a)
                split at hi_ <;> split at hi_ <;> omega
        · rintro (g | g)
          · have e := congrArg pos g
            exact one (s, a) (t', b') X.1 Y.2.1 (by omega) (fun n => by rw [u3']; omega)
          · have e := congrArg pos g
            exact one (s', a') (t, b) Y.1 X.2.1 (by omega) (fun n => by rw [u3']; omega)
    by_cases hm : cmp2 (maxC (s, a) (s', a')) (minC (t, b) (t', b')) < 0
    · have hm' := (cmp2_pos m1 n1).1 hm
      have eB1 : B = [sp (maxC (s, a) (s', a')) (minC (t, b) (t', b'))] := eB.trans (if_pos hm')
      simp only [hm, if_true]
      refine Ev.step (f := fun k => (span_Overlap.f k s a t b s' a' t' b').bind fun t510 => bocagelaw03_SpanTwo.j1 k B true (t510 != true) s a t b s' a' t' b') (fun k => ?_) ?_
      · rw [bocagelaw03_SpanTwo.j0, eB1, if_neg (by simp), if_pos rfl, if_pos (by simp), if_neg (by simp [rd_T25, sp])]
      · refine Ev.bind (a := true) ⟨9, fun k hk => (span_Overlap.eq s a t b s' a' t' b' k hk).trans (congrArg some (decide_eq_true ⟨r1, r2, hm⟩))⟩ ?_
        exact j1
    · have hm' : ¬ pos (maxC (s, a) (s', a')) < pos (minC (t, b) (t', b')) := fun g => hm ((cmp2_pos m1 n1).2 g)
      have eB0 : B = [] := eB.trans (if_neg hm')
      simp only [hm, if_false]
      refine Ev.step (f := fun k => (span_Overlap.f k s a t b s' a' t' b').bind fun t510 => bocagelaw03_SpanTwo.j1 k B true (t510 != false) s a t b s' a' t' b') (fun k => ?_) ?_
      · rw [bocagelaw03_SpanTwo.j0, eB0, if_neg (by simp), if_neg Bool.false_ne_true, if_neg (by simp)]
      · refine Ev.bind (a := false) ⟨9, fun k hk => (span_Overlap.eq s a t b s' a' t' b' k hk).trans (congrArg some (decide_eq_false (fun g => hm g.2.2)))⟩ ?_
        exact j1
  · -- one of them may not be
    have hno : ∀ n, ¬ (Any [sp (s, a) (t, b)] n ∧ Any [sp (s', a') (t', b')] n) := fun n h => by
      rw [Any_one, Any_one] at h
      exact hR ⟨h.1.1.RS, h.2.1.RS⟩
    obtain ⟨B, b1, b2, b3⟩ := bocageref03_Meet.ev [sp (s, a) (t, b)] [sp (s', a') (t', b')] (Nat.le_of_ble_eq_true rfl) (Nat.le_of_ble_eq_true rfl) w1 w2 (fun R hG hA => by
      by_cases hx : RS (s, a) (t, b)
      · have X : RR (sp (s, a) (t, b)) := (RS_iff wx).1 hx
        have : R = [sp (s, a) (t, b)] := hG.unique (GoodL_one X) (fun n => by
          rw [hA]
          exact ⟨fun h => h.1, fun h => ⟨h, fun g => hno n ⟨h, g⟩⟩⟩)
        rw [this]; exact Nat.le_of_ble_eq_true rfl
      · have : R = [] := good_empty hG (fun n h => by
          have := ((hA n).1 h).1
          rw [Any_one] at this
          exact hx this.1.RS)
        rw [this]; exact Nat.zero_le _)
    have eB0 : B = [] := good_empty b2 (fun n h => hno n ((b3 n).1 h))
    refine Ev.bind b1 (Ev.bind ⟨9, fun k hk => span_Meet.eq s a t b s' a' t' b' k hk⟩ (Ev.bind ⟨1, fun k hk => bocageref03_Right.eq s a t b k hk⟩ ?_))
    have hno3 : ¬ (RS (s, a) (t, b) ∧ RS (s', a') (t', b') ∧ cmp2 (maxC (s, a) (s', a')) (minC (t, b) (t', b')) < 0) := fun g => hR ⟨g.1, g.2.1⟩
    simp only [if_neg hno3]
    have j0 : Ev (fun k => bocagelaw03_SpanTwo.j0 k B false false s a t b s' a' t' b' 0 0 0 0) true := by
      refine Ev.step (f := fun k => (span_Overlap.f k s a t b s' a' t' b').bind fun t510 => bocagelaw03_SpanTwo.j1 k B false (t510 != false) s a t b s' a' t' b') (fun k => ?_) ?_
      · rw [bocagelaw03_SpanTwo.j0, eB0, if_neg (by simp), if_neg Bool.false_ne_true, if_neg (by simp)]
      · refine Ev.bind (a := false) ⟨9, fun k hk => (span_Overlap.eq s a t b s' a' t' b' k hk).trans (congrArg some (decide_eq_false (fun g => hno3 g)))⟩ ?_
        refine Ev.step (f := fun k => bocagelaw03_SpanTwo.j2 k B false false s a t b s' a' t' b') (fun k => by rw [bocagelaw03_SpanTwo.j1, if_neg (by simp), if_neg Bool.false_ne_true]) ?_
        refine Ev.step (f := fun k => bocagelaw03_SpanTwo.j3 k false false false s a t b s' a' t' b') (fun k => by rw [bocagelaw03_SpanTwo.j2, if_neg Bool.false_ne_true]) ?_
        refine Ev.step (f := fun k => bocagelaw03_SpanTwo.j4 k false false [] s a t b s' a' t' b' 0 0 0 0) (fun k => by rw [bocagelaw03_SpanTwo.j3, if_neg Bool.false_ne_true]) ?_
        refine Ev.step (f := fun k => _) (fun k => by rw [bocagelaw03_SpanTwo.j4]) (Ev.bind bocagelaw03_alive.ev ?_)
        simp only [if_true]
        refine Ev.bind (a := false) ⟨3, fun k hk => (span_Holds.eq (sp (s, a) (t, b)) (sp (s', a') (t', b')) k hk).trans (congrArg some (decide_eq_false (fun g => hR ⟨g.1, g.2.1⟩)))⟩ ?_
        simp only [beq_self_eq_true, if_true]
        refine Ev.bind (a := false) ⟨9, fun k hk => (span_Touch.eq s a t b s' a' t' b' k hk).trans (congrArg some (decide_eq_false (fun g => hR ⟨g.1, g.2.1⟩)))⟩ ?_
        simp only [beq_self_eq_true, if_true]
        refine Ev.bind ⟨9, fun k hk => span_Hull.eq s a t b s' a' t' b' k hk⟩ ?_
        simp only [if_neg hR, beq_self_eq_true, Bool.and_self, if_true]
        refine Ev.bind (a := ([] : List Sp)) ⟨9, fun k hk => ?_⟩ ?_
        · unfold span_Minus.f
          show (span_both.f k s a t b s' a' t' b').bind _ = _
          rw [span_both.eq _ _ _ _ _ _ _ _ k (by omega), Option.bind_some, decide_eq_false hR, if_neg Bool.false_ne_true]
        · refine Ev.bind (bocageref03_Same.ev [] [] (Nat.zero_le _)) ?_
          simp only [decide_true]
          exact Ev.now _
    by_cases hx : RS (s, a) (t, b)
    · have hy : ¬ RS (s', a') (t', b') := fun g => hR ⟨hx, g⟩
      simp only [hx, decide_true, if_true]
      refine Ev.bind ⟨1, fun k hk => bocageref03_Right.eq s' a' t' b' k hk⟩ ?_
      simp only [hy, decide_false]
      exact j0
    · simp only [hx, decide_false, Bool.false_eq_true, if_false]
      exact j0

end Go.Proofs.Ytkkbmjfhpngalaa.Pure
