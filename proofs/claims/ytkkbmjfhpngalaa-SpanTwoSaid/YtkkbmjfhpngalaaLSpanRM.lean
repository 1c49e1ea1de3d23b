import Derived.Test.YtkkbmjfhpngalaaPrint2
import Derived.Test.YtkkbmjfhpngalaaPrint8
import Derived.Test.YtkkbmjfhpngalaaLSpanRL
namespace Go.Proofs.Ytkkbmjfhpngalaa.Print
open Go.RowKit Go.Proofs.YtkkbmjfhpngalaaW.PrintWords Go.Proofs.YtkkbmjfhpngalaaW.PrintLast
set_option linter.unusedVariables false
set_option linter.unusedSimpArgs false
/-- a piece comes behind, as it is -/
def addQ (out : List Sp) (c d : Ct) : List Sp := out ++ [sp (ct c) (ct d)]
theorem minus_l0 (l m : List Sp) (hl : l.length ≤ 100000) (hm' : m.length ≤ 100000) (w : ∀ x ∈ l, WS x) (wm : ∀ x ∈ m, WS x) (C : List Ct) (hC : UpC C) (hCl : C.length ≤ 1000000) (r : List Sp) : ∀ (j i : Nat) (out : List Sp), i + j = C.length → out.length ≤ i →
    Ev (fun k => bocageref03_List.f k (goP (fun n => anyB l n && !anyB m n) addQ out (C.drop i))) r → Ev (fun k => bocageref03_Minus.l0 k l m C out (i : Int)) r := by
  intro j
  induction j with
  | zero =>
    intro i out hin ho h
    have hw : wrap64 ((i : Int) + 1) = ((i + 1 : Nat) : Int) := by unfold wrap64; omega
    rw [List.drop_of_length_le (by omega)] at h
    refine Ev.step (f := fun k => (bocageref03_List.f k out).bind fun t => some t) (fun k => ?_) (Ev.bind h (Ev.now _))
    rw [bocageref03_Minus.l0, hw, if_neg (by omega)]
  | succ j ih =>
    intro i out hin ho h
    have hlt : i < C.length := by omega
    have hw : wrap64 ((i : Int) + 1) = ((i + 1 : Nat) : Int) := by unfold wrap64; omega
    by_cases h2 : i + 1 < C.length
    · have hlow := hC.low h2
      have hcc := hC.1 C[i] (List.getElem_mem hlt)
      rw [List.drop_eq_getElem_cons hlt, List.drop_eq_getElem_cons h2] at h
      replace h : Ev (fun k => bocageref03_List.f k (goP (fun n => anyB l n && !anyB m n) addQ (if (anyB l (pos (ct C[i])) && !anyB m (pos (ct C[i]))) = true then addQ out C[i] C[i + 1] else out) (C[i + 1] :: C.drop (i + 1 + 1)))) r := h
      rw [← List.drop_eq_getElem_cons h2] at h
      obtain ⟨b, hb⟩ := Next_pos hcc hlow 1 (by omega)
      refine Ev.step (f := fun k => (bocageref02_Next.f k C[i].f0 C[i].f1).bind fun t => (bocageref03_Any.f k l t.1).bind fun u => if u = true then ((bocageref03_Any.f k m t.1).bind fun v => if v = true then bocageref03_Minus.l0 k l m C out ((i + 1 : Nat) : Int) else bocageref03_Minus.l0 k l m C (addQ out C[i] C[i + 1]) ((i + 1 : Nat) : Int)) else bocageref03_Minus.l0 k l m C out ((i + 1 : Nat) : Int)) (fun k => ?_) ?_
      · rw [bocageref03_Minus.l0, hw, if_pos (by omega), if_pos (by omega), if_pos (by omega), rdC hlt, rdC h2]
        congr 1; funext t
        congr 1; funext u
        by_cases hu : u = true
        · rw [if_pos hu, if_pos hu]
          congr 1; funext v
          by_cases hv : v = true
          · rw [if_pos hv, if_pos hv]
          · rw [if_neg hv, if_neg hv, if_pos (by omega), if_pos (by omega)]; rfl
        · rw [if_neg hu, if_neg hu]
      · refine Ev.bind (a := (pos (ct C[i]), b)) ⟨1, fun k hk => at_rounds (g := fun k => bocageref02_Next.f k C[i].f0 C[i].f1) (bocageref02_Next.mono _ _) hk hb⟩ ?_
        refine Ev.bind (bocageref03_Any.ev l (by omega) w (pos_I64 hcc hlow)) ?_
        by_cases ha : anyB l (pos (ct C[i])) = true
        · simp only [ha, if_true, Bool.true_and] at h ⊢
          refine Ev.bind (bocageref03_Any.ev m (by omega) wm (pos_I64 hcc hlow)) ?_
          by_cases hb2 : anyB m (pos (ct C[i])) = true
          · simp only [hb2, if_true, Bool.not_true, Bool.false_eq_true, if_false] at h ⊢
            exact ih (i + 1) _ (by omega) (by omega) h
          · have hb' : anyB m (pos (ct C[i])) = false := by simpa using hb2
            simp only [hb', Bool.false_eq_true, if_false, Bool.not_false, if_true] at h ⊢
            exact ih (i + 1) _ (by omega) (by unfold addQ; rw [List.length_append]; show out.length + 1 ≤ _; omega) h
        · have ha' : anyB l (pos (ct C[i])) = false := by simpa using ha
          simp only [ha', Bool.false_eq_true, if_false, Bool.false_and] at h ⊢
          exact ih (i + 1) _ (by omega) (by omega) h
    · have hd : C.drop i = [C[i]] := by rw [List.drop_eq_getElem_cons hlt, List.drop_of_length_le (by omega)]
      rw [hd] at h
      refine Ev.step (f := fun k => (bocageref03_List.f k out).bind fun t => some t) (fun k => ?_) (Ev.bind h (Ev.now _))
      rw [bocageref03_Minus.l0, hw, if_neg (by omega)]
/-- the pieces of which a test is true -/
theorem goQ_ok (f : Int → Bool) (A : Int → Prop) : ∀ (C : List Ct) (c : Ct) (out : List Sp), UpC (c :: C) → (∀ o ∈ out, RR o) → (∀ n, Any out n ↔ A n ∧ n < pos (ct c)) →
    (∀ n, A n → n < pos (ct c) ∨ ∃ d ∈ C, n < pos (ct d)) → (∀ a ∈ c :: C, ∀ b ∈ c :: C, (∀ e ∈ c :: C, pos (ct e) ≤ pos (ct a) ∨ pos (ct b) ≤ pos (ct e)) → ∀ n, pos (ct a) ≤ n → n < pos (ct b) → (A n ↔ f (pos (ct a)) = true)) →
    (∀ o ∈ goP f addQ out (c :: C), RR o) ∧ (∀ n, Any (goP f addQ out (c :: C)) n ↔ A n) ∧ (goP f addQ out (c :: C)).length ≤ out.length + C.length
  | [], c, out, hC, hr, ha, hend, hp => by
    refine ⟨hr, fun n => ?_, Nat.le_refl _⟩
    show Any out n ↔ _
    rw [ha]
    refine ⟨fun h => h.1, fun h => ⟨h, ?_⟩⟩
    rcases hend n h with h | ⟨d, hd, _⟩
    · exact h
    · cases hd
  | d :: C, c, out, hC, hr, ha, hend, hp => by
    have hcd : pos (ct c) < pos (ct d) := (List.pairwise_cons.1 hC.2).1 d List.mem_cons_self
    have hC' : UpC (d :: C) := ⟨fun e he => hC.1 e (List.mem_cons_of_mem _ he), (List.pairwise_cons.1 hC.2).2⟩
    have cc := hC.1 c List.mem_cons_self
    have cd := hC.1 d (List.mem_cons_of_mem _ List.mem_cons_self)
    have hge : ∀ e ∈ c :: d :: C, pos (ct e) ≤ pos (ct c) ∨ pos (ct d) ≤ pos (ct e) := fun e he => by
      rcases List.mem_cons.1 he with he | he
      · rw [he]; exact .inl (Int.le_refl _)
      · rcases List.mem_cons.1 he with he | he
        · rw [he]; exact .inr (Int.le_refl _)
        · have := (List.pairwise_cons.1 hC'.2).1 e he; exact .inr (by omega)
    have hpiece := hp c List.mem_cons_self d (List.mem_cons_of_mem _ List.mem_cons_self) hge
    have next : ∀ out', (∀ o ∈ out', RR o) → out'.length ≤ out.length + 1 → (∀ n, Any out' n ↔ A n ∧ n < pos (ct d)) →
        (∀ o ∈ goP f addQ out' (d :: C), RR o) ∧ (∀ n, Any (goP f addQ out' (d :: C)) n ↔ A n) ∧ (goP f addQ out' (d :: C)).length ≤ out.length + (C.length + 1) := fun out' g1 g2 g3 => by
      obtain ⟨k1, k2, k3⟩ := goQ_ok f A C d out' hC' g1 g3 (fun n hn => by
        rcases hend n hn with h | ⟨e, he, h⟩
        · left; omega
        · rcases List.mem_cons.1 he with he | he
          · rw [he] at h; exact .inl h
          · exact .inr ⟨e, he, h⟩) (fun a ha' b hb hab => by
        refine hp a (List.mem_cons_of_mem _ ha') b (List.mem_cons_of_mem _ hb) (fun e he => ?_)
        rcases List.mem_cons.1 he with he | he
        · left; rw [he]
          rcases List.mem_cons.1 ha' with h | h
          · rw [h]; omega
          · have := (List.pairwise_cons.1 hC.2).1 a (List.mem_cons_of_mem _ h); omega
        · exact hab e he)
      exact ⟨k1, k2, by omega⟩
    show (∀ o ∈ goP f addQ (if f (pos (ct c)) = true then addQ out c d else out) (d :: C), RR o) ∧ (∀ n, Any (goP f addQ (if f (pos (ct c)) = true then addQ out c d else out) (d :: C)) n ↔ A n) ∧ (goP f addQ (if f (pos (ct c)) = true then addQ out c d else out) (d :: C)).length ≤ _
    by_cases hx : f (pos (ct c)) = true
    · rw [if_pos hx]
      have hr1 : RR (sp (ct c) (ct d)) := ⟨cc, cd, hcd⟩
      refine next _ (fun o ho => ?_) (by unfold addQ; rw [List.length_append]; exact Nat.le_refl _) (fun n => ?_)
      · rcases List.mem_append.1 ho with ho | ho
        · exact hr o ho
        · rcases List.mem_singleton.1 ho with rfl; exact hr1
      · unfold addQ
        rw [Any_append, Any_one, ha]
        constructor
        · rintro (⟨h1, h2⟩ | ⟨_, h1, h2⟩)
          · exact ⟨h1, by omega⟩
          · exact ⟨(hpiece n h1 h2).2 hx, h2⟩
        · rintro ⟨h1, h2⟩
          by_cases h3 : n < pos (ct c)
          · exact .inl ⟨h1, h3⟩
          · exact .inr ⟨hr1, by show pos (ct c) ≤ n; omega, h2⟩
    · rw [if_neg hx]
      refine next _ hr (by omega) (fun n => ?_)
      rw [ha]
      refine ⟨fun h => ⟨h.1, by omega⟩, fun h => ⟨h.1, ?_⟩⟩
      by_cases h3 : n < pos (ct c)
      · exact h3
      · exact absurd ((hpiece n (by omega) h.2).1 h.1) hx
theorem RR.ws {x : Sp} (h : RR x) : WS x := by
  have key : ∀ p : Int × Int, CC p → I64 p.2 := fun p hp => by
    rcases hp with e | e | ⟨a, e, h1, h2⟩
    · rw [e]; exact ⟨by decide, by decide⟩
    · rw [e]; exact ⟨by decide, by decide⟩
    · rw [e]; exact ⟨by show -9223372036854775808 ≤ a; omega, h2⟩
  exact ⟨key _ h.1, key _ h.2.1⟩
theorem bocageref03_Minus.ev (l m : List Sp) (hl : l.length ≤ 10000) (hm : m.length ≤ 10000) (w : ∀ x ∈ l, WS x) (wm : ∀ x ∈ m, WS x) :
    ∃ R, Ev (fun k => bocageref03_Minus.f k l m) R ∧ GoodL R ∧ ∀ n, Any R n ↔ Any l n ∧ ¬ Any m n := by
  have hlen : (l ++ m).length = l.length + m.length := List.length_append
  have wlm : ∀ x ∈ l ++ m, WS x := fun x hx => (List.mem_append.1 hx).elim (w x) (wm x)
  obtain ⟨C, c1, c2, c3, c4, c5⟩ := bocageref03_Cuts.ev (l ++ m) (by omega) wlm
  have hin : ∀ x ∈ l ++ m, RR x → (∃ c ∈ C, ct c = lo x) ∧ ∃ c ∈ C, ct c = hi x := fun x hx hr => ⟨(c4 _).2 ⟨x, hx, hr, .inl rfl⟩, (c4 _).2 ⟨x, hx, hr, .inr rfl⟩⟩
  -- what the pieces hold
  have hq : (∀ o ∈ goP (fun n => anyB l n && !anyB m n) addQ [] C, RR o) ∧ (∀ n, Any (goP (fun n => anyB l n && !anyB m n) addQ [] C) n ↔ Any l n ∧ ¬ Any m n) ∧ (goP (fun n => anyB l n && !anyB m n) addQ [] C).length ≤ C.length := by
    cases C with
    | nil =>
      refine ⟨fun _ h => by (cases h), fun n => ⟨fun h => absurd h Any_nil, ?_⟩, Nat.le_refl _⟩
      rintro ⟨⟨x, hx, hr, _⟩, _⟩
      obtain ⟨⟨c, hc, _⟩, _⟩ := hin x (List.mem_append_left _ hx) hr
      cases hc
    | cons c C =>
      have const : ∀ (l' : List Sp), (∀ x ∈ l', x ∈ l ++ m) → ∀ a ∈ c :: C, ∀ b ∈ c :: C, (∀ e ∈ c :: C, pos (ct e) ≤ pos (ct a) ∨ pos (ct b) ≤ pos (ct e)) → ∀ n, pos (ct a) ≤ n → n < pos (ct b) → (Any l' n ↔ Any l' (pos (ct a))) := by
        intro l' hl' a _ b _ hab n h1 h2
        constructor
        · rintro ⟨x, hx, hr, hn⟩
          obtain ⟨⟨e, he, g⟩, _⟩ := hin x (hl' x hx) hr
          refine ⟨x, hx, hr, ?_, by omega⟩
          rw [← g] at hn ⊢
          rcases hab e he with g1 | g1 <;> omega
        · rintro ⟨x, hx, hr, hn⟩
          obtain ⟨_, ⟨e, he, g⟩⟩ := hin x (hl' x hx) hr
          refine ⟨x, hx, hr, by omega, ?_⟩
          rw [← g] at hn ⊢
          rcases hab e he with g1 | g1 <;> omega
      have := goQ_ok (fun n => anyB l n && !anyB m n) (fun n => Any l n ∧ ¬ Any m n) C c [] ⟨c2, c3⟩ (fun _ h => by cases h)
        (fun n => ⟨fun h => absurd h Any_nil, by
          rintro ⟨⟨⟨x, hx, hr, h1, _⟩, _⟩, h2⟩
          obtain ⟨⟨e, he, g⟩, _⟩ := hin x (List.mem_append_left _ hx) hr
          rw [← g] at h1
          rcases List.mem_cons.1 he with he | he
          · rw [he] at h1; omega
          · have := (List.pairwise_cons.1 c3).1 e he; omega⟩)
        (fun n hn => by
          obtain ⟨⟨x, hx, hr, _, h2⟩, _⟩ := hn
          obtain ⟨_, ⟨e, he, g⟩⟩ := hin x (List.mem_append_left _ hx) hr
          rw [← g] at h2
          rcases List.mem_cons.1 he with he | he
          · rw [he] at h2; exact .inl h2
          · exact .inr ⟨e, he, h2⟩)
        (fun a ha b hb hab n h1 h2 => by
          rw [Bool.and_eq_true, Bool.not_eq_true', anyB_iff w, const l (fun x hx => List.mem_append_left _ hx) a ha b hb hab n h1 h2, const m (fun x hx => List.mem_append_right _ hx) a ha b hb hab n h1 h2]
          have e : ¬ Any m (pos (ct a)) ↔ anyB m (pos (ct a)) = false := by rw [← anyB_iff wm]; simp
          rw [e])
      refine ⟨this.1, this.2.1, ?_⟩
      have h3 := this.2.2
      rw [List.length_nil] at h3
      rw [List.length_cons]; omega
  obtain ⟨q1, q2, q3⟩ := hq
  obtain ⟨R, r1, r2, r3⟩ := bocageref03_List.ev (goP (fun n => anyB l n && !anyB m n) addQ [] C) (by omega) (fun x hx => (q1 x hx).ws)
  refine ⟨R, ?_, r2, fun n => by rw [r3, q2]⟩
  have h0 := minus_l0 l m (by omega) (by omega) w wm C ⟨c2, c3⟩ (by omega) R C.length 0 [] (by omega) (Nat.le_refl _) (by rw [List.drop_zero]; exact r1)
  refine Ev.congr (f := fun k => (bocageref03_Cuts.f k (l ++ m)).bind fun t => bocageref03_Minus.l0 k l m t [] 0) (fun k => ?_) (Ev.bind c1 h0)
  unfold bocageref03_Minus.f
  simp only [Option.bind_some, List.length_nil, Nat.zero_add, List.nil_append]
  rw [if_pos (by omega), if_pos (by omega)]
theorem GoodL.ws {L : List Sp} (h : GoodL L) : ∀ x ∈ L, WS x := fun x hx => (h.1 x hx).ws
theorem bocageref03_Meet.ev (l m : List Sp) (hl : l.length ≤ 10000) (hm : m.length ≤ 10000) (w : ∀ x ∈ l, WS x) (wm : ∀ x ∈ m, WS x) (hb : ∀ R : List Sp, GoodL R → (∀ n, Any R n ↔ Any l n ∧ ¬ Any m n) → R.length ≤ 10000) :
    ∃ R, Ev (fun k => bocageref03_Meet.f k l m) R ∧ GoodL R ∧ ∀ n, Any R n ↔ Any l n ∧ Any m n := by
  obtain ⟨A, a1, a2, a3⟩ := bocageref03_Minus.ev l m hl hm w wm
  obtain ⟨B, b1, b2, b3⟩ := bocageref03_Minus.ev l A hl (hb A a2 a3) w a2.ws
  refine ⟨B, ?_, b2, fun n => ?_⟩
  · exact Ev.bind a1 (Ev.bind b1 (Ev.now _))
  · rw [b3, a3]
    by_cases h1 : Any l n <;> by_cases h2 : Any m n <;> simp [h1, h2]
instance : DecidableEq S23 := fun x y => by
  by_cases h : x.f0 = y.f0 ∧ x.f1 = y.f1
  · exact isTrue (by cases x; cases y; simp only at h; rw [h.1, h.2])
  · exact isFalse (fun e => h (by rw [e]; exact ⟨rfl, rfl⟩))
instance : DecidableEq S25 := fun x y => by
  by_cases h : x.f0 = y.f0 ∧ x.f1 = y.f1
  · exact isTrue (by cases x; cases y; simp only at h; rw [h.1, h.2])
  · exact isFalse (fun e => h (by rw [e]; exact ⟨rfl, rfl⟩))
theorem same_l0 (l m : List Sp) (hl : l.length ≤ 10000000) (he : l.length = m.length) : ∀ (j i : Nat), i + j = l.length → Ev (fun k => bocageref03_Same.l0 k l m (i : Int)) (decide (l.drop i = m.drop i)) := by
  intro j
  induction j with
  | zero =>
    intro i hin
    rw [List.drop_of_length_le (by omega), List.drop_of_length_le (by omega)]
    refine Ev.step (f := fun _ => some true) (fun k => ?_) (Ev.now _)
    rw [bocageref03_Same.l0, if_neg (by omega)]
  | succ j ih =>
    intro i hin
    have hlt : i < l.length := by omega
    have hlt' : i < m.length := by omega
    have hw : wrap64 ((i : Int) + 1) = ((i + 1 : Nat) : Int) := by unfold wrap64; omega
    rw [List.drop_eq_getElem_cons hlt, List.drop_eq_getElem_cons hlt']
    have e : ((((!(l[i].f0.f0 == m[i].f0.f0) || (!(l[i].f0.f1 == m[i].f0.f1)))) || ((!(l[i].f1.f0 == m[i].f1.f0) || (!(l[i].f1.f1 == m[i].f1.f1)))))) = !decide (l[i] = m[i]) := by
      rw [Bool.eq_iff_iff]
      generalize l[i] = x
      generalize m[i] = y
      obtain ⟨⟨a, b⟩, ⟨c, d⟩⟩ := x
      obtain ⟨⟨a', b'⟩, ⟨c', d'⟩⟩ := y
      simp only [Bool.or_eq_true, Bool.not_eq_true', beq_eq_false_iff_ne, decide_eq_false_iff_not, S25.mk.injEq, S23.mk.injEq]
      constructor
      · rintro ((h | h) | (h | h)) ⟨⟨h1, h2⟩, h3, h4⟩ <;> exact h (by assumption)
      · intro h
        by_cases h1 : a = a'
        · by_cases h2 : b = b'
          · by_cases h3 : c = c'
            · by_cases h4 : d = d'
              · exact absurd ⟨⟨h1, h2⟩, h3, h4⟩ h
              · exact .inr (.inr h4)
            · exact .inr (.inl h3)
          · exact .inl (.inr h2)
        · exact .inl (.inl h1)
    refine Ev.step (f := fun k => if (!decide (l[i] = m[i])) = true then some false else bocageref03_Same.l0 k l m ((i + 1 : Nat) : Int)) (fun k => ?_) ?_
    · rw [bocageref03_Same.l0, if_pos (by omega), if_pos (by omega), if_pos (by omega), rdS hlt, rdS hlt', hw, e]
    · by_cases h : l[i] = m[i]
      · simp only [h, decide_true, Bool.not_true, Bool.false_eq_true, if_false]
        have e3 : decide (m[i] :: l.drop (i + 1) = m[i] :: m.drop (i + 1)) = decide (l.drop (i + 1) = m.drop (i + 1)) := by
          rw [Bool.eq_iff_iff, decide_eq_true_eq, decide_eq_true_eq]
          exact ⟨fun h => (List.cons.inj h).2, fun h => by rw [h]⟩
        rw [e3]
        exact ih (i + 1) (by omega)
      · simp only [h, decide_false, Bool.not_false, if_true]
        have e2 : decide (l[i] :: l.drop (i + 1) = m[i] :: m.drop (i + 1)) = false := by rw [decide_eq_false_iff_not]; intro h2; injection h2 with h3; exact h h3
        rw [e2]; exact Ev.now _
theorem bocageref03_Same.ev (l m : List Sp) (hl : l.length ≤ 10000000) : Ev (fun k => bocageref03_Same.f k l m) (decide (l = m)) := by
  by_cases he : l.length = m.length
  · have h := same_l0 l m hl he l.length 0 (by omega)
    rw [List.drop_zero, List.drop_zero] at h
    refine Ev.congr (fun k => ?_) h
    unfold bocageref03_Same.f
    rw [if_pos (by omega)]; rfl
  · refine Ev.congr (f := fun _ => some false) (fun k => ?_) ?_
    · unfold bocageref03_Same.f
      rw [if_neg (by omega)]
    · have : decide (l = m) = false := by rw [decide_eq_false_iff_not]; intro h; exact he (by rw [h])
      rw [this]; exact Ev.now _

end Go.Proofs.Ytkkbmjfhpngalaa.Print
