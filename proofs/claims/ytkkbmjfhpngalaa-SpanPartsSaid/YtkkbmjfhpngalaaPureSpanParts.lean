/- What both have, and what one has alone, are all numbers of that one, each once (law03 SpanParts), for every two spans and every number; no conditions. -/
import Derived.Test.YtkkbmjfhpngalaaPrint1
import Derived.Test.YtkkbmjfhpngalaaPrint2
import Derived.Test.YtkkbmjfhpngalaaRSpanParts
import Derived.Test.YtkkbmjfhpngalaaLSpanH
import Derived.Test.YtkkbmjfhpngalaaLSpanRM
import Derived.Test.YtkkbmjfhpngalaaLSpanMi
import Derived.Test.YtkkbmjfhpngalaaLAlive03
namespace Go.Proofs.Ytkkbmjfhpngalaa.Pure
open Go.RowKit Go.Proofs.Ytkkbmjfhpngalaa.Print Go.Proofs.YtkkbmjfhpngalaaW.PrintWords Go.Proofs.YtkkbmjfhpngalaaW.PrintLast
set_option linter.unusedVariables false
set_option linter.unusedSimpArgs false
theorem SpanParts : bocagelaw03_SpanParts.Pure := by
  intro s a t b s' a' t' b' n hs ha ht hb hs' ha' ht' hb' hn
  have wx : WS (sp (s, a) (t, b)) := ⟨I64.of_wf ha, I64.of_wf hb⟩
  have wy : WS (sp (s', a') (t', b')) := ⟨I64.of_wf ha', I64.of_wf hb'⟩
  have hn := I64.of_wf hn
  -- where one may not be
  have al : Ev (fun k => bocagelaw03_SpanParts.j0 k n true s a t b s' a' t' b') true :=
    Ev.step (f := fun k => (bocagelaw03_alive.f k).bind fun u => some u) (fun k => by rw [bocagelaw03_SpanParts.j0, if_pos rfl]) (Ev.bind bocagelaw03_alive.ev (Ev.now _))
  suffices h : Ev (fun k => bocagelaw03_SpanParts.f k s a t b s' a' t' b' n) true from h.rounds
  unfold bocagelaw03_SpanParts.f
  refine Ev.bind ⟨3, fun k hk => span_Right.eq s a t b k hk⟩ ?_
  by_cases r1 : RS (s, a) (t, b)
  · simp only [r1, decide_true, if_true]
    refine Ev.bind ⟨3, fun k hk => span_Right.eq s' a' t' b' k hk⟩ ?_
    by_cases r2 : RS (s', a') (t', b')
    · simp only [r2, decide_true, Bool.not_true]
      have X : RR (sp (s, a) (t, b)) := (RS_iff wx).1 r1
      have Y : RR (sp (s', a') (t', b')) := (RS_iff wy).1 r2
      obtain ⟨L, l1, l2, l3⟩ := span_Minus.eq X Y
      have l2' : ∀ m, Any L m ↔ (pos (s, a) ≤ m ∧ m < pos (t, b)) ∧ ¬ (pos (s', a') ≤ m ∧ m < pos (t', b')) := l2.2
      -- the loop over what one has alone
      have last : ∀ (c : Int) (is : Bool) (p q u v : Int), (is = true → RR (sp (p, q) (u, v)) ∧ ∀ m, (pos (p, q) ≤ m ∧ m < pos (u, v)) ↔ (pos (s, a) ≤ m ∧ m < pos (t, b)) ∧ (pos (s', a') ≤ m ∧ m < pos (t', b'))) → (is = false → ∀ m, ¬ ((pos (s, a) ≤ m ∧ m < pos (t, b)) ∧ (pos (s', a') ≤ m ∧ m < pos (t', b')))) →
          c = (if (pos (s, a) ≤ n ∧ n < pos (t, b)) then 1 else 0) → Ev (fun k => bocagelaw03_SpanParts.j4 k is c L (if (pos (s, a) ≤ n ∧ n < pos (t, b)) then 1 else 0) s a t b p q u v) true := by
        intro c is p q u v h1 h2 hc
        have fin : ∀ M : List Sp, M.length ≤ 10 → (∀ x ∈ M, WS x) → (∀ m, Any M m ↔ (pos (s, a) ≤ m ∧ m < pos (t, b))) → Ev (fun k => bocagelaw03_SpanParts.j5 k c M (if (pos (s, a) ≤ n ∧ n < pos (t, b)) then 1 else 0) s a t b) true := by
          intro M m1 m2 m3
          refine Ev.step (f := fun k => _) (fun k => by rw [bocagelaw03_SpanParts.j5]) ?_
          refine Ev.bind bocagelaw03_alive.ev ?_
          rw [← hc]
          simp only [if_true]
          have e : listS M = [sp (s, a) (t, b)] := by
            obtain ⟨k1, k2⟩ := listS_ok M m2
            refine k1.unique ⟨fun x hx => by rcases List.mem_singleton.1 hx with rfl; exact X, NormI_one X.2.2⟩ (fun m => ?_)
            rw [k2, m3, Any_one]
            exact ⟨fun h => ⟨X, h⟩, fun h => h.2⟩
          refine Ev.bind (a := listS M) ⟨0, fun k _ => by unfold span_List.f; rw [if_pos (by omega)]⟩ ?_
          refine Ev.bind (a := [sp (s, a) (t, b)]) ⟨0, fun k _ => rfl⟩ ?_
          refine Ev.bind (bocageref03_Same.ev _ _ (by rw [e]; show 1 ≤ 10000000; omega)) ?_
          rw [e]
          simp only [decide_true]
          exact Ev.now _
        have lw : ∀ x ∈ L, WS x := l2.1.ws
        cases is with
        | true =>
          obtain ⟨g1, g2⟩ := h1 rfl
          refine Ev.step (f := fun k => bocagelaw03_SpanParts.j5 k c (L ++ [sp (p, q) (u, v)]) (if (pos (s, a) ≤ n ∧ n < pos (t, b)) then 1 else 0) s a t b) (fun k => by rw [bocagelaw03_SpanParts.j4, if_pos rfl, if_pos (by omega)]; rfl) ?_
          refine fin _ (by rw [List.length_append, List.length_singleton]; omega) (fun x hx => (List.mem_append.1 hx).elim (lw x) (fun hx => by rcases List.mem_singleton.1 hx with rfl; exact g1.ws)) (fun m => ?_)
          have e1 : pos (lo (sp (p, q) (u, v))) = pos (p, q) := rfl
          have e2 : pos (hi (sp (p, q) (u, v))) = pos (u, v) := rfl
          rw [Any_append, Any_one, l2', e1, e2, g2]
          constructor
          · rintro (h | ⟨_, h⟩)
            · exact h.1
            · exact h.1
          · intro h
            by_cases c2 : pos (s', a') ≤ m ∧ m < pos (t', b')
            · exact .inr ⟨g1, h, c2⟩
            · exact .inl ⟨h, c2⟩
        | false =>
          have g := h2 rfl
          refine Ev.step (f := fun k => bocagelaw03_SpanParts.j5 k c L (if (pos (s, a) ≤ n ∧ n < pos (t, b)) then 1 else 0) s a t b) (fun k => by rw [bocagelaw03_SpanParts.j4, if_neg Bool.false_ne_true]) ?_
          refine fin _ (by omega) lw (fun m => ?_)
          rw [l2']
          exact ⟨fun h => h.1, fun h => ⟨h, fun h' => g m ⟨h, h'⟩⟩⟩
      have lw : ∀ x ∈ L, WS x := l2.1.ws
      have hA : hasB (sp (s, a) (t, b)) n = decide (pos (s, a) ≤ n ∧ n < pos (t, b)) := by
        rw [Bool.eq_iff_iff, hasB_iff wx, decide_eq_true_eq]
        exact ⟨fun h => h.2, fun h => ⟨X, h⟩⟩
      have hcnt : cntN L n = if (pos (s, a) ≤ n ∧ n < pos (t, b)) ∧ ¬ (pos (s', a') ≤ n ∧ n < pos (t', b')) then 1 else 0 := by
        rw [cntN_good n l2.1]
        by_cases h : (pos (s, a) ≤ n ∧ n < pos (t, b)) ∧ ¬ (pos (s', a') ≤ n ∧ n < pos (t', b'))
        · rw [if_pos h, if_pos ((anyB_iff lw).2 ((l2' n).2 h))]
        · rw [if_neg h, if_neg (fun g => h ((l2' n).1 ((anyB_iff lw).1 g)))]
      have loop : ∀ (is : Bool) (p q u v : Int), (is = true → RR (sp (p, q) (u, v)) ∧ ∀ m, (pos (p, q) ≤ m ∧ m < pos (u, v)) ↔ (pos (s, a) ≤ m ∧ m < pos (t, b)) ∧ (pos (s', a') ≤ m ∧ m < pos (t', b'))) → (is = false → ∀ m, ¬ ((pos (s, a) ≤ m ∧ m < pos (t, b)) ∧ (pos (s', a') ≤ m ∧ m < pos (t', b')))) →
          ∀ (m i : Nat) (c : Int), i + m = L.length → 0 ≤ c → c ≤ i + 1 → c + cntN (L.drop i) n = (if (pos (s, a) ≤ n ∧ n < pos (t, b)) then 1 else 0) → Ev (fun k => bocagelaw03_SpanParts.l0 k n is c L L (L.length : Int) (i : Int) s a t b p q u v) true := by
        intro is p q u v h1 h2 m
        induction m with
        | zero =>
          intro i c hin hc0 hc1 hc
          rw [List.drop_of_length_le (by omega)] at hc
          have hc' : c = (if (pos (s, a) ≤ n ∧ n < pos (t, b)) then 1 else 0) := by rw [← hc]; show c = c + 0; omega
          refine Ev.step (f := fun k => (bocageref03_Has.f k s a t b n).bind fun u_ => if u_ = true then bocagelaw03_SpanParts.j4 k is c L 1 s a t b p q u v else bocagelaw03_SpanParts.j4 k is c L 0 s a t b p q u v) (fun k => by rw [bocagelaw03_SpanParts.l0, if_neg (by omega)]) ?_
          refine Ev.bind (a := decide (pos (s, a) ≤ n ∧ n < pos (t, b))) ⟨1, fun k hk => (bocageref03_Has.eq (sp (s, a) (t, b)) wx hn k hk).trans (by rw [hA])⟩ ?_
          have fin := last c is p q u v h1 h2 hc'
          by_cases hw : pos (s, a) ≤ n ∧ n < pos (t, b)
          · simp only [hw, and_self, decide_true, if_true] at fin ⊢; exact fin
          · simp only [hw, decide_false, Bool.false_eq_true, if_false] at fin ⊢; exact fin
        | succ m ih =>
          intro i c hin hc0 hc1 hc
          have hlt : i < L.length := by omega
          have hwr : wrap64 ((i : Int) + 1) = ((i + 1 : Nat) : Int) := by unfold wrap64; omega
          have hwc : wrap64 (c + 1) = c + 1 := by unfold wrap64; omega
          rw [List.drop_eq_getElem_cons hlt] at hc
          refine Ev.step (f := fun k => (span_Has.f k L[i].f0.f0 L[i].f0.f1 L[i].f1.f0 L[i].f1.f1 n).bind fun u_ => if u_ = true then bocagelaw03_SpanParts.l0 k n is (c + 1) L L (L.length : Int) ((i + 1 : Nat) : Int) s a t b p q u v else bocagelaw03_SpanParts.l0 k n is c L L (L.length : Int) ((i + 1 : Nat) : Int) s a t b p q u v) (fun k => by rw [bocagelaw03_SpanParts.l0, if_pos (by omega), if_pos (by omega), if_pos (by omega), rdS hlt, hwr, hwc]) ?_
          refine Ev.bind (a := hasB L[i] n) ⟨3, fun k hk => span_Has.eq _ (lw _ (List.getElem_mem hlt)) hn k hk⟩ ?_
          have hc2 : c + ((if hasB L[i] n = true then 1 else 0) + cntN (L.drop (i + 1)) n) = (if (pos (s, a) ≤ n ∧ n < pos (t, b)) then 1 else 0) := hc
          by_cases hb : hasB L[i] n = true
          · simp only [hb, if_true] at hc2 ⊢
            exact ih (i + 1) (c + 1) (by omega) (by omega) (by omega) (by omega)
          · have hb' : hasB L[i] n = false := by simpa using hb
            simp only [hb', Bool.false_eq_true, if_false] at hc2 ⊢
            exact ih (i + 1) c (by omega) (by omega) (by omega) (by omega)
      have go : ∀ (is : Bool) (c : Int) (p q u v : Int), (is = true → RR (sp (p, q) (u, v)) ∧ ∀ m, (pos (p, q) ≤ m ∧ m < pos (u, v)) ↔ (pos (s, a) ≤ m ∧ m < pos (t, b)) ∧ (pos (s', a') ≤ m ∧ m < pos (t', b'))) → (is = false → ∀ m, ¬ ((pos (s, a) ≤ m ∧ m < pos (t, b)) ∧ (pos (s', a') ≤ m ∧ m < pos (t', b')))) →
          0 ≤ c → c ≤ 1 → c = (if (pos (s, a) ≤ n ∧ n < pos (t, b)) ∧ (pos (s', a') ≤ n ∧ n < pos (t', b')) then 1 else 0) → Ev (fun k => bocagelaw03_SpanParts.j2 k n is c s a t b s' a' t' b' p q u v) true := by
        intro is c p q u v h1 h2 hc0 hc1 hc
        refine Ev.step (f := fun k => (span_Minus.f k s a t b s' a' t' b').bind fun l => bocagelaw03_SpanParts.l0 k n is c l l (l.length : Int) 0 s a t b p q u v) (fun k => by rw [bocagelaw03_SpanParts.j2]) ?_
        refine Ev.bind l1 (loop is p q u v h1 h2 L.length 0 c (by omega) hc0 (by omega) ?_)
        rw [List.drop_zero, hcnt, hc]
        by_cases c1 : pos (s, a) ≤ n ∧ n < pos (t, b) <;> by_cases c2 : pos (s', a') ≤ n ∧ n < pos (t', b') <;> simp [c1, c2]
      obtain ⟨x1, x2⟩ := maxC_CC X.1 Y.1
      obtain ⟨y1, y2⟩ := minC_CC X.2.1 Y.2.1
      have x2' : pos (maxC (s, a) (s', a')) = if pos (s, a) < pos (s', a') then pos (s', a') else pos (s, a) := x2
      have y2' : pos (minC (t, b) (t', b')) = if pos (t', b') < pos (t, b) then pos (t', b') else pos (t, b) := y2
      have hboth : ∀ m, (pos (maxC (s, a) (s', a')) ≤ m ∧ m < pos (minC (t, b) (t', b'))) ↔ (pos (s, a) ≤ m ∧ m < pos (t, b)) ∧ (pos (s', a') ≤ m ∧ m < pos (t', b')) := fun m => by
        rw [x2', y2']; split <;> split <;> omega
      refine Ev.step (f := fun k => (span_Meet.f k s a t b s' a' t' b').bind fun bt => if bt.2.2.2.2 = true then ((span_Has.f k bt.1 bt.2.1 bt.2.2.1 bt.2.2.2.1 n).bind fun u_ => bocagelaw03_SpanParts.j1 k n bt.2.2.2.2 0 u_ s a t b s' a' t' b' bt.1 bt.2.1 bt.2.2.1 bt.2.2.2.1) else bocagelaw03_SpanParts.j1 k n bt.2.2.2.2 0 false s a t b s' a' t' b' bt.1 bt.2.1 bt.2.2.1 bt.2.2.2.1) (fun k => by rw [bocagelaw03_SpanParts.j0, if_neg Bool.false_ne_true]) ?_
      refine Ev.bind ⟨9, fun k hk => span_Meet.eq s a t b s' a' t' b' k hk⟩ ?_
      by_cases hm : cmp2 (maxC (s, a) (s', a')) (minC (t, b) (t', b')) < 0
      · have hm' := (cmp2_pos x1 y1).1 hm
        have Z : RR (sp (maxC (s, a) (s', a')) (minC (t, b) (t', b'))) := ⟨x1, y1, hm'⟩
        rw [if_pos ⟨r1, r2, hm⟩]
        simp only [if_true]
        refine Ev.bind (a := hasB (sp (maxC (s, a) (s', a')) (minC (t, b) (t', b'))) n) ⟨3, fun k hk => span_Has.eq _ Z.ws hn k hk⟩ ?_
        have hz : hasB (sp (maxC (s, a) (s', a')) (minC (t, b) (t', b'))) n = true ↔ (pos (s, a) ≤ n ∧ n < pos (t, b)) ∧ (pos (s', a') ≤ n ∧ n < pos (t', b')) := by
          rw [hasB_iff Z.ws]
          exact ⟨fun h => (hboth n).1 h.2, fun h => ⟨Z, (hboth n).2 h⟩⟩
        have hd : ∀ is : Bool, is = true → (RR (sp ((maxC (s, a) (s', a')).1, (maxC (s, a) (s', a')).2) ((minC (t, b) (t', b')).1, (minC (t, b) (t', b')).2)) ∧ ∀ m, (pos ((maxC (s, a) (s', a')).1, (maxC (s, a) (s', a')).2) ≤ m ∧ m < pos ((minC (t, b) (t', b')).1, (minC (t, b) (t', b')).2)) ↔ (pos (s, a) ≤ m ∧ m < pos (t, b)) ∧ (pos (s', a') ≤ m ∧ m < pos (t', b'))) := fun _ _ => ⟨Z, hboth⟩
        by_cases hh : hasB (sp (maxC (s, a) (s', a')) (minC (t, b) (t', b'))) n = true
        · refine Ev.step (f := fun k => bocagelaw03_SpanParts.j2 k n true (wrap64 (0 + 1)) s a t b s' a' t' b' (maxC (s, a) (s', a')).1 (maxC (s, a) (s', a')).2 (minC (t, b) (t', b')).1 (minC (t, b) (t', b')).2) (fun k => by rw [bocagelaw03_SpanParts.j1, hh, if_pos rfl]) ?_
          rw [show wrap64 (0 + 1) = 1 by unfold wrap64; omega]
          exact go true 1 _ _ _ _ (hd true) (fun h => by cases h) (by omega) (by omega) (by rw [if_pos (hz.1 hh)])
        · have hh' : hasB (sp (maxC (s, a) (s', a')) (minC (t, b) (t', b'))) n = false := by simpa using hh
          refine Ev.step (f := fun k => bocagelaw03_SpanParts.j2 k n true 0 s a t b s' a' t' b' (maxC (s, a) (s', a')).1 (maxC (s, a) (s', a')).2 (minC (t, b) (t', b')).1 (minC (t, b) (t', b')).2) (fun k => by rw [bocagelaw03_SpanParts.j1, hh', if_neg Bool.false_ne_true]) ?_
          exact go true 0 _ _ _ _ (hd true) (fun h => by cases h) (by omega) (by omega) (by rw [if_neg (fun g => hh (hz.2 g))])
      · have hm' : ¬ pos (maxC (s, a) (s', a')) < pos (minC (t, b) (t', b')) := fun g => hm ((cmp2_pos x1 y1).2 g)
        have hno : ∀ m, ¬ ((pos (s, a) ≤ m ∧ m < pos (t, b)) ∧ (pos (s', a') ≤ m ∧ m < pos (t', b'))) := fun m h => by
          have := (hboth m).2 h; omega
        rw [if_neg (fun g => hm g.2.2)]
        simp only [Bool.false_eq_true, if_false]
        refine Ev.step (f := fun k => bocagelaw03_SpanParts.j2 k n false 0 s a t b s' a' t' b' 0 0 0 0) (fun k => by rw [bocagelaw03_SpanParts.j1, if_neg Bool.false_ne_true]) ?_
        exact go false 0 0 0 0 0 (fun h => by cases h) (fun _ => hno) (by omega) (by omega) (by rw [if_neg (hno n)])
    · simp only [r2, decide_false, Bool.not_false]; exact al
  · simp only [r1, decide_false, Bool.false_eq_true, if_false]; exact al

end Go.Proofs.Ytkkbmjfhpngalaa.Pure
