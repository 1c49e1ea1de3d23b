import Derived.Test.YtkkbmjfhpngalaaPrint2
import Derived.Test.YtkkbmjfhpngalaaLSpanH
namespace Go.Proofs.Ytkkbmjfhpngalaa.Print
open Go.RowKit Go.Proofs.YtkkbmjfhpngalaaW.PrintWords Go.Proofs.YtkkbmjfhpngalaaW.PrintLast
set_option linter.unusedVariables false
set_option linter.unusedSimpArgs false
theorem RR.ws' {x : Sp} (h : RR x) : WS x := by
  have key : ∀ p : Int × Int, CC p → I64 p.2 := fun p hp => by
    rcases hp with e | e | ⟨a, e, h1, h2⟩
    · rw [e]; exact ⟨by decide, by decide⟩
    · rw [e]; exact ⟨by decide, by decide⟩
    · rw [e]; exact ⟨by show -9223372036854775808 ≤ a; omega, h2⟩
  exact ⟨key _ h.1, key _ h.2.1⟩
theorem piece_ok {p q : Int × Int} (hp : CC p) (hq : CC q) : GoodL (if pos p < pos q then [sp p q] else []) ∧ ∀ m, Any (if pos p < pos q then [sp p q] else []) m ↔ pos p ≤ m ∧ m < pos q := by
  by_cases h : pos p < pos q
  · rw [if_pos h]
    have r : RR (sp p q) := ⟨hp, hq, h⟩
    refine ⟨⟨fun x hx => by rcases List.mem_singleton.1 hx with rfl; exact r, NormI_one h⟩, fun m => ?_⟩
    constructor
    · rintro ⟨x, hx, _, g⟩
      rcases List.mem_singleton.1 hx with rfl
      exact g
    · intro g; exact ⟨sp p q, List.mem_singleton.2 rfl, r, g⟩
  · rw [if_neg h]
    refine ⟨⟨fun _ hx => (by cases hx), NormI_nil⟩, fun m => ⟨fun ⟨_, hx, _⟩ => (by cases hx), fun g => by omega⟩⟩
theorem optS_eq (p q : Int × Int) (hp : CC p) (hq : CC q) (k : Nat) (hk : 3 ≤ k) : ∃ r : Int × Int × Int × Int × Int, span_Of.f k p.1 p.2 q.1 q.2 = some r ∧ optS r.1 r.2.1 r.2.2.1 r.2.2.2.1 r.2.2.2.2 = if pos p < pos q then [sp p q] else [] := by
  refine ⟨_, span_Of.eq _ _ _ _ k hk, ?_⟩
  rw [hp.canon, hq.canon]
  by_cases h : cmp2 p q < 0
  · rw [if_pos h, if_pos ((cmp2_pos hp hq).1 h)]; rfl
  · rw [if_neg h, if_neg (fun g => h ((cmp2_pos hp hq).2 g))]; rfl
theorem span_Minus.eq {x y : Sp} (X : RR x) (Y : RR y) : ∃ L, Ev (fun k => span_Minus.f k x.f0.f0 x.f0.f1 x.f1.f0 x.f1.f1 y.f0.f0 y.f0.f1 y.f1.f0 y.f1.f1) L ∧
    (GoodL L ∧ ∀ m, Any L m ↔ (pos (lo x) ≤ m ∧ m < pos (hi x)) ∧ ¬ (pos (lo y) ≤ m ∧ m < pos (hi y))) ∧ L.length ≤ 2 := by
  obtain ⟨a1, a2⟩ := minC_CC X.2.1 Y.1
  obtain ⟨b1, b2⟩ := maxC_CC X.1 Y.2.1
  refine ⟨(if pos (lo x) < pos (minC (hi x) (lo y)) then [sp (lo x) (minC (hi x) (lo y))] else []) ++ (if pos (maxC (lo x) (hi y)) < pos (hi x) then [sp (maxC (lo x) (hi y)) (hi x)] else []), ⟨9, fun k hk => ?_⟩, ?_, ?_⟩
  · dsimp only
    unfold span_Minus.f
    rw [span_both.eq _ _ _ _ _ _ _ _ k (by omega), Option.bind_some]
    have e0 : decide (RS (x.f0.f0, x.f0.f1) (x.f1.f0, x.f1.f1) ∧ RS (y.f0.f0, y.f0.f1) (y.f1.f0, y.f1.f1)) = true := decide_eq_true ⟨X.RS, Y.RS⟩
    rw [e0, if_pos rfl, cut_Least.eq2 _ _ k hk, Option.bind_some]
    dsimp only
    have c1 : canon x.f0.f0 x.f0.f1 = lo x := X.1.canon
    have c2 : canon x.f1.f0 x.f1.f1 = hi x := X.2.1.canon
    have c3 : canon y.f0.f0 y.f0.f1 = lo y := Y.1.canon
    have c4 : canon y.f1.f0 y.f1.f1 = hi y := Y.2.1.canon
    rw [c2, c3]
    obtain ⟨r, r1, r2⟩ := optS_eq (lo x) (minC (hi x) (lo y)) X.1 a1 k (by omega)
    have r1' : span_Of.f k x.f0.f0 x.f0.f1 (minC (hi x) (lo y)).1 (minC (hi x) (lo y)).2 = some r := r1
    rw [r1', Option.bind_some, cut_Greatest.eq2 _ _ k hk, Option.bind_some]
    dsimp only
    rw [c1, c4]
    obtain ⟨q, q1, q2⟩ := optS_eq (maxC (lo x) (hi y)) (hi x) b1 X.2.1 k (by omega)
    have q1' : span_Of.f k (maxC (lo x) (hi y)).1 (maxC (lo x) (hi y)).2 x.f1.f0 x.f1.f1 = some q := q1
    rw [q1', Option.bind_some, r2, q2]
  · obtain ⟨g1, g2⟩ := piece_ok X.1 a1
    obtain ⟨g3, g4⟩ := piece_ok b1 X.2.1
    have x3 := X.2.2
    have y3 := Y.2.2
    refine ⟨⟨fun z hz => (List.mem_append.1 hz).elim (g1.1 z) (g3.1 z), ?_⟩, fun m => ?_⟩
    · rw [List.map_append]
      by_cases h1 : pos (lo x) < pos (minC (hi x) (lo y))
      · by_cases h2 : pos (maxC (lo x) (hi y)) < pos (hi x)
        · rw [if_pos h1, if_pos h2]
          refine (NormI_one (p := iv (sp (lo x) (minC (hi x) (lo y)))) h1).snoc h2 (fun q hq => ?_)
          rcases List.mem_singleton.1 hq with rfl
          show pos (minC (hi x) (lo y)) < pos (maxC (lo x) (hi y))
          rw [a2, b2]
          rw [a2] at h1
          split <;> split <;> (try split at h1) <;> omega
        · rw [if_neg h2, List.map_nil, List.append_nil]; exact g1.2
      · rw [if_neg h1, List.map_nil, List.nil_append]; exact g3.2
    · have e : Any ((if pos (lo x) < pos (minC (hi x) (lo y)) then [sp (lo x) (minC (hi x) (lo y))] else []) ++ (if pos (maxC (lo x) (hi y)) < pos (hi x) then [sp (maxC (lo x) (hi y)) (hi x)] else [])) m ↔ Any (if pos (lo x) < pos (minC (hi x) (lo y)) then [sp (lo x) (minC (hi x) (lo y))] else []) m ∨ Any (if pos (maxC (lo x) (hi y)) < pos (hi x) then [sp (maxC (lo x) (hi y)) (hi x)] else []) m := by
        constructor
        · rintro ⟨z, hz, h⟩
          exact (List.mem_append.1 hz).elim (fun h' => .inl ⟨z, h', h⟩) (fun h' => .inr ⟨z, h', h⟩)
        · rintro (⟨z, hz, h⟩ | ⟨z, hz, h⟩)
          · exact ⟨z, List.mem_append_left _ hz, h⟩
          · exact ⟨z, List.mem_append_right _ hz, h⟩
      rw [e, g2, g4, a2, b2]
      split <;> split <;> omega
  · rw [List.length_append]
    have : ∀ (c : Prop) [Decidable c] (z : Sp), (if c then [z] else []).length ≤ 1 := fun c _ z => by split <;> simp
    have h1 := this (pos (lo x) < pos (minC (hi x) (lo y))) (sp (lo x) (minC (hi x) (lo y)))
    have h2 := this (pos (maxC (lo x) (hi y)) < pos (hi x)) (sp (maxC (lo x) (hi y)) (hi x))
    omega
/-- how many of some have a number -/
def cntN (L : List Sp) (n : Int) : Int := match L with
  | [] => 0
  | x :: L => (if hasB x n = true then 1 else 0) + cntN L n
theorem cntN_good : ∀ {L : List Sp} (n : Int), GoodL L → cntN L n = if anyB L n = true then 1 else 0
  | [], _, _ => rfl
  | x :: L, n, h => by
    have hN : NormI (iv x :: L.map iv) := h.2
    have hc := hN.cons
    have hT : GoodL L := ⟨fun z hz => h.1 z (List.mem_cons_of_mem _ hz), hc.2.2⟩
    have ih := cntN_good n hT
    show (if hasB x n = true then 1 else 0) + cntN L n = if (hasB x n || anyB L n) = true then 1 else 0
    rw [ih]
    by_cases h1 : hasB x n = true
    · have h2 : anyB L n = false := by
        rw [Bool.eq_false_iff]
        intro g
        obtain ⟨z, hz, _, g1, g2⟩ := (anyB_iff (fun z hz => (hT.1 z hz).ws')).1 g
        have := hc.2.1 (iv z) (List.mem_map_of_mem hz)
        have h3 := ((hasB_iff (h.1 x List.mem_cons_self).ws').1 h1).2.2
        have h4 : (iv x).2 = pos (hi x) := rfl
        have h5 : (iv z).1 = pos (lo z) := rfl
        omega
      rw [h1, h2]; rfl
    · have h1' : hasB x n = false := by simpa using h1
      rw [h1', Bool.false_or, if_neg Bool.false_ne_true, Int.zero_add]

end Go.Proofs.Ytkkbmjfhpngalaa.Print
