import Derived.Test.YtkkbmjfhpngalaaPrint5
import Derived.Test.YtkkbmjfhpngalaaPrint7
import Derived.Test.YtkkbmjfhpngalaaPrint8
import Derived.Test.YtkkbmjfhpngalaaLSpanR
namespace Go.Proofs.Ytkkbmjfhpngalaa.Print
open Go.RowKit Go.Proofs.YtkkbmjfhpngalaaW.PrintWords Go.Proofs.YtkkbmjfhpngalaaW.PrintLast
set_option linter.unusedVariables false
set_option linter.unusedSimpArgs false
/-- a piece comes to a row: it is joined where it touches the last one -/
def addP (out : List Sp) (c d : Ct) : List Sp :=
  match out.getLast? with
  | some o => if hi o = ct c then out.dropLast ++ [sp (lo o) (ct d)] else out ++ [sp (ct c) (ct d)]
  | none => out ++ [sp (ct c) (ct d)]
/-- the pieces between cuts, gone through -/
def goP (f : Int → Bool) (add : List Sp → Ct → Ct → List Sp) : List Sp → List Ct → List Sp
  | out, [] => out
  | out, [_] => out
  | out, c :: d :: rest => goP f add (if f (pos (ct c)) = true then add out c d else out) (d :: rest)
theorem Next_pos {c : Ct} (h : CC (ct c)) (hl : pos (ct c) < 9223372036854775808) (k : Nat) (hk : 1 ≤ k) : ∃ b, bocageref02_Next.f k c.f0 c.f1 = some (pos (ct c), b) := by
  have w : I64 (ct c).2 := by
    unfold I64
    rcases h.pos_cases with ⟨e, _⟩ | ⟨e, _⟩ | ⟨e, h1, h2⟩
    · rw [e]; exact ⟨by decide, by decide⟩
    · rw [e]; exact ⟨by decide, by decide⟩
    · rw [e]; exact ⟨by dsimp only; omega, by dsimp only; omega⟩
  have e0 := bocageref02_Next.eq c.f0 (a := c.f1) w k hk
  have ec : canon c.f0 c.f1 = ct c := h.canon
  rw [ec] at e0
  rw [e0]
  unfold nextOf
  rcases h.pos_cases with ⟨e, e2⟩ | ⟨e, e2⟩ | ⟨e, h1, h2⟩
  · rw [e2, e]; exact ⟨true, rfl⟩
  · omega
  · rw [e]; exact ⟨true, rfl⟩
theorem pos_I64 {c : Ct} (h : CC (ct c)) (hl : pos (ct c) < 9223372036854775808) : I64 (pos (ct c)) := by
  have := h.range
  unfold I64; omega
theorem addP_len (out : List Sp) (c d : Ct) : (addP out c d).length ≤ out.length + 1 := by
  rcases List.eq_nil_or_concat out with rfl | ⟨ys, o, rfl⟩
  · exact Nat.le_refl _
  · rw [List.concat_eq_append]
    unfold addP
    rw [List.getLast?_concat]
    dsimp only
    split <;> simp
/-- rising places, right -/
def UpC (C : List Ct) : Prop := (∀ c ∈ C, CC (ct c)) ∧ C.Pairwise (fun a b => pos (ct a) < pos (ct b))
theorem UpC.low {C : List Ct} (h : UpC C) {i : Nat} (hi : i + 1 < C.length) : pos (ct C[i]) < 9223372036854775808 := by
  have h1 := List.pairwise_iff_getElem.1 h.2 i (i + 1) (by omega) hi (by omega)
  have := (h.1 C[i + 1] (List.getElem_mem hi)).range
  omega
theorem list_l0 (l : List Sp) (hl : l.length ≤ 100000) (w : ∀ x ∈ l, WS x) (C : List Ct) (hC : UpC C) (hCl : C.length ≤ 1000000) : ∀ (m i : Nat) (out : List Sp), i + m = C.length → out.length ≤ i →
    Ev (fun k => bocageref03_List.l0 k l C out (i : Int)) (goP (anyB l) addP out (C.drop i)) := by
  intro m
  induction m with
  | zero =>
    intro i out hin ho
    have hw : wrap64 ((i : Int) + 1) = ((i + 1 : Nat) : Int) := by unfold wrap64; omega
    rw [List.drop_of_length_le (by omega)]
    refine Ev.step (f := fun _ => some out) (fun k => ?_) (Ev.now _)
    rw [bocageref03_List.l0, hw, if_neg (by omega)]
  | succ m ih =>
    intro i out hin ho
    have hlt : i < C.length := by omega
    have hw : wrap64 ((i : Int) + 1) = ((i + 1 : Nat) : Int) := by unfold wrap64; omega
    by_cases h2 : i + 1 < C.length
    · have hlow := hC.low h2
      have hcc := hC.1 C[i] (List.getElem_mem hlt)
      rw [List.drop_eq_getElem_cons hlt, List.drop_eq_getElem_cons h2]
      show Ev _ (goP (anyB l) addP (if anyB l (pos (ct C[i])) = true then addP out C[i] C[i + 1] else out) (C[i + 1] :: C.drop (i + 1 + 1)))
      rw [← List.drop_eq_getElem_cons h2]
      obtain ⟨b, hb⟩ := Next_pos hcc hlow 1 (by omega)
      refine Ev.step (f := fun k => (bocageref02_Next.f k C[i].f0 C[i].f1).bind fun t => (bocageref03_Any.f k l t.1).bind fun u => if u = true then bocageref03_List.l0 k l C (addP out C[i] C[i + 1]) ((i + 1 : Nat) : Int) else bocageref03_List.l0 k l C out ((i + 1 : Nat) : Int)) (fun k => ?_) ?_
      · rw [bocageref03_List.l0, hw, if_pos (by omega), if_pos (by omega), if_pos (by omega), rdC hlt, rdC h2]
        congr 1; funext t
        congr 1; funext u
        by_cases hu : u = true
        · rw [if_pos hu, if_pos hu]
          rcases List.eq_nil_or_concat out with rfl | ⟨ys, o, rfl⟩
          · have hm : wrap64 ((([] : List Sp).length : Int) - 1) = -1 := by unfold wrap64; simp
            rw [hm, if_neg (by decide), if_pos (by omega), if_pos (by decide)]
            rfl
          · rw [List.concat_eq_append] at *
            have hlen : ((ys ++ [o]).length : Int) = ys.length + 1 := by simp
            have hys : ys.length + 1 ≤ i := by simpa using ho
            have hm : wrap64 (((ys ++ [o]).length : Int) - 1) = (ys.length : Int) := by rw [hlen]; unfold wrap64; omega
            have hrd2 : rd_T25 (ys ++ [o]) (ys.length : Int) = o := by simp [rd_T25, List.getD]
            have hset : ∀ v : Sp, (ys ++ [o]).set (ys.length : Int).toNat v = ys ++ [v] := fun v => by simp
            have hadd : addP (ys ++ [o]) C[i] C[i + 1] = if hi o = ct C[i] then ys ++ [sp (lo o) (ct C[i + 1])] else ys ++ [o] ++ [sp (ct C[i]) (ct C[i + 1])] := by
              unfold addP; rw [List.getLast?_concat]; simp only [List.dropLast_concat]
            rw [hm, if_pos (by omega), if_pos (by omega), if_pos (by omega), hrd2, hadd]
            by_cases he : hi o = ct C[i]
            · rw [if_pos (by have e1 := congrArg Prod.fst he; have e2 := congrArg Prod.snd he; have e1' : o.f1.f0 = C[i].f0 := e1; have e2' : o.f1.f1 = C[i].f1 := e2; rw [e1', e2']; simp), if_pos (by omega), if_pos he, hset]
              rfl
            · rw [if_neg (fun h => he (by simp at h; exact Prod.ext h.1 h.2)), if_pos (by omega), if_neg he, if_pos (by rw [List.length_append]; show ys.length + 1 < _; omega)]
              rfl
        · rw [if_neg hu, if_neg hu]
      · refine Ev.bind (a := (pos (ct C[i]), b)) ⟨1, fun k hk => ?_⟩ ?_
        · obtain ⟨b', hb'⟩ := Next_pos hcc hlow k hk
          have m1 := at_rounds (g := fun k => bocageref02_Next.f k C[i].f0 C[i].f1) (bocageref02_Next.mono _ _) hk hb
          exact m1
        · refine Ev.bind (bocageref03_Any.ev l (by omega) w (pos_I64 hcc hlow)) ?_
          by_cases ha : anyB l (pos (ct C[i])) = true
          · simp only [ha, if_true]
            exact ih (i + 1) _ (by omega) (by have := addP_len out C[i] C[i + 1]; omega)
          · have ha' : anyB l (pos (ct C[i])) = false := by simpa using ha
            simp only [ha', Bool.false_eq_true, if_false]
            exact ih (i + 1) _ (by omega) (by omega)
    · have hd : C.drop i = [C[i]] := by rw [List.drop_eq_getElem_cons hlt, List.drop_of_length_le (by omega)]
      rw [hd]
      refine Ev.step (f := fun _ => some out) (fun k => ?_) (Ev.now _)
      rw [bocageref03_List.l0, hw, if_neg (by omega)]
/-- no end of a right one of some lies within a piece -/
def Fine (l : List Sp) (C : List Ct) : Prop := ∀ x ∈ l, RR x → (pos (lo x) ≤ pos (ct (C.headD (tc (1, 0)))) ∨ ∃ c ∈ C, ct c = lo x) ∧ (pos (hi x) ≤ pos (ct (C.headD (tc (1, 0)))) ∨ ∃ c ∈ C, ct c = hi x)
theorem Fine.tail {l : List Sp} {c d : Ct} {C : List Ct} (h : Fine l (c :: d :: C)) (hC : UpC (c :: d :: C)) : Fine l (d :: C) := by
  intro x hx hr
  have hcd : pos (ct c) < pos (ct d) := (List.pairwise_cons.1 hC.2).1 d List.mem_cons_self
  obtain ⟨h1, h2⟩ := h x hx hr
  have key : ∀ p : Int × Int, (pos p ≤ pos (ct c) ∨ ∃ e ∈ c :: d :: C, ct e = p) → pos p ≤ pos (ct d) ∨ ∃ e ∈ d :: C, ct e = p := by
    rintro p (g | ⟨e, he, g⟩)
    · left; omega
    · rcases List.mem_cons.1 he with he | he
      · left; rw [← g, he]; omega
      · exact .inr ⟨e, he, g⟩
  exact ⟨key _ h1, key _ h2⟩
theorem Fine.piece {l : List Sp} {c d : Ct} {C : List Ct} (h : Fine l (c :: d :: C)) (hC : UpC (c :: d :: C)) {n : Int} (h1 : pos (ct c) ≤ n) (h2 : n < pos (ct d)) : Any l n ↔ Any l (pos (ct c)) := by
  have hge : ∀ p : Int × Int, (pos p ≤ pos (ct c) ∨ ∃ e ∈ c :: d :: C, ct e = p) → pos p ≤ pos (ct c) ∨ pos (ct d) ≤ pos p := by
    rintro p (g | ⟨e, he, g⟩)
    · exact .inl g
    · rcases List.mem_cons.1 he with he | he
      · left; rw [← g, he]; exact Int.le_refl _
      · right; rw [← g]
        rcases List.mem_cons.1 he with he | he
        · rw [he]; exact Int.le_refl _
        · have := (List.pairwise_cons.1 (List.pairwise_cons.1 hC.2).2).1 e he; omega
  constructor
  · rintro ⟨x, hx, hr, hn⟩
    obtain ⟨g1, g2⟩ := h x hx hr
    exact ⟨x, hx, hr, by rcases hge _ g1 with g | g <;> omega, by omega⟩
  · rintro ⟨x, hx, hr, hn⟩
    obtain ⟨g1, g2⟩ := h x hx hr
    exact ⟨x, hx, hr, by omega, by rcases hge _ g2 with g | g <;> omega⟩
theorem Any_append {l m : List Sp} {n : Int} : Any (l ++ m) n ↔ Any l n ∨ Any m n := by
  constructor
  · rintro ⟨x, hx, h⟩
    rcases List.mem_append.1 hx with hx | hx
    · exact .inl ⟨x, hx, h⟩
    · exact .inr ⟨x, hx, h⟩
  · rintro (⟨x, hx, h⟩ | ⟨x, hx, h⟩)
    · exact ⟨x, List.mem_append_left _ hx, h⟩
    · exact ⟨x, List.mem_append_right _ hx, h⟩
theorem Any_one {x : Sp} {n : Int} : Any [x] n ↔ RR x ∧ pos (lo x) ≤ n ∧ n < pos (hi x) :=
  ⟨fun ⟨y, hy, h⟩ => by rcases List.mem_singleton.1 hy with rfl; exact h, fun h => ⟨x, List.mem_singleton.2 rfl, h⟩⟩
theorem Any_nil {n : Int} : ¬ Any [] n := fun ⟨_, h, _⟩ => by cases h
/-- the pieces, joined: as few as can be -/
theorem goP_ok (l : List Sp) (w : ∀ x ∈ l, WS x) : ∀ (C : List Ct) (c : Ct) (out : List Sp), UpC (c :: C) → Fine l (c :: C) → GoodL out → (∀ o ∈ out, pos (hi o) ≤ pos (ct c)) → (∀ n, Any out n ↔ Any l n ∧ n < pos (ct c)) →
    GoodL (goP (anyB l) addP out (c :: C)) ∧ ∀ n, Any (goP (anyB l) addP out (c :: C)) n ↔ Any l n
  | [], c, out, hC, hF, hG, hb, ha => by
    refine ⟨hG, fun n => ?_⟩
    show Any out n ↔ _
    rw [ha]
    refine ⟨fun h => h.1, fun h => ⟨h, ?_⟩⟩
    obtain ⟨x, hx, hr, hn⟩ := h
    obtain ⟨_, g2⟩ := hF x hx hr
    rcases g2 with g | ⟨e, he, g⟩
    · have : pos (hi x) ≤ pos (ct c) := g
      omega
    · rcases List.mem_singleton.1 he with rfl
      rw [← g] at hn; omega
  | d :: C, c, out, hC, hF, hG, hb, ha => by
    have hcd : pos (ct c) < pos (ct d) := (List.pairwise_cons.1 hC.2).1 d List.mem_cons_self
    have hC' : UpC (d :: C) := ⟨fun e he => hC.1 e (List.mem_cons_of_mem _ he), (List.pairwise_cons.1 hC.2).2⟩
    have cc := hC.1 c List.mem_cons_self
    have cd := hC.1 d (List.mem_cons_of_mem _ List.mem_cons_self)
    show GoodL (goP (anyB l) addP (if anyB l (pos (ct c)) = true then addP out c d else out) (d :: C)) ∧ ∀ n, Any (goP (anyB l) addP (if anyB l (pos (ct c)) = true then addP out c d else out) (d :: C)) n ↔ Any l n
    by_cases hx : anyB l (pos (ct c)) = true
    · rw [if_pos hx]
      have hx' := (anyB_iff w).1 hx
      have hpiece : RR (sp (ct c) (ct d)) := ⟨cc, cd, hcd⟩
      have hall : ∀ n, (Any l n ∧ n < pos (ct d)) ↔ (Any l n ∧ n < pos (ct c)) ∨ (pos (ct c) ≤ n ∧ n < pos (ct d)) := fun n => by
        constructor
        · rintro ⟨h1, h2⟩
          by_cases h3 : n < pos (ct c)
          · exact .inl ⟨h1, h3⟩
          · exact .inr ⟨by omega, h2⟩
        · rintro (⟨h1, h2⟩ | ⟨h1, h2⟩)
          · exact ⟨h1, by omega⟩
          · exact ⟨(hF.piece hC h1 h2).2 hx', h2⟩
      have done : ∀ out', GoodL out' → (∀ o ∈ out', pos (hi o) ≤ pos (ct d)) → (∀ n, Any out' n ↔ Any out n ∨ (pos (ct c) ≤ n ∧ n < pos (ct d))) → GoodL (goP (anyB l) addP out' (d :: C)) ∧ ∀ n, Any (goP (anyB l) addP out' (d :: C)) n ↔ Any l n :=
        fun out' g1 g2 g3 => goP_ok l w C d out' hC' (hF.tail hC) g1 g2 (fun n => by rw [g3, ha, hall])
      rcases List.eq_nil_or_concat out with rfl | ⟨ys, o, rfl⟩
      · refine done _ ⟨fun x hx => (by rcases List.mem_singleton.1 hx with rfl; exact hpiece), NormI_one hcd⟩ (fun o ho => (by rcases List.mem_singleton.1 ho with rfl; exact Int.le_refl _)) (fun n => ?_)
        show Any [sp (ct c) (ct d)] n ↔ _
        rw [Any_one]
        exact ⟨fun h => .inr h.2, fun h => ⟨hpiece, h.resolve_left Any_nil⟩⟩
      · rw [List.concat_eq_append] at *
        have hadd : addP (ys ++ [o]) c d = if hi o = ct c then ys ++ [sp (lo o) (ct d)] else ys ++ [o] ++ [sp (ct c) (ct d)] := by
          unfold addP; rw [List.getLast?_concat]; simp only [List.dropLast_concat]
        have ho := hG.1 o (by simp)
        have hN := hG.2
        rw [List.map_append, List.map_singleton] at hN
        rw [hadd]
        by_cases he : hi o = ct c
        · rw [if_pos he]
          have hlt : pos (lo o) < pos (ct d) := by have := ho.2.2; rw [he] at this; omega
          have hr : RR (sp (lo o) (ct d)) := ⟨ho.1, cd, hlt⟩
          refine done _ ⟨fun x hx => ?_, ?_⟩ (fun x hx => ?_) (fun n => ?_)
          · rcases List.mem_append.1 hx with hx | hx
            · exact hG.1 x (List.mem_append_left _ hx)
            · rcases List.mem_singleton.1 hx with rfl; exact hr
          · rw [List.map_append, List.map_singleton]
            exact hN.left.snoc hlt (fun q hq => hN.last.2 q hq)
          · rcases List.mem_append.1 hx with hx | hx
            · have := hb x (List.mem_append_left _ hx); omega
            · rcases List.mem_singleton.1 hx with rfl; exact Int.le_refl _
          · rw [Any_append, Any_append, Any_one, Any_one]
            have e1 : lo (sp (lo o) (ct d)) = lo o := rfl
            have e2 : hi (sp (lo o) (ct d)) = ct d := rfl
            rw [e1, e2, he]
            have := ho.2.2
            rw [he] at this
            constructor
            · rintro (h | ⟨_, h1, h2⟩)
              · exact .inl (.inl h)
              · by_cases h3 : n < pos (ct c)
                · exact .inl (.inr ⟨ho, h1, h3⟩)
                · exact .inr ⟨by omega, h2⟩
            · rintro ((h | ⟨_, h1, h2⟩) | ⟨h1, h2⟩)
              · exact .inl h
              · exact .inr ⟨hr, h1, by omega⟩
              · exact .inr ⟨hr, by omega, h2⟩
        · rw [if_neg he]
          have hlo : pos (hi o) < pos (ct c) := by
            have h1 := hb o (by simp)
            have h2 : pos (hi o) ≠ pos (ct c) := fun h => he (pos_inj ho.2.1 cc h)
            omega
          refine done _ ⟨fun x hx => ?_, ?_⟩ (fun x hx => ?_) (fun n => ?_)
          · rcases List.mem_append.1 hx with hx | hx
            · exact hG.1 x hx
            · rcases List.mem_singleton.1 hx with rfl; exact hpiece
          · rw [List.map_append, List.map_append, List.map_singleton, List.map_singleton]
            refine hN.snoc hcd (fun q hq => ?_)
            rcases List.mem_append.1 hq with hq | hq
            · have h1 := hN.last.2 q hq
              have h2 : (iv o).1 < (iv o).2 := ho.2.2
              have h3 : (iv o).2 < pos (ct c) := hlo
              show q.2 < pos (ct c)
              omega
            · rcases List.mem_singleton.1 hq with rfl; exact hlo
          · rcases List.mem_append.1 hx with hx | hx
            · have := hb x hx; omega
            · rcases List.mem_singleton.1 hx with rfl; exact Int.le_refl _
          · rw [Any_append, Any_one]
            exact ⟨fun h => h.elim .inl (fun h => .inr h.2), fun h => h.elim .inl (fun h => .inr ⟨hpiece, h⟩)⟩
    · rw [if_neg hx]
      have hx' : ¬ Any l (pos (ct c)) := fun h => hx ((anyB_iff w).2 h)
      refine goP_ok l w C d out hC' (hF.tail hC) hG (fun o ho => by have := hb o ho; omega) (fun n => ?_)
      rw [ha]
      refine ⟨fun h => ⟨h.1, by omega⟩, fun h => ⟨h.1, ?_⟩⟩
      by_cases h3 : n < pos (ct c)
      · exact h3
      · exact absurd ((hF.piece hC (by omega) h.2).1 h.1) hx'
theorem GoodL_nil : GoodL [] := ⟨fun _ h => (by cases h), NormI_nil⟩
theorem bocageref03_List.ev (l : List Sp) (hl : l.length ≤ 100000) (w : ∀ x ∈ l, WS x) : ∃ R, Ev (fun k => bocageref03_List.f k l) R ∧ GoodL R ∧ ∀ n, Any R n ↔ Any l n := by
  obtain ⟨C, c1, c2, c3, c4, c5⟩ := bocageref03_Cuts.ev l hl w
  have h0 := list_l0 l hl w C ⟨c2, c3⟩ (by omega) C.length 0 [] (by omega) (Nat.le_refl _)
  rw [List.drop_zero] at h0
  refine ⟨_, Ev.bind c1 h0, ?_⟩
  cases C with
  | nil =>
    refine ⟨GoodL_nil, fun n => ⟨fun h => absurd h Any_nil, ?_⟩⟩
    rintro ⟨x, hx, hr, _⟩
    obtain ⟨c, hc, _⟩ := (c4 (lo x)).2 ⟨x, hx, hr, .inl rfl⟩
    cases hc
  | cons c C =>
    refine goP_ok l w C c [] ⟨c2, c3⟩ (fun x hx hr => ⟨.inr ((c4 _).2 ⟨x, hx, hr, .inl rfl⟩), .inr ((c4 _).2 ⟨x, hx, hr, .inr rfl⟩)⟩) GoodL_nil (fun _ h => by cases h) (fun n => ⟨fun h => absurd h Any_nil, ?_⟩)
    rintro ⟨⟨x, hx, hr, h1, _⟩, h2⟩
    obtain ⟨e, he, h⟩ := (c4 (lo x)).2 ⟨x, hx, hr, .inl rfl⟩
    rw [← h] at h1
    rcases List.mem_cons.1 he with rfl | he
    · omega
    · have := (List.pairwise_cons.1 c3).1 e he; omega

end Go.Proofs.Ytkkbmjfhpngalaa.Print
