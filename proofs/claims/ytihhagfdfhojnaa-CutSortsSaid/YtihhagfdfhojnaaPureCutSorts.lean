/- Any cuts in order are what the document says, each place once, rising (law02 CutSorts), for every row of cuts; no conditions. -/
import Derived.Test.YtihhagfdfhojnaaPrint11
import Derived.Test.YtihhagfdfhojnaaPrint12
import Derived.Test.YtihhagfdfhojnaaPrint13
import Derived.Test.YtihhagfdfhojnaaPrint14
import Derived.Test.YtihhagfdfhojnaaPrint15
import Derived.Test.YtihhagfdfhojnaaPrint16
import Derived.Test.YtihhagfdfhojnaaPrint17
import Derived.Test.YtihhagfdfhojnaaPrint9
import Derived.Test.YtihhagfdfhojnaaRCutSorts
import Derived.Test.YtihhagfdfhojnaaLCutSo
import Derived.Test.YtihhagfdfhojnaaLCutL
namespace Go.Proofs.Ytihhagfdfhojnaa.Pure
open Go.RowKit Go.Proofs.Ytihhagfdfhojnaa.Print Go.Proofs.YtihhagfdfhojnaaW.PrintWords Go.Proofs.YtihhagfdfhojnaaW.PrintLast
set_option linter.unusedVariables false
set_option linter.unusedSimpArgs false
theorem bocagelaw02_alive.ge (k : Nat) (hk : 100 ≤ k) : bocagelaw02_alive.f k = some true := at_rounds (g := fun k => bocagelaw02_alive.f k) bocagelaw02_alive.mono hk (by decide +kernel)

theorem rdC {l : List Ct} {i : Nat} (h : i < l.length) : rd_T23 l (i : Int) = l[i] := by simp [rd_T23, List.getD, h]
/-- does it stand behind all that came -/
def aboveC (out : List Ct) (c : Ct) : Bool :=
  match out.getLast? with
  | some o => decide (cmp2 (cn o) (cn c) < 0)
  | none => true
def bestC (out : List Ct) (st : Option (Int × Int)) (c : Ct) : Option (Int × Int) :=
  if aboveC out c = true then (match st with | some m => if cmp2 (cn c) (canon m.1 m.2) < 0 then some (cn c) else some m | none => some (cn c)) else st
theorem sort_j2 (l out : List Ct) (st : Option (Int × Int)) (i : Nat) (hi : i < l.length) (hl : l.length ≤ 1000000) (r : List Ct)
    (h : Ev (fun k => bocageref02_Sort.l1 k l out (bestC out st l[i]).isSome ((i + 1 : Nat) : Int) ((bestC out st l[i]).getD (0, 0)).1 ((bestC out st l[i]).getD (0, 0)).2) r) :
    Ev (fun k => bocageref02_Sort.j2 k l out st.isSome (i : Int) (aboveC out l[i]) (st.getD (0, 0)).1 (st.getD (0, 0)).2) r := by
  have hw : wrap64 ((i : Int) + 1) = ((i + 1 : Nat) : Int) := by unfold wrap64; omega
  have hr := rdC hi
  have h0 : (0 : Int) ≤ (i : Int) := by omega
  have h1 : (i : Int) < (l.length : Int) := by omega
  refine Ev.step (f := fun k => _) (fun k => by rw [bocageref02_Sort.j2, hw, hr, if_pos h0, if_pos h1]) ?_
  unfold bestC at h
  by_cases ha : aboveC out l[i] = true
  · simp only [ha, if_true] at h ⊢
    cases st with
    | none =>
      simp only [Option.isSome_none, Bool.false_eq_true, if_false, if_pos h0, if_pos h1]
      refine Ev.bind (a := cn l[i]) ⟨1, fun k hk => bocageref02_Canon.eq _ _ k hk⟩ ?_
      exact h
    | some m =>
      simp only [Option.isSome_some, if_true, Option.getD_some] at h ⊢
      refine Ev.bind (a := decide (cmp2 (cn l[i]) (canon m.1 m.2) < 0)) ⟨1, fun k hk => bocageref02_Less.eq _ _ _ _ k hk⟩ ?_
      by_cases hc : cmp2 (cn l[i]) (canon m.1 m.2) < 0
      · simp only [hc, decide_true, if_true] at h ⊢
        exact Ev.bind (a := cn l[i]) ⟨1, fun k hk => bocageref02_Canon.eq _ _ k hk⟩ h
      · simp only [hc, decide_false, Bool.false_eq_true, if_false] at h ⊢
        exact h
  · have ha' : aboveC out l[i] = false := by simpa using ha
    simp only [ha', Bool.false_eq_true, if_false] at h ⊢
    exact h
def finC (l out : List Ct) (st : Option (Int × Int)) (k : Nat) : Option (List Ct) :=
  match st with
  | some m => bocageref02_Sort.l0 k l (out ++ [tc m])
  | none => some out
theorem sort_l1 (l out : List Ct) (hl : l.length ≤ 1000000) (ho : out.length ≤ 1000000) (r : List Ct) : ∀ (n i : Nat) (st : Option (Int × Int)), i + n = l.length →
    Ev (finC l out ((l.drop i).foldl (bestC out) st)) r → Ev (fun k => bocageref02_Sort.l1 k l out st.isSome (i : Int) (st.getD (0, 0)).1 (st.getD (0, 0)).2) r := by
  intro n
  induction n with
  | zero =>
    intro i st hin h
    rw [List.drop_of_length_le (by omega), List.foldl_nil] at h
    refine Ev.step (f := finC l out st) (fun k => ?_) h
    rw [bocageref02_Sort.l1, if_neg (by omega)]
    cases st with
    | none => rfl
    | some m => simp only [Option.isSome_some, if_true]; rw [if_pos (by omega)]; rfl
  | succ n ih =>
    intro i st hin h
    have hi : i < l.length := by omega
    rw [List.drop_eq_getElem_cons hi, List.foldl_cons] at h
    have h2 := sort_j2 l out st i hi hl r (ih (i + 1) _ (by omega) h)
    have hr := rdC hi
    rcases List.eq_nil_or_concat out with rfl | ⟨ys, o, rfl⟩
    · refine Ev.step (fun k => ?_) h2
      rw [bocageref02_Sort.l1, if_pos (by omega), if_pos (by rfl)]
      rfl
    · rw [List.concat_eq_append] at *
      have ha : aboveC (ys ++ [o]) l[i] = decide (cmp2 (cn o) (cn l[i]) < 0) := by unfold aboveC; rw [List.getLast?_concat]
      have hlen : ((ys ++ [o]).length : Int) = ys.length + 1 := by simp
      have hy : ys.length + 1 ≤ 1000000 := by simpa using ho
      have hm : wrap64 (((ys ++ [o]).length : Int) - 1) = (ys.length : Int) := by rw [hlen]; unfold wrap64; omega
      have hro : rd_T23 (ys ++ [o]) (ys.length : Int) = o := by simp [rd_T23, List.getD]
      rw [ha] at h2
      refine Ev.step (f := fun k => (bocageref02_Less.f k o.f0 o.f1 l[i].f0 l[i].f1).bind fun t => bocageref02_Sort.j2 k l (ys ++ [o]) st.isSome (i : Int) t (st.getD (0, 0)).1 (st.getD (0, 0)).2) (fun k => ?_) ?_
      · rw [bocageref02_Sort.l1, if_pos (by omega), if_neg (by omega), hm, if_pos (by omega), if_pos (by omega), if_pos (by omega), hro, hr]
      · exact Ev.bind ⟨1, fun k hk => bocageref02_Less.eq _ _ _ _ k hk⟩ h2
/-- the least that stands behind -/
theorem bestC_ok (out : List Ct) : ∀ (l : List Ct) (st : Option (Int × Int)), (∀ c ∈ l, WC c) → (∀ m, st = some m → CC m) →
    match l.foldl (bestC out) st with
    | some m => CC m ∧ (st = some m ∨ ∃ c ∈ l, aboveC out c = true ∧ cn c = m) ∧ (∀ c ∈ l, aboveC out c = true → pos m ≤ pos (cn c)) ∧ (∀ m', st = some m' → pos m ≤ pos m')
    | none => st = none ∧ ∀ c ∈ l, aboveC out c = false
  | [], st, _, hs => by
    cases st with
    | none => exact ⟨rfl, fun _ h => (by cases h)⟩
    | some m => exact ⟨hs m rfl, .inl rfl, fun _ h => (by cases h), fun m' h => (by injection h with h; rw [h]; exact Int.le_refl _)⟩
  | c :: l, st, w, hs => by
    have wc := w c List.mem_cons_self
    have hs' : ∀ m, bestC out st c = some m → CC m := by
      intro m hm
      unfold bestC at hm
      by_cases ha : aboveC out c = true
      · rw [if_pos ha] at hm
        cases st with
        | none => injection hm with hm; rw [← hm]; exact wc.cc
        | some m0 =>
          dsimp only at hm
          split at hm
          · injection hm with hm; rw [← hm]; exact wc.cc
          · injection hm with hm; rw [← hm]; exact hs m0 rfl
      · rw [if_neg ha] at hm; exact hs m hm
    have ih := bestC_ok out l (bestC out st c) (fun d hd => w d (List.mem_cons_of_mem _ hd)) hs'
    rw [List.foldl_cons]
    have hb : (aboveC out c = false ∧ bestC out st c = st) ∨ (aboveC out c = true ∧ ∃ m1, bestC out st c = some m1 ∧ pos m1 ≤ pos (cn c) ∧ (∀ m', st = some m' → pos m1 ≤ pos m') ∧ (st = some m1 ∨ cn c = m1)) := by
      unfold bestC
      by_cases ha : aboveC out c = true
      · refine .inr ⟨ha, ?_⟩
        rw [if_pos ha]
        cases st with
        | none => exact ⟨cn c, rfl, Int.le_refl _, fun _ h => (by cases h), .inr rfl⟩
        | some m0 =>
          have hc0 := hs m0 rfl
          dsimp only
          rw [hc0.canon]
          by_cases hlt : cmp2 (cn c) m0 < 0
          · rw [if_pos hlt]
            exact ⟨cn c, rfl, Int.le_refl _, fun m' h => (by injection h with h; rw [← h]; have := (cmp2_pos wc.cc hc0).1 hlt; omega), .inr rfl⟩
          · rw [if_neg hlt]
            exact ⟨m0, rfl, Int.not_lt.1 (fun g => hlt ((cmp2_pos wc.cc hc0).2 g)), fun m' h => (by injection h with h; rw [h]; exact Int.le_refl _), .inl rfl⟩
      · exact .inl ⟨by simpa using ha, if_neg ha⟩
    generalize l.foldl (bestC out) (bestC out st c) = R at *
    cases R with
    | none =>
      obtain ⟨i1, i2⟩ := ih
      rcases hb with ⟨b1, b2⟩ | ⟨_, m1, b2, _⟩
      · exact ⟨b2.symm.trans i1, fun d hd => (List.mem_cons.1 hd).elim (fun e => e ▸ b1) (i2 d)⟩
      · rw [b2] at i1; cases i1
    | some m =>
      obtain ⟨i1, i2, i3, i4⟩ := ih
      rcases hb with ⟨b1, b2⟩ | ⟨b1, m1, b2, b3, b4, b5⟩
      · rw [b2] at i2 i4
        refine ⟨i1, ?_, fun d hd => ?_, i4⟩
        · rcases i2 with h | ⟨d, hd, h⟩
          · exact .inl h
          · exact .inr ⟨d, List.mem_cons_of_mem _ hd, h⟩
        · rcases List.mem_cons.1 hd with rfl | hd
          · intro h; rw [b1] at h; cases h
          · exact i3 d hd
      · have i5 := i4 m1 b2
        refine ⟨i1, ?_, fun d hd => ?_, fun m' h => by have := b4 m' h; omega⟩
        · rcases i2 with h | ⟨d, hd, h⟩
          · rw [b2] at h; injection h with h; subst h
            rcases b5 with h | h
            · exact .inl h
            · exact .inr ⟨c, List.mem_cons_self, b1, h⟩
          · exact .inr ⟨d, List.mem_cons_of_mem _ hd, h⟩
        · rcases List.mem_cons.1 hd with rfl | hd
          · intro _; omega
          · exact i3 d hd
/-- what a sorted row of the places of some is -/
structure SortedOf (l R : List Ct) : Prop where
  cc : ∀ c ∈ R, CC (ct c)
  up : R.Pairwise (fun a b => pos (ct a) < pos (ct b))
  mem : ∀ p, (∃ c ∈ R, ct c = p) ↔ ∃ c ∈ l, cn c = p
  len : R.length ≤ l.length
theorem cn_of_cc {c : Ct} (h : CC (ct c)) : cn c = ct c := h.canon
theorem sort_l0 (l : List Ct) (hl : l.length ≤ 1000000) (w : ∀ c ∈ l, WC c) : ∀ (n : Nat) (out : List Ct), (l.filter (aboveC out)).length ≤ n → out.length + (l.filter (aboveC out)).length ≤ l.length →
    (∀ c ∈ out, CC (ct c)) → out.Pairwise (fun a b => pos (ct a) < pos (ct b)) → (∀ c ∈ out, ∃ d ∈ l, cn d = ct c) → (∀ c ∈ l, aboveC out c = true ∨ ∃ d ∈ out, ct d = cn c) →
    ∃ R, Ev (fun k => bocageref02_Sort.l0 k l out) R ∧ SortedOf l R := by
  intro n
  induction n with
  | zero =>
    intro out hn hlen hcc hup hin hall
    have hb := bestC_ok out l none w (fun _ h => by cases h)
    have hnil : ∀ c ∈ l, aboveC out c = false := fun c hc => by
      by_cases h : aboveC out c = true
      · have := List.mem_filter.2 ⟨hc, h⟩
        have hz : l.filter (aboveC out) = [] := List.eq_nil_of_length_eq_zero (by omega)
        rw [hz] at this
        cases this
      · simpa using h
    refine ⟨out, ?_, hcc, hup, fun p => ⟨fun ⟨c, hc, e⟩ => ?_, fun ⟨c, hc, e⟩ => ?_⟩, by omega⟩
    · refine Ev.step (f := fun k => bocageref02_Sort.l1 k l out (none : Option (Int × Int)).isSome ((0 : Nat) : Int) ((none : Option (Int × Int)).getD (0, 0)).1 ((none : Option (Int × Int)).getD (0, 0)).2) (fun k => rfl) ?_
      refine sort_l1 l out hl (by omega) out l.length 0 none (by omega) ?_
      rw [List.drop_zero]
      generalize l.foldl (bestC out) none = R at *
      cases R with
      | none => exact Ev.now out
      | some m =>
        obtain ⟨_, h2, _⟩ := hb
        rcases h2 with h2 | ⟨c, hc, h2, _⟩
        · cases h2
        · rw [hnil c hc] at h2; cases h2
    · obtain ⟨d, hd, h⟩ := hin c hc; exact ⟨d, hd, h.trans e⟩
    · rcases hall c hc with h | ⟨d, hd, h⟩
      · rw [hnil c hc] at h; cases h
      · exact ⟨d, hd, h.trans e⟩
  | succ n ih =>
    intro out hn hlen hcc hup hin hall
    have hb := bestC_ok out l none w (fun _ h => by cases h)
    have start : ∀ r, Ev (finC l out (l.foldl (bestC out) none)) r → Ev (fun k => bocageref02_Sort.l0 k l out) r := fun r hr =>
      Ev.step (f := fun k => bocageref02_Sort.l1 k l out (none : Option (Int × Int)).isSome ((0 : Nat) : Int) ((none : Option (Int × Int)).getD (0, 0)).1 ((none : Option (Int × Int)).getD (0, 0)).2) (fun k => rfl) (sort_l1 l out hl (by omega) r l.length 0 none (by omega) (by rw [List.drop_zero]; exact hr))
    generalize l.foldl (bestC out) none = R at *
    cases R with
    | none =>
      refine ⟨out, start out (Ev.now out), hcc, hup, fun p => ⟨fun ⟨c, hc, e⟩ => ?_, fun ⟨c, hc, e⟩ => ?_⟩, by omega⟩
      · obtain ⟨d, hd, h⟩ := hin c hc; exact ⟨d, hd, h.trans e⟩
      · rcases hall c hc with h | ⟨d, hd, h⟩
        · rw [hb.2 c hc] at h; cases h
        · exact ⟨d, hd, h.trans e⟩
    | some m =>
      obtain ⟨b1, b2, b3, _⟩ := hb
      obtain ⟨c0, hc0, ha0, e0⟩ : ∃ c ∈ l, aboveC out c = true ∧ cn c = m := b2.resolve_left (by intro h; cases h)
      have habove : ∀ c ∈ l, aboveC (out ++ [tc m]) c = decide (pos m < pos (cn c)) := fun c hc => by
        unfold aboveC
        rw [List.getLast?_concat]
        have e : cn (tc m) = m := b1.canon
        dsimp only
        rw [e, Bool.eq_iff_iff, decide_eq_true_eq, decide_eq_true_eq, cmp2_pos b1 (w c hc).cc]
      have hlast : ∀ c ∈ l, aboveC out c = true → ∀ d ∈ out, pos (ct d) < pos (cn c) := fun c hc ha d hd => by
        rcases List.eq_nil_or_concat out with rfl | ⟨ys, o, rfl⟩
        · cases hd
        · rw [List.concat_eq_append] at *
          unfold aboveC at ha
          rw [List.getLast?_concat, decide_eq_true_eq] at ha
          have co := hcc o (by simp)
          rw [cn_of_cc co, cmp2_pos co (w c hc).cc] at ha
          rcases List.mem_append.1 hd with hd | hd
          · have := (List.pairwise_append.1 hup).2.2 d hd o List.mem_cons_self; omega
          · rcases List.mem_singleton.1 hd with rfl; exact ha
      have hsub : (l.filter (aboveC (out ++ [tc m]))).length < (l.filter (aboveC out)).length := by
        have hsl : ∀ (L : List Ct), (∀ c ∈ L, c ∈ l) → (L.filter (aboveC (out ++ [tc m]))).length ≤ (L.filter (aboveC out)).length ∧ (c0 ∈ L → (L.filter (aboveC (out ++ [tc m]))).length < (L.filter (aboveC out)).length) := by
          intro L
          induction L with
          | nil => intro _; exact ⟨Nat.le_refl _, fun h => by cases h⟩
          | cons c L ihL =>
            intro hL
            have hc := hL c List.mem_cons_self
            obtain ⟨i1, i2⟩ := ihL (fun d hd => hL d (List.mem_cons_of_mem _ hd))
            have key : aboveC (out ++ [tc m]) c = true → aboveC out c = true := fun h => by
              rw [habove c hc, decide_eq_true_eq] at h
              rcases hall c hc with g | ⟨d, hd, g⟩
              · exact g
              · have := hlast c0 hc0 ha0 d hd
                rw [e0, g] at this; omega
            have h0 : aboveC (out ++ [tc m]) c0 = false := by rw [habove c0 hc0, e0]; simp
            rw [List.filter_cons, List.filter_cons]
            by_cases h1 : aboveC (out ++ [tc m]) c = true
            · rw [if_pos h1, if_pos (key h1), List.length_cons, List.length_cons]
              refine ⟨by omega, fun hm => ?_⟩
              rcases List.mem_cons.1 hm with rfl | hm
              · rw [h0] at h1; cases h1
              · have := i2 hm; omega
            · rw [if_neg h1]
              by_cases h2 : aboveC out c = true
              · rw [if_pos h2, List.length_cons]; exact ⟨by omega, fun _ => by omega⟩
              · rw [if_neg h2]
                refine ⟨i1, fun hm => ?_⟩
                rcases List.mem_cons.1 hm with rfl | hm
                · exact absurd ha0 h2
                · exact i2 hm
        exact (hsl l (fun _ h => h)).2 hc0
      obtain ⟨R, r1, r2⟩ := ih (out ++ [tc m]) (by omega) (by rw [List.length_append, List.length_singleton]; omega)
        (fun c hc => (List.mem_append.1 hc).elim (hcc c) (fun hc => by rcases List.mem_singleton.1 hc with rfl; exact b1))
        (List.pairwise_append.2 ⟨hup, List.pairwise_singleton _ _, fun a ha b hb => by rcases List.mem_singleton.1 hb with rfl; rw [ct_tc, ← e0]; exact hlast c0 hc0 ha0 a ha⟩)
        (fun c hc => (List.mem_append.1 hc).elim (hin c) (fun hc => by rcases List.mem_singleton.1 hc with rfl; exact ⟨c0, hc0, e0⟩))
        (fun c hc => by
          rw [habove c hc, decide_eq_true_eq]
          rcases hall c hc with h | ⟨d, hd, h⟩
          · have h3 := b3 c hc h
            by_cases he : pos m < pos (cn c)
            · exact .inl he
            · exact .inr ⟨tc m, by simp, by rw [ct_tc]; exact pos_inj b1 (w c hc).cc (by omega)⟩
          · exact .inr ⟨d, List.mem_append_left _ hd, h⟩)
      exact ⟨R, start R r1, r2⟩
theorem bocageref02_Sort.ev (l : List Ct) (hl : l.length ≤ 1000000) (w : ∀ c ∈ l, WC c) : ∃ R, Ev (fun k => bocageref02_Sort.f k l) R ∧ SortedOf l R := by
  have h := sort_l0 l hl w l.length [] (List.length_filter_le _ _) (by simpa using List.length_filter_le _ _) (fun _ h => by cases h) List.Pairwise.nil (fun _ h => by cases h) (fun _ _ => .inl rfl)
  exact h

theorem cmp_rises (S : List Ct) (hc : ∀ c ∈ S, canon c.f0 c.f1 = (c.f0, c.f1)) (hu : S.Pairwise (fun a b => ltC a b = true)) (i : Nat) (h1 : i + 1 < S.length) : cmp2 (canon S[i].f0 S[i].f1) (canon S[i + 1].f0 S[i + 1].f1) < 0 := by
  have h := List.pairwise_iff_getElem.1 hu i (i + 1) (by omega) h1 (by omega)
  rw [ltC_iff] at h
  rw [hc _ (List.getElem_mem (by omega)), hc _ (List.getElem_mem h1), lex_lt]
  exact h
theorem same_l0 (S : List Ct) (hl : S.length ≤ 1000000) : ∀ (n i : Nat), i + n = S.length → Ev (fun k => bocageref02_Same.l0 k S S (i : Int)) true := by
  intro n
  induction n with
  | zero => intro i hin; exact Ev.step (f := fun _ => some true) (fun k => by rw [bocageref02_Same.l0, if_neg (by omega)]) (Ev.now _)
  | succ n ih =>
    intro i hin
    have hw : wrap64 ((i : Int) + 1) = ((i + 1 : Nat) : Int) := by unfold wrap64; omega
    refine Ev.step (fun k => ?_) (ih (i + 1) (by omega))
    rw [bocageref02_Same.l0, if_pos (by omega), if_pos (by omega), if_pos (by omega), hw, if_neg (by simp)]
theorem least_l0 (l : List Ct) (hl : l.length ≤ 1000000) (w : ∀ c ∈ l, WC c) : ∀ (n i : Nat) (r : Int × Int), i + n = l.length → CC r →
    ∃ p, Ev (fun k => cut_Least.l0 k l (l.length : Int) (i : Int) r.1 r.2) p ∧ CC p ∧ pos p ≤ pos r ∧ (∀ c ∈ l.drop i, pos p ≤ pos (cn c)) ∧ (p = r ∨ ∃ c ∈ l.drop i, cn c = p) := by
  intro n
  induction n with
  | zero =>
    intro i r hin hr
    refine ⟨r, Ev.step (f := fun _ => some (r.1, r.2)) (fun k => by rw [cut_Least.l0, if_neg (by omega)]) (Ev.now _), hr, Int.le_refl _, ?_, .inl rfl⟩
    rw [List.drop_of_length_le (by omega)]; intro c hc; cases hc
  | succ n ih =>
    intro i r hin hr
    have hi : i < l.length := by omega
    have hw : wrap64 ((i : Int) + 1) = ((i + 1 : Nat) : Int) := by unfold wrap64; omega
    have hrd := rdC hi
    have hd : l.drop i = l[i] :: l.drop (i + 1) := List.drop_eq_getElem_cons hi
    have wc := w _ (List.getElem_mem hi)
    by_cases h : cmp2 (cn l[i]) (canon r.1 r.2) < 0
    · obtain ⟨p, p1, p2, p3, p4, p5⟩ := ih (i + 1) (cn l[i]) (by omega) wc.cc
      have hlt : pos (cn l[i]) < pos r := by rw [hr.canon] at h; exact (cmp2_pos wc.cc hr).1 h
      refine ⟨p, ?_, p2, by omega, ?_, ?_⟩
      · refine Ev.step (f := fun k => (cut_Compare.f k l[i].f0 l[i].f1 r.1 r.2).bind fun t => if t < 0 then (cut_Canon.f k l[i].f0 l[i].f1).bind fun b => cut_Least.l0 k l (l.length : Int) ((i + 1 : Nat) : Int) b.1 b.2 else cut_Least.l0 k l (l.length : Int) ((i + 1 : Nat) : Int) r.1 r.2) (fun k => by rw [cut_Least.l0, if_pos (by omega), if_pos (by omega), if_pos (by omega), hrd, hw]) ?_
        refine Ev.bind ⟨10, fun k hk => cut_Compare.eq _ _ _ _ k (by omega)⟩ ?_
        have h' : cmp2 (canon l[i].f0 l[i].f1) (canon r.1 r.2) < 0 := h
        simp only [h', if_true]
        exact Ev.bind ⟨1, fun k hk => cut_Canon.eq _ _ k hk⟩ p1
      · rw [hd]; intro c hc
        rcases List.mem_cons.1 hc with rfl | hc
        · exact p3
        · exact p4 c hc
      · rw [hd]
        rcases p5 with e | ⟨c, hc, e⟩
        · exact .inr ⟨l[i], List.mem_cons_self, e.symm⟩
        · exact .inr ⟨c, List.mem_cons_of_mem _ hc, e⟩
    · obtain ⟨p, p1, p2, p3, p4, p5⟩ := ih (i + 1) r (by omega) hr
      have hge : ¬ pos (cn l[i]) < pos r := fun g => h (by rw [hr.canon]; exact (cmp2_pos wc.cc hr).2 g)
      refine ⟨p, ?_, p2, p3, ?_, ?_⟩
      · refine Ev.step (f := fun k => (cut_Compare.f k l[i].f0 l[i].f1 r.1 r.2).bind fun t => if t < 0 then (cut_Canon.f k l[i].f0 l[i].f1).bind fun b => cut_Least.l0 k l (l.length : Int) ((i + 1 : Nat) : Int) b.1 b.2 else cut_Least.l0 k l (l.length : Int) ((i + 1 : Nat) : Int) r.1 r.2) (fun k => by rw [cut_Least.l0, if_pos (by omega), if_pos (by omega), if_pos (by omega), hrd, hw]) ?_
        refine Ev.bind ⟨10, fun k hk => cut_Compare.eq _ _ _ _ k (by omega)⟩ ?_
        have h' : ¬ cmp2 (canon l[i].f0 l[i].f1) (canon r.1 r.2) < 0 := h
        simp only [h', if_false]
        exact p1
      · rw [hd]; intro c hc
        rcases List.mem_cons.1 hc with rfl | hc
        · omega
        · exact p4 c hc
      · rw [hd]
        rcases p5 with e | ⟨c, hc, e⟩
        · exact .inl e
        · exact .inr ⟨c, List.mem_cons_of_mem _ hc, e⟩
theorem greatest_l0 (l : List Ct) (hl : l.length ≤ 1000000) (w : ∀ c ∈ l, WC c) : ∀ (n i : Nat) (r : Int × Int), i + n = l.length → CC r →
    ∃ p, Ev (fun k => cut_Greatest.l0 k l (l.length : Int) (i : Int) r.1 r.2) p ∧ CC p ∧ pos r ≤ pos p ∧ (∀ c ∈ l.drop i, pos (cn c) ≤ pos p) ∧ (p = r ∨ ∃ c ∈ l.drop i, cn c = p) := by
  intro n
  induction n with
  | zero =>
    intro i r hin hr
    refine ⟨r, Ev.step (f := fun _ => some (r.1, r.2)) (fun k => by rw [cut_Greatest.l0, if_neg (by omega)]) (Ev.now _), hr, Int.le_refl _, ?_, .inl rfl⟩
    rw [List.drop_of_length_le (by omega)]; intro c hc; cases hc
  | succ n ih =>
    intro i r hin hr
    have hi : i < l.length := by omega
    have hw : wrap64 ((i : Int) + 1) = ((i + 1 : Nat) : Int) := by unfold wrap64; omega
    have hrd := rdC hi
    have hd : l.drop i = l[i] :: l.drop (i + 1) := List.drop_eq_getElem_cons hi
    have wc := w _ (List.getElem_mem hi)
    by_cases h : cmp2 (cn l[i]) (canon r.1 r.2) > 0
    · obtain ⟨p, p1, p2, p3, p4, p5⟩ := ih (i + 1) (cn l[i]) (by omega) wc.cc
      have hlt : pos r < pos (cn l[i]) := by rw [hr.canon] at h; exact (cmp2_pos_gt wc.cc hr).1 h
      refine ⟨p, ?_, p2, by omega, ?_, ?_⟩
      · refine Ev.step (f := fun k => (cut_Compare.f k l[i].f0 l[i].f1 r.1 r.2).bind fun t => if t > 0 then (cut_Canon.f k l[i].f0 l[i].f1).bind fun b => cut_Greatest.l0 k l (l.length : Int) ((i + 1 : Nat) : Int) b.1 b.2 else cut_Greatest.l0 k l (l.length : Int) ((i + 1 : Nat) : Int) r.1 r.2) (fun k => by rw [cut_Greatest.l0, if_pos (by omega), if_pos (by omega), if_pos (by omega), hrd, hw]) ?_
        refine Ev.bind ⟨10, fun k hk => cut_Compare.eq _ _ _ _ k (by omega)⟩ ?_
        have h' : cmp2 (canon l[i].f0 l[i].f1) (canon r.1 r.2) > 0 := h
        simp only [h', if_true]
        exact Ev.bind ⟨1, fun k hk => cut_Canon.eq _ _ k hk⟩ p1
      · rw [hd]; intro c hc
        rcases List.mem_cons.1 hc with rfl | hc
        · exact p3
        · exact p4 c hc
      · rw [hd]
        rcases p5 with e | ⟨c, hc, e⟩
        · exact .inr ⟨l[i], List.mem_cons_self, e.symm⟩
        · exact .inr ⟨c, List.mem_cons_of_mem _ hc, e⟩
    · obtain ⟨p, p1, p2, p3, p4, p5⟩ := ih (i + 1) r (by omega) hr
      have hge : ¬ pos r < pos (cn l[i]) := fun g => h (by rw [hr.canon]; exact (cmp2_pos_gt wc.cc hr).2 g)
      refine ⟨p, ?_, p2, p3, ?_, ?_⟩
      · refine Ev.step (f := fun k => (cut_Compare.f k l[i].f0 l[i].f1 r.1 r.2).bind fun t => if t > 0 then (cut_Canon.f k l[i].f0 l[i].f1).bind fun b => cut_Greatest.l0 k l (l.length : Int) ((i + 1 : Nat) : Int) b.1 b.2 else cut_Greatest.l0 k l (l.length : Int) ((i + 1 : Nat) : Int) r.1 r.2) (fun k => by rw [cut_Greatest.l0, if_pos (by omega), if_pos (by omega), if_pos (by omega), hrd, hw]) ?_
        refine Ev.bind ⟨10, fun k hk => cut_Compare.eq _ _ _ _ k (by omega)⟩ ?_
        have h' : ¬ cmp2 (canon l[i].f0 l[i].f1) (canon r.1 r.2) > 0 := h
        simp only [h', if_false]
        exact p1
      · rw [hd]; intro c hc
        rcases List.mem_cons.1 hc with rfl | hc
        · omega
        · exact p4 c hc
      · rw [hd]
        rcases p5 with e | ⟨c, hc, e⟩
        · exact .inl e
        · exact .inr ⟨c, List.mem_cons_of_mem _ hc, e⟩
/-- the least and the greatest of two rows with the same places are the same -/
theorem least_same (l m : List Ct) (hl : l.length ≤ 1000000) (hm : m.length ≤ 1000000) (wl : ∀ c ∈ l, WC c) (wm : ∀ c ∈ m, WC c) (h : ∀ p, (∃ c ∈ l, cn c = p) ↔ ∃ c ∈ m, cn c = p) :
    ∃ p, Ev (fun k => cut_Least.f k l) p ∧ Ev (fun k => cut_Least.f k m) p := by
  obtain ⟨p, p1, p2, p3, p4, p5⟩ := least_l0 l hl wl l.length 0 (1, 0) (by omega) (.inr (.inl rfl))
  obtain ⟨q, q1, q2, q3, q4, q5⟩ := least_l0 m hm wm m.length 0 (1, 0) (by omega) (.inr (.inl rfl))
  rw [List.drop_zero] at p4 p5 q4 q5
  have e : p = q := by
    refine pos_inj p2 q2 ?_
    have h1 : pos q ≤ pos p := by
      rcases p5 with e | ⟨c, hc, e⟩
      · rw [e]; exact q3
      · obtain ⟨d, hd, e'⟩ := (h p).1 ⟨c, hc, e⟩; rw [← e']; exact q4 d hd
    have h2 : pos p ≤ pos q := by
      rcases q5 with e | ⟨c, hc, e⟩
      · rw [e]; exact p3
      · obtain ⟨d, hd, e'⟩ := (h q).2 ⟨c, hc, e⟩; rw [← e']; exact p4 d hd
    omega
  subst e
  exact ⟨p, p1, q1⟩
theorem greatest_same (l m : List Ct) (hl : l.length ≤ 1000000) (hm : m.length ≤ 1000000) (wl : ∀ c ∈ l, WC c) (wm : ∀ c ∈ m, WC c) (h : ∀ p, (∃ c ∈ l, cn c = p) ↔ ∃ c ∈ m, cn c = p) :
    ∃ p, Ev (fun k => cut_Greatest.f k l) p ∧ Ev (fun k => cut_Greatest.f k m) p := by
  obtain ⟨p, p1, p2, p3, p4, p5⟩ := greatest_l0 l hl wl l.length 0 (-1, 0) (by omega) (.inl rfl)
  obtain ⟨q, q1, q2, q3, q4, q5⟩ := greatest_l0 m hm wm m.length 0 (-1, 0) (by omega) (.inl rfl)
  rw [List.drop_zero] at p4 p5 q4 q5
  have e : p = q := by
    refine pos_inj p2 q2 ?_
    have h1 : pos p ≤ pos q := by
      rcases p5 with e | ⟨c, hc, e⟩
      · rw [e]; exact q3
      · obtain ⟨d, hd, e'⟩ := (h p).1 ⟨c, hc, e⟩; rw [← e']; exact q4 d hd
    have h2 : pos q ≤ pos p := by
      rcases q5 with e | ⟨c, hc, e⟩
      · rw [e]; exact p3
      · obtain ⟨d, hd, e'⟩ := (h q).2 ⟨c, hc, e⟩; rw [← e']; exact p4 d hd
    omega
  subst e
  exact ⟨p, p1, q1⟩
theorem rise_l0 (l S : List Ct) (hS : S.length ≤ 1000000) (hc : ∀ c ∈ S, canon c.f0 c.f1 = (c.f0, c.f1)) (hu : S.Pairwise (fun a b => ltC a b = true)) (g : Nat → Option Bool) (r : Bool)
    (hg : ∀ k i, (S.length : Int) ≤ (i : Int) → bocagelaw02_CutSorts.l0 (k + 1) l S (i : Int) = g k) (h : Ev g r) : ∀ (n i : Nat), S.length ≤ i + n → 1 ≤ i → i ≤ 1000001 → Ev (fun k => bocagelaw02_CutSorts.l0 k l S (i : Int)) r := by
  intro n
  induction n with
  | zero => intro i hin _ _; exact Ev.step (fun k => hg k i (by omega)) h
  | succ n ih =>
    intro i hin h1 hi6
    by_cases hi : i < S.length
    · obtain ⟨j, rfl⟩ : ∃ j, i = j + 1 := ⟨i - 1, by omega⟩
      have hw : wrap64 (((j + 1 : Nat) : Int) + 1) = ((j + 1 + 1 : Nat) : Int) := by unfold wrap64; omega
      have hw2 : wrap64 (((j + 1 : Nat) : Int) - 1) = (j : Int) := by unfold wrap64; omega
      have hr1 := rdC hi
      have hr2 := rdC (show j < S.length by omega)
      refine Ev.step (f := fun k => (cut_Compare.f k S[j].f0 S[j].f1 S[j + 1].f0 S[j + 1].f1).bind fun t => if t ≥ 0 then some false else bocagelaw02_CutSorts.l0 k l S ((j + 1 + 1 : Nat) : Int)) (fun k => by rw [bocagelaw02_CutSorts.l0, if_pos (by omega), hw2, if_pos (by omega), if_pos (by omega), if_pos (by omega), hr1, hr2, hw]) ?_
      refine Ev.bind ⟨10, fun k hk => cut_Compare.eq _ _ _ _ k (by omega)⟩ ?_
      have h' := cmp_rises S hc hu j hi
      have h2 : ¬ cmp2 (canon S[j].f0 S[j].f1) (canon S[j + 1].f0 S[j + 1].f1) ≥ 0 := by omega
      simp only [h2, if_false]
      exact ih (j + 1 + 1) (by omega) (by omega) (by omega)
    · exact Ev.step (fun k => hg k i (by omega)) h
theorem CutSorts : bocagelaw02_CutSorts.Pure := by
  intro l hl
  suffices h : Ev (fun k => bocagelaw02_CutSorts.f k l) true from h.rounds
  unfold bocagelaw02_CutSorts.f
  have hal : Ev (fun k => bocagelaw02_alive.f k) true := ⟨100, fun k hk => bocagelaw02_alive.ge k hk⟩
  by_cases h100 : (l.length : Int) > 100
  · simp only [h100, if_true]
    exact Ev.bind hal (Ev.now _)
  · simp only [h100, if_false]
    have wl : ∀ c ∈ l, WC c := fun c hc => I64.of_wf (hl c hc).2
    obtain ⟨R, r1, r2⟩ := bocageref02_Sort.ev l (by omega) wl
    have hcc : ∀ c ∈ sortC (l.map cnC), CC (ct c) := fun c hc => by
      obtain ⟨q, hq, rfl⟩ := List.mem_map.1 (sortC_mem.1 hc)
      exact (wl q hq).cc
    have hcan : ∀ c ∈ sortC (l.map cnC), canon c.f0 c.f1 = (c.f0, c.f1) := fun c hc => (hcc c hc).canon
    have hmem : ∀ p, (∃ c ∈ sortC (l.map cnC), ct c = p) ↔ ∃ c ∈ l, cn c = p := fun p =>
      ⟨fun ⟨c, hc, e⟩ => (by obtain ⟨q, hq, rfl⟩ := List.mem_map.1 (sortC_mem.1 hc); exact ⟨q, hq, e⟩), fun ⟨c, hc, e⟩ => ⟨cnC c, sortC_mem.2 (List.mem_map.2 ⟨c, hc, rfl⟩), e⟩⟩
    have eR : R = sortC (l.map cnC) := by
      refine up_unique ?_ (sortC_up _) (fun z => ?_)
      · refine List.Pairwise.imp_of_mem ?_ r2.up
        intro a b ha hb hab
        have := (cmp2_pos (r2.cc a ha) (r2.cc b hb)).2 hab
        rw [lex_lt] at this
        rw [ltC_iff]; exact this
      · constructor
        · intro hz
          obtain ⟨c, hc, e⟩ := (hmem (ct z)).2 ((r2.mem (ct z)).1 ⟨z, hz, rfl⟩)
          have : c = z := ct_ext (congrArg Prod.fst e) (congrArg Prod.snd e)
          rw [← this]; exact hc
        · intro hz
          obtain ⟨c, hc, e⟩ := (r2.mem (ct z)).2 ((hmem (ct z)).1 ⟨z, hz, rfl⟩)
          have : c = z := ct_ext (congrArg Prod.fst e) (congrArg Prod.snd e)
          rw [← this]; exact hc
    have hlen : (sortC (l.map cnC)).length ≤ l.length := by rw [← eR]; exact r2.len
    have hup := sortC_up (l.map cnC)
    refine Ev.bind (a := sortC (l.map cnC)) ⟨0, fun k _ => by unfold cut_Sort.f; rw [if_pos (by omega)]⟩ ?_
    rw [eR] at r1
    have wS : ∀ c ∈ sortC (l.map cnC), WC c := fun c hc => by
      have h := (hcc c hc).range
      unfold WC I64
      rcases hcc c hc with e | e | ⟨a, e, e1, e2⟩
      · have := congrArg Prod.snd e; simp only [ct] at this; omega
      · have := congrArg Prod.snd e; simp only [ct] at this; omega
      · have := congrArg Prod.snd e; simp only [ct] at this; omega
    have hcn : ∀ p, (∃ c ∈ l, cn c = p) ↔ ∃ c ∈ sortC (l.map cnC), cn c = p := fun p => by
      rw [← hmem p]
      exact ⟨fun ⟨c, hc, e⟩ => ⟨c, hc, (hcan c hc).trans e⟩, fun ⟨c, hc, e⟩ => ⟨c, hc, (hcan c hc).symm.trans e⟩⟩
    generalize sortC (l.map cnC) = S at *
    obtain ⟨p, p1, p2⟩ := least_same l S (by omega) (by omega) wl wS hcn
    obtain ⟨q, q1, q2⟩ := greatest_same l S (by omega) (by omega) wl wS hcn
    have hsame : Ev (fun k => bocageref02_Same.f k S S) true := by
      unfold bocageref02_Same.f
      simp only [if_true]
      exact same_l0 S (by omega) S.length 0 (by omega)
    refine rise_l0 l S (by omega) hcan hup (fun k => (bocagelaw02_alive.f k).bind fun t => if t = true then (bocageref02_Sort.f k l).bind fun R => (bocageref02_Same.f k S R).bind fun b => if b = true then (cut_Least.f k l).bind fun x => (cut_Least.f k S).bind fun y => if (x.1 == y.1 && (x.2 == y.2)) = true then (cut_Greatest.f k l).bind fun x => (cut_Greatest.f k S).bind fun y => some (x.1 == y.1 && (x.2 == y.2)) else some false else some false else some false) true (fun k i hi => by rw [bocagelaw02_CutSorts.l0, if_neg (by omega)]) ?_ S.length 1 (by omega) (by omega) (by omega)
    refine Ev.bind hal ?_
    simp only [if_true]
    refine Ev.bind r1 (Ev.bind hsame ?_)
    simp only [if_true]
    refine Ev.bind p1 (Ev.bind p2 ?_)
    simp only [beq_self_eq_true, Bool.and_self, if_true]
    exact Ev.bind q1 (Ev.bind q2 (by simp only [beq_self_eq_true, Bool.and_self]; exact Ev.now _))

end Go.Proofs.Ytihhagfdfhojnaa.Pure
