import Derived.Test.YtkkbmjfhpngalaaPrint1
import Derived.Test.YtkkbmjfhpngalaaLSpanL
import Derived.Test.YtkkbmjfhpngalaaLIv
namespace Go.Proofs.Ytkkbmjfhpngalaa.Print
open Go.RowKit Go.Proofs.YtkkbmjfhpngalaaW.PrintWords Go.Proofs.YtkkbmjfhpngalaaW.PrintLast
set_option linter.unusedVariables false
set_option linter.unusedSimpArgs false
/-- a right cut's place among the numbers -/
def pos (p : Int × Int) : Int := if p.1 < 0 then -9223372036854775808 else if p.1 > 0 then 9223372036854775808 else p.2
theorem CC.pos_cases {p : Int × Int} (h : CC p) : (p = (-1, 0) ∧ pos p = -9223372036854775808) ∨ (p = (1, 0) ∧ pos p = 9223372036854775808) ∨ (p = (0, pos p) ∧ -9223372036854775808 < pos p ∧ pos p ≤ 9223372036854775807) := by
  rcases h with rfl | rfl | ⟨a, rfl, h1, h2⟩
  · exact .inl ⟨rfl, rfl⟩
  · exact .inr (.inl ⟨rfl, rfl⟩)
  · have e : pos (0, a) = a := by unfold pos; rw [if_neg (by show ¬ (0 : Int) < 0; omega), if_neg (by show ¬ (0 : Int) > 0; omega)]
    rw [e]; exact .inr (.inr ⟨rfl, h1, h2⟩)
theorem CC.range {p : Int × Int} (h : CC p) : -9223372036854775808 ≤ pos p ∧ pos p ≤ 9223372036854775808 := by
  rcases h.pos_cases with ⟨_, h⟩ | ⟨_, h⟩ | ⟨_, h, h'⟩ <;> omega
theorem pos_inj {p q : Int × Int} (hp : CC p) (hq : CC q) (h : pos p = pos q) : p = q := by
  rcases hp.pos_cases with ⟨e, h1⟩ | ⟨e, h1⟩ | ⟨e, h1, h2⟩ <;> rcases hq.pos_cases with ⟨e', h1'⟩ | ⟨e', h1'⟩ | ⟨e', h1', h2'⟩
  all_goals first
    | (rw [e, e']; done)
    | (rw [e, e', h]; done)
    | (exfalso; omega)
theorem cmp2_pos {p q : Int × Int} (hp : CC p) (hq : CC q) : cmp2 p q < 0 ↔ pos p < pos q := by
  rw [lex_lt]
  rcases hp.pos_cases with ⟨e, h1⟩ | ⟨e, h1⟩ | ⟨e, h1, h2⟩ <;> rcases hq.pos_cases with ⟨e', h1'⟩ | ⟨e', h1'⟩ | ⟨e', h1', h2'⟩
  all_goals
    have k1 := congrArg Prod.fst e
    have k2 := congrArg Prod.snd e
    have k3 := congrArg Prod.fst e'
    have k4 := congrArg Prod.snd e'
    dsimp only at k1 k2 k3 k4
    omega
theorem cmp2_pos_gt {p q : Int × Int} (hp : CC p) (hq : CC q) : cmp2 p q > 0 ↔ pos q < pos p := by
  rw [lex_gt, cmp2_pos hq hp]
theorem minC_CC {p q : Int × Int} (hp : CC p) (hq : CC q) : CC (minC p q) ∧ pos (minC p q) = if pos q < pos p then pos q else pos p := by
  unfold minC
  by_cases h : cmp2 q p < 0
  · rw [if_pos h, if_pos ((cmp2_pos hq hp).1 h)]; exact ⟨hq, rfl⟩
  · rw [if_neg h, if_neg (fun g => h ((cmp2_pos hq hp).2 g))]; exact ⟨hp, rfl⟩
theorem maxC_CC {p q : Int × Int} (hp : CC p) (hq : CC q) : CC (maxC p q) ∧ pos (maxC p q) = if pos p < pos q then pos q else pos p := by
  unfold maxC
  by_cases h : cmp2 q p > 0
  · rw [if_pos h, if_pos ((cmp2_pos_gt hq hp).1 h)]; exact ⟨hq, rfl⟩
  · rw [if_neg h, if_neg (fun g => h ((cmp2_pos_gt hq hp).2 g))]; exact ⟨hp, rfl⟩
/-- a span's numbers -/
def iv (x : Sp) : Int × Int := (pos (lo x), pos (hi x))
/-- it may be -/
def RR (x : Sp) : Prop := CC (lo x) ∧ CC (hi x) ∧ pos (lo x) < pos (hi x)
/-- its numbers are of 64 bits -/
def WS (x : Sp) : Prop := I64 x.f0.f1 ∧ I64 x.f1.f1
theorem CC_of {s a : Int} (ha : I64 a) (h : canon s a = (s, a)) : CC (s, a) := by
  have := canon_CC (s := s) ha
  rwa [h] at this
theorem RS_iff {x : Sp} (w : WS x) : RS (lo x) (hi x) ↔ RR x := by
  constructor
  · rintro ⟨h1, h2, h3⟩
    have c1 : CC (lo x) := CC_of w.1 h1
    have c2 : CC (hi x) := CC_of w.2 h2
    exact ⟨c1, c2, (cmp2_pos c1 c2).1 h3⟩
  · rintro ⟨h1, h2, h3⟩
    exact ⟨h1.canon, h2.canon, (cmp2_pos h1 h2).2 h3⟩
theorem RR.RS {x : Sp} (h : RR x) : RS (lo x) (hi x) := ⟨h.1.canon, h.2.1.canon, (cmp2_pos h.1 h.2.1).2 h.2.2⟩
theorem RX_RR {x : Sp} (w : WS x) : RX x = true ↔ RR x := RX_iff.trans (RS_iff w)
theorem iv_inj {x y : Sp} (hx : RR x) (hy : RR y) (h : iv x = iv y) : x = y := by
  have e1 := pos_inj hx.1 hy.1 (congrArg Prod.fst h)
  have e2 := pos_inj hx.2.1 hy.2.1 (congrArg Prod.snd h)
  rw [← sp_lo_hi x, ← sp_lo_hi y, e1, e2]
theorem map_iv_inj : ∀ {L M : List Sp}, (∀ x ∈ L, RR x) → (∀ x ∈ M, RR x) → L.map iv = M.map iv → L = M
  | [], [], _, _, _ => rfl
  | [], _ :: _, _, _, h => by cases h
  | _ :: _, [], _, _, h => by cases h
  | x :: L, y :: M, hL, hM, h => by
    rw [List.map_cons, List.map_cons] at h
    injection h with h1 h2
    rw [iv_inj (hL x List.mem_cons_self) (hM y List.mem_cons_self) h1, map_iv_inj (fun z hz => hL z (List.mem_cons_of_mem _ hz)) (fun z hz => hM z (List.mem_cons_of_mem _ hz)) h2]
/-- as few as can be, rising -/
def GoodL (L : List Sp) : Prop := (∀ x ∈ L, RR x) ∧ NormI (L.map iv)
/-- has a right one of some a number -/
def Any (L : List Sp) (n : Int) : Prop := ∃ x ∈ L, RR x ∧ pos (lo x) ≤ n ∧ n < pos (hi x)
theorem GoodL.any {L : List Sp} (h : GoodL L) (n : Int) : Any L n ↔ MemI (L.map iv) n := by
  constructor
  · rintro ⟨x, hx, _, h⟩; exact ⟨iv x, List.mem_map_of_mem hx, h⟩
  · rintro ⟨p, hp, hn⟩
    obtain ⟨x, hx, rfl⟩ := List.mem_map.1 hp
    exact ⟨x, hx, h.1 x hx, hn⟩
theorem GoodL.unique {L M : List Sp} (hL : GoodL L) (hM : GoodL M) (h : ∀ n, Any L n ↔ Any M n) : L = M :=
  map_iv_inj hL.1 hM.1 (NormI.unique hL.2 hM.2 (fun n => by rw [← hL.any, ← hM.any]; exact h n))
theorem sp_hull {a b : Sp} : lo (sp (minC (lo a) (lo b)) (maxC (hi a) (hi b))) = minC (lo a) (lo b) ∧ hi (sp (minC (lo a) (lo b)) (maxC (hi a) (hi b))) = maxC (hi a) (hi b) := ⟨rfl, rfl⟩
theorem OT_iff {o s : Sp} (ho : RR o) (hs : RR s) (hb : pos (lo o) ≤ pos (lo s)) : (OV o s = true ∨ TC o s = true) ↔ pos (lo s) ≤ pos (hi o) := by
  unfold OV TC
  rw [decide_eq_true_eq, decide_eq_true_eq]
  obtain ⟨m1, m2⟩ := maxC_CC ho.1 hs.1
  obtain ⟨n1, n2⟩ := minC_CC ho.2.1 hs.2.1
  have k1 := ho.2.2
  have k2 := hs.2.2
  rw [cmp2_pos m1 n1, m2, n2]
  constructor
  · rintro (⟨_, _, h⟩ | ⟨_, _, h | h⟩)
    · split at h <;> split at h <;> omega
    · rw [h]; exact Int.le_refl _
    · exfalso; rw [h] at k2; omega
  · intro h
    by_cases e : pos (lo s) = pos (hi o)
    · exact .inr ⟨ho.RS, hs.RS, .inl (pos_inj ho.2.1 hs.1 e.symm)⟩
    · refine .inl ⟨ho.RS, hs.RS, ?_⟩
      split <;> split <;> omega
theorem HU_iv {o s : Sp} (ho : RR o) (hs : RR s) (hb : pos (lo o) ≤ pos (lo s)) : RR (HU o s) ∧ iv (HU o s) = ((iv o).1, if (iv o).2 < (iv s).2 then (iv s).2 else (iv o).2) := by
  have e : HU o s = sp (minC (lo o) (lo s)) (maxC (hi o) (hi s)) := by unfold HU; exact if_pos ⟨ho.RS, hs.RS⟩
  rw [e]
  obtain ⟨m1, m2⟩ := minC_CC ho.1 hs.1
  obtain ⟨n1, n2⟩ := maxC_CC ho.2.1 hs.2.1
  have k1 := ho.2.2
  have e1 : lo (sp (minC (lo o) (lo s)) (maxC (hi o) (hi s))) = minC (lo o) (lo s) := rfl
  have e2 : hi (sp (minC (lo o) (lo s)) (maxC (hi o) (hi s))) = maxC (hi o) (hi s) := rfl
  have e3 : pos (minC (lo o) (lo s)) = pos (lo o) := by rw [m2]; split <;> omega
  refine ⟨⟨m1, n1, ?_⟩, ?_⟩
  · rw [e1, e2, e3, n2]; split <;> omega
  · unfold iv; rw [e1, e2, e3, n2]
theorem joinS_iv {out : List Sp} {s : Sp} (hs : RR s) (ho : ∀ x ∈ out, RR x ∧ pos (lo x) ≤ pos (lo s)) : (∀ x ∈ joinS out s, RR x) ∧ (joinS out s).map iv = joinI (out.map iv) (iv s) := by
  rcases List.eq_nil_or_concat out with rfl | ⟨ys, o, rfl⟩
  · exact ⟨fun x hx => by rcases List.mem_singleton.1 hx with rfl; exact hs, rfl⟩
  · rw [List.concat_eq_append] at *
    obtain ⟨h1, h2⟩ := ho o (by simp)
    have hj : joinS (ys ++ [o]) s = if OV o s = true ∨ TC o s = true then ys ++ [HU o s] else ys ++ [o] ++ [s] := by
      unfold joinS; rw [List.getLast?_concat]; simp only [List.dropLast_concat]
    rw [hj, List.map_append, List.map_singleton, joinI_snoc]
    obtain ⟨g1, g2⟩ := HU_iv h1 hs h2
    by_cases hc : pos (lo s) ≤ pos (hi o)
    · rw [if_pos ((OT_iff h1 hs h2).2 hc), if_pos (show (iv s).1 ≤ (iv o).2 from hc), List.map_append, List.map_singleton, g2]
      refine ⟨fun x hx => ?_, rfl⟩
      rcases List.mem_append.1 hx with hx | hx
      · exact (ho x (List.mem_append_left _ hx)).1
      · rcases List.mem_singleton.1 hx with rfl; exact g1
    · rw [if_neg (fun g => hc ((OT_iff h1 hs h2).1 g)), if_neg (show ¬ (iv s).1 ≤ (iv o).2 from hc)]
      refine ⟨fun x hx => ?_, by simp⟩
      rcases List.mem_append.1 hx with hx | hx
      · exact (ho x hx).1
      · rcases List.mem_singleton.1 hx with rfl; exact hs
theorem foldS_iv : ∀ (d out : List Sp), (∀ x ∈ d, RR x) → (∀ x ∈ out, RR x) → NormI (out.map iv) → (d.map iv).Pairwise (fun p q => p.1 ≤ q.1) → (∀ x ∈ out, ∀ s ∈ d, pos (lo x) ≤ pos (lo s)) →
    (∀ x ∈ d.foldl joinS out, RR x) ∧ (d.foldl joinS out).map iv = (d.map iv).foldl joinI (out.map iv)
  | [], out, _, ho, _, _, _ => ⟨ho, rfl⟩
  | s :: d, out, hd, ho, hN, hp, hb => by
    have hs := hd s List.mem_cons_self
    obtain ⟨j1, j2⟩ := joinS_iv hs (fun x hx => ⟨ho x hx, hb x hx s List.mem_cons_self⟩)
    rw [List.map_cons] at hp
    have hp' := List.pairwise_cons.1 hp
    obtain ⟨i1, i2, _⟩ := joinI_ok hN (s := iv s) hs.2.2 (fun q hq => by obtain ⟨x, hx, rfl⟩ := List.mem_map.1 hq; exact hb x hx s List.mem_cons_self)
    obtain ⟨k1, k2⟩ := foldS_iv d (joinS out s) (fun x hx => hd x (List.mem_cons_of_mem _ hx)) j1 (by rw [j2]; exact i1) hp'.2 (fun x hx t ht => by
      have a1 : iv x ∈ joinI (out.map iv) (iv s) := by rw [← j2]; exact List.mem_map_of_mem hx
      have a2 := i2 _ a1
      have a3 := hp'.1 (iv t) (List.mem_map_of_mem ht)
      exact Int.le_trans a2 a3)
    refine ⟨k1, ?_⟩
    rw [List.foldl_cons, k2, j2, List.map_cons, List.foldl_cons]
/-- all numbers of some, in as few as can be, rising -/
theorem listS_ok (l : List Sp) (w : ∀ x ∈ l, WS x) : GoodL (listS l) ∧ ∀ n, Any (listS l) n ↔ Any l n := by
  have hd : ∀ x ∈ sortS (l.filter RX), RR x ∧ x ∈ l := fun x hx => by
    obtain ⟨h1, h2⟩ := List.mem_filter.1 ((sortS_perm _).mem_iff.1 hx)
    exact ⟨(RX_RR (w x h1)).1 h2, h1⟩
  have hp : ((sortS (l.filter RX)).map iv).Pairwise (fun p q => p.1 ≤ q.1) := by
    rw [List.pairwise_map]
    refine (List.Pairwise.and_mem.1 (sortS_sorted (l.filter RX))).imp ?_
    rintro a b ⟨ha, hb, h⟩
    have ra := (hd a ha).1
    have rb := (hd b hb).1
    show pos (lo a) ≤ pos (lo b)
    unfold leS at h
    rw [decide_eq_true_eq] at h
    have e1 : canon a.f0.f0 a.f0.f1 = lo a := ra.1.canon
    have e2 : canon b.f0.f0 b.f0.f1 = lo b := rb.1.canon
    rw [e1, e2] at h
    have h' : ¬ cmp2 (lo b) (lo a) < 0 := fun g => h (.inl g)
    rw [cmp2_pos rb.1 ra.1] at h'
    omega
  obtain ⟨k1, k2⟩ := foldS_iv (sortS (l.filter RX)) [] (fun x hx => (hd x hx).1) (fun _ h => by cases h) NormI_nil hp (fun _ h => by cases h)
  obtain ⟨j1, j2⟩ := joinI_all ((sortS (l.filter RX)).map iv) [] NormI_nil (fun p hp => by obtain ⟨x, hx, rfl⟩ := List.mem_map.1 hp; exact (hd x hx).1.2.2) hp (fun _ h => by cases h)
  have hG : GoodL (listS l) := ⟨k1, by show NormI (((sortS (l.filter RX)).foldl joinS []).map iv); rw [k2]; exact j1⟩
  refine ⟨hG, fun n => ?_⟩
  rw [hG.any]
  show MemI (((sortS (l.filter RX)).foldl joinS []).map iv) n ↔ _
  rw [k2]
  show MemI (((sortS (l.filter RX)).map iv).foldl joinI []) n ↔ _
  rw [j2]
  constructor
  · intro h
    obtain ⟨p, hp, hn⟩ := h.resolve_left MemI_nil
    obtain ⟨x, hx, rfl⟩ := List.mem_map.1 hp
    exact ⟨x, (hd x hx).2, (hd x hx).1, hn⟩
  · rintro ⟨x, hx, hr, hn⟩
    exact .inr ⟨iv x, List.mem_map_of_mem ((sortS_perm _).mem_iff.2 (List.mem_filter.2 ⟨hx, (RX_RR (w x hx)).2 hr⟩)), hn⟩

end Go.Proofs.Ytkkbmjfhpngalaa.Print
