import Derived.Test.YtkkbmjfhpngalaaPrint0
import Derived.Test.YtkkbmjfhpngalaaPrint2
import Derived.Test.YtkkbmjfhpngalaaG
import Derived.Test.YtkkbmjfhpngalaaLCutA
import Derived.Test.YtkkbmjfhpngalaaHLay
namespace Go.Proofs.Ytkkbmjfhpngalaa.PrintG
open Go.RowKit hiding Below
open Go.Shelf Go.Lib Go.Sort Go.Proofs.Ytkkbmjfhpngalaa.Print Go.Proofs.YtkkbmjfhpngalaaW.PrintWords
set_option linter.unusedVariables false
set_option linter.unusedSimpArgs false
theorem below_grow {w w' : World} (h : PrintG.Below w.heap.size w w') : ∃ (q : Nat) (os : Array Obj), w' = grow (w.drewN q) os := by
  refine ⟨w'.drawn - w.drawn, w'.heap.extract w.heap.size w'.heap.size, ?_⟩
  have hd : w.drawn + (w'.drawn - w.drawn) = w'.drawn := by have := h.d; omega
  have hh : w'.heap = w.heap ++ w'.heap.extract w.heap.size w'.heap.size := by
    apply Array.ext_getElem?
    intro i
    have hs := h.size
    by_cases hi : i < w.heap.size
    · rw [Array.getElem?_append_left hi, h.b.block i hi]
    · rw [Array.getElem?_append_right (by omega), Array.getElem?_extract]
      by_cases h2 : i < w'.heap.size
      · rw [if_pos (by omega), show w.heap.size + (i - w.heap.size) = i by omega]
      · rw [if_neg (by omega), Array.getElem?_eq_none (by omega)]
  have h1 := h.b.os
  have h2 := h.b.tape
  have h3 := h.b.output
  cases w with
  | mk heap tape drawn os output =>
    cases w' with
    | mk heap' tape' drawn' os' output' =>
      simp only [grow, World.drewN] at *
      subst h1 h2 h3
      simp only [World.mk.injEq, true_and, and_true]
      exact ⟨hh, hd.symm⟩
instance : Inhabited S25 := ⟨z25⟩
/-- a span's four cells -/
def enc25 (x : S25) : List Value := [.int .i64 x.f0.f0, .int .i64 x.f0.f1, .int .i64 x.f1.f0, .int .i64 x.f1.f1]
/-- which of two spans stands ahead, in one number -/
def cf25 (x y : S25) : Int := if cmp2 (canon x.f0.f0 x.f0.f1) (canon y.f0.f0 y.f0.f1) = 0 then cmp2 (canon x.f1.f0 x.f1.f1) (canon y.f1.f0 y.f1.f1) else cmp2 (canon x.f0.f0 x.f0.f1) (canon y.f0.f0 y.f0.f1)
theorem span_Compare.eq (x y : S25) (k : Nat) (hk : 3 ≤ k) : span_Compare.f k x.f0.f0 x.f0.f1 x.f1.f0 x.f1.f1 y.f0.f0 y.f0.f1 y.f1.f0 y.f1.f1 = some (cf25 x y) := by
  unfold span_Compare.f cf25
  rw [cut_Compare.eq _ _ _ _ k hk, Option.bind_some, cut_Compare.eq _ _ _ _ k hk, Option.bind_some, cmp_Or_int.eq _ _ k hk]
  rfl
theorem cmpLays25 (blk off size : Nat) (w : World) : CmpLays Try.prog 38 #[] enc25 4 cf25 blk off size w :=
  fun m os dk _ x y => (span_Compare.calls 10 x.f0.f0 x.f0.f1 x.f1.f0 x.f1.f1 y.f0.f0 y.f0.f1 y.f1.f0 y.f1.f1 (cf25 x y) _ (span_Compare.eq x y 10 (by omega))).mono fun _ _ ⟨he, hb⟩ => ⟨he, below_grow hb⟩
/-- a cut's place among all cuts: two numbers -/
theorem cf25_lt (x y : S25) : ltOf cf25 x y = true ↔
    ((canon x.f0.f0 x.f0.f1).1 < (canon y.f0.f0 y.f0.f1).1 ∨ ((canon x.f0.f0 x.f0.f1).1 = (canon y.f0.f0 y.f0.f1).1 ∧ (canon x.f0.f0 x.f0.f1).2 < (canon y.f0.f0 y.f0.f1).2)) ∨
    (canon x.f0.f0 x.f0.f1 = canon y.f0.f0 y.f0.f1 ∧ ((canon x.f1.f0 x.f1.f1).1 < (canon y.f1.f0 y.f1.f1).1 ∨ ((canon x.f1.f0 x.f1.f1).1 = (canon y.f1.f0 y.f1.f1).1 ∧ (canon x.f1.f0 x.f1.f1).2 < (canon y.f1.f0 y.f1.f1).2))) := by
  unfold ltOf cf25
  rw [decide_eq_true_eq]
  have h1 := cmp2_cases (canon x.f0.f0 x.f0.f1) (canon y.f0.f0 y.f0.f1)
  have h2 := cmp2_cases (canon x.f1.f0 x.f1.f1) (canon y.f1.f0 y.f1.f1)
  generalize canon x.f0.f0 x.f0.f1 = p at *
  generalize canon y.f0.f0 y.f0.f1 = q at *
  generalize canon x.f1.f0 x.f1.f1 = p' at *
  generalize canon y.f1.f0 y.f1.f1 = q' at *
  obtain ⟨p1, p2⟩ := p
  obtain ⟨q1, q2⟩ := q
  simp only [Prod.mk.injEq] at *
  rcases h1 with ⟨e1, g1⟩ | ⟨e1, g1⟩ | ⟨e1, g1⟩
  · rw [e1, if_neg (by decide)]; constructor
    · intro _; exact .inl g1
    · intro _; decide
  · rw [e1, if_neg (by decide)]; constructor
    · intro h; exact absurd h (by decide)
    · intro h; omega
  · rw [if_pos e1]
    obtain ⟨p1', p2'⟩ := p'
    obtain ⟨q1', q2'⟩ := q'
    simp only [Prod.mk.injEq] at *
    rcases h2 with ⟨e2, g2⟩ | ⟨e2, g2⟩ | ⟨e2, g2⟩
    · rw [e2]; constructor
      · intro _; exact .inr ⟨g1, g2⟩
      · intro _; decide
    · rw [e2]; constructor
      · intro h; exact absurd h (by decide)
      · intro h; omega
    · rw [e2]; constructor
      · intro h; exact absurd h (by decide)
      · intro h; omega
theorem swo25 : SWO (ltOf cf25) where
  irrefl x := by
    rw [Bool.eq_false_iff]; intro h; rw [cf25_lt] at h; omega
  trans x y z h1 h2 := by
    rw [cf25_lt] at h1 h2 ⊢
    simp only [Prod.ext_iff] at *
    omega
  ntrans x y z h1 h2 := by
    rw [Bool.eq_false_iff, Ne, cf25_lt] at h1 h2 ⊢
    simp only [Prod.ext_iff] at *
    omega
theorem flat_get (l : List S25) : ∀ j, j < l.length * 4 → (l.flatMap enc25)[j]? = some ((enc25 (l.toArray[j / 4]!))[j % 4]!) := by
  induction l with
  | nil => intro j hj; simp at hj
  | cons x l ih =>
    intro j hj
    rw [List.flatMap_cons]
    by_cases h : j < 4
    · rw [List.getElem?_append_left (by simpa [enc25] using h)]
      have : j / 4 = 0 := by omega
      rw [this]
      obtain rfl | rfl | rfl | rfl : j = 0 ∨ j = 1 ∨ j = 2 ∨ j = 3 := by omega
      all_goals rfl
    · rw [List.getElem?_append_right (by simp [enc25]; omega)]
      have hl : (enc25 x).length = 4 := rfl
      rw [hl, ih (j - 4) (by simp at hj; omega)]
      have e1 : j / 4 = (j - 4) / 4 + 1 := by omega
      have e2 : (j - 4) % 4 = j % 4 := by omega
      rw [e1, e2]
      have hj4 : (j - 4) / 4 < l.length := by simp at hj; omega
      rw [getElem!_pos (x :: l).toArray _ (by simpa using hj4), getElem!_pos l.toArray _ (by simpa using hj4)]
      simp
theorem sort25 (l : List S25) (blk c : Nat) (cs : Array Value) (t : Nat) (W : World) (hb : W.heap[blk]? = some (.cells cs t (0, 0))) (hcs : cs.toList = l.flatMap enc25) (hn : l.length < 281474976710656) :
    Calls Try.prog 65 #[.slice (some ⟨blk, 0, none⟩) l.length c, .func (.func 38) #[] #[]] W fun e w' => e = .returned (.tuple #[]) ∧ ∃ d : List S25, d.Perm l ∧ d.Pairwise (fun x y => ltOf cf25 y x = false) ∧ Kd.C k25 w' (some ⟨blk, 0, none⟩) d.length d ∧ Go.RowKit.Below blk W w' := by
  have eg : ∀ args w, (callFunc 38 args).run Try.prog w = .ok (.enter 38 args) w := enters_of Try.func38 (by kernel_rfl) rfl
  have hsize : (flatK enc25 4 l.toArray).size = l.length * 4 := by simp
  have hH : HoldsK enc25 4 W blk 0 l.toArray := by
    intro j hj
    rw [hsize] at hj
    constructor
    · rw [Nat.zero_add]
      refine (blk_cell hb j).trans ?_
      rw [get_flatK enc25 4 l.toArray j (by simpa using hj)]
      have h0 := flat_get l j hj
      rw [← hcs] at h0
      simpa using h0
    · rw [Nat.zero_add]; exact blk_frozen hb j
  have hcon := AnyQ.slices_SortFunc Try.sortSpan 4 Try.isAgg25 Try.sizeOf25 enc25 (fun _ => rfl) (fun x v hv => by simp [enc25] at hv; rcases hv with rfl | rfl | rfl | rfl <;> rfl) cf25 swo25 38 #[] blk 0 c l.toArray W eg (cmpLays25 blk 0 l.toArray.size W) hH (blk_lt hb) (by simp; omega)
  change Calls Try.prog 65 _ _ _ at hcon
  refine hcon.mono ?_
  rintro e w' ⟨he, d, n, os, hp, hs, rfl⟩
  have h4 : d.size = l.length := by have := hp.1; simpa using this
  have hK : HoldsK enc25 4 (sortWorldK enc25 4 W blk 0 n d os) blk 0 d := holdsK_sortWorldK enc25 4 W blk 0 n l.toArray d os (blk_lt hb) hH (by simpa using h4)
  refine ⟨he, d.toList, ?_, ?_, ?_, ?_⟩
  · have h3 := hp.2.2
    simp only [List.size_toArray] at h3
    rw [← h4] at h3
    simp only [Array.extract_size] at h3
    refine h3.trans ?_
    simp [h4]
  · rw [List.pairwise_iff_getElem]
    intro i j hi hj hij
    have h5 := hs i j (Nat.zero_le _) hij (by simp at hj; simp; omega)
    rw [getElem!_pos d j (by simpa using hj), getElem!_pos d i (by simpa using hi)] at h5
    simpa using h5
  · refine ⟨rfl, by simp; omega, fun hp0 => ⟨_, rfl, fun j p hj => ⟨enc25 p, rfl, k25_mk _ p, fun i u hu => ?_⟩⟩⟩
    obtain ⟨hjl, hjp⟩ := List.getElem?_eq_some_iff.1 hj
    have hi : i < 4 := (List.getElem?_eq_some_iff.1 hu).1
    have hjd : j < d.size := by simpa using hjl
    have hc := (hK (j * 4 + i) (by simp; omega)).1
    rw [get_flatK enc25 4 d (j * 4 + i) (by omega)] at hc
    have e1 : (j * 4 + i) / 4 = j := by omega
    have e2 : (j * 4 + i) % 4 = i := by omega
    rw [e1, e2, getElem!_pos d j hjd] at hc
    have e3 : d[j] = p := by rw [← hjp]; simp
    rw [e3, getElem!_pos (enc25 p) i hi] at hc
    have e4 : (enc25 p)[i] = u := (List.getElem?_eq_some_iff.1 hu).2
    rw [e4] at hc
    show (sortWorldK enc25 4 W blk 0 n d os).cell? (Addr.add ⟨blk, 0, none⟩ (j * 4 + i)) = some u
    rw [Addr.add_lit]
    exact hc
  · refine ⟨rfl, rfl, rfl, ?_, fun q hq => ?_⟩
    · simp [sortWorldK, grow, putRowK, putRow, mapBlock, ahead]
    · have hql : q < W.heap.size := Nat.lt_trans hq (blk_lt hb)
      simp only [sortWorldK, grow, putRowK, putRow, mapBlock, ahead]
      rw [Array.getElem?_append_left (by simpa using hql), Array.getElem?_modify, if_neg (by omega)]
      rfl
end Go.Proofs.Ytkkbmjfhpngalaa.PrintG
