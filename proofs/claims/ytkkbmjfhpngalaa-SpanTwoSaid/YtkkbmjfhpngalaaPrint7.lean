-- Laid by wip/print/bprint.py of this repo, over the kit's printer, with functions given by hand; not trusted: Lean checks it.
import Derived.Test.YtkkbmjfhpngalaaPrint0
import Derived.Test.YtkkbmjfhpngalaaPrint1
import Derived.Test.YtkkbmjfhpngalaaPrint4
import Derived.Test.YtkkbmjfhpngalaaPrint5
import Derived.Test.YtkkbmjfhpngalaaPrint6
import Derived.Test.YtkkbmjfhpngalaaSh
namespace Go.Proofs.Ytkkbmjfhpngalaa.Print
open Go.RowKit Go.Proofs.YtkkbmjfhpngalaaW.PrintWords Go.Proofs.YtkkbmjfhpngalaaW.PrintLast Go.Proofs.YtkkbmjfhpngalaaW.PrintMore
attribute [local go_sem] max2_int min2_int max_two min_two max_three min_three max_four min_four   -- for this text's walks alone
set_option linter.unusedVariables false
set_option linter.unusedSimpArgs false
/-! ### bocageref03_Any: function 42 -/
def bocageref03_Any.l0 : Nat → List (S25) → Int → Int → Option (Bool)
  | 0, _, _, _ => none
  | k + 1, x0, x1, x5 => if x5 < (x0.length : Int) then (if 0 ≤ x5 then ((bocageref03_Has.f k ((rd_T25 x0 x5).f0.f0) ((rd_T25 x0 x5).f0.f1) ((rd_T25 x0 x5).f1.f0) ((rd_T25 x0 x5).f1.f1) x1).bind fun t131 => (if t131 = true then (some true) else (bocageref03_Any.l0 k x0 x1 (wrap64 (x5 + 1))))) else (none)) else (some false)
def bocageref03_Any.f (k : Nat) (l0 : List (S25)) (a1 : Int) : Option (Bool) := bocageref03_Any.l0 k l0 a1 0
theorem bocageref03_Any.mono_l : ∀ k, (∀ y0 y1 y2, LeO (bocageref03_Any.l0 k y0 y1 y2) (bocageref03_Any.l0 (k + 1) y0 y1 y2))
  | 0 => fun _ _ _ r h => by simp [bocageref03_Any.l0] at h
  | k + 1 => by
    have ih0 := bocageref03_Any.mono_l k
    · intro y0 y1 y2
      unfold bocageref03_Any.l0
      repeat' first
      | (with_reducible exact ih0 _ _ _)
      | (with_reducible exact bocageref03_Has.mono _ _ _ _ _ _)
      | (with_reducible exact LeO.refl _)
      | (with_reducible exact LeO.none _)
      | (with_reducible refine LeO.ite ?_ ?_)
      | (with_reducible refine LeO.bind ?_ (fun _ => ?_))
      | exact ih0 _ _ _
      | exact bocageref03_Has.mono _ _ _ _ _ _
      | exact LeO.none _
      | refine LeO.ite ?_ ?_
      | refine LeO.bind ?_ (fun _ => ?_)
theorem bocageref03_Any.mono : ∀ a0 a1 k, LeO (bocageref03_Any.f k a0 a1) (bocageref03_Any.f (k + 1) a0 a1) := by
  intro a0 a1 k
  have ih0 := bocageref03_Any.mono_l k
  unfold bocageref03_Any.f
  repeat' first
      | (with_reducible exact ih0 _ _ _)
      | (with_reducible exact bocageref03_Has.mono _ _ _ _ _ _)
      | (with_reducible exact LeO.refl _)
      | (with_reducible exact LeO.none _)
      | (with_reducible refine LeO.ite ?_ ?_)
      | (with_reducible refine LeO.bind ?_ (fun _ => ?_))
      | exact ih0 _ _ _
      | exact bocageref03_Has.mono _ _ _ _ _ _
      | exact LeO.none _
      | refine LeO.ite ?_ ?_
      | refine LeO.bind ?_ (fun _ => ?_)
set_option maxHeartbeats 8000000 in
set_option maxRecDepth 100000 in
theorem bocageref03_Any.calls (k : Nat) (A0 : Option Addr) (c0 : Nat) (l0 : List (S25)) (a1 : Int) (r : Bool) (w : World) (hr0 : Kd.C k25 w A0 l0.length l0) (hc0 : l0.length ≤ c0) (h : bocageref03_Any.f k l0 a1 = some r) :
    Calls Try.prog 42 #[.slice A0 l0.length c0, .int .i64 a1] w fun e w' => e = .returned (.bool r) ∧ Below w.heap.size w w' := by
  have hu25 := Try.underlying25
  have HR0 := Aside0.mk hr0
  have HC0 := Aside0.mk hc0
  clear hr0 hc0
  have HB := Aside0.mk (Below.refl w.heap.size w)
  have H : (bocageref03_Any.l0 k l0 a1 0) = some r := h
  clear h
  have H' := Aside0.mk H
  clear H
  go_enter Try.func42, Try.ntmps42
  go_wp2
  go_loopg [5] k (fun kq v5 w' => ∃ (x5_1 : Int), v5 = .int .i64 x5_1 ∧ Aside0 (bocageref03_Any.l0 kq l0 a1 x5_1 = some r) ∧ Aside0 (kq ≤ k) ∧ Aside0 (Below w.heap.size w w'))
  case atStart => exact ⟨(0), (by first | rfl | (simp; done) | (simp [*]; done)), H', ⟨Nat.le_refl _⟩, ⟨bl HB⟩⟩
  case round =>
    clear H'
    try clear p2
    obtain ⟨x5_1, rfl, HA, HK1, HB⟩ := hrel
    cases gk with
    | zero => exact absurd HA.out (by simp [bocageref03_Any.l0])
    | succ k1 =>
      have H := HA.out
      clear HA
      simp only [bocageref03_Any.l0] at H
      by_cases c3 : x5_1 < (l0.length : Int)
      · rw [if_pos c3] at H
        have c3b0 : decide (x5_1 < (l0.length : Int)) = true := decide_eq_true c3
        clear c3
        by_cases c4 : 0 ≤ x5_1
        · rw [if_pos c4] at H
          have c4b0 : decide (0 ≤ x5_1) = true := decide_eq_true c4
          clear c4
          replace H := Option.bind_eq_some_iff.mp H
          obtain ⟨t131, A50, H⟩ := H
          (try (set_option simprocs false in dsimp only at H))
          have A5 := Aside0.mk A50
          clear A50
          by_cases c6 : t131 = true
          · subst c6
            have H1 : (some true) = some r := by rw [if_pos rfl] at H; exact H
            clear H
            have H := H1
            clear H1
            obtain rfl := Option.some.inj H
            have p130 : 0 ≤ (x5_1 : Int) := of_decide_eq_true (by first | (with_reducible assumption) | assumption)
            have q130 : x5_1 < (l0.length : Int) := of_decide_eq_true (by first | (with_reducible assumption) | assumption)
            obtain ⟨ad130, e130, hx130_0, hx130_1, hx130_2, hx130_3⟩ := at_T25 HR0.out x5_1 p130 q130
            cases e130
            replace hx130_0 := (HB.out.cell (World.block_lt_of_cell? w _ hx130_0)).trans hx130_0
            replace hx130_1 := (HB.out.cell (World.block_lt_of_cell? w _ hx130_1)).trans hx130_1
            replace hx130_2 := (HB.out.cell (World.block_lt_of_cell? w _ hx130_2)).trans hx130_2
            replace hx130_3 := (HB.out.cell (World.block_lt_of_cell? w _ hx130_3)).trans hx130_3
            replace p130 := eq_true p130
            replace q130 := eq_true q130
            go_wp2_with (first | ((with_reducible refine gate_callee (f := 30) rfl ?_); refine gol (some 17) Try.func30 #[.agg #[.int .i64 ((rd_T25 l0 x5_1).f0.f0), .int .i64 ((rd_T25 l0 x5_1).f0.f1), .int .i64 ((rd_T25 l0 x5_1).f1.f0), .int .i64 ((rd_T25 l0 x5_1).f1.f1)], .int .i64 a1] ?_; (with_reducible refine (bocageref03_Has.calls k1 ((rd_T25 l0 x5_1).f0.f0) ((rd_T25 l0 x5_1).f0.f1) ((rd_T25 l0 x5_1).f1.f0) ((rd_T25 l0 x5_1).f1.f1) a1 true _ A5.out).mono ?_); rintro e w7 ⟨rfl, hb⟩; refine ⟨_, rfl, ?_⟩; replace HB := bst HB hb; (try clear hb); (try clear hb2); (try clear hk); (try clear hi)))
            go_ret
            exact endB HB
          · replace c6 := Bool.eq_false_iff.mpr c6
            subst c6
            have H1 : (bocageref03_Any.l0 k1 l0 a1 (wrap64 (x5_1 + 1))) = some r := by rw [if_neg (show ¬ (false = true) by decide)] at H; exact H
            clear H
            have H := H1
            clear H1
            have H' := Aside0.mk H
            clear H
            have p130 : 0 ≤ (x5_1 : Int) := of_decide_eq_true (by first | (with_reducible assumption) | assumption)
            have q130 : x5_1 < (l0.length : Int) := of_decide_eq_true (by first | (with_reducible assumption) | assumption)
            obtain ⟨ad130, e130, hx130_0, hx130_1, hx130_2, hx130_3⟩ := at_T25 HR0.out x5_1 p130 q130
            cases e130
            replace hx130_0 := (HB.out.cell (World.block_lt_of_cell? w _ hx130_0)).trans hx130_0
            replace hx130_1 := (HB.out.cell (World.block_lt_of_cell? w _ hx130_1)).trans hx130_1
            replace hx130_2 := (HB.out.cell (World.block_lt_of_cell? w _ hx130_2)).trans hx130_2
            replace hx130_3 := (HB.out.cell (World.block_lt_of_cell? w _ hx130_3)).trans hx130_3
            replace p130 := eq_true p130
            replace q130 := eq_true q130
            go_wp2_with (first | ((with_reducible refine gate_callee (f := 30) rfl ?_); refine gol (some 17) Try.func30 #[.agg #[.int .i64 ((rd_T25 l0 x5_1).f0.f0), .int .i64 ((rd_T25 l0 x5_1).f0.f1), .int .i64 ((rd_T25 l0 x5_1).f1.f0), .int .i64 ((rd_T25 l0 x5_1).f1.f1)], .int .i64 a1] ?_; (with_reducible refine (bocageref03_Has.calls k1 ((rd_T25 l0 x5_1).f0.f0) ((rd_T25 l0 x5_1).f0.f1) ((rd_T25 l0 x5_1).f1.f0) ((rd_T25 l0 x5_1).f1.f1) a1 false _ A5.out).mono ?_); rintro e w8 ⟨rfl, hb⟩; refine ⟨_, rfl, ?_⟩; replace HB := bst HB hb; (try clear hb); (try clear hb2); (try clear hk); (try clear hi)))
            go_roundg k1
            case measure => have := HK1.out; omega
            case rel => exact ⟨(wrap64 (x5_1 + 1)), (by first | rfl | (simp; done) | (simp [*]; done)), H', ⟨by have := HK1.out; omega⟩, ⟨bl HB⟩⟩
        · rw [if_neg c4] at H
          exact absurd H (by simp)
      · rw [if_neg c3] at H
        have c3b0 : decide (x5_1 < (l0.length : Int)) = false := decide_eq_false c3
        clear c3
        obtain rfl := Option.some.inj H
        go_wp2
        go_ret
        exact endB HB
/-! ### bocageref02_Sort: function 71 -/
mutual
def bocageref02_Sort.l0 : Nat → List (S23) → List (S23) → Option ((List (S23)))
  | 0, _, _ => none
  | k + 1, x0, x3 => bocageref02_Sort.l1 k x0 x3 false 0 0 0
def bocageref02_Sort.l1 : Nat → List (S23) → List (S23) → Bool → Int → Int → Int → Option ((List (S23)))
  | 0, _, _, _, _, _, _ => none
  | k + 1, x0, x3, x4, x6, x133000, x133001 => if x6 < (x0.length : Int) then (if (x3.length : Int) = 0 then (bocageref02_Sort.j2 k x0 x3 x4 x6 true x133000 x133001) else (if 0 ≤ (wrap64 ((x3.length : Int) - 1)) then (if (wrap64 ((x3.length : Int) - 1)) < (x3.length : Int) then (if 0 ≤ x6 then ((bocageref02_Less.f k ((rd_T23 x3 (wrap64 ((x3.length : Int) - 1))).f0) ((rd_T23 x3 (wrap64 ((x3.length : Int) - 1))).f1) ((rd_T23 x0 x6).f0) ((rd_T23 x0 x6).f1)).bind fun t138 => (bocageref02_Sort.j2 k x0 x3 x4 x6 t138 x133000 x133001)) else (none)) else (none)) else (none))) else (if x4 = true then (if x3.length < 8796093022208 then (bocageref02_Sort.l0 k x0 (x3 ++ [(⟨x133000, x133001⟩ : S23)])) else (none)) else (some x3))
def bocageref02_Sort.j2 : Nat → List (S23) → List (S23) → Bool → Int → Bool → Int → Int → Option ((List (S23)))
  | 0, _, _, _, _, _, _, _ => none
  | k + 1, x0, x3, x4, x6, x7, x133000, x133001 => if x7 = true then (if x4 = true then (if 0 ≤ x6 then (if x6 < (x0.length : Int) then ((bocageref02_Less.f k ((rd_T23 x0 x6).f0) ((rd_T23 x0 x6).f1) x133000 x133001).bind fun t140 => (if t140 = true then ((bocageref02_Canon.f k ((rd_T23 x0 x6).f0) ((rd_T23 x0 x6).f1)).bind fun bt142 => (bocageref02_Sort.l1 k x0 x3 true (wrap64 (x6 + 1)) bt142.1 bt142.2)) else (bocageref02_Sort.l1 k x0 x3 x4 (wrap64 (x6 + 1)) x133000 x133001))) else (none)) else (none)) else (if 0 ≤ x6 then (if x6 < (x0.length : Int) then ((bocageref02_Canon.f k ((rd_T23 x0 x6).f0) ((rd_T23 x0 x6).f1)).bind fun bt145 => (bocageref02_Sort.l1 k x0 x3 true (wrap64 (x6 + 1)) bt145.1 bt145.2)) else (none)) else (none))) else (bocageref02_Sort.l1 k x0 x3 x4 (wrap64 (x6 + 1)) x133000 x133001)
end
def bocageref02_Sort.f (k : Nat) (l0 : List (S23)) : Option ((List (S23))) := bocageref02_Sort.l0 k l0 ([] : List (S23))
theorem bocageref02_Sort.mono_l : ∀ k, (∀ y0 y1, LeO (bocageref02_Sort.l0 k y0 y1) (bocageref02_Sort.l0 (k + 1) y0 y1)) ∧ (∀ y0 y1 y2 y3 y4 y5, LeO (bocageref02_Sort.l1 k y0 y1 y2 y3 y4 y5) (bocageref02_Sort.l1 (k + 1) y0 y1 y2 y3 y4 y5)) ∧ (∀ y0 y1 y2 y3 y4 y5 y6, LeO (bocageref02_Sort.j2 k y0 y1 y2 y3 y4 y5 y6) (bocageref02_Sort.j2 (k + 1) y0 y1 y2 y3 y4 y5 y6))
  | 0 => ⟨fun _ _ r h => by simp [bocageref02_Sort.l0] at h, fun _ _ _ _ _ _ r h => by simp [bocageref02_Sort.l1] at h, fun _ _ _ _ _ _ _ r h => by simp [bocageref02_Sort.j2] at h⟩
  | k + 1 => by
    obtain ⟨ih0, ih1, ih2⟩ := bocageref02_Sort.mono_l k
    refine ⟨?_, ?_, ?_⟩
    · intro y0 y1
      unfold bocageref02_Sort.l0
      repeat' first
      | (with_reducible exact ih0 _ _)
      | (with_reducible exact ih1 _ _ _ _ _ _)
      | (with_reducible exact ih2 _ _ _ _ _ _ _)
      | (with_reducible exact bocageref02_Canon.mono _ _ _)
      | (with_reducible exact bocageref02_Less.mono _ _ _ _ _)
      | (with_reducible exact LeO.refl _)
      | (with_reducible exact LeO.none _)
      | (with_reducible refine LeO.ite ?_ ?_)
      | (with_reducible refine LeO.bind ?_ (fun _ => ?_))
      | exact ih0 _ _
      | exact ih1 _ _ _ _ _ _
      | exact ih2 _ _ _ _ _ _ _
      | exact bocageref02_Canon.mono _ _ _
      | exact bocageref02_Less.mono _ _ _ _ _
      | exact LeO.none _
      | refine LeO.ite ?_ ?_
      | refine LeO.bind ?_ (fun _ => ?_)
    · intro y0 y1 y2 y3 y4 y5
      unfold bocageref02_Sort.l1
      repeat' first
      | (with_reducible exact ih0 _ _)
      | (with_reducible exact ih1 _ _ _ _ _ _)
      | (with_reducible exact ih2 _ _ _ _ _ _ _)
      | (with_reducible exact bocageref02_Canon.mono _ _ _)
      | (with_reducible exact bocageref02_Less.mono _ _ _ _ _)
      | (with_reducible exact LeO.refl _)
      | (with_reducible exact LeO.none _)
      | (with_reducible refine LeO.ite ?_ ?_)
      | (with_reducible refine LeO.bind ?_ (fun _ => ?_))
      | exact ih0 _ _
      | exact ih1 _ _ _ _ _ _
      | exact ih2 _ _ _ _ _ _ _
      | exact bocageref02_Canon.mono _ _ _
      | exact bocageref02_Less.mono _ _ _ _ _
      | exact LeO.none _
      | refine LeO.ite ?_ ?_
      | refine LeO.bind ?_ (fun _ => ?_)
    · intro y0 y1 y2 y3 y4 y5 y6
      unfold bocageref02_Sort.j2
      repeat' first
      | (with_reducible exact ih0 _ _)
      | (with_reducible exact ih1 _ _ _ _ _ _)
      | (with_reducible exact ih2 _ _ _ _ _ _ _)
      | (with_reducible exact bocageref02_Canon.mono _ _ _)
      | (with_reducible exact bocageref02_Less.mono _ _ _ _ _)
      | (with_reducible exact LeO.refl _)
      | (with_reducible exact LeO.none _)
      | (with_reducible refine LeO.ite ?_ ?_)
      | (with_reducible refine LeO.bind ?_ (fun _ => ?_))
      | exact ih0 _ _
      | exact ih1 _ _ _ _ _ _
      | exact ih2 _ _ _ _ _ _ _
      | exact bocageref02_Canon.mono _ _ _
      | exact bocageref02_Less.mono _ _ _ _ _
      | exact LeO.none _
      | refine LeO.ite ?_ ?_
      | refine LeO.bind ?_ (fun _ => ?_)
theorem bocageref02_Sort.mono : ∀ a0 k, LeO (bocageref02_Sort.f k a0) (bocageref02_Sort.f (k + 1) a0) := by
  intro a0 k
  obtain ⟨ih0, ih1, ih2⟩ := bocageref02_Sort.mono_l k
  unfold bocageref02_Sort.f
  repeat' first
      | (with_reducible exact ih0 _ _)
      | (with_reducible exact ih1 _ _ _ _ _ _)
      | (with_reducible exact ih2 _ _ _ _ _ _ _)
      | (with_reducible exact bocageref02_Canon.mono _ _ _)
      | (with_reducible exact bocageref02_Less.mono _ _ _ _ _)
      | (with_reducible exact LeO.refl _)
      | (with_reducible exact LeO.none _)
      | (with_reducible refine LeO.ite ?_ ?_)
      | (with_reducible refine LeO.bind ?_ (fun _ => ?_))
      | exact ih0 _ _
      | exact ih1 _ _ _ _ _ _
      | exact ih2 _ _ _ _ _ _ _
      | exact bocageref02_Canon.mono _ _ _
      | exact bocageref02_Less.mono _ _ _ _ _
      | exact LeO.none _
      | refine LeO.ite ?_ ?_
      | refine LeO.bind ?_ (fun _ => ?_)
def bocageref02_Sort.T7 : Bool × List (List Nat × List Nat) := (true, [([], []), ([0], [0]), ([1], [1]), ([2], [2]), ([3], [3]), ([3], [3]), ([5, 3], [3, 5]), ([6, 3], [3, 6]), ([4, 7, 3], [3, 4, 7]), ([8, 3], [3, 8]), ([3], [3]), ([3], [3]), ([10, 11, 3], [3, 10, 11]), ([12, 3], [3, 12]), ([9, 13, 3, 3], [3, 9, 13]), ([3, 14], [3, 14]), ([15, 14, 0, 1, 2, 3, 4, 5, 6, 7, 8, 9, 10, 11, 12, 13, 14, 15], [15])])
def bocageref02_Sort.B7 : List Nat := [0, 1, 3, 7, 15, 15, 47, 111, 255, 511, 15, 15, 3087, 7183, 16383, 32767, 65535]
theorem bocageref02_Sort.tab7 : rtab .any (opsOf Try.f71 7) = bocageref02_Sort.T7 := by kernel_rfl
theorem bocageref02_Sort.bits7 : waitsOk bocageref02_Sort.T7.2 bocageref02_Sort.B7 = true := by kernel_rfl
def bocageref02_Sort.T8 : Bool × List (List Nat × List Nat) := (true, [([], []), ([0], [0]), ([1], [1]), ([2, 1], [1, 2]), ([3, 1, 1], [1, 3]), ([4], [4]), ([4], [4]), ([5, 6, 4], [4, 5, 6]), ([7, 4], [4, 7]), ([4], [4]), ([8, 9, 4, 4], [4, 8, 9]), ([4, 10, 1], [1, 4, 10]), ([1, 11], [1, 11])])
def bocageref02_Sort.B8 : List Nat := [0, 1, 3, 7, 15, 31, 31, 127, 255, 31, 1023, 2047, 4095]
theorem bocageref02_Sort.tab8 : rtab .any (opsOf Try.f71 8) = bocageref02_Sort.T8 := by kernel_rfl
theorem bocageref02_Sort.bits8 : waitsOk bocageref02_Sort.T8.2 bocageref02_Sort.B8 = true := by kernel_rfl
set_option maxHeartbeats 8000000 in
set_option maxRecDepth 100000 in
theorem bocageref02_Sort.calls (k : Nat) (A0 : Option Addr) (c0 : Nat) (l0 : List (S23)) (r : List (S23)) (w : World) (hr0 : Kd.C k23 w A0 l0.length l0) (hc0 : l0.length ≤ c0) (h : bocageref02_Sort.f k l0 = some r) :
    Calls Try.prog 71 #[.slice A0 l0.length c0] w fun e w' => ∃ v0_ : Value, e = .returned (v0_) ∧ Kd.R k23 23 w' w.heap.size (fun _ => True) v0_ r ∧ Below w.heap.size w w' := by
  have hu23 := Try.underlying23
  have HR0 := Aside0.mk hr0
  have HC0 := Aside0.mk hc0
  clear hr0 hc0
  have HB := Aside0.mk (Below.refl w.heap.size w)
  have H : (bocageref02_Sort.l0 k l0 ([] : List (S23))) = some r := h
  clear h
  have H' := Aside0.mk H
  clear H
  go_enter Try.func71, Try.ntmps71
  go_wp2
  go_loopg [3] k (fun kq v3 w' => ∃ (x3_1 : List (S23)), Aside0 (bocageref02_Sort.l0 kq l0 x3_1 = some r) ∧ Aside0 (kq ≤ k) ∧ Aside0 (Kd.R k23 23 w' w.heap.size (fun _ => True) v3 x3_1) ∧ Aside0 (Below w.heap.size w w'))
  case atStart => exact ⟨(([] : List (S23))), H', ⟨Nat.le_refl _⟩, ⟨by first | exact Kd.R_nil _ _ _ _ _ | exact Kd.N_nil _ _ _ _ _ | exact Kd.V_nil _ _ _ _ _ | exact Kd.Q_nil _ _ _ _ _ | exact Kd.S_nil _ _ _ _ _⟩, ⟨bl HB⟩⟩
  case round =>
    clear H'
    obtain ⟨x3_1, HA, HK1, HO_3, HB⟩ := hrel
    cases gk with
    | zero => exact absurd HA.out (by simp [bocageref02_Sort.l0])
    | succ k1 =>
      have H := HA.out
      clear HA
      simp only [bocageref02_Sort.l0] at H
      have H' := Aside0.mk H
      clear H
      go_wp2_with (first | ((with_reducible refine gate_dst (N := 5) rfl ?_); (try (refine gate_guard (by rfl) ?_; dsimp only)); refine bxe (N := 5) (cs := #[.int .i64 0, .int .i64 0]) (t := 23) ?_; intro gb132 hg w2 hbox hb; replace HO_3 := Aside0.mk (Kd.R_below (Kd.R_elderB (kr HO_3) gb132 (Nat.le_of_eq hg.symm)) hb); have BK132 := Aside0.mk (hbox); have GW132 := lsz hg HB; have GE132 := lsz hg HB; replace HB := bst HB hb; clear hb hbox hg))
      go_loopg [4, 6] k1 (fun kq v4 v6 w' => ∃ (x4_2 : Bool) (x6_2 : Int) (x133000_2 : Int) (x133001_2 : Int), v4 = .bool x4_2 ∧ v6 = .int .i64 x6_2 ∧ Aside0 (bocageref02_Sort.l1 kq l0 x3_1 x4_2 x6_2 x133000_2 x133001_2 = some r) ∧ Aside0 (kq ≤ k1) ∧ Aside0 (Kd.R k23 23 w' w.heap.size (fun k_ => k_ ≠ gb132) u3 x3_1) ∧ Aside0 (w'.heap[gb132]? = some (.cells #[.int .i64 x133000_2, .int .i64 x133001_2] 23 (0, 0))) ∧ Aside0 (Below w.heap.size w w'))
      case atStart => exact ⟨(false), (0), (0), (0), (by first | rfl | (simp; done) | (simp [*]; done)), (by first | rfl | (simp; done) | (simp [*]; done)), H', ⟨Nat.le_refl _⟩, ⟨by (with_reducible repeat (first | apply Kd.R_alloc | apply Kd.R_drewN | apply Kd.R_drew)); exact Kd.R_mono HO_3.out (fun _ hk => hk.2)⟩, ⟨bk BK132⟩, ⟨bl HB⟩⟩
      case round =>
        clear H'
        try clear p2
        obtain ⟨x4_2, x6_2, x133000_2, x133001_2, rfl, rfl, HA, HK2, HO_3, BK132, HB⟩ := hrel
        cases gk with
        | zero => exact absurd HA.out (by simp [bocageref02_Sort.l1])
        | succ k2 =>
          have H := HA.out
          clear HA
          simp only [bocageref02_Sort.l1] at H
          by_cases c3 : x6_2 < (l0.length : Int)
          · rw [if_pos c3] at H
            have c3b0 : decide (x6_2 < (l0.length : Int)) = true := decide_eq_true c3
            clear c3
            have HC4 := Aside0.mk H
            clear H
            go_upto_region 7 with (fail)
            go_cut [7] (fun v7 wc => ∃ (kq : Nat) (x7_3 : Bool), v7 = .bool x7_3 ∧ Aside0 (bocageref02_Sort.j2 kq l0 x3_1 x4_2 x6_2 x7_3 x133000_2 x133001_2 = some r) ∧ Aside0 (kq ≤ k2) ∧ Aside0 (Kd.R k23 23 wc w.heap.size (fun k_ => k_ ≠ gb132) u3 x3_1) ∧ Aside0 (wc.heap[gb132]? = some (.cells #[.int .i64 x133000_2, .int .i64 x133001_2] 23 (0, 0))) ∧ Aside0 (Below w.heap.size w wc))
            case first =>
              have H := HC4.out
              clear HC4
              by_cases c5 : (x3_1.length : Int) = 0
              · rw [if_pos c5] at H
                have c5b0 : ((x3_1.length : Int) == 0) = true := beq_iff_eq.mpr c5
                have c5b1 : ((x3_1.length : Int) != 0) = false := bne_eq_false_iff_eq.mpr c5
                clear c5
                (first | rw [c5b0] | (simp only [i64_w, i32_w]; rw [c5b0]) | skip)
                have H' := Aside0.mk H
                clear H
                try go_wp2
                replace HO_3 := Aside0.mk (Kd.R_drew HO_3.out)
                replace BK132 := Aside0.mk (blk_drew BK132.out)
                replace HB := Aside0.mk (below_drew1 HB.out)
                obtain ⟨Ao7, co7, eo7⟩ := Kd.R_slice HO_3.out
                (first | subst eo7 | (injection eo7 with f1_ f2_ f3_; have f4_ := f1_.symm; have f5_ := f3_.symm; clear f1_ f2_ f3_; subst f4_; subst f5_))
                refine start_ (n := 17) (S := fun w' => True) (ds := []) #[false, false, false, false, false, false, false, false, false, false, false, false, false, false, false, false, false] (by kernel_rfl) rfl rfl trivial (fun hHeld => ?_); refine with_tabW bocageref02_Sort.tab7 bocageref02_Sort.bits7 (fun HT_ HW_ => ?_)
                generalize wr.drew = w6 at HO_3 BK132 HB hHeld ⊢
                refine pu 0 (some 14) #[true, false, false, false, false, false, false, false, false, false, false, false, false, false, false, false, false] (any_of HT_.out (by kernel_rfl)) ?_
                refine pu 1 (some 15) #[true, true, false, false, false, false, false, false, false, false, false, false, false, false, false, false, false] (any_of HT_.out (by kernel_rfl)) ?_
                refine pu 2 (some 16) #[true, true, true, false, false, false, false, false, false, false, false, false, false, false, false, false, false] (any_of HT_.out (by kernel_rfl)) ?_
                refine pu 3 (some 17) #[true, true, true, true, false, false, false, false, false, false, false, false, false, false, false, false, false] (any_of HT_.out (by kernel_rfl)) ?_
                refine pv 4 (some 18) #[true, true, true, true, true, false, false, false, false, false, false, false, false, false, false, false, false] (any_of HT_.out (by kernel_rfl)) ?_
                refine pv 5 (some 19) #[true, true, true, true, true, true, false, false, false, false, false, false, false, false, false, false, false] (any_of HT_.out (by kernel_rfl)) ?_
                refine pv 6 (some 20) #[true, true, true, true, true, true, true, false, false, false, false, false, false, false, false, false, false] (any_of HT_.out (by kernel_rfl)) ?_
                refine pv 7 (some 21) #[true, true, true, true, true, true, true, true, false, false, false, false, false, false, false, false, false] (any_of HT_.out (by kernel_rfl)) ?_
                refine pv 8 (some 22) #[true, true, true, true, true, true, true, true, true, false, false, false, false, false, false, false, false] (any_of HT_.out (by kernel_rfl)) ?_
                refine pv 9 (some 23) #[true, true, true, true, true, true, true, true, true, true, false, false, false, false, false, false, false] (any_of HT_.out (by kernel_rfl)) ?_
                refine pv 10 (some 24) #[true, true, true, true, true, true, true, true, true, true, true, false, false, false, false, false, false] (any_of HT_.out (by kernel_rfl)) ?_
                refine pv 11 (some 25) #[true, true, true, true, true, true, true, true, true, true, true, true, false, false, false, false, false] (any_of HT_.out (by kernel_rfl)) ?_
                refine pv 12 (some 26) #[true, true, true, true, true, true, true, true, true, true, true, true, true, false, false, false, false] (any_of HT_.out (by kernel_rfl)) ?_
                refine pv 13 (some 27) #[true, true, true, true, true, true, true, true, true, true, true, true, true, true, false, false, false] (any_of HT_.out (by kernel_rfl)) ?_
                refine pv 14 (some 28) #[true, true, true, true, true, true, true, true, true, true, true, true, true, true, true, false, false] (any_of HT_.out (by kernel_rfl)) ?_
                refine pu 15 (some 29) #[true, true, true, true, true, true, true, true, true, true, true, true, true, true, true, true, false] (any_of HT_.out (by kernel_rfl)) ?_
                refine pu 16 (some 7) #[true, true, true, true, true, true, true, true, true, true, true, true, true, true, true, true, true] (any_of HT_.out (by kernel_rfl)) ?_
                refine done_ (done_of HT_.out (by kernel_rfl)) ?_
                try go_wp2
                go_meet
                case rel => exact ⟨_, (true), (by first | rfl | (simp; done) | (simp [*]; done)), H', ⟨by have := HK1.out; have := HK2.out; first | omega | exact Nat.le_refl _⟩, ⟨kr HO_3⟩, ⟨bk BK132⟩, ⟨bl HB⟩⟩
              · rw [if_neg c5] at H
                have c5b0 : ((x3_1.length : Int) == 0) = false := beq_eq_false_iff_ne.mpr c5
                have c5b1 : ((x3_1.length : Int) != 0) = true := bne_iff_ne.mpr c5
                have c5b2 : ¬ (x3_1 = []) := fun h_ => c5 (by rw [h_]; rfl)
                (first | rw [c5b0] | (simp only [i64_w, i32_w]; rw [c5b0]) | skip)
                obtain ⟨ji8, hji8⟩ : ∃ j_ : Int, (wrap64 ((x3_1.length : Int) - 1)) = j_ := ⟨_, rfl⟩
                replace H : (if 0 ≤ (ji8) then (if (ji8) < (x3_1.length : Int) then (if 0 ≤ x6_2 then ((bocageref02_Less.f k2 ((rd_T23 x3_1 (ji8)).f0) ((rd_T23 x3_1 (ji8)).f1) ((rd_T23 l0 x6_2).f0) ((rd_T23 l0 x6_2).f1)).bind fun t138 => (bocageref02_Sort.j2 k2 l0 x3_1 x4_2 x6_2 t138 x133000_2 x133001_2)) else (none)) else (none)) else (none)) = some r := by first | (rw [hji8] at H; exact H) | (simp only [hji8] at H ⊢; exact H)
                have hji8w : (IntKind.i64.wrap ((x3_1.length : Int) - 1)) = ji8 := (i64_w _).trans hji8
                by_cases c9 : 0 ≤ (ji8)
                · rw [if_pos c9] at H
                  have c9b0 : decide (0 ≤ (ji8)) = true := decide_eq_true c9
                  clear c9
                  by_cases c10 : (ji8) < (x3_1.length : Int)
                  · rw [if_pos c10] at H
                    have c10b0 : decide ((ji8) < (x3_1.length : Int)) = true := decide_eq_true c10
                    clear c10
                    by_cases c11 : 0 ≤ x6_2
                    · rw [if_pos c11] at H
                      have c11b0 : decide (0 ≤ x6_2) = true := decide_eq_true c11
                      clear c11
                      replace H := Option.bind_eq_some_iff.mp H
                      obtain ⟨t138, A120, H⟩ := H
                      (try (set_option simprocs false in dsimp only at H))
                      have A12 := Aside0.mk A120
                      clear A120
                      have H' := Aside0.mk H
                      clear H
                      try go_wp2
                      replace HO_3 := Aside0.mk (Kd.R_drew HO_3.out)
                      replace BK132 := Aside0.mk (blk_drew BK132.out)
                      replace HB := Aside0.mk (below_drew1 HB.out)
                      obtain ⟨Ao14, co14, eo14⟩ := Kd.R_slice HO_3.out
                      (first | subst eo14 | (injection eo14 with f1_ f2_ f3_; have f4_ := f1_.symm; have f5_ := f3_.symm; clear f1_ f2_ f3_; subst f4_; subst f5_))
                      have p136 : 0 ≤ ((ji8) : Int) := of_decide_eq_true (by first | (with_reducible assumption) | assumption)
                      have q136 : (ji8) < (x3_1.length : Int) := of_decide_eq_true (by first | (with_reducible assumption) | assumption)
                      obtain ⟨ad136, e136, hx136_0, hx136_1⟩ := at_T23 (Kd.R_reads' HO_3.out).2.2 (ji8) p136 q136
                      cases e136
                      replace p136 := eq_true p136
                      replace q136 := eq_true q136
                      have p137 : 0 ≤ (x6_2 : Int) := of_decide_eq_true (by first | (with_reducible assumption) | assumption)
                      have q137 : x6_2 < (l0.length : Int) := of_decide_eq_true (by first | (with_reducible assumption) | assumption)
                      obtain ⟨ad137, e137, hx137_0, hx137_1⟩ := at_T23 HR0.out x6_2 p137 q137
                      have hw137_1 := hx137_1
                      have hw137_0 := hx137_0
                      cases e137
                      replace hx137_0 := (HB.out.cell (World.block_lt_of_cell? w _ hx137_0)).trans hx137_0
                      replace hx137_1 := (HB.out.cell (World.block_lt_of_cell? w _ hx137_1)).trans hx137_1
                      replace p137 := eq_true p137
                      replace q137 := eq_true q137
                      refine start_ (n := 17) (S := fun w' => w'.cell? (ad136.add (((ji8)).toNat * 2)) = some (.int .i64 ((rd_T23 x3_1 (ji8)).f0)) ∧ w'.cell? ⟨(ad136.add (((ji8)).toNat * 2)).block, (ad136.add (((ji8)).toNat * 2)).off + 1, none⟩ = some (.int .i64 ((rd_T23 x3_1 (ji8)).f1)) ∧ w'.cell? (ad137.add ((x6_2).toNat * 2)) = some (.int .i64 ((rd_T23 l0 x6_2).f0)) ∧ w'.cell? ⟨(ad137.add ((x6_2).toNat * 2)).block, (ad137.add ((x6_2).toNat * 2)).off + 1, none⟩ = some (.int .i64 ((rd_T23 l0 x6_2).f1))) (ds := []) #[false, false, false, false, false, false, false, false, false, false, false, false, false, false, false, false, false] (by kernel_rfl) rfl rfl ⟨hx136_0, hx136_1, ((HB.out.cell (World.block_lt_of_cell? w _ hw137_0)).trans hw137_0), ((HB.out.cell (World.block_lt_of_cell? w _ hw137_1)).trans hw137_1)⟩ (fun hHeld => ?_); refine with_tabW bocageref02_Sort.tab7 bocageref02_Sort.bits7 (fun HT_ HW_ => ?_)
                      generalize wr.drew = w13 at HO_3 BK132 HB hx136_0 hx136_1 hx137_0 hx137_1 hHeld ⊢
                      refine pu 0 (some 14) #[true, false, false, false, false, false, false, false, false, false, false, false, false, false, false, false, false] (any_of HT_.out (by kernel_rfl)) ?_
                      refine pu 1 (some 15) #[true, true, false, false, false, false, false, false, false, false, false, false, false, false, false, false, false] (any_of HT_.out (by kernel_rfl)) ?_
                      refine pu 2 (some 16) #[true, true, true, false, false, false, false, false, false, false, false, false, false, false, false, false, false] (any_of HT_.out (by kernel_rfl)) ?_
                      refine pu 3 (some 17) #[true, true, true, true, false, false, false, false, false, false, false, false, false, false, false, false, false] (any_of HT_.out (by kernel_rfl)) ?_
                      refine pu 4 (some 18) #[true, true, true, true, true, false, false, false, false, false, false, false, false, false, false, false, false] (any_of HT_.out (by kernel_rfl)) ?_
                      refine pu 5 (some 19) #[true, true, true, true, true, true, false, false, false, false, false, false, false, false, false, false, false] (any_of HT_.out (by kernel_rfl)) ?_
                      refine pu 6 (some 20) #[true, true, true, true, true, true, true, false, false, false, false, false, false, false, false, false, false] (any_of HT_.out (by kernel_rfl)) ?_
                      refine pu 7 (some 21) #[true, true, true, true, true, true, true, true, false, false, false, false, false, false, false, false, false] (any_of HT_.out (by kernel_rfl)) ?_
                      refine pu 8 (some 22) #[true, true, true, true, true, true, true, true, true, false, false, false, false, false, false, false, false] (any_of HT_.out (by kernel_rfl)) ?_
                      refine pu 10 (some 24) #[true, true, true, true, true, true, true, true, true, false, true, false, false, false, false, false, false] (any_of HT_.out (by kernel_rfl)) ?_
                      refine pu 11 (some 25) #[true, true, true, true, true, true, true, true, true, false, true, true, false, false, false, false, false] (any_of HT_.out (by kernel_rfl)) ?_
                      refine pu 12 (some 26) #[true, true, true, true, true, true, true, true, true, false, true, true, true, false, false, false, false] (any_of HT_.out (by kernel_rfl)) ?_
                      refine tk4 9 (some 23) #[true, true, true, true, true, true, true, true, true, true, true, true, true, false, false, false, false] (take_ofW HT_.out HW_.out (by kernel_rfl)) hHeld ?_
                      refine tk4 13 (some 27) #[true, true, true, true, true, true, true, true, true, true, true, true, true, true, false, false, false] (take_ofW HT_.out HW_.out (by kernel_rfl)) hHeld ?_
                      refine one_ (i := 14) (N := some 28) #[true, true, true, true, true, true, true, true, true, true, true, true, true, true, true, false, false] rfl rfl (one_of HT_.out (by kernel_rfl)) (by decide) (fun K hK => ?_)
                      refine goes_ Try.func49 (by kernel_rfl) rfl #[.agg #[.int .i64 ((rd_T23 x3_1 (ji8)).f0), .int .i64 ((rd_T23 x3_1 (ji8)).f1)], .agg #[.int .i64 ((rd_T23 l0 x6_2).f0), .int .i64 ((rd_T23 l0 x6_2).f1)]] (by rfl) rfl rfl (by (try simp only [List.map_toArray, List.map_cons, List.map_nil]); first | done | (simp only [hji8]; rfl) | rfl | (simp only [List.length_drop, List.length_take]; rfl)) ?_
                      with_reducible refine (bocageref02_Less.calls k2 ((rd_T23 x3_1 (ji8)).f0) ((rd_T23 x3_1 (ji8)).f1) ((rd_T23 l0 x6_2).f0) ((rd_T23 l0 x6_2).f1) t138 _ A12.out).mono ?_
                      rintro e w15 ⟨rfl, hb⟩
                      have HS0_ := (hb.cell (World.block_lt_of_cell? _ _ (hHeld.1))).trans (hHeld.1)
                      have HS1_ := (hb.cell (World.block_lt_of_cell? _ _ (hHeld.2.1))).trans (hHeld.2.1)
                      refine ⟨_, rfl, ?_⟩
                      replace HO_3 := krb HO_3 hb
                      replace BK132 := bkb BK132 hb
                      replace HB := bst HB hb
                      (try clear hb)
                      (try clear hb2)
                      (try clear hk)
                      (try clear hi)
                      refine hK.out _ _ ⟨HS0_, HS1_, ((HB.out.cell (World.block_lt_of_cell? w _ hw137_0)).trans hw137_0), ((HB.out.cell (World.block_lt_of_cell? w _ hw137_1)).trans hw137_1)⟩ (fun hHeld => ?_)
                      clear hK K
                      refine nrp 28 ?_
                      refine pu 15 (some 29) #[true, true, true, true, true, true, true, true, true, true, true, true, true, true, true, true, false] (any_of HT_.out (by kernel_rfl)) ?_
                      refine pu 16 (some 7) #[true, true, true, true, true, true, true, true, true, true, true, true, true, true, true, true, true] (any_of HT_.out (by kernel_rfl)) ?_
                      refine done_ (done_of HT_.out (by kernel_rfl)) ?_
                      try go_wp2
                      go_meet
                      case rel => exact ⟨_, (t138), (by first | rfl | (simp; done) | (simp [*]; done)), H', ⟨by have := HK1.out; have := HK2.out; first | omega | exact Nat.le_refl _⟩, ⟨kr HO_3⟩, ⟨bk BK132⟩, ⟨bl HB⟩⟩
                    · rw [if_neg c11] at H
                      exact absurd H (by simp)
                  · rw [if_neg c10] at H
                    exact absurd H (by simp)
                · rw [if_neg c9] at H
                  exact absurd H (by simp)
            case rest =>
              clear HC4
              try clear c1
              try clear p1
              try clear q1
              try clear hx1
              try clear p2
              try clear c3
              try clear c3b0
              try clear c4
              try clear c5
              try clear c5b0
              try clear c5b1
              try clear c5b2
              try clear p6
              try clear c7
              try clear c9
              try clear c9b0
              try clear c10
              try clear c10b0
              try clear c11
              try clear c11b0
              try clear p13
              try clear q13
              try clear hx13
              try clear hx136_0
              try clear hx136_1
              try clear hx137_0
              try clear hx137_1
              try clear p136
              try clear p137
              try clear p2
              try clear q136
              try clear q137
              obtain ⟨kq, x7_3, rfl, HA, HJ3, HO_3, BK132, HB⟩ := hcut
              cases kq with
              | zero => exact absurd HA.out (by simp [bocageref02_Sort.j2])
              | succ kj3 =>
                have H := HA.out
                clear HA
                simp only [bocageref02_Sort.j2] at H
                by_cases c16 : x7_3 = true
                · subst c16
                  have H1 : (if x4_2 = true then (if 0 ≤ x6_2 then (if x6_2 < (l0.length : Int) then ((bocageref02_Less.f kj3 ((rd_T23 l0 x6_2).f0) ((rd_T23 l0 x6_2).f1) x133000_2 x133001_2).bind fun t140 => (if t140 = true then ((bocageref02_Canon.f kj3 ((rd_T23 l0 x6_2).f0) ((rd_T23 l0 x6_2).f1)).bind fun bt142 => (bocageref02_Sort.l1 kj3 l0 x3_1 true (wrap64 (x6_2 + 1)) bt142.1 bt142.2)) else (bocageref02_Sort.l1 kj3 l0 x3_1 x4_2 (wrap64 (x6_2 + 1)) x133000_2 x133001_2))) else (none)) else (none)) else (if 0 ≤ x6_2 then (if x6_2 < (l0.length : Int) then ((bocageref02_Canon.f kj3 ((rd_T23 l0 x6_2).f0) ((rd_T23 l0 x6_2).f1)).bind fun bt145 => (bocageref02_Sort.l1 kj3 l0 x3_1 true (wrap64 (x6_2 + 1)) bt145.1 bt145.2)) else (none)) else (none))) = some r := by rw [if_pos rfl] at H; exact H
                  clear H
                  have H := H1
                  clear H1
                  by_cases c17 : x4_2 = true
                  · subst c17
                    have H1 : (if 0 ≤ x6_2 then (if x6_2 < (l0.length : Int) then ((bocageref02_Less.f kj3 ((rd_T23 l0 x6_2).f0) ((rd_T23 l0 x6_2).f1) x133000_2 x133001_2).bind fun t140 => (if t140 = true then ((bocageref02_Canon.f kj3 ((rd_T23 l0 x6_2).f0) ((rd_T23 l0 x6_2).f1)).bind fun bt142 => (bocageref02_Sort.l1 kj3 l0 x3_1 true (wrap64 (x6_2 + 1)) bt142.1 bt142.2)) else (bocageref02_Sort.l1 kj3 l0 x3_1 true (wrap64 (x6_2 + 1)) x133000_2 x133001_2))) else (none)) else (none)) = some r := by rw [if_pos rfl] at H; exact H
                    clear H
                    have H := H1
                    clear H1
                    by_cases c18 : 0 ≤ x6_2
                    · rw [if_pos c18] at H
                      have c18b0 : decide (0 ≤ x6_2) = true := decide_eq_true c18
                      clear c18
                      by_cases c19 : x6_2 < (l0.length : Int)
                      · rw [if_pos c19] at H
                        have c19b0 : decide (x6_2 < (l0.length : Int)) = true := decide_eq_true c19
                        clear c19
                        replace H := Option.bind_eq_some_iff.mp H
                        obtain ⟨t140, A200, H⟩ := H
                        (try (set_option simprocs false in dsimp only at H))
                        have A20 := Aside0.mk A200
                        clear A200
                        by_cases c21 : t140 = true
                        · subst c21
                          have H1 : ((bocageref02_Canon.f kj3 ((rd_T23 l0 x6_2).f0) ((rd_T23 l0 x6_2).f1)).bind fun bt142 => (bocageref02_Sort.l1 kj3 l0 x3_1 true (wrap64 (x6_2 + 1)) bt142.1 bt142.2)) = some r := by rw [if_pos rfl] at H; exact H
                          clear H
                          have H := H1
                          clear H1
                          replace H := Option.bind_eq_some_iff.mp H
                          obtain ⟨⟨t142, t143⟩, A220, H⟩ := H
                          (try (set_option simprocs false in dsimp only at H))
                          have A22 := Aside0.mk A220
                          clear A220
                          have H' := Aside0.mk H
                          clear H
                          try go_wp2
                          replace HO_3 := Aside0.mk (Kd.R_drew HO_3.out)
                          replace BK132 := Aside0.mk (blk_drew BK132.out)
                          replace HB := Aside0.mk (below_drew1 HB.out)
                          have p139 : 0 ≤ (x6_2 : Int) := of_decide_eq_true (by first | (with_reducible assumption) | assumption)
                          have q139 : x6_2 < (l0.length : Int) := of_decide_eq_true (by first | (with_reducible assumption) | assumption)
                          obtain ⟨ad139, e139, hx139_0, hx139_1⟩ := at_T23 HR0.out x6_2 p139 q139
                          have hw139_1 := hx139_1
                          have hw139_0 := hx139_0
                          cases e139
                          replace hx139_0 := (HB.out.cell (World.block_lt_of_cell? w _ hx139_0)).trans hx139_0
                          replace hx139_1 := (HB.out.cell (World.block_lt_of_cell? w _ hx139_1)).trans hx139_1
                          replace p139 := eq_true p139
                          replace q139 := eq_true q139
                          refine start_ (n := 13) (S := fun w' => w'.cell? ⟨gb132, 0, none⟩ = some (.int .i64 x133000_2) ∧ w'.cell? ⟨gb132, 1, none⟩ = some (.int .i64 x133001_2) ∧ w'.cell? (ad139.add ((x6_2).toNat * 2)) = some (.int .i64 ((rd_T23 l0 x6_2).f0)) ∧ w'.cell? ⟨(ad139.add ((x6_2).toNat * 2)).block, (ad139.add ((x6_2).toNat * 2)).off + 1, none⟩ = some (.int .i64 ((rd_T23 l0 x6_2).f1))) (ds := []) #[false, false, false, false, false, false, false, false, false, false, false, false, false] (by kernel_rfl) rfl rfl ⟨(blk_cell BK132.out 0).trans rfl, (blk_cell BK132.out 1).trans rfl, ((HB.out.cell (World.block_lt_of_cell? w _ hw139_0)).trans hw139_0), ((HB.out.cell (World.block_lt_of_cell? w _ hw139_1)).trans hw139_1)⟩ (fun hHeld => ?_); refine with_tabW bocageref02_Sort.tab8 bocageref02_Sort.bits8 (fun HT_ HW_ => ?_)
                          generalize wc.drew = w23 at HO_3 BK132 HB hx139_0 hx139_1 hHeld ⊢
                          refine pu 0 (some 30) #[true, false, false, false, false, false, false, false, false, false, false, false, false] (any_of HT_.out (by kernel_rfl)) ?_
                          refine pu 1 (some 31) #[true, true, false, false, false, false, false, false, false, false, false, false, false] (any_of HT_.out (by kernel_rfl)) ?_
                          refine pu 2 (some 32) #[true, true, true, false, false, false, false, false, false, false, false, false, false] (any_of HT_.out (by kernel_rfl)) ?_
                          refine pu 3 (some 33) #[true, true, true, true, false, false, false, false, false, false, false, false, false] (any_of HT_.out (by kernel_rfl)) ?_
                          refine pu 4 (some 34) #[true, true, true, true, true, false, false, false, false, false, false, false, false] (any_of HT_.out (by kernel_rfl)) ?_
                          refine pu 5 (some 35) #[true, true, true, true, true, true, false, false, false, false, false, false, false] (any_of HT_.out (by kernel_rfl)) ?_
                          refine pu 6 (some 36) #[true, true, true, true, true, true, true, false, false, false, false, false, false] (any_of HT_.out (by kernel_rfl)) ?_
                          refine pu 7 (some 37) #[true, true, true, true, true, true, true, true, false, false, false, false, false] (any_of HT_.out (by kernel_rfl)) ?_
                          refine tk4 8 (some 38) #[true, true, true, true, true, true, true, true, true, false, false, false, false] (take_ofW HT_.out HW_.out (by kernel_rfl)) hHeld ?_
                          refine tk4 9 (some 39) #[true, true, true, true, true, true, true, true, true, true, false, false, false] (take_ofW HT_.out HW_.out (by kernel_rfl)) hHeld ?_
                          refine one_ (i := 10) (N := some 40) #[true, true, true, true, true, true, true, true, true, true, true, false, false] rfl rfl (one_of HT_.out (by kernel_rfl)) (by decide) (fun K hK => ?_)
                          refine goes_ Try.func49 (by kernel_rfl) rfl #[.agg #[.int .i64 ((rd_T23 l0 x6_2).f0), .int .i64 ((rd_T23 l0 x6_2).f1)], .agg #[.int .i64 x133000_2, .int .i64 x133001_2]] (by rfl) rfl rfl (by (try simp only [List.map_toArray, List.map_cons, List.map_nil]); first | done | rfl | (simp only [List.length_drop, List.length_take]; rfl)) ?_
                          with_reducible refine (bocageref02_Less.calls kj3 ((rd_T23 l0 x6_2).f0) ((rd_T23 l0 x6_2).f1) x133000_2 x133001_2 true _ A20.out).mono ?_
                          rintro e w24 ⟨rfl, hb⟩
                          refine ⟨_, rfl, ?_⟩
                          replace HO_3 := krb HO_3 hb
                          replace BK132 := bkb BK132 hb
                          replace HB := bst HB hb
                          (try clear hb)
                          (try clear hb2)
                          (try clear hk)
                          (try clear hi)
                          refine hK.out _ _ ⟨(blk_cell BK132.out 0).trans rfl, (blk_cell BK132.out 1).trans rfl, ((HB.out.cell (World.block_lt_of_cell? w _ hw139_0)).trans hw139_0), ((HB.out.cell (World.block_lt_of_cell? w _ hw139_1)).trans hw139_1)⟩ (fun hHeld => ?_)
                          clear hK K
                          refine nrp 40 ?_
                          refine pu 11 (some 41) #[true, true, true, true, true, true, true, true, true, true, true, true, false] (any_of HT_.out (by kernel_rfl)) ?_
                          refine pu 12 (some 42) #[true, true, true, true, true, true, true, true, true, true, true, true, true] (any_of HT_.out (by kernel_rfl)) ?_
                          refine done_ (done_of HT_.out (by kernel_rfl)) ?_
                          have p141 : 0 ≤ (x6_2 : Int) := of_decide_eq_true (by first | (with_reducible assumption) | assumption)
                          have q141 : x6_2 < (l0.length : Int) := of_decide_eq_true (by first | (with_reducible assumption) | assumption)
                          obtain ⟨ad141, e141, hx141_0, hx141_1⟩ := at_T23 HR0.out x6_2 p141 q141
                          obtain rfl : ad139 = ad141 := (by injection e141)
                          replace hx141_0 := (HB.out.cell (World.block_lt_of_cell? w _ hx141_0)).trans hx141_0
                          replace hx141_1 := (HB.out.cell (World.block_lt_of_cell? w _ hx141_1)).trans hx141_1
                          replace p141 := eq_true p141
                          replace q141 := eq_true q141
                          try go_wp2_with (first | ((with_reducible refine gate_callee (f := 48) rfl ?_); refine gol (some 47) Try.func48 #[.agg #[.int .i64 ((rd_T23 l0 x6_2).f0), .int .i64 ((rd_T23 l0 x6_2).f1)]] ?_; (with_reducible refine (bocageref02_Canon.calls kj3 ((rd_T23 l0 x6_2).f0) ((rd_T23 l0 x6_2).f1) t142 t143 _ A22.out).mono ?_); rintro e w25 ⟨rfl, hb⟩; refine ⟨_, rfl, ?_⟩; replace HO_3 := krb HO_3 hb; replace BK132 := bkb BK132 hb; replace HB := bst HB hb; (try clear hb); (try clear hb2); (try clear hk); (try clear hi); obtain ⟨hcz26_0, hcz26_1⟩ := e2 BK132; obtain ⟨hfz26_0, hfz26_1⟩ := f2 BK132))
                          go_roundg kj3
                          case measure => have := HK1.out; have := HK2.out; have := HJ3.out; omega
                          case rel => exact ⟨(true), (wrap64 (x6_2 + 1)), (t142), (t143), (by first | rfl | (simp; done) | (simp [*]; done)), (by first | rfl | (simp; done) | (simp [*]; done)), H', ⟨by have := HK1.out; have := HK2.out; have := HJ3.out; omega⟩, ⟨by (with_reducible repeat (first | apply Kd.R_alloc | apply Kd.R_drewN | apply Kd.R_drew)); exact Kd.R_mono (Kd.R_far (p := ⟨gb132, 1, none⟩) (Kd.R_far (p := ⟨gb132, 0, none⟩) (Kd.R_mono HO_3.out (fun k_ hk => (⟨hk, hk⟩ : _ ∧ k_ ≠ gb132))) (fun _ hk => hk.2) (.int .i64 t142)) (fun _ hk => hk.2) (.int .i64 t143)) (fun _ hk => hk.1)⟩, ⟨by (with_reducible repeat (first | refine blk_drewN ?_ _ | refine blk_drew ?_ | refine blk_alloc ?_ _)); refine blk_put (cs := #[.int .i64 t142, .int .i64 x133001_2]) ?_ 1 _ rfl; (with_reducible repeat (first | refine blk_drewN ?_ _ | refine blk_drew ?_ | refine blk_alloc ?_ _)); refine blk_put (cs := #[.int .i64 x133000_2, .int .i64 x133001_2]) ?_ 0 _ rfl; (with_reducible repeat (first | refine blk_drewN ?_ _ | refine blk_drew ?_ | refine blk_alloc ?_ _)); exact BK132.out⟩, ⟨bl HB⟩⟩
                        · replace c21 := Bool.eq_false_iff.mpr c21
                          subst c21
                          have H1 : (bocageref02_Sort.l1 kj3 l0 x3_1 true (wrap64 (x6_2 + 1)) x133000_2 x133001_2) = some r := by rw [if_neg (show ¬ (false = true) by decide)] at H; exact H
                          clear H
                          have H := H1
                          clear H1
                          have H' := Aside0.mk H
                          clear H
                          try go_wp2
                          replace HO_3 := Aside0.mk (Kd.R_drew HO_3.out)
                          replace BK132 := Aside0.mk (blk_drew BK132.out)
                          replace HB := Aside0.mk (below_drew1 HB.out)
                          have p139 : 0 ≤ (x6_2 : Int) := of_decide_eq_true (by first | (with_reducible assumption) | assumption)
                          have q139 : x6_2 < (l0.length : Int) := of_decide_eq_true (by first | (with_reducible assumption) | assumption)
                          obtain ⟨ad139, e139, hx139_0, hx139_1⟩ := at_T23 HR0.out x6_2 p139 q139
                          have hw139_1 := hx139_1
                          have hw139_0 := hx139_0
                          cases e139
                          replace hx139_0 := (HB.out.cell (World.block_lt_of_cell? w _ hx139_0)).trans hx139_0
                          replace hx139_1 := (HB.out.cell (World.block_lt_of_cell? w _ hx139_1)).trans hx139_1
                          replace p139 := eq_true p139
                          replace q139 := eq_true q139
                          refine start_ (n := 13) (S := fun w' => w'.cell? ⟨gb132, 0, none⟩ = some (.int .i64 x133000_2) ∧ w'.cell? ⟨gb132, 1, none⟩ = some (.int .i64 x133001_2) ∧ w'.cell? (ad139.add ((x6_2).toNat * 2)) = some (.int .i64 ((rd_T23 l0 x6_2).f0)) ∧ w'.cell? ⟨(ad139.add ((x6_2).toNat * 2)).block, (ad139.add ((x6_2).toNat * 2)).off + 1, none⟩ = some (.int .i64 ((rd_T23 l0 x6_2).f1))) (ds := []) #[false, false, false, false, false, false, false, false, false, false, false, false, false] (by kernel_rfl) rfl rfl ⟨(blk_cell BK132.out 0).trans rfl, (blk_cell BK132.out 1).trans rfl, ((HB.out.cell (World.block_lt_of_cell? w _ hw139_0)).trans hw139_0), ((HB.out.cell (World.block_lt_of_cell? w _ hw139_1)).trans hw139_1)⟩ (fun hHeld => ?_); refine with_tabW bocageref02_Sort.tab8 bocageref02_Sort.bits8 (fun HT_ HW_ => ?_)
                          generalize wc.drew = w27 at HO_3 BK132 HB hx139_0 hx139_1 hHeld ⊢
                          refine pu 0 (some 30) #[true, false, false, false, false, false, false, false, false, false, false, false, false] (any_of HT_.out (by kernel_rfl)) ?_
                          refine pu 1 (some 31) #[true, true, false, false, false, false, false, false, false, false, false, false, false] (any_of HT_.out (by kernel_rfl)) ?_
                          refine pu 2 (some 32) #[true, true, true, false, false, false, false, false, false, false, false, false, false] (any_of HT_.out (by kernel_rfl)) ?_
                          refine pu 3 (some 33) #[true, true, true, true, false, false, false, false, false, false, false, false, false] (any_of HT_.out (by kernel_rfl)) ?_
                          refine pu 4 (some 34) #[true, true, true, true, true, false, false, false, false, false, false, false, false] (any_of HT_.out (by kernel_rfl)) ?_
                          refine pu 5 (some 35) #[true, true, true, true, true, true, false, false, false, false, false, false, false] (any_of HT_.out (by kernel_rfl)) ?_
                          refine pu 6 (some 36) #[true, true, true, true, true, true, true, false, false, false, false, false, false] (any_of HT_.out (by kernel_rfl)) ?_
                          refine pu 7 (some 37) #[true, true, true, true, true, true, true, true, false, false, false, false, false] (any_of HT_.out (by kernel_rfl)) ?_
                          refine tk4 8 (some 38) #[true, true, true, true, true, true, true, true, true, false, false, false, false] (take_ofW HT_.out HW_.out (by kernel_rfl)) hHeld ?_
                          refine tk4 9 (some 39) #[true, true, true, true, true, true, true, true, true, true, false, false, false] (take_ofW HT_.out HW_.out (by kernel_rfl)) hHeld ?_
                          refine one_ (i := 10) (N := some 40) #[true, true, true, true, true, true, true, true, true, true, true, false, false] rfl rfl (one_of HT_.out (by kernel_rfl)) (by decide) (fun K hK => ?_)
                          refine goes_ Try.func49 (by kernel_rfl) rfl #[.agg #[.int .i64 ((rd_T23 l0 x6_2).f0), .int .i64 ((rd_T23 l0 x6_2).f1)], .agg #[.int .i64 x133000_2, .int .i64 x133001_2]] (by rfl) rfl rfl (by (try simp only [List.map_toArray, List.map_cons, List.map_nil]); first | done | rfl | (simp only [List.length_drop, List.length_take]; rfl)) ?_
                          with_reducible refine (bocageref02_Less.calls kj3 ((rd_T23 l0 x6_2).f0) ((rd_T23 l0 x6_2).f1) x133000_2 x133001_2 false _ A20.out).mono ?_
                          rintro e w28 ⟨rfl, hb⟩
                          refine ⟨_, rfl, ?_⟩
                          replace HO_3 := krb HO_3 hb
                          replace BK132 := bkb BK132 hb
                          replace HB := bst HB hb
                          (try clear hb)
                          (try clear hb2)
                          (try clear hk)
                          (try clear hi)
                          refine hK.out _ _ ⟨(blk_cell BK132.out 0).trans rfl, (blk_cell BK132.out 1).trans rfl, ((HB.out.cell (World.block_lt_of_cell? w _ hw139_0)).trans hw139_0), ((HB.out.cell (World.block_lt_of_cell? w _ hw139_1)).trans hw139_1)⟩ (fun hHeld => ?_)
                          clear hK K
                          refine nrp 40 ?_
                          refine pu 11 (some 41) #[true, true, true, true, true, true, true, true, true, true, true, true, false] (any_of HT_.out (by kernel_rfl)) ?_
                          refine pu 12 (some 42) #[true, true, true, true, true, true, true, true, true, true, true, true, true] (any_of HT_.out (by kernel_rfl)) ?_
                          refine done_ (done_of HT_.out (by kernel_rfl)) ?_
                          try go_wp2
                          go_roundg kj3
                          case measure => have := HK1.out; have := HK2.out; have := HJ3.out; omega
                          case rel => exact ⟨(true), (wrap64 (x6_2 + 1)), (x133000_2), (x133001_2), (by first | rfl | (simp; done) | (simp [*]; done)), (by first | rfl | (simp; done) | (simp [*]; done)), H', ⟨by have := HK1.out; have := HK2.out; have := HJ3.out; omega⟩, ⟨kr HO_3⟩, ⟨bk BK132⟩, ⟨bl HB⟩⟩
                      · rw [if_neg c19] at H
                        exact absurd H (by simp)
                    · rw [if_neg c18] at H
                      exact absurd H (by simp)
                  · replace c17 := Bool.eq_false_iff.mpr c17
                    subst c17
                    have H1 : (if 0 ≤ x6_2 then (if x6_2 < (l0.length : Int) then ((bocageref02_Canon.f kj3 ((rd_T23 l0 x6_2).f0) ((rd_T23 l0 x6_2).f1)).bind fun bt145 => (bocageref02_Sort.l1 kj3 l0 x3_1 true (wrap64 (x6_2 + 1)) bt145.1 bt145.2)) else (none)) else (none)) = some r := by rw [if_neg (show ¬ (false = true) by decide)] at H; exact H
                    clear H
                    have H := H1
                    clear H1
                    by_cases c29 : 0 ≤ x6_2
                    · rw [if_pos c29] at H
                      have c29b0 : decide (0 ≤ x6_2) = true := decide_eq_true c29
                      clear c29
                      by_cases c30 : x6_2 < (l0.length : Int)
                      · rw [if_pos c30] at H
                        have c30b0 : decide (x6_2 < (l0.length : Int)) = true := decide_eq_true c30
                        clear c30
                        replace H := Option.bind_eq_some_iff.mp H
                        obtain ⟨⟨t145, t146⟩, A310, H⟩ := H
                        (try (set_option simprocs false in dsimp only at H))
                        have A31 := Aside0.mk A310
                        clear A310
                        have H' := Aside0.mk H
                        clear H
                        try go_wp2
                        replace HO_3 := Aside0.mk (Kd.R_drew HO_3.out)
                        replace BK132 := Aside0.mk (blk_drew BK132.out)
                        replace HB := Aside0.mk (below_drew1 HB.out)
                        refine start_ (n := 13) (S := fun w' => True) (ds := []) #[false, false, false, false, false, false, false, false, false, false, false, false, false] (by kernel_rfl) rfl rfl trivial (fun hHeld => ?_); refine with_tabW bocageref02_Sort.tab8 bocageref02_Sort.bits8 (fun HT_ HW_ => ?_)
                        generalize wc.drew = w32 at HO_3 BK132 HB hHeld ⊢
                        refine pu 0 (some 30) #[true, false, false, false, false, false, false, false, false, false, false, false, false] (any_of HT_.out (by kernel_rfl)) ?_
                        refine pu 1 (some 31) #[true, true, false, false, false, false, false, false, false, false, false, false, false] (any_of HT_.out (by kernel_rfl)) ?_
                        refine pu 2 (some 32) #[true, true, true, false, false, false, false, false, false, false, false, false, false] (any_of HT_.out (by kernel_rfl)) ?_
                        refine pu 3 (some 33) #[true, true, true, true, false, false, false, false, false, false, false, false, false] (any_of HT_.out (by kernel_rfl)) ?_
                        refine pu 4 (some 34) #[true, true, true, true, true, false, false, false, false, false, false, false, false] (any_of HT_.out (by kernel_rfl)) ?_
                        refine pv 5 (some 35) #[true, true, true, true, true, true, false, false, false, false, false, false, false] (any_of HT_.out (by kernel_rfl)) ?_
                        refine pv 6 (some 36) #[true, true, true, true, true, true, true, false, false, false, false, false, false] (any_of HT_.out (by kernel_rfl)) ?_
                        refine pv 7 (some 37) #[true, true, true, true, true, true, true, true, false, false, false, false, false] (any_of HT_.out (by kernel_rfl)) ?_
                        refine pv 8 (some 38) #[true, true, true, true, true, true, true, true, true, false, false, false, false] (any_of HT_.out (by kernel_rfl)) ?_
                        refine pv 9 (some 39) #[true, true, true, true, true, true, true, true, true, true, false, false, false] (any_of HT_.out (by kernel_rfl)) ?_
                        refine pv 10 (some 40) #[true, true, true, true, true, true, true, true, true, true, true, false, false] (any_of HT_.out (by kernel_rfl)) ?_
                        refine pu 11 (some 41) #[true, true, true, true, true, true, true, true, true, true, true, true, false] (any_of HT_.out (by kernel_rfl)) ?_
                        refine pu 12 (some 42) #[true, true, true, true, true, true, true, true, true, true, true, true, true] (any_of HT_.out (by kernel_rfl)) ?_
                        refine done_ (done_of HT_.out (by kernel_rfl)) ?_
                        have p144 : 0 ≤ (x6_2 : Int) := of_decide_eq_true (by first | (with_reducible assumption) | assumption)
                        have q144 : x6_2 < (l0.length : Int) := of_decide_eq_true (by first | (with_reducible assumption) | assumption)
                        obtain ⟨ad144, e144, hx144_0, hx144_1⟩ := at_T23 HR0.out x6_2 p144 q144
                        cases e144
                        replace hx144_0 := (HB.out.cell (World.block_lt_of_cell? w _ hx144_0)).trans hx144_0
                        replace hx144_1 := (HB.out.cell (World.block_lt_of_cell? w _ hx144_1)).trans hx144_1
                        replace p144 := eq_true p144
                        replace q144 := eq_true q144
                        try go_wp2_with (first | ((with_reducible refine gate_callee (f := 48) rfl ?_); refine gol (some 47) Try.func48 #[.agg #[.int .i64 ((rd_T23 l0 x6_2).f0), .int .i64 ((rd_T23 l0 x6_2).f1)]] ?_; (with_reducible refine (bocageref02_Canon.calls kj3 ((rd_T23 l0 x6_2).f0) ((rd_T23 l0 x6_2).f1) t145 t146 _ A31.out).mono ?_); rintro e w33 ⟨rfl, hb⟩; refine ⟨_, rfl, ?_⟩; replace HO_3 := krb HO_3 hb; replace BK132 := bkb BK132 hb; replace HB := bst HB hb; (try clear hb); (try clear hb2); (try clear hk); (try clear hi); obtain ⟨hcz34_0, hcz34_1⟩ := e2 BK132; obtain ⟨hfz34_0, hfz34_1⟩ := f2 BK132))
                        go_roundg kj3
                        case measure => have := HK1.out; have := HK2.out; have := HJ3.out; omega
                        case rel => exact ⟨(true), (wrap64 (x6_2 + 1)), (t145), (t146), (by first | rfl | (simp; done) | (simp [*]; done)), (by first | rfl | (simp; done) | (simp [*]; done)), H', ⟨by have := HK1.out; have := HK2.out; have := HJ3.out; omega⟩, ⟨by (with_reducible repeat (first | apply Kd.R_alloc | apply Kd.R_drewN | apply Kd.R_drew)); exact Kd.R_mono (Kd.R_far (p := ⟨gb132, 1, none⟩) (Kd.R_far (p := ⟨gb132, 0, none⟩) (Kd.R_mono HO_3.out (fun k_ hk => (⟨hk, hk⟩ : _ ∧ k_ ≠ gb132))) (fun _ hk => hk.2) (.int .i64 t145)) (fun _ hk => hk.2) (.int .i64 t146)) (fun _ hk => hk.1)⟩, ⟨by (with_reducible repeat (first | refine blk_drewN ?_ _ | refine blk_drew ?_ | refine blk_alloc ?_ _)); refine blk_put (cs := #[.int .i64 t145, .int .i64 x133001_2]) ?_ 1 _ rfl; (with_reducible repeat (first | refine blk_drewN ?_ _ | refine blk_drew ?_ | refine blk_alloc ?_ _)); refine blk_put (cs := #[.int .i64 x133000_2, .int .i64 x133001_2]) ?_ 0 _ rfl; (with_reducible repeat (first | refine blk_drewN ?_ _ | refine blk_drew ?_ | refine blk_alloc ?_ _)); exact BK132.out⟩, ⟨bl HB⟩⟩
                      · rw [if_neg c30] at H
                        exact absurd H (by simp)
                    · rw [if_neg c29] at H
                      exact absurd H (by simp)
                · replace c16 := Bool.eq_false_iff.mpr c16
                  subst c16
                  have H1 : (bocageref02_Sort.l1 kj3 l0 x3_1 x4_2 (wrap64 (x6_2 + 1)) x133000_2 x133001_2) = some r := by rw [if_neg (show ¬ (false = true) by decide)] at H; exact H
                  clear H
                  have H := H1
                  clear H1
                  have H' := Aside0.mk H
                  clear H
                  try go_wp2
                  replace HO_3 := Aside0.mk (Kd.R_drew HO_3.out)
                  replace BK132 := Aside0.mk (blk_drew BK132.out)
                  replace HB := Aside0.mk (below_drew1 HB.out)
                  refine start_ (n := 13) (S := fun w' => True) (ds := []) #[false, false, false, false, false, false, false, false, false, false, false, false, false] (by kernel_rfl) rfl rfl trivial (fun hHeld => ?_); refine with_tabW bocageref02_Sort.tab8 bocageref02_Sort.bits8 (fun HT_ HW_ => ?_)
                  generalize wc.drew = w35 at HO_3 BK132 HB hHeld ⊢
                  refine pu 0 (some 30) #[true, false, false, false, false, false, false, false, false, false, false, false, false] (any_of HT_.out (by kernel_rfl)) ?_
                  refine pu 1 (some 31) #[true, true, false, false, false, false, false, false, false, false, false, false, false] (any_of HT_.out (by kernel_rfl)) ?_
                  refine pv 2 (some 32) #[true, true, true, false, false, false, false, false, false, false, false, false, false] (any_of HT_.out (by kernel_rfl)) ?_
                  refine pv 3 (some 33) #[true, true, true, true, false, false, false, false, false, false, false, false, false] (any_of HT_.out (by kernel_rfl)) ?_
                  refine pv 4 (some 34) #[true, true, true, true, true, false, false, false, false, false, false, false, false] (any_of HT_.out (by kernel_rfl)) ?_
                  refine pv 5 (some 35) #[true, true, true, true, true, true, false, false, false, false, false, false, false] (any_of HT_.out (by kernel_rfl)) ?_
                  refine pv 6 (some 36) #[true, true, true, true, true, true, true, false, false, false, false, false, false] (any_of HT_.out (by kernel_rfl)) ?_
                  refine pv 7 (some 37) #[true, true, true, true, true, true, true, true, false, false, false, false, false] (any_of HT_.out (by kernel_rfl)) ?_
                  refine pv 8 (some 38) #[true, true, true, true, true, true, true, true, true, false, false, false, false] (any_of HT_.out (by kernel_rfl)) ?_
                  refine pv 9 (some 39) #[true, true, true, true, true, true, true, true, true, true, false, false, false] (any_of HT_.out (by kernel_rfl)) ?_
                  refine pv 10 (some 40) #[true, true, true, true, true, true, true, true, true, true, true, false, false] (any_of HT_.out (by kernel_rfl)) ?_
                  refine pv 11 (some 41) #[true, true, true, true, true, true, true, true, true, true, true, true, false] (any_of HT_.out (by kernel_rfl)) ?_
                  refine pu 12 (some 42) #[true, true, true, true, true, true, true, true, true, true, true, true, true] (any_of HT_.out (by kernel_rfl)) ?_
                  refine done_ (done_of HT_.out (by kernel_rfl)) ?_
                  try go_wp2
                  go_roundg kj3
                  case measure => have := HK1.out; have := HK2.out; have := HJ3.out; omega
                  case rel => exact ⟨(x4_2), (wrap64 (x6_2 + 1)), (x133000_2), (x133001_2), (by first | rfl | (simp; done) | (simp [*]; done)), (by first | rfl | (simp; done) | (simp [*]; done)), H', ⟨by have := HK1.out; have := HK2.out; have := HJ3.out; omega⟩, ⟨kr HO_3⟩, ⟨bk BK132⟩, ⟨bl HB⟩⟩
          · rw [if_neg c3] at H
            have c3b0 : decide (x6_2 < (l0.length : Int)) = false := decide_eq_false c3
            clear c3
            by_cases c36 : x4_2 = true
            · subst c36
              have H1 : (if x3_1.length < 8796093022208 then (bocageref02_Sort.l0 k2 l0 (x3_1 ++ [(⟨x133000_2, x133001_2⟩ : S23)])) else (none)) = some r := by rw [if_pos rfl] at H; exact H
              clear H
              have H := H1
              clear H1
              by_cases c37 : x3_1.length < 8796093022208
              · rw [if_pos c37] at H
                have LMc37 := Aside0.mk c37
                clear c37
                obtain ⟨y133, hy133⟩ : ∃ y_ : List (S23), y_ = (x3_1 ++ [(⟨x133000_2, x133001_2⟩ : S23)]) := ⟨_, rfl⟩
                replace H : (bocageref02_Sort.l0 k2 l0 y133) = some r := by first | (rw [hy133]; with_reducible exact H) | (have H2_ := (Option.bind_some _ _).symm.trans H; rw [hy133]; with_reducible exact H2_) | (have H2_ := (Option.bind_some _ _).symm.trans H; with_reducible exact H2_) | with_reducible exact H | (rw [hy133]; exact H) | exact H
                have Ny133 := Aside0.mk hy133
                clear hy133
                have H' := Aside0.mk H
                clear H
                have hcz38_0 : wr.cell? ⟨gb132, 0, none⟩ = some (.int .i64 x133000_2) := (blk_cell BK132.out 0).trans rfl
                have hcz38_1 : wr.cell? ⟨gb132, 1, none⟩ = some (.int .i64 x133001_2) := (blk_cell BK132.out 1).trans rfl
                have hfz38_0 := blk_frozen BK132.out 0
                have hfz38_1 := blk_frozen BK132.out 1
                go_wp2_with (first | ((with_reducible refine gate_builtin (b := .append) (xs := #[.tmp 51, .tmp 53]) rfl ?_); (try (refine gate_guard (by rfl) ?_; dsimp only)); at_builtin; refine Kd.R_append k23 (w0 := w) w.heap.size rfl (.tmp 51) (.tmp 53) 61 23 (.agg #[(.int .i64 0), (.int .i64 0)]) 16 rfl Try.underlying61 info23 rfl (by decide) (by omega) u3 x3_1 (⟨x133000_2, x133001_2⟩ : S23) [.int .i64 x133000_2, .int .i64 x133001_2] (fun k_ => k_ ≠ gb132) (fun _ => False) rfl rfl ?aP (fun _ hk => hk.elim) ?aF ?aO ?aB ?aS ?aL ?_; (case aP => exact k23_mkM _ _ _ (⟨x133000_2, x133001_2⟩ : S23)); (case aB => exact (bl HB)); (case aF => exact (fun k_ hk => Kd.freshB (bk BK132) k_ hk)); (case aO => exact (kr HO_3)); (case aS => exact (below_size (bl HB))); (case aL => have := LMc37.out; omega); intro v134 w39 ho hb hg hat; rw [← Ny133.out] at ho; replace BK132 := Aside0.mk (blk_grown (bk BK132) hg (Kd.R_away HO_3.out (fun _ hk => hk))); replace HB := Aside0.mk (hb); have HO135 := Aside0.mk (ho); clear HO_3; clear ho hb hg hat))
                go_roundg k2
                case measure => have := HK1.out; have := HK2.out; omega
                case rel => exact ⟨(y133), H', ⟨by have := HK1.out; have := HK2.out; omega⟩, ⟨by (with_reducible repeat (first | apply Kd.R_alloc | apply Kd.R_drewN | apply Kd.R_drew)); exact Kd.R_mono HO135.out (fun _ hk => trivial)⟩, ⟨bl HB⟩⟩
              · rw [if_neg c37] at H
                exact absurd H (by simp)
            · replace c36 := Bool.eq_false_iff.mpr c36
              subst c36
              have H1 : (some x3_1) = some r := by rw [if_neg (show ¬ (false = true) by decide)] at H; exact H
              clear H
              have H := H1
              clear H1
              obtain rfl := Option.some.inj H
              go_wp2
              go_ret
              exact ⟨_, by first | rfl | (simp [errW_none, errW_some] <;> rfl) | (simp [*, errW_none, errW_some] <;> rfl), by (with_reducible repeat (first | apply Kd.R_alloc | apply Kd.R_drewN | apply Kd.R_drew)); exact Kd.R_mono HO_3.out (fun _ hk => trivial), by repeat (first | (with_reducible first | exact HB.out | apply below_alloc | apply pw_below_drewN | apply below_drew1 | refine below_set ?_ GE132.out) | exact HB.out)⟩
/-! ### bocageref03_Cuts: function 50 -/
def bocageref03_Cuts.l0 : Nat → List (S25) → List (S23) → Int → Option ((List (S23)))
  | 0, _, _, _ => none
  | k + 1, x0, x3, x4 => if x4 < (x0.length : Int) then (if 0 ≤ x4 then ((bocageref03_Right.f k ((rd_T25 x0 x4).f0.f0) ((rd_T25 x0 x4).f0.f1) ((rd_T25 x0 x4).f1.f0) ((rd_T25 x0 x4).f1.f1)).bind fun t148 => (if t148 = true then ((some (([(⟨(rd_T25 x0 x4).f0.f0, (rd_T25 x0 x4).f0.f1⟩ : S23), (⟨(rd_T25 x0 x4).f1.f0, (rd_T25 x0 x4).f1.f1⟩ : S23)] : List (S23)) : List (S23))).bind fun y151 => (if x3.length + y151.length < 8796093022208 then (bocageref03_Cuts.l0 k x0 (x3 ++ y151) (wrap64 (x4 + 1))) else (none))) else (bocageref03_Cuts.l0 k x0 x3 (wrap64 (x4 + 1))))) else (none)) else ((bocageref02_Sort.f k x3).bind fun t157 => (some t157))
def bocageref03_Cuts.f (k : Nat) (l0 : List (S25)) : Option ((List (S23))) := bocageref03_Cuts.l0 k l0 ([] : List (S23)) 0
theorem bocageref03_Cuts.mono_l : ∀ k, (∀ y0 y1 y2, LeO (bocageref03_Cuts.l0 k y0 y1 y2) (bocageref03_Cuts.l0 (k + 1) y0 y1 y2))
  | 0 => fun _ _ _ r h => by simp [bocageref03_Cuts.l0] at h
  | k + 1 => by
    have ih0 := bocageref03_Cuts.mono_l k
    · intro y0 y1 y2
      unfold bocageref03_Cuts.l0
      repeat' first
      | (with_reducible exact ih0 _ _ _)
      | (with_reducible exact bocageref02_Sort.mono _ _)
      | (with_reducible exact bocageref03_Right.mono _ _ _ _ _)
      | (with_reducible exact LeO.refl _)
      | (with_reducible exact LeO.none _)
      | (with_reducible refine LeO.ite ?_ ?_)
      | (with_reducible refine LeO.bind ?_ (fun _ => ?_))
      | exact ih0 _ _ _
      | exact bocageref02_Sort.mono _ _
      | exact bocageref03_Right.mono _ _ _ _ _
      | exact LeO.none _
      | refine LeO.ite ?_ ?_
      | refine LeO.bind ?_ (fun _ => ?_)
theorem bocageref03_Cuts.mono : ∀ a0 k, LeO (bocageref03_Cuts.f k a0) (bocageref03_Cuts.f (k + 1) a0) := by
  intro a0 k
  have ih0 := bocageref03_Cuts.mono_l k
  unfold bocageref03_Cuts.f
  repeat' first
      | (with_reducible exact ih0 _ _ _)
      | (with_reducible exact bocageref02_Sort.mono _ _)
      | (with_reducible exact bocageref03_Right.mono _ _ _ _ _)
      | (with_reducible exact LeO.refl _)
      | (with_reducible exact LeO.none _)
      | (with_reducible refine LeO.ite ?_ ?_)
      | (with_reducible refine LeO.bind ?_ (fun _ => ?_))
      | exact ih0 _ _ _
      | exact bocageref02_Sort.mono _ _
      | exact bocageref03_Right.mono _ _ _ _ _
      | exact LeO.none _
      | refine LeO.ite ?_ ?_
      | refine LeO.bind ?_ (fun _ => ?_)
def bocageref03_Cuts.T6 : Bool × List (List Nat × List Nat) := (true, [([], []), ([], []), ([], []), ([1, 2], [1, 2]), ([3], [3]), ([4], [4]), ([], []), ([], []), ([6, 7], [6, 7]), ([8], [8]), ([9], [9]), ([5, 10], [5, 10]), ([0, 11], [0, 11]), ([12, 12, 0, 1, 2, 3, 4, 5, 6, 7, 8, 9, 10, 11, 12], [0, 12])])
def bocageref03_Cuts.B6 : List Nat := [0, 0, 0, 6, 14, 30, 0, 0, 192, 448, 960, 2046, 4095, 8191]
theorem bocageref03_Cuts.tab6 : rtab .any (opsOf Try.f50 6) = bocageref03_Cuts.T6 := by kernel_rfl
theorem bocageref03_Cuts.bits6 : waitsOk bocageref03_Cuts.T6.2 bocageref03_Cuts.B6 = true := by kernel_rfl
set_option maxHeartbeats 8000000 in
set_option maxRecDepth 100000 in
theorem bocageref03_Cuts.calls (k : Nat) (A0 : Option Addr) (c0 : Nat) (l0 : List (S25)) (r : List (S23)) (w : World) (hr0 : Kd.C k25 w A0 l0.length l0) (hc0 : l0.length ≤ c0) (h : bocageref03_Cuts.f k l0 = some r) :
    Calls Try.prog 50 #[.slice A0 l0.length c0] w fun e w' => ∃ v0_ : Value, e = .returned (v0_) ∧ Kd.R k23 23 w' w.heap.size (fun _ => True) v0_ r ∧ Below w.heap.size w w' := by
  have hu25 := Try.underlying25
  have hu23 := Try.underlying23
  have HR0 := Aside0.mk hr0
  have HC0 := Aside0.mk hc0
  clear hr0 hc0
  have HB := Aside0.mk (Below.refl w.heap.size w)
  have H : (bocageref03_Cuts.l0 k l0 ([] : List (S23)) 0) = some r := h
  clear h
  have H' := Aside0.mk H
  clear H
  go_enter Try.func50, Try.ntmps50
  go_wp2
  go_loopg [3, 4] k (fun kq v3 v4 w' => ∃ (x3_1 : List (S23)) (x4_1 : Int), v4 = .int .i64 x4_1 ∧ Aside0 (bocageref03_Cuts.l0 kq l0 x3_1 x4_1 = some r) ∧ Aside0 (kq ≤ k) ∧ Aside0 (Kd.R k23 23 w' w.heap.size (fun _ => True) v3 x3_1) ∧ Aside0 (Below w.heap.size w w'))
  case atStart => exact ⟨(([] : List (S23))), (0), (by first | rfl | (simp; done) | (simp [*]; done)), H', ⟨Nat.le_refl _⟩, ⟨by first | exact Kd.R_nil _ _ _ _ _ | exact Kd.N_nil _ _ _ _ _ | exact Kd.V_nil _ _ _ _ _ | exact Kd.Q_nil _ _ _ _ _ | exact Kd.S_nil _ _ _ _ _⟩, ⟨bl HB⟩⟩
  case round =>
    clear H'
    obtain ⟨x3_1, x4_1, rfl, HA, HK1, HO_3, HB⟩ := hrel
    cases gk with
    | zero => exact absurd HA.out (by simp [bocageref03_Cuts.l0])
    | succ k1 =>
      have H := HA.out
      clear HA
      simp only [bocageref03_Cuts.l0] at H
      by_cases c2 : x4_1 < (l0.length : Int)
      · rw [if_pos c2] at H
        have c2b0 : decide (x4_1 < (l0.length : Int)) = true := decide_eq_true c2
        clear c2
        by_cases c3 : 0 ≤ x4_1
        · rw [if_pos c3] at H
          have c3b0 : decide (0 ≤ x4_1) = true := decide_eq_true c3
          clear c3
          replace H := Option.bind_eq_some_iff.mp H
          obtain ⟨t148, A40, H⟩ := H
          (try (set_option simprocs false in dsimp only at H))
          have A4 := Aside0.mk A40
          clear A40
          by_cases c5 : t148 = true
          · subst c5
            have H1 : ((some (([(⟨(rd_T25 l0 x4_1).f0.f0, (rd_T25 l0 x4_1).f0.f1⟩ : S23), (⟨(rd_T25 l0 x4_1).f1.f0, (rd_T25 l0 x4_1).f1.f1⟩ : S23)] : List (S23)) : List (S23))).bind fun y151 => (if x3_1.length + y151.length < 8796093022208 then (bocageref03_Cuts.l0 k1 l0 (x3_1 ++ y151) (wrap64 (x4_1 + 1))) else (none))) = some r := by rw [if_pos rfl] at H; exact H
            clear H
            have H := H1
            clear H1
            obtain ⟨y151, hy151⟩ : ∃ y_ : List (S23), y_ = (([(⟨(rd_T25 l0 x4_1).f0.f0, (rd_T25 l0 x4_1).f0.f1⟩ : S23), (⟨(rd_T25 l0 x4_1).f1.f0, (rd_T25 l0 x4_1).f1.f1⟩ : S23)] : List (S23))) := ⟨_, rfl⟩
            replace H : (if x3_1.length + y151.length < 8796093022208 then (bocageref03_Cuts.l0 k1 l0 (x3_1 ++ y151) (wrap64 (x4_1 + 1))) else (none)) = some r := by first | (rw [hy151]; with_reducible exact H) | (have H2_ := (Option.bind_some _ _).symm.trans H; rw [hy151]; with_reducible exact H2_) | (have H2_ := (Option.bind_some _ _).symm.trans H; with_reducible exact H2_) | with_reducible exact H | (rw [hy151]; exact H) | exact H
            have Ny151 := Aside0.mk hy151
            clear hy151
            by_cases c6 : x3_1.length + y151.length < 8796093022208
            · rw [if_pos c6] at H
              have LMc6 := Aside0.mk c6
              clear c6
              obtain ⟨y154, hy154⟩ : ∃ y_ : List (S23), y_ = (x3_1 ++ y151) := ⟨_, rfl⟩
              replace H : (bocageref03_Cuts.l0 k1 l0 y154 (wrap64 (x4_1 + 1))) = some r := by first | (rw [hy154]; with_reducible exact H) | (have H2_ := (Option.bind_some _ _).symm.trans H; rw [hy154]; with_reducible exact H2_) | (have H2_ := (Option.bind_some _ _).symm.trans H; with_reducible exact H2_) | with_reducible exact H | (rw [hy154]; exact H) | exact H
              have Ny154 := Aside0.mk hy154
              clear hy154
              have H' := Aside0.mk H
              clear H
              have p147 : 0 ≤ (x4_1 : Int) := of_decide_eq_true (by first | (with_reducible assumption) | assumption)
              have q147 : x4_1 < (l0.length : Int) := of_decide_eq_true (by first | (with_reducible assumption) | assumption)
              obtain ⟨ad147, e147, hx147_0, hx147_1, hx147_2, hx147_3⟩ := at_T25 HR0.out x4_1 p147 q147
              cases e147
              replace hx147_0 := (HB.out.cell (World.block_lt_of_cell? w _ hx147_0)).trans hx147_0
              replace hx147_1 := (HB.out.cell (World.block_lt_of_cell? w _ hx147_1)).trans hx147_1
              replace hx147_2 := (HB.out.cell (World.block_lt_of_cell? w _ hx147_2)).trans hx147_2
              replace hx147_3 := (HB.out.cell (World.block_lt_of_cell? w _ hx147_3)).trans hx147_3
              replace p147 := eq_true p147
              replace q147 := eq_true q147
              try go_wp2_with (first | ((with_reducible refine gate_callee (f := 12) rfl ?_); refine gol (some 15) Try.func12 #[.agg #[.int .i64 ((rd_T25 l0 x4_1).f0.f0), .int .i64 ((rd_T25 l0 x4_1).f0.f1), .int .i64 ((rd_T25 l0 x4_1).f1.f0), .int .i64 ((rd_T25 l0 x4_1).f1.f1)]] ?_; (with_reducible refine (bocageref03_Right.calls k1 ((rd_T25 l0 x4_1).f0.f0) ((rd_T25 l0 x4_1).f0.f1) ((rd_T25 l0 x4_1).f1.f0) ((rd_T25 l0 x4_1).f1.f1) true _ A4.out).mono ?_); rintro e w7 ⟨rfl, hb⟩; refine ⟨_, rfl, ?_⟩; replace HO_3 := krb HO_3 hb; replace HB := bst HB hb; (try clear hb); (try clear hb2); (try clear hk); (try clear hi)))
              replace HO_3 := Aside0.mk (Kd.R_drew HO_3.out)
              replace HB := Aside0.mk (below_drew1 HB.out)
              have p149 : 0 ≤ (x4_1 : Int) := of_decide_eq_true (by first | (with_reducible assumption) | assumption)
              have q149 : x4_1 < (l0.length : Int) := of_decide_eq_true (by first | (with_reducible assumption) | assumption)
              obtain ⟨ad149, e149, hx149_0, hx149_1, hx149_2, hx149_3⟩ := at_T25 HR0.out x4_1 p149 q149
              have hw149_3 := hx149_3
              have hw149_2 := hx149_2
              have hw149_1 := hx149_1
              have hw149_0 := hx149_0
              obtain rfl : ad147 = ad149 := (by injection e149)
              replace hx149_0 := (HB.out.cell (World.block_lt_of_cell? w _ hx149_0)).trans hx149_0
              replace hx149_1 := (HB.out.cell (World.block_lt_of_cell? w _ hx149_1)).trans hx149_1
              replace hx149_2 := (HB.out.cell (World.block_lt_of_cell? w _ hx149_2)).trans hx149_2
              replace hx149_3 := (HB.out.cell (World.block_lt_of_cell? w _ hx149_3)).trans hx149_3
              replace p149 := eq_true p149
              replace q149 := eq_true q149
              have p150 : 0 ≤ (x4_1 : Int) := of_decide_eq_true (by first | (with_reducible assumption) | assumption)
              have q150 : x4_1 < (l0.length : Int) := of_decide_eq_true (by first | (with_reducible assumption) | assumption)
              obtain ⟨ad150, e150, hx150_0, hx150_1, hx150_2, hx150_3⟩ := at_T25 HR0.out x4_1 p150 q150
              have hw150_3 := hx150_3
              have hw150_2 := hx150_2
              have hw150_1 := hx150_1
              have hw150_0 := hx150_0
              obtain rfl : ad147 = ad150 := (by injection e150)
              replace hx150_0 := (HB.out.cell (World.block_lt_of_cell? w _ hx150_0)).trans hx150_0
              replace hx150_1 := (HB.out.cell (World.block_lt_of_cell? w _ hx150_1)).trans hx150_1
              replace hx150_2 := (HB.out.cell (World.block_lt_of_cell? w _ hx150_2)).trans hx150_2
              replace hx150_3 := (HB.out.cell (World.block_lt_of_cell? w _ hx150_3)).trans hx150_3
              replace p150 := eq_true p150
              replace q150 := eq_true q150
              refine start_ (n := 14) (S := fun w' => w'.cell? (ad147.add ((x4_1).toNat * 4)) = some (.int .i64 ((rd_T25 l0 x4_1).f0.f0)) ∧ w'.cell? ⟨(ad147.add ((x4_1).toNat * 4)).block, (ad147.add ((x4_1).toNat * 4)).off + 1, none⟩ = some (.int .i64 ((rd_T25 l0 x4_1).f0.f1)) ∧ w'.cell? ⟨(ad147.add ((x4_1).toNat * 4)).block, (ad147.add ((x4_1).toNat * 4)).off + 2, none⟩ = some (.int .i64 ((rd_T25 l0 x4_1).f1.f0)) ∧ w'.cell? ⟨(ad147.add ((x4_1).toNat * 4)).block, (ad147.add ((x4_1).toNat * 4)).off + 3, none⟩ = some (.int .i64 ((rd_T25 l0 x4_1).f1.f1)) ∧ w'.cell? (ad147.add ((x4_1).toNat * 4)) = some (.int .i64 ((rd_T25 l0 x4_1).f0.f0)) ∧ w'.cell? ⟨(ad147.add ((x4_1).toNat * 4)).block, (ad147.add ((x4_1).toNat * 4)).off + 1, none⟩ = some (.int .i64 ((rd_T25 l0 x4_1).f0.f1)) ∧ w'.cell? ⟨(ad147.add ((x4_1).toNat * 4)).block, (ad147.add ((x4_1).toNat * 4)).off + 2, none⟩ = some (.int .i64 ((rd_T25 l0 x4_1).f1.f0)) ∧ w'.cell? ⟨(ad147.add ((x4_1).toNat * 4)).block, (ad147.add ((x4_1).toNat * 4)).off + 3, none⟩ = some (.int .i64 ((rd_T25 l0 x4_1).f1.f1))) (ds := []) #[false, false, false, false, false, false, false, false, false, false, false, false, false, false] (by kernel_rfl) rfl rfl ⟨((HB.out.cell (World.block_lt_of_cell? w _ hw149_0)).trans hw149_0), ((HB.out.cell (World.block_lt_of_cell? w _ hw149_1)).trans hw149_1), ((HB.out.cell (World.block_lt_of_cell? w _ hw149_2)).trans hw149_2), ((HB.out.cell (World.block_lt_of_cell? w _ hw149_3)).trans hw149_3), ((HB.out.cell (World.block_lt_of_cell? w _ hw150_0)).trans hw150_0), ((HB.out.cell (World.block_lt_of_cell? w _ hw150_1)).trans hw150_1), ((HB.out.cell (World.block_lt_of_cell? w _ hw150_2)).trans hw150_2), ((HB.out.cell (World.block_lt_of_cell? w _ hw150_3)).trans hw150_3)⟩ (fun hHeld => ?_); refine with_tabW bocageref03_Cuts.tab6 bocageref03_Cuts.bits6 (fun HT_ HW_ => ?_)
              generalize w7.drew = w8 at HO_3 HB hx149_0 hx149_1 hx149_2 hx149_3 hx150_0 hx150_1 hx150_2 hx150_3 hHeld ⊢
              refine pu 0 (some 16) #[true, false, false, false, false, false, false, false, false, false, false, false, false, false] (any_of HT_.out (by kernel_rfl)) ?_
              refine pu 1 (some 17) #[true, true, false, false, false, false, false, false, false, false, false, false, false, false] (any_of HT_.out (by kernel_rfl)) ?_
              refine pu 2 (some 18) #[true, true, true, false, false, false, false, false, false, false, false, false, false, false] (any_of HT_.out (by kernel_rfl)) ?_
              refine pu 3 (some 19) #[true, true, true, true, false, false, false, false, false, false, false, false, false, false] (any_of HT_.out (by kernel_rfl)) ?_
              refine pu 4 (some 20) #[true, true, true, true, true, false, false, false, false, false, false, false, false, false] (any_of HT_.out (by kernel_rfl)) ?_
              refine pu 6 (some 22) #[true, true, true, true, true, false, true, false, false, false, false, false, false, false] (any_of HT_.out (by kernel_rfl)) ?_
              refine pu 7 (some 23) #[true, true, true, true, true, false, true, true, false, false, false, false, false, false] (any_of HT_.out (by kernel_rfl)) ?_
              refine pu 8 (some 24) #[true, true, true, true, true, false, true, true, true, false, false, false, false, false] (any_of HT_.out (by kernel_rfl)) ?_
              refine pu 9 (some 25) #[true, true, true, true, true, false, true, true, true, true, false, false, false, false] (any_of HT_.out (by kernel_rfl)) ?_
              refine tk8 5 (some 21) #[true, true, true, true, true, true, true, true, true, true, false, false, false, false] (take_ofW HT_.out HW_.out (by kernel_rfl)) hHeld ?_
              refine tk8 10 (some 26) #[true, true, true, true, true, true, true, true, true, true, true, false, false, false] (take_ofW HT_.out HW_.out (by kernel_rfl)) hHeld ?_
              refine one_ (i := 11) (N := some 27) #[true, true, true, true, true, true, true, true, true, true, true, true, false, false] rfl rfl (one_of HT_.out (by kernel_rfl)) (by decide) (fun K hK => ?_)
              refine Kd.R_lit_step k23 _ 23 ?hg (N := 27) ?hd (xs := ([(⟨(rd_T25 l0 x4_1).f0.f0, (rd_T25 l0 x4_1).f0.f1⟩ : S23), (⟨(rd_T25 l0 x4_1).f1.f0, (rd_T25 l0 x4_1).f1.f1⟩ : S23)] : List (S23))) (inner := [.int .i64 ((rd_T25 l0 x4_1).f0.f0), .int .i64 ((rd_T25 l0 x4_1).f0.f1), .int .i64 ((rd_T25 l0 x4_1).f1.f0), .int .i64 ((rd_T25 l0 x4_1).f1.f1)]) (ok := fun _ => True) (okp := fun _ => True) ?hr ?hp (fun _ hk => hk) trivial (Below.refl _ _) (Nat.le_refl _) (by simp) ?_; (case hd => rfl); (case hg => rfl); (case hr => first | (go_simp; done) | (go_simp; rfl)); (case hp => exact (Reps.c2 (show Kd.M k23 _ _ _ (⟨(rd_T25 l0 x4_1).f0.f0, (rd_T25 l0 x4_1).f0.f1⟩ : S23) [.int .i64 ((rd_T25 l0 x4_1).f0.f0), .int .i64 ((rd_T25 l0 x4_1).f0.f1)] from (k23_mkM _ _ _ (⟨(rd_T25 l0 x4_1).f0.f0, (rd_T25 l0 x4_1).f0.f1⟩ : S23) )) (Reps.c2 (show Kd.M k23 _ _ _ (⟨(rd_T25 l0 x4_1).f1.f0, (rd_T25 l0 x4_1).f1.f1⟩ : S23) [.int .i64 ((rd_T25 l0 x4_1).f1.f0), .int .i64 ((rd_T25 l0 x4_1).f1.f1)] from (k23_mkM _ _ _ (⟨(rd_T25 l0 x4_1).f1.f0, (rd_T25 l0 x4_1).f1.f1⟩ : S23) )) (Reps.none _ _))))
              intro v152 w9 ho10 hb hg_ hnew_
              clear hg_ hnew_
              (first | rw [← Ny151.out] at ho10 | (simp only [Int.reduceToNat] at ho10; rw [← Ny151.out] at ho10))
              have HO153 := Aside0.mk (Kd.R_lower (Kd.R_new' ho10 (Kd.R_lt (kr HO_3))) (below_size (bl HB)))
              replace HO_3 := Aside0.mk (Kd.R_elder' (kr HO_3) (Kd.R_base ho10) hb)
              replace HB := bst HB hb
              clear hb ho10
              obtain ⟨Ao12, co12, eo12⟩ := Kd.R_slice HO153.out
              (first | subst eo12 | (injection eo12 with f1_ f2_ f3_; have f4_ := f1_.symm; have f5_ := f3_.symm; clear f1_ f2_ f3_; subst f4_; subst f5_))
              refine hK.out _ _ ⟨((HB.out.cell (World.block_lt_of_cell? w _ hw149_0)).trans hw149_0), ((HB.out.cell (World.block_lt_of_cell? w _ hw149_1)).trans hw149_1), ((HB.out.cell (World.block_lt_of_cell? w _ hw149_2)).trans hw149_2), ((HB.out.cell (World.block_lt_of_cell? w _ hw149_3)).trans hw149_3), ((HB.out.cell (World.block_lt_of_cell? w _ hw150_0)).trans hw150_0), ((HB.out.cell (World.block_lt_of_cell? w _ hw150_1)).trans hw150_1), ((HB.out.cell (World.block_lt_of_cell? w _ hw150_2)).trans hw150_2), ((HB.out.cell (World.block_lt_of_cell? w _ hw150_3)).trans hw150_3)⟩ (fun hHeld => ?_)
              clear hK K
              refine nrp 27 ?_
              refine one_ (i := 12) (N := some 28) #[true, true, true, true, true, true, true, true, true, true, true, true, true, false] rfl rfl (one_of HT_.out (by kernel_rfl)) (by decide) (fun K hK => ?_)
              refine Kd.R_append_rows_step k23 (w0 := w) w.heap.size (by rfl) (.tmp 16) (.tmp 27) 61 23 (.agg #[(.int .i64 0), (.int .i64 0)]) 16 rfl Try.underlying61 info23 rfl (by decide) (by omega) u3 x3_1 y151 _ _ _ (fun k_ => some k_ ≠ (.slice Ao12 y151.length co12 : Value).ownBlock) (fun _ => False) rfl rfl ?aO ?aR (fun _ _ h => h) (fun _ h => h.elim) ?aF ?aB ?aS ?aL ?_
              (case aR => repeat (first | exact (Kd.R_reads' HO153.out).2.2 | (with_reducible refine Kd.C_alloc ?_ _) | (with_reducible refine Kd.C_drewN ?_ _) | (with_reducible refine Kd.C_drew ?_)))
              (case aB => exact (bl HB))
              (case aF => exact (fun k_ hk => Kd.fresh' (Kd.R_lt (kr HO153)) k_ hk))
              (case aO => exact (by (with_reducible repeat (first | apply Kd.R_alloc | apply Kd.R_drewN | apply Kd.R_drew)); exact Kd.R_mono HO_3.out (fun _ hk => hk.2)))
              (case aS => exact (below_size (bl HB)))
              (case aL => have := LMc6.out; omega)
              intro v155 w11 ho hb hg hat
              rw [← Ny154.out] at ho
              replace HO153 := Aside0.mk (Kd.R_after (ok := (fun _ => True)) (kr HO153) hg hat)
              replace HB := Aside0.mk (hb)
              have HO156 := Aside0.mk (ho)
              clear HO_3
              clear ho hb hg hat
              refine hK.out _ _ ⟨((HB.out.cell (World.block_lt_of_cell? w _ hw149_0)).trans hw149_0), ((HB.out.cell (World.block_lt_of_cell? w _ hw149_1)).trans hw149_1), ((HB.out.cell (World.block_lt_of_cell? w _ hw149_2)).trans hw149_2), ((HB.out.cell (World.block_lt_of_cell? w _ hw149_3)).trans hw149_3), ((HB.out.cell (World.block_lt_of_cell? w _ hw150_0)).trans hw150_0), ((HB.out.cell (World.block_lt_of_cell? w _ hw150_1)).trans hw150_1), ((HB.out.cell (World.block_lt_of_cell? w _ hw150_2)).trans hw150_2), ((HB.out.cell (World.block_lt_of_cell? w _ hw150_3)).trans hw150_3)⟩ (fun hHeld => ?_)
              clear hK K
              refine nrp 28 ?_
              refine pu 13 (some 3) #[true, true, true, true, true, true, true, true, true, true, true, true, true, true] (any_of HT_.out (by kernel_rfl)) ?_
              refine done_ (done_of HT_.out (by kernel_rfl)) ?_
              try go_wp2
              go_roundg k1
              case measure => have := HK1.out; omega
              case rel => exact ⟨(y154), (wrap64 (x4_1 + 1)), (by first | rfl | (simp; done) | (simp [*]; done)), H', ⟨by have := HK1.out; omega⟩, ⟨by (with_reducible repeat (first | apply Kd.R_alloc | apply Kd.R_drewN | apply Kd.R_drew)); exact Kd.R_mono HO156.out (fun _ hk => trivial)⟩, ⟨bl HB⟩⟩
            · rw [if_neg c6] at H
              exact absurd H (by simp)
          · replace c5 := Bool.eq_false_iff.mpr c5
            subst c5
            have H1 : (bocageref03_Cuts.l0 k1 l0 x3_1 (wrap64 (x4_1 + 1))) = some r := by rw [if_neg (show ¬ (false = true) by decide)] at H; exact H
            clear H
            have H := H1
            clear H1
            have H' := Aside0.mk H
            clear H
            have p147 : 0 ≤ (x4_1 : Int) := of_decide_eq_true (by first | (with_reducible assumption) | assumption)
            have q147 : x4_1 < (l0.length : Int) := of_decide_eq_true (by first | (with_reducible assumption) | assumption)
            obtain ⟨ad147, e147, hx147_0, hx147_1, hx147_2, hx147_3⟩ := at_T25 HR0.out x4_1 p147 q147
            cases e147
            replace hx147_0 := (HB.out.cell (World.block_lt_of_cell? w _ hx147_0)).trans hx147_0
            replace hx147_1 := (HB.out.cell (World.block_lt_of_cell? w _ hx147_1)).trans hx147_1
            replace hx147_2 := (HB.out.cell (World.block_lt_of_cell? w _ hx147_2)).trans hx147_2
            replace hx147_3 := (HB.out.cell (World.block_lt_of_cell? w _ hx147_3)).trans hx147_3
            replace p147 := eq_true p147
            replace q147 := eq_true q147
            go_wp2_with (first | ((with_reducible refine gate_callee (f := 12) rfl ?_); refine gol (some 15) Try.func12 #[.agg #[.int .i64 ((rd_T25 l0 x4_1).f0.f0), .int .i64 ((rd_T25 l0 x4_1).f0.f1), .int .i64 ((rd_T25 l0 x4_1).f1.f0), .int .i64 ((rd_T25 l0 x4_1).f1.f1)]] ?_; (with_reducible refine (bocageref03_Right.calls k1 ((rd_T25 l0 x4_1).f0.f0) ((rd_T25 l0 x4_1).f0.f1) ((rd_T25 l0 x4_1).f1.f0) ((rd_T25 l0 x4_1).f1.f1) false _ A4.out).mono ?_); rintro e w13 ⟨rfl, hb⟩; refine ⟨_, rfl, ?_⟩; replace HO_3 := krb HO_3 hb; replace HB := bst HB hb; (try clear hb); (try clear hb2); (try clear hk); (try clear hi)))
            go_roundg k1
            case measure => have := HK1.out; omega
            case rel => exact ⟨(x3_1), (wrap64 (x4_1 + 1)), (by first | rfl | (simp; done) | (simp [*]; done)), H', ⟨by have := HK1.out; omega⟩, ⟨kr HO_3⟩, ⟨bl HB⟩⟩
        · rw [if_neg c3] at H
          exact absurd H (by simp)
      · rw [if_neg c2] at H
        have c2b0 : decide (x4_1 < (l0.length : Int)) = false := decide_eq_false c2
        clear c2
        replace H := Option.bind_eq_some_iff.mp H
        obtain ⟨t157, A140, H⟩ := H
        (try (set_option simprocs false in dsimp only at H))
        have A14 := Aside0.mk A140
        clear A140
        obtain rfl := Option.some.inj H
        obtain ⟨Ao15, co15, eo15⟩ := Kd.R_slice HO_3.out
        subst eo15
        go_wp2_with (first | ((with_reducible refine gate_callee (f := 71) rfl ?_); refine gol (some 30) Try.func71 #[.slice Ao15 x3_1.length co15] ?_; (with_reducible refine (bocageref02_Sort.calls k1 _ _ x3_1 t157 _ ?side1 ?side2 A14.out).mono ?_); (case side1 => repeat (first | exact (Kd.R_reads' HO_3.out).2.2 | (with_reducible refine Kd.C_alloc ?_ _) | (with_reducible refine Kd.C_drewN ?_ _) | (with_reducible refine Kd.C_drew ?_))); (case side2 => exact (Kd.R_reads' HO_3.out).2.1); rintro e w16 ⟨v158, rfl, ho0, hb⟩; refine ⟨_, rfl, ?_⟩; have HO159 := Aside0.mk (Kd.R_lower (Kd.R_new' ho0 (Kd.R_lt (kr HO_3))) (below_size (bl HB))); replace HO_3 := Aside0.mk (Kd.R_elder' (kr HO_3) (Kd.R_base ho0) hb); replace HB := bst HB hb; (try clear hb); (try clear hb2); (try clear hk); (try clear hi); (try clear ho0)))
        go_ret
        exact ⟨_, by first | rfl | (simp [errW_none, errW_some] <;> rfl) | (simp [*, errW_none, errW_some] <;> rfl), by (with_reducible repeat (first | apply Kd.R_alloc | apply Kd.R_drewN | apply Kd.R_drew)); exact Kd.R_mono HO159.out (fun _ hk => trivial), by repeat (first | (with_reducible first | exact HB.out | apply below_alloc | apply pw_below_drewN | apply below_drew1) | exact HB.out)⟩
section
attribute [local go_sem high] eqA23
/-! ### bocageref03_List: function 15 -/
def bocageref03_List.l0 : Nat → List (S25) → List (S23) → List (S25) → Int → Option ((List (S25)))
  | 0, _, _, _, _ => none
  | k + 1, x0, x3, x4, x5 => if (wrap64 (x5 + 1)) < (x3.length : Int) then (if 0 ≤ x5 then (if x5 < (x3.length : Int) then ((bocageref02_Next.f k ((rd_T23 x3 x5).f0) ((rd_T23 x3 x5).f1)).bind fun bt164 => ((bocageref03_Any.f k x0 bt164.1).bind fun t166 => (if t166 = true then (if (wrap64 ((x4.length : Int) - 1)) ≥ 0 then (if 0 ≤ (wrap64 ((x4.length : Int) - 1)) then (if (wrap64 ((x4.length : Int) - 1)) < (x4.length : Int) then (if (((rd_T25 x4 (wrap64 ((x4.length : Int) - 1))).f1.f0) == ((rd_T23 x3 x5).f0) && (((rd_T25 x4 (wrap64 ((x4.length : Int) - 1))).f1.f1) == ((rd_T23 x3 x5).f1))) = true then (if 0 ≤ (wrap64 (x5 + 1)) then (bocageref03_List.l0 k x0 x3 (x4.set ((wrap64 ((x4.length : Int) - 1)) : Int).toNat (⟨(⟨(rd_T25 x4 (wrap64 ((x4.length : Int) - 1))).f0.f0, (rd_T25 x4 (wrap64 ((x4.length : Int) - 1))).f0.f1⟩ : S23), (⟨(rd_T23 x3 (wrap64 (x5 + 1))).f0, (rd_T23 x3 (wrap64 (x5 + 1))).f1⟩ : S23)⟩ : S25)) (wrap64 (x5 + 1))) else (none)) else (if 0 ≤ (wrap64 (x5 + 1)) then (if x4.length < 4398046511104 then (bocageref03_List.l0 k x0 x3 (x4 ++ [(⟨(⟨(rd_T23 x3 x5).f0, (rd_T23 x3 x5).f1⟩ : S23), (⟨(rd_T23 x3 (wrap64 (x5 + 1))).f0, (rd_T23 x3 (wrap64 (x5 + 1))).f1⟩ : S23)⟩ : S25)]) (wrap64 (x5 + 1))) else (none)) else (none))) else (none)) else (none)) else (if 0 ≤ (wrap64 (x5 + 1)) then (if x4.length < 4398046511104 then (bocageref03_List.l0 k x0 x3 (x4 ++ [(⟨(⟨(rd_T23 x3 x5).f0, (rd_T23 x3 x5).f1⟩ : S23), (⟨(rd_T23 x3 (wrap64 (x5 + 1))).f0, (rd_T23 x3 (wrap64 (x5 + 1))).f1⟩ : S23)⟩ : S25)]) (wrap64 (x5 + 1))) else (none)) else (none))) else (bocageref03_List.l0 k x0 x3 x4 (wrap64 (x5 + 1)))))) else (none)) else (none)) else (some x4)
def bocageref03_List.f (k : Nat) (l0 : List (S25)) : Option ((List (S25))) := (bocageref03_Cuts.f k l0).bind fun t160 => (bocageref03_List.l0 k l0 t160 ([] : List (S25)) 0)
theorem bocageref03_List.mono_l : ∀ k, (∀ y0 y1 y2 y3, LeO (bocageref03_List.l0 k y0 y1 y2 y3) (bocageref03_List.l0 (k + 1) y0 y1 y2 y3))
  | 0 => fun _ _ _ _ r h => by simp [bocageref03_List.l0] at h
  | k + 1 => by
    have ih0 := bocageref03_List.mono_l k
    · intro y0 y1 y2 y3
      unfold bocageref03_List.l0
      repeat' first
      | (with_reducible exact ih0 _ _ _ _)
      | (with_reducible exact bocageref02_Next.mono _ _ _)
      | (with_reducible exact bocageref03_Any.mono _ _ _)
      | (with_reducible exact bocageref03_Cuts.mono _ _)
      | (with_reducible exact LeO.refl _)
      | (with_reducible exact LeO.none _)
      | (with_reducible refine LeO.ite ?_ ?_)
      | (with_reducible refine LeO.bind ?_ (fun _ => ?_))
      | exact ih0 _ _ _ _
      | exact bocageref02_Next.mono _ _ _
      | exact bocageref03_Any.mono _ _ _
      | exact bocageref03_Cuts.mono _ _
      | exact LeO.none _
      | refine LeO.ite ?_ ?_
      | refine LeO.bind ?_ (fun _ => ?_)
theorem bocageref03_List.mono : ∀ a0 k, LeO (bocageref03_List.f k a0) (bocageref03_List.f (k + 1) a0) := by
  intro a0 k
  have ih0 := bocageref03_List.mono_l k
  unfold bocageref03_List.f
  repeat' first
      | (with_reducible exact ih0 _ _ _ _)
      | (with_reducible exact bocageref02_Next.mono _ _ _)
      | (with_reducible exact bocageref03_Any.mono _ _ _)
      | (with_reducible exact bocageref03_Cuts.mono _ _)
      | (with_reducible exact LeO.refl _)
      | (with_reducible exact LeO.none _)
      | (with_reducible refine LeO.ite ?_ ?_)
      | (with_reducible refine LeO.bind ?_ (fun _ => ?_))
      | exact ih0 _ _ _ _
      | exact bocageref02_Next.mono _ _ _
      | exact bocageref03_Any.mono _ _ _
      | exact bocageref03_Cuts.mono _ _
      | exact LeO.none _
      | refine LeO.ite ?_ ?_
      | refine LeO.bind ?_ (fun _ => ?_)
def bocageref03_List.T9 : Bool × List (List Nat × List Nat) := (true, [([], []), ([0], [0]), ([1], [1]), ([2], [2]), ([2], [2]), ([3, 4, 2], [2, 3, 4]), ([5, 2], [2, 5]), ([6, 2], [2, 6]), ([2], [2]), ([2], [2]), ([8, 9, 2], [2, 8, 9]), ([10, 2], [2, 10]), ([7, 11, 2], [2, 7, 11]), ([2, 12], [2, 12])])
def bocageref03_List.B9 : List Nat := [0, 1, 3, 7, 7, 31, 63, 127, 7, 7, 775, 1799, 4095, 8191]
theorem bocageref03_List.tab9 : rtab .any (opsOf Try.f15 9) = bocageref03_List.T9 := by kernel_rfl
theorem bocageref03_List.bits9 : waitsOk bocageref03_List.T9.2 bocageref03_List.B9 = true := by kernel_rfl
def bocageref03_List.T10 : Bool × List (List Nat × List Nat) := (true, [([], []), ([], []), ([], []), ([], []), ([2, 3], [2, 3]), ([4], [4]), ([5], [5]), ([], []), ([], []), ([8], [8]), ([7, 9], [7, 9]), ([10], [10]), ([6, 11], [6, 11]), ([0, 1, 0, 1, 2, 3, 4, 5, 6, 7, 8, 9, 10, 11, 12], [0, 1]), ([13, 12, 0, 1, 2, 3, 4, 5, 6, 7, 8, 9, 10, 11, 12], [12, 13])])
def bocageref03_List.B10 : List Nat := [0, 0, 0, 0, 12, 28, 60, 0, 0, 256, 896, 1920, 4092, 8191, 16383]
theorem bocageref03_List.tab10 : rtab .any (opsOf Try.f15 10) = bocageref03_List.T10 := by kernel_rfl
theorem bocageref03_List.bits10 : waitsOk bocageref03_List.T10.2 bocageref03_List.B10 = true := by kernel_rfl
def bocageref03_List.T11 : Bool × List (List Nat × List Nat) := (true, [([], []), ([], []), ([], []), ([1, 2], [1, 2]), ([3], [3]), ([], []), ([], []), ([6], [6]), ([5, 7], [5, 7]), ([8], [8]), ([4, 9], [4, 9]), ([10], [10]), ([0, 11], [0, 11]), ([12, 12, 0, 1, 2, 3, 4, 5, 6, 7, 8, 9, 10, 11, 12], [0, 12])])
def bocageref03_List.B11 : List Nat := [0, 0, 0, 6, 14, 0, 0, 64, 224, 480, 1022, 2046, 4095, 8191]
theorem bocageref03_List.tab11 : rtab .any (opsOf Try.f15 11) = bocageref03_List.T11 := by kernel_rfl
theorem bocageref03_List.bits11 : waitsOk bocageref03_List.T11.2 bocageref03_List.B11 = true := by kernel_rfl
set_option maxHeartbeats 8000000 in
set_option maxRecDepth 100000 in
theorem bocageref03_List.calls (k : Nat) (A0 : Option Addr) (c0 : Nat) (l0 : List (S25)) (r : List (S25)) (w : World) (hr0 : Kd.C k25 w A0 l0.length l0) (hc0 : l0.length ≤ c0) (h : bocageref03_List.f k l0 = some r) :
    Calls Try.prog 15 #[.slice A0 l0.length c0] w fun e w' => ∃ v0_ : Value, e = .returned (v0_) ∧ Kd.R k25 25 w' w.heap.size (fun _ => True) v0_ r ∧ Below w.heap.size w w' := by
  have hu23 := Try.underlying23
  have hu25 := Try.underlying25
  have HR0 := Aside0.mk hr0
  have HC0 := Aside0.mk hc0
  clear hr0 hc0
  have HB := Aside0.mk (Below.refl w.heap.size w)
  have H : ((bocageref03_Cuts.f k l0).bind fun t160 => (bocageref03_List.l0 k l0 t160 ([] : List (S25)) 0)) = some r := h
  clear h
  replace H := Option.bind_eq_some_iff.mp H
  obtain ⟨t160, A20, H⟩ := H
  (try (set_option simprocs false in dsimp only at H))
  have A2 := Aside0.mk A20
  clear A20
  have H' := Aside0.mk H
  clear H
  go_enter Try.func15, Try.ntmps15
  go_wp2_with (first | ((with_reducible refine gate_callee (f := 50) rfl ?_); refine gol (some 10) Try.func50 #[.slice A0 l0.length c0] ?_; (with_reducible refine (bocageref03_Cuts.calls k _ _ l0 t160 _ ?side1 ?side2 A2.out).mono ?_); (case side1 => repeat (first | exact HR0.out | (with_reducible refine Kd.C_alloc ?_ _) | (with_reducible refine Kd.C_drewN ?_ _) | (with_reducible refine Kd.C_drew ?_))); (case side2 => exact HC0.out); rintro e w3 ⟨v161, rfl, ho0, hb⟩; refine ⟨_, rfl, ?_⟩; have HO162 := Aside0.mk (Kd.R_lower ho0 (below_size (bl HB))); replace HB := bst HB hb; (try clear hb); (try clear hb2); (try clear hk); (try clear hi); (try clear ho0)))
  go_loopg [4, 5] k (fun kq v4 v5 w' => ∃ (x4_1 : List (S25)) (x5_1 : Int), v5 = .int .i64 x5_1 ∧ Aside0 (bocageref03_List.l0 kq l0 t160 x4_1 x5_1 = some r) ∧ Aside0 (kq ≤ k) ∧ Aside0 (Kd.R k23 23 w' w.heap.size (fun _ => True) v161 t160) ∧ Aside0 (Kd.R k25 25 w' w.heap.size (fun _ => True) v4 x4_1) ∧ Aside0 (Below w.heap.size w w'))
  case atStart => exact ⟨(([] : List (S25))), (0), (by first | rfl | (simp; done) | (simp [*]; done)), H', ⟨Nat.le_refl _⟩, ⟨kr HO162⟩, ⟨by first | exact Kd.R_nil _ _ _ _ _ | exact Kd.N_nil _ _ _ _ _ | exact Kd.V_nil _ _ _ _ _ | exact Kd.Q_nil _ _ _ _ _ | exact Kd.S_nil _ _ _ _ _⟩, ⟨bl HB⟩⟩
  case round =>
    clear H'
    try clear c1
    try clear p2
    obtain ⟨x4_1, x5_1, rfl, HA, HK1, HO_3, HO_4, HB⟩ := hrel
    cases gk with
    | zero => exact absurd HA.out (by simp [bocageref03_List.l0])
    | succ k1 =>
      have H := HA.out
      clear HA
      simp only [bocageref03_List.l0] at H
      by_cases c4 : (wrap64 (x5_1 + 1)) < (t160.length : Int)
      · rw [if_pos c4] at H
        have c4b0 : decide ((wrap64 (x5_1 + 1)) < (t160.length : Int)) = true := decide_eq_true c4
        clear c4
        by_cases c5 : 0 ≤ x5_1
        · rw [if_pos c5] at H
          have c5b0 : decide (0 ≤ x5_1) = true := decide_eq_true c5
          clear c5
          by_cases c6 : x5_1 < (t160.length : Int)
          · rw [if_pos c6] at H
            have c6b0 : decide (x5_1 < (t160.length : Int)) = true := decide_eq_true c6
            clear c6
            replace H := Option.bind_eq_some_iff.mp H
            obtain ⟨⟨t164, t165⟩, A70, H⟩ := H
            (try (set_option simprocs false in dsimp only at H))
            have A7 := Aside0.mk A70
            clear A70
            replace H := Option.bind_eq_some_iff.mp H
            obtain ⟨t166, A80, H⟩ := H
            (try (set_option simprocs false in dsimp only at H))
            have A8 := Aside0.mk A80
            clear A80
            by_cases c9 : t166 = true
            · subst c9
              have H1 : (if (wrap64 ((x4_1.length : Int) - 1)) ≥ 0 then (if 0 ≤ (wrap64 ((x4_1.length : Int) - 1)) then (if (wrap64 ((x4_1.length : Int) - 1)) < (x4_1.length : Int) then (if (((rd_T25 x4_1 (wrap64 ((x4_1.length : Int) - 1))).f1.f0) == ((rd_T23 t160 x5_1).f0) && (((rd_T25 x4_1 (wrap64 ((x4_1.length : Int) - 1))).f1.f1) == ((rd_T23 t160 x5_1).f1))) = true then (if 0 ≤ (wrap64 (x5_1 + 1)) then (bocageref03_List.l0 k1 l0 t160 (x4_1.set ((wrap64 ((x4_1.length : Int) - 1)) : Int).toNat (⟨(⟨(rd_T25 x4_1 (wrap64 ((x4_1.length : Int) - 1))).f0.f0, (rd_T25 x4_1 (wrap64 ((x4_1.length : Int) - 1))).f0.f1⟩ : S23), (⟨(rd_T23 t160 (wrap64 (x5_1 + 1))).f0, (rd_T23 t160 (wrap64 (x5_1 + 1))).f1⟩ : S23)⟩ : S25)) (wrap64 (x5_1 + 1))) else (none)) else (if 0 ≤ (wrap64 (x5_1 + 1)) then (if x4_1.length < 4398046511104 then (bocageref03_List.l0 k1 l0 t160 (x4_1 ++ [(⟨(⟨(rd_T23 t160 x5_1).f0, (rd_T23 t160 x5_1).f1⟩ : S23), (⟨(rd_T23 t160 (wrap64 (x5_1 + 1))).f0, (rd_T23 t160 (wrap64 (x5_1 + 1))).f1⟩ : S23)⟩ : S25)]) (wrap64 (x5_1 + 1))) else (none)) else (none))) else (none)) else (none)) else (if 0 ≤ (wrap64 (x5_1 + 1)) then (if x4_1.length < 4398046511104 then (bocageref03_List.l0 k1 l0 t160 (x4_1 ++ [(⟨(⟨(rd_T23 t160 x5_1).f0, (rd_T23 t160 x5_1).f1⟩ : S23), (⟨(rd_T23 t160 (wrap64 (x5_1 + 1))).f0, (rd_T23 t160 (wrap64 (x5_1 + 1))).f1⟩ : S23)⟩ : S25)]) (wrap64 (x5_1 + 1))) else (none)) else (none))) = some r := by rw [if_pos rfl] at H; exact H
              clear H
              have H := H1
              clear H1
              by_cases c10 : (wrap64 ((x4_1.length : Int) - 1)) ≥ 0
              · rw [if_pos c10] at H
                have c10b0 : decide (0 ≤ (wrap64 ((x4_1.length : Int) - 1))) = true := decide_eq_true c10
                clear c10
                obtain ⟨ji11, hji11⟩ : ∃ j_ : Int, (wrap64 ((x4_1.length : Int) - 1)) = j_ := ⟨_, rfl⟩
                replace H : (if 0 ≤ (ji11) then (if (ji11) < (x4_1.length : Int) then (if (((rd_T25 x4_1 (ji11)).f1.f0) == ((rd_T23 t160 x5_1).f0) && (((rd_T25 x4_1 (ji11)).f1.f1) == ((rd_T23 t160 x5_1).f1))) = true then (if 0 ≤ (wrap64 (x5_1 + 1)) then (bocageref03_List.l0 k1 l0 t160 (x4_1.set ((ji11) : Int).toNat (⟨(⟨(rd_T25 x4_1 (ji11)).f0.f0, (rd_T25 x4_1 (ji11)).f0.f1⟩ : S23), (⟨(rd_T23 t160 (wrap64 (x5_1 + 1))).f0, (rd_T23 t160 (wrap64 (x5_1 + 1))).f1⟩ : S23)⟩ : S25)) (wrap64 (x5_1 + 1))) else (none)) else (if 0 ≤ (wrap64 (x5_1 + 1)) then (if x4_1.length < 4398046511104 then (bocageref03_List.l0 k1 l0 t160 (x4_1 ++ [(⟨(⟨(rd_T23 t160 x5_1).f0, (rd_T23 t160 x5_1).f1⟩ : S23), (⟨(rd_T23 t160 (wrap64 (x5_1 + 1))).f0, (rd_T23 t160 (wrap64 (x5_1 + 1))).f1⟩ : S23)⟩ : S25)]) (wrap64 (x5_1 + 1))) else (none)) else (none))) else (none)) else (none)) = some r := by first | (rw [hji11] at H; exact H) | (simp only [hji11] at H ⊢; exact H)
                (try rw [hji11] at c10b0)
                (try rw [hji11] at A7)
                (try rw [hji11] at A8)
                have hji11w : (IntKind.i64.wrap ((x4_1.length : Int) - 1)) = ji11 := (i64_w _).trans hji11
                by_cases c12 : 0 ≤ (ji11)
                · rw [if_pos c12] at H
                  have c12b0 : decide (0 ≤ (ji11)) = true := decide_eq_true c12
                  clear c12
                  by_cases c13 : (ji11) < (x4_1.length : Int)
                  · rw [if_pos c13] at H
                    have c13b0 : decide ((ji11) < (x4_1.length : Int)) = true := decide_eq_true c13
                    clear c13
                    by_cases c14 : (((rd_T25 x4_1 (ji11)).f1.f0) == ((rd_T23 t160 x5_1).f0) && (((rd_T25 x4_1 (ji11)).f1.f1) == ((rd_T23 t160 x5_1).f1))) = true
                    · rw [if_pos c14] at H
                      have c14b0 : (((rd_T25 x4_1 (ji11)).f1.f0) == ((rd_T23 t160 x5_1).f0) && (((rd_T25 x4_1 (ji11)).f1.f1) == ((rd_T23 t160 x5_1).f1))) = true := c14
                      (try (have c14b1 : decide (((rd_T25 x4_1 (ji11)).f1.f0) = ((rd_T23 t160 x5_1).f0) && (((rd_T25 x4_1 (ji11)).f1.f1) == ((rd_T23 t160 x5_1).f1))) = true := by simpa using c14))
                      (try (have c14b2 : (((rd_T25 x4_1 (ji11)).f1.f0) == ((rd_T23 t160 x5_1).f0) && (((rd_T25 x4_1 (ji11)).f1.f1) == ((rd_T23 t160 x5_1).f1))) = true := by simpa using c14))
                      clear c14
                      obtain ⟨ji15, hji15⟩ : ∃ j_ : Int, (wrap64 (x5_1 + 1)) = j_ := ⟨_, rfl⟩
                      replace H : (if 0 ≤ (ji15) then (bocageref03_List.l0 k1 l0 t160 (x4_1.set ((ji11) : Int).toNat (⟨(⟨(rd_T25 x4_1 (ji11)).f0.f0, (rd_T25 x4_1 (ji11)).f0.f1⟩ : S23), (⟨(rd_T23 t160 (ji15)).f0, (rd_T23 t160 (ji15)).f1⟩ : S23)⟩ : S25)) ji15) else (none)) = some r := by first | (rw [hji15] at H; exact H) | (simp only [hji15] at H ⊢; exact H)
                      (try rw [hji15] at c4b0)
                      (try rw [hji15] at A7)
                      (try rw [hji15] at A8)
                      have hji15w : (IntKind.i64.wrap (x5_1 + 1)) = ji15 := (i64_w _).trans hji15
                      by_cases c16 : 0 ≤ (ji15)
                      · rw [if_pos c16] at H
                        have c16b0 : decide (0 ≤ (ji15)) = true := decide_eq_true c16
                        clear c16
                        obtain ⟨y171, hy171⟩ : ∃ y_ : List (S25), y_ = (x4_1.set ((ji11) : Int).toNat (⟨(⟨(rd_T25 x4_1 (ji11)).f0.f0, (rd_T25 x4_1 (ji11)).f0.f1⟩ : S23), (⟨(rd_T23 t160 (ji15)).f0, (rd_T23 t160 (ji15)).f1⟩ : S23)⟩ : S25)) := ⟨_, rfl⟩
                        replace H : (bocageref03_List.l0 k1 l0 t160 y171 ji15) = some r := by first | (rw [hy171]; with_reducible exact H) | (have H2_ := (Option.bind_some _ _).symm.trans H; rw [hy171]; with_reducible exact H2_) | (have H2_ := (Option.bind_some _ _).symm.trans H; with_reducible exact H2_) | with_reducible exact H | (rw [hy171]; exact H) | exact H
                        have Ny171 := Aside0.mk hy171
                        clear hy171
                        have H' := Aside0.mk H
                        clear H
                        obtain ⟨Ao18, co18, eo18⟩ := Kd.R_slice HO_3.out
                        subst eo18
                        have p163 : 0 ≤ (x5_1 : Int) := of_decide_eq_true (by first | (with_reducible assumption) | assumption)
                        have q163 : x5_1 < (t160.length : Int) := of_decide_eq_true (by first | (with_reducible assumption) | assumption)
                        obtain ⟨ad163, e163, hx163_0, hx163_1⟩ := at_T23 (Kd.R_reads' HO_3.out).2.2 x5_1 p163 q163
                        cases e163
                        replace p163 := eq_true p163
                        replace q163 := eq_true q163
                        try go_wp2_with (first | ((with_reducible refine gate_callee (f := 32) rfl ?_); refine gol (some 23) Try.func32 #[.agg #[.int .i64 ((rd_T23 t160 x5_1).f0), .int .i64 ((rd_T23 t160 x5_1).f1)]] ?_; (with_reducible refine (bocageref02_Next.calls k1 ((rd_T23 t160 x5_1).f0) ((rd_T23 t160 x5_1).f1) t164 t165 _ A7.out).mono ?_); rintro e w19 ⟨rfl, hb⟩; refine ⟨_, rfl, ?_⟩; replace HO_3 := krb HO_3 hb; replace HO_4 := krb HO_4 hb; replace HB := bst HB hb; (try clear hb); (try clear hb2); (try clear hk); (try clear hi)) | ((with_reducible refine gate_callee (f := 42) rfl ?_); refine gol (some 28) Try.func42 #[.slice A0 l0.length c0, .int .i64 t164] ?_; (with_reducible refine (bocageref03_Any.calls k1 _ _ l0 t164 true _ ?side1 ?side2 A8.out).mono ?_); (case side1 => repeat (first | exact (Kd.C_below HR0.out HB.out) | (with_reducible refine Kd.C_alloc ?_ _) | (with_reducible refine Kd.C_drewN ?_ _) | (with_reducible refine Kd.C_drew ?_))); (case side2 => exact HC0.out); rintro e w20 ⟨rfl, hb⟩; refine ⟨_, rfl, ?_⟩; replace HO_3 := krb HO_3 hb; replace HO_4 := krb HO_4 hb; replace HB := bst HB hb; (try clear hb); (try clear hb2); (try clear hk); (try clear hi); obtain ⟨Ao21, co21, eo21⟩ := Kd.R_slice HO_4.out; subst eo21))
                        replace HO_3 := Aside0.mk (Kd.R_drew HO_3.out)
                        replace HO_4 := Aside0.mk (Kd.R_drew HO_4.out)
                        replace HB := Aside0.mk (below_drew1 HB.out)
                        have p167 : 0 ≤ ((ji11) : Int) := of_decide_eq_true (by first | (with_reducible assumption) | assumption)
                        have q167 : (ji11) < (x4_1.length : Int) := of_decide_eq_true (by first | (with_reducible assumption) | assumption)
                        obtain ⟨ad167, e167, hx167_0, hx167_1, hx167_2, hx167_3⟩ := at_T25 (Kd.R_reads' HO_4.out).2.2 (ji11) p167 q167
                        cases e167
                        replace p167 := eq_true p167
                        replace q167 := eq_true q167
                        have p168 : 0 ≤ (x5_1 : Int) := of_decide_eq_true (by first | (with_reducible assumption) | assumption)
                        have q168 : x5_1 < (t160.length : Int) := of_decide_eq_true (by first | (with_reducible assumption) | assumption)
                        obtain ⟨ad168, e168, hx168_0, hx168_1⟩ := at_T23 (Kd.R_reads' HO_3.out).2.2 x5_1 p168 q168
                        obtain rfl : ad163 = ad168 := (by injection e168)
                        replace p168 := eq_true p168
                        replace q168 := eq_true q168
                        refine start_ (n := 14) (S := fun w' => w'.cell? (ad167.add (((ji11)).toNat * 4)) = some (.int .i64 ((rd_T25 x4_1 (ji11)).f0.f0)) ∧ w'.cell? ⟨(ad167.add (((ji11)).toNat * 4)).block, (ad167.add (((ji11)).toNat * 4)).off + 1, none⟩ = some (.int .i64 ((rd_T25 x4_1 (ji11)).f0.f1)) ∧ w'.cell? ⟨(ad167.add (((ji11)).toNat * 4)).block, (ad167.add (((ji11)).toNat * 4)).off + 2, none⟩ = some (.int .i64 ((rd_T25 x4_1 (ji11)).f1.f0)) ∧ w'.cell? ⟨(ad167.add (((ji11)).toNat * 4)).block, (ad167.add (((ji11)).toNat * 4)).off + 3, none⟩ = some (.int .i64 ((rd_T25 x4_1 (ji11)).f1.f1)) ∧ w'.cell? (ad163.add ((x5_1).toNat * 2)) = some (.int .i64 ((rd_T23 t160 x5_1).f0)) ∧ w'.cell? ⟨(ad163.add ((x5_1).toNat * 2)).block, (ad163.add ((x5_1).toNat * 2)).off + 1, none⟩ = some (.int .i64 ((rd_T23 t160 x5_1).f1))) (ds := []) #[false, false, false, false, false, false, false, false, false, false, false, false, false, false] (by kernel_rfl) rfl rfl ⟨hx167_0, hx167_1, hx167_2, hx167_3, hx168_0, hx168_1⟩ (fun hHeld => ?_); refine with_tabW bocageref03_List.tab9 bocageref03_List.bits9 (fun HT_ HW_ => ?_)
                        generalize w20.drew = w22 at HO_3 HO_4 HB hx167_0 hx167_1 hx167_2 hx167_3 hx168_0 hx168_1 hHeld ⊢
                        refine pu 0 (some 33) #[true, false, false, false, false, false, false, false, false, false, false, false, false, false] (any_of HT_.out (by kernel_rfl)) ?_
                        refine pu 1 (some 34) #[true, true, false, false, false, false, false, false, false, false, false, false, false, false] (any_of HT_.out (by kernel_rfl)) ?_
                        refine pu 2 (some 35) #[true, true, true, false, false, false, false, false, false, false, false, false, false, false] (any_of HT_.out (by kernel_rfl)) ?_
                        refine pu 3 (some 36) #[true, true, true, true, false, false, false, false, false, false, false, false, false, false] (any_of HT_.out (by kernel_rfl)) ?_
                        refine pu 4 (some 37) #[true, true, true, true, true, false, false, false, false, false, false, false, false, false] (any_of HT_.out (by kernel_rfl)) ?_
                        refine pu 5 (some 38) #[true, true, true, true, true, true, false, false, false, false, false, false, false, false] (any_of HT_.out (by kernel_rfl)) ?_
                        refine pu 6 (some 39) #[true, true, true, true, true, true, true, false, false, false, false, false, false, false] (any_of HT_.out (by kernel_rfl)) ?_
                        refine pu 8 (some 41) #[true, true, true, true, true, true, true, false, true, false, false, false, false, false] (any_of HT_.out (by kernel_rfl)) ?_
                        refine pu 9 (some 42) #[true, true, true, true, true, true, true, false, true, true, false, false, false, false] (any_of HT_.out (by kernel_rfl)) ?_
                        refine pu 10 (some 43) #[true, true, true, true, true, true, true, false, true, true, true, false, false, false] (any_of HT_.out (by kernel_rfl)) ?_
                        refine tk6 7 (some 40) #[true, true, true, true, true, true, true, true, true, true, true, false, false, false] (take_ofW HT_.out HW_.out (by kernel_rfl)) hHeld ?_
                        refine tk6 11 (some 44) #[true, true, true, true, true, true, true, true, true, true, true, true, false, false] (take_ofW HT_.out HW_.out (by kernel_rfl)) hHeld ?_
                        refine pu 12 (some 45) #[true, true, true, true, true, true, true, true, true, true, true, true, true, false] (any_of HT_.out (by kernel_rfl)) ?_
                        refine pu 13 (some 46) #[true, true, true, true, true, true, true, true, true, true, true, true, true, true] (any_of HT_.out (by kernel_rfl)) ?_
                        refine done_ (done_of HT_.out (by kernel_rfl)) ?_
                        try go_wp2
                        replace HO_3 := Aside0.mk (Kd.R_drew HO_3.out)
                        replace HO_4 := Aside0.mk (Kd.R_drew HO_4.out)
                        replace HB := Aside0.mk (below_drew1 HB.out)
                        have p169 : 0 ≤ ((ji11) : Int) := of_decide_eq_true (by first | (with_reducible assumption) | assumption)
                        have q169 : (ji11) < (x4_1.length : Int) := of_decide_eq_true (by first | (with_reducible assumption) | assumption)
                        obtain ⟨ad169, e169, hx169_0, hx169_1, hx169_2, hx169_3⟩ := at_T25 (Kd.R_reads' HO_4.out).2.2 (ji11) p169 q169
                        obtain rfl : ad167 = ad169 := (by injection e169)
                        replace p169 := eq_true p169
                        replace q169 := eq_true q169
                        have p170 : 0 ≤ ((ji15) : Int) := of_decide_eq_true (by first | (with_reducible assumption) | assumption)
                        have q170 : (ji15) < (t160.length : Int) := of_decide_eq_true (by first | (with_reducible assumption) | assumption)
                        obtain ⟨ad170, e170, hx170_0, hx170_1⟩ := at_T23 (Kd.R_reads' HO_3.out).2.2 (ji15) p170 q170
                        obtain rfl : ad163 = ad170 := (by injection e170)
                        replace p170 := eq_true p170
                        replace q170 := eq_true q170
                        have p17 : 0 ≤ ((ji11) : Int) := of_decide_eq_true (by first | (with_reducible assumption) | assumption)
                        have q17 : ((ji11) : Int) < ((x4_1.length : Int) : Int) := of_decide_eq_true (by first | (with_reducible assumption) | assumption)
                        obtain ⟨go17, co17, eo17, gb17, gl17, cl17, HG17⟩ := Kd.R_form HO_4.out (by omega)
                        (first | cases eo17 | (injection eo17 with ea_ en_ ec_; (first | subst ea_ | (injection ea_ with ea_; subst ea_)); subst ec_; clear en_))
                        have GB17 := Aside0.mk gb17
                        have GG17 := Aside0.mk HG17
                        clear gb17 gl17 HG17
                        (first | simp only [add_plain] at hx167_0 | skip)
                        (first | simp only [add_plain] at hx167_1 | skip)
                        (first | simp only [add_plain] at hx167_2 | skip)
                        (first | simp only [add_plain] at hx167_3 | skip)
                        (first | simp only [add_plain] at hx169_0 | skip)
                        (first | simp only [add_plain] at hx169_1 | skip)
                        (first | simp only [add_plain] at hx169_2 | skip)
                        (first | simp only [add_plain] at hx169_3 | skip)
                        obtain ⟨ce17, hcl17, hM17, hcc17, hfr17⟩ := Kd.R_elem HO_4.out z25 ((ji11) : Int) p17 q17
                        obtain rfl := k25_openM hM17
                        have hx17_0 : World.cell? _ ⟨go17, ((ji11) : Int).toNat * 4, none⟩ = some (.int .i64 ((rd_T25 x4_1 (ji11)).f0.f0)) := hcc17 0 _ rfl
                        have hx17_1 : World.cell? _ ⟨go17, ((ji11) : Int).toNat * 4 + 1, none⟩ = some (.int .i64 ((rd_T25 x4_1 (ji11)).f0.f1)) := hcc17 1 _ rfl
                        have hx17_2 : World.cell? _ ⟨go17, ((ji11) : Int).toNat * 4 + 2, none⟩ = some (.int .i64 ((rd_T25 x4_1 (ji11)).f1.f0)) := hcc17 2 _ rfl
                        have hx17_3 : World.cell? _ ⟨go17, ((ji11) : Int).toNat * 4 + 3, none⟩ = some (.int .i64 ((rd_T25 x4_1 (ji11)).f1.f1)) := hcc17 3 _ rfl
                        have hf17_0 : World.frozen? _ ⟨go17, ((ji11) : Int).toNat * 4, none⟩ = false := hfr17 0
                        have hf17_1 : World.frozen? _ ⟨go17, ((ji11) : Int).toNat * 4 + 1, none⟩ = false := hfr17 1
                        have hf17_2 : World.frozen? _ ⟨go17, ((ji11) : Int).toNat * 4 + 2, none⟩ = false := hfr17 2
                        have hf17_3 : World.frozen? _ ⟨go17, ((ji11) : Int).toNat * 4 + 3, none⟩ = false := hfr17 3
                        clear hcl17 hcc17 hfr17 hM17
                        replace p17 := eq_true p17
                        replace q17 := eq_true q17
                        obtain ⟨ce24, hcl24, hM24, hcc24, hfr24⟩ := Kd.R_elem HO_4.out z25 ((ji11) : Int) (of_decide_eq_true (by first | (with_reducible assumption) | assumption)) (by have h_ : ((ji11) : Int) < ((x4_1.length : Int) : Int) := of_decide_eq_true (by first | (with_reducible assumption) | assumption); first | exact h_ | (have e_ := (Kd.R_reads' HO_4.out).1; omega) | simpa using h_)
                        obtain rfl := k25_openM hM24
                        have HP24 := (Kd.R_seg HO_4.out ((ji11) : Int) (of_decide_eq_true (by first | (with_reducible assumption) | assumption)) (by have h_ : ((ji11) : Int) < ((x4_1.length : Int) : Int) := of_decide_eq_true (by first | (with_reducible assumption) | assumption); first | exact h_ | (have e_ := (Kd.R_reads' HO_4.out).1; omega) | simpa using h_) (seg := [.int .i64 ((rd_T25 x4_1 (ji11)).f0.f0), .int .i64 ((rd_T25 x4_1 (ji11)).f0.f1), .int .i64 ((rd_T23 t160 (ji15)).f0), .int .i64 ((rd_T23 t160 (ji15)).f1)]) (j := 0) hcl24 hcc24 (show 4 ≤ 4 from by decide) (x' := (⟨(⟨(rd_T25 x4_1 (ji11)).f0.f0, (rd_T25 x4_1 (ji11)).f0.f1⟩ : S23), (⟨(rd_T23 t160 (ji15)).f0, (rd_T23 t160 (ji15)).f1⟩ : S23)⟩ : S25)) (k25_mkM _ _ _ (⟨(⟨(rd_T25 x4_1 (ji11)).f0.f0, (rd_T25 x4_1 (ji11)).f0.f1⟩ : S23), (⟨(rd_T23 t160 (ji15)).f0, (rd_T23 t160 (ji15)).f1⟩ : S23)⟩ : S25) ) (fun _ hk => hk)).1
                        rw [← Ny171.out] at HP24
                        have HQ24 := Aside0.mk HP24
                        clear hcl24 hcc24 hfr24 hM24 HP24
                        refine start_ (n := 15) (S := fun w' => w'.cell? ⟨go17, ((ji11)).toNat * 4, none⟩ = some (.int .i64 ((rd_T25 x4_1 (ji11)).f0.f0)) ∧ w'.cell? ⟨go17, ((ji11)).toNat * 4 + 1, none⟩ = some (.int .i64 ((rd_T25 x4_1 (ji11)).f0.f1)) ∧ w'.cell? ⟨go17, ((ji11)).toNat * 4 + 2, none⟩ = some (.int .i64 ((rd_T25 x4_1 (ji11)).f1.f0)) ∧ w'.cell? ⟨go17, ((ji11)).toNat * 4 + 3, none⟩ = some (.int .i64 ((rd_T25 x4_1 (ji11)).f1.f1)) ∧ w'.cell? (ad163.add (((ji15)).toNat * 2)) = some (.int .i64 ((rd_T23 t160 (ji15)).f0)) ∧ w'.cell? ⟨(ad163.add (((ji15)).toNat * 2)).block, (ad163.add (((ji15)).toNat * 2)).off + 1, none⟩ = some (.int .i64 ((rd_T23 t160 (ji15)).f1))) (ds := [14]) #[false, false, false, false, false, false, false, false, false, false, false, false, false, false, false] (by kernel_rfl) rfl rfl ⟨hx169_0, hx169_1, hx169_2, hx169_3, hx170_0, hx170_1⟩ (fun hHeld => ?_); refine with_tabW bocageref03_List.tab10 bocageref03_List.bits10 (fun HT_ HW_ => ?_)
                        generalize w22.drew = w23 at HO_3 HO_4 HB GG17 HQ24 hf17_0 hf17_1 hf17_2 hf17_3 hx167_0 hx167_1 hx167_2 hx167_3 hx169_0 hx169_1 hx169_2 hx169_3 hx170_0 hx170_1 hx17_0 hx17_1 hx17_2 hx17_3 hHeld ⊢
                        refine pu 0 (some 47) #[true, false, false, false, false, false, false, false, false, false, false, false, false, false, false] (any_of HT_.out (by kernel_rfl)) ?_
                        refine pu 1 (some 48) #[true, true, false, false, false, false, false, false, false, false, false, false, false, false, false] (any_of HT_.out (by kernel_rfl)) ?_
                        refine pu 2 (some 49) #[true, true, true, false, false, false, false, false, false, false, false, false, false, false, false] (any_of HT_.out (by kernel_rfl)) ?_
                        refine pu 3 (some 50) #[true, true, true, true, false, false, false, false, false, false, false, false, false, false, false] (any_of HT_.out (by kernel_rfl)) ?_
                        refine pu 4 (some 51) #[true, true, true, true, true, false, false, false, false, false, false, false, false, false, false] (any_of HT_.out (by kernel_rfl)) ?_
                        refine pu 5 (some 52) #[true, true, true, true, true, true, false, false, false, false, false, false, false, false, false] (any_of HT_.out (by kernel_rfl)) ?_
                        refine pu 7 (some 54) #[true, true, true, true, true, true, false, true, false, false, false, false, false, false, false] (any_of HT_.out (by kernel_rfl)) ?_
                        refine pu 8 (some 55) #[true, true, true, true, true, true, false, true, true, false, false, false, false, false, false] (any_of HT_.out (by kernel_rfl)) ?_
                        refine pu 9 (some 56) #[true, true, true, true, true, true, false, true, true, true, false, false, false, false, false] (any_of HT_.out (by kernel_rfl)) ?_
                        refine pu 10 (some 57) #[true, true, true, true, true, true, false, true, true, true, true, false, false, false, false] (any_of HT_.out (by kernel_rfl)) ?_
                        refine tk6 6 (some 53) #[true, true, true, true, true, true, true, true, true, true, true, false, false, false, false] (take_ofW HT_.out HW_.out (by kernel_rfl)) hHeld ?_
                        refine tk6 11 (some 58) #[true, true, true, true, true, true, true, true, true, true, true, true, false, false, false] (take_ofW HT_.out HW_.out (by kernel_rfl)) hHeld ?_
                        refine pu 12 (some 59) #[true, true, true, true, true, true, true, true, true, true, true, true, true, false, false] (any_of HT_.out (by kernel_rfl)) ?_
                        refine pu 13 (some 60) #[true, true, true, true, true, true, true, true, true, true, true, true, true, true, false] (any_of HT_.out (by kernel_rfl)) ?_
                        refine last_ (i := 14) (N := none) #[true, true, true, true, true, true, true, true, true, true, true, true, true, true, true] rfl rfl (one_of HT_.out (by kernel_rfl)) (by decide) (fun K hK => ?_)
                        refine skip_ (w1 := ?_) (by rfl) rfl ?_ ?_
                        rotate_left
                        · go_simp
                          rfl
                        refine hK.out _ _ ?_
                        clear hK K
                        refine done_ (done_of HT_.out (by kernel_rfl)) ?_
                        try go_wp2
                        go_roundg k1
                        case measure => have := HK1.out; omega
                        case rel => exact ⟨(y171), (ji15), (by first | rfl | (simp; done) | (simp only [← hji15] <;> (first | rfl | simp)) | (simp [*]; done)), H', ⟨by have := HK1.out; omega⟩, ⟨by (with_reducible repeat (first | apply Kd.R_alloc | apply Kd.R_drewN | apply Kd.R_drew)); exact Kd.R_mono (Kd.R_far (p := ⟨go17, ((ji11) : Int).toNat * 4 + 3, none⟩) (Kd.R_far (p := ⟨go17, ((ji11) : Int).toNat * 4 + 2, none⟩) (Kd.R_far (p := ⟨go17, ((ji11) : Int).toNat * 4 + 1, none⟩) (Kd.R_far (p := ⟨go17, ((ji11) : Int).toNat * 4, none⟩) (Kd.R_types HO_3.out GG17.out (by decide)) (fun _ hk => hk.2) (.int .i64 ((rd_T25 x4_1 (ji11)).f0.f0))) (fun _ hk => hk.2) (.int .i64 ((rd_T25 x4_1 (ji11)).f0.f1))) (fun _ hk => hk.2) (.int .i64 ((rd_T23 t160 (ji15)).f0))) (fun _ hk => hk.2) (.int .i64 ((rd_T23 t160 (ji15)).f1))) (fun _ hk => trivial)⟩, ⟨kr HQ24⟩, ⟨bl HB⟩⟩
                      · rw [if_neg c16] at H
                        exact absurd H (by simp)
                    · rw [if_neg c14] at H
                      have c14b0 : (((rd_T25 x4_1 (ji11)).f1.f0) == ((rd_T23 t160 x5_1).f0) && (((rd_T25 x4_1 (ji11)).f1.f1) == ((rd_T23 t160 x5_1).f1))) = false := by simpa using c14
                      (try (have c14b1 : decide (((rd_T25 x4_1 (ji11)).f1.f0) = ((rd_T23 t160 x5_1).f0) && (((rd_T25 x4_1 (ji11)).f1.f1) == ((rd_T23 t160 x5_1).f1))) = false := by simpa using c14))
                      (try (have c14b2 : (((rd_T25 x4_1 (ji11)).f1.f0) == ((rd_T23 t160 x5_1).f0) && (((rd_T25 x4_1 (ji11)).f1.f1) == ((rd_T23 t160 x5_1).f1))) = false := by simpa using c14))
                      (try (have c14b3 : ¬ (((rd_T25 x4_1 (ji11)).f1.f0) = ((rd_T23 t160 x5_1).f0) && (((rd_T25 x4_1 (ji11)).f1.f1) == ((rd_T23 t160 x5_1).f1))) := by simpa using c14))
                      clear c14
                      obtain ⟨ji25, hji25⟩ : ∃ j_ : Int, (wrap64 (x5_1 + 1)) = j_ := ⟨_, rfl⟩
                      replace H : (if 0 ≤ (ji25) then (if x4_1.length < 4398046511104 then (bocageref03_List.l0 k1 l0 t160 (x4_1 ++ [(⟨(⟨(rd_T23 t160 x5_1).f0, (rd_T23 t160 x5_1).f1⟩ : S23), (⟨(rd_T23 t160 (ji25)).f0, (rd_T23 t160 (ji25)).f1⟩ : S23)⟩ : S25)]) ji25) else (none)) else (none)) = some r := by first | (rw [hji25] at H; exact H) | (simp only [hji25] at H ⊢; exact H)
                      (try rw [hji25] at c4b0)
                      (try rw [hji25] at A7)
                      (try rw [hji25] at A8)
                      have hji25w : (IntKind.i64.wrap (x5_1 + 1)) = ji25 := (i64_w _).trans hji25
                      by_cases c26 : 0 ≤ (ji25)
                      · rw [if_pos c26] at H
                        have c26b0 : decide (0 ≤ (ji25)) = true := decide_eq_true c26
                        clear c26
                        by_cases c27 : x4_1.length < 4398046511104
                        · rw [if_pos c27] at H
                          have LMc27 := Aside0.mk c27
                          clear c27
                          obtain ⟨y174, hy174⟩ : ∃ y_ : List (S25), y_ = (x4_1 ++ [(⟨(⟨(rd_T23 t160 x5_1).f0, (rd_T23 t160 x5_1).f1⟩ : S23), (⟨(rd_T23 t160 (ji25)).f0, (rd_T23 t160 (ji25)).f1⟩ : S23)⟩ : S25)]) := ⟨_, rfl⟩
                          replace H : (bocageref03_List.l0 k1 l0 t160 y174 ji25) = some r := by first | (rw [hy174]; with_reducible exact H) | (have H2_ := (Option.bind_some _ _).symm.trans H; rw [hy174]; with_reducible exact H2_) | (have H2_ := (Option.bind_some _ _).symm.trans H; with_reducible exact H2_) | with_reducible exact H | (rw [hy174]; exact H) | exact H
                          have Ny174 := Aside0.mk hy174
                          clear hy174
                          have H' := Aside0.mk H
                          clear H
                          obtain ⟨Ao28, co28, eo28⟩ := Kd.R_slice HO_3.out
                          subst eo28
                          have p163 : 0 ≤ (x5_1 : Int) := of_decide_eq_true (by first | (with_reducible assumption) | assumption)
                          have q163 : x5_1 < (t160.length : Int) := of_decide_eq_true (by first | (with_reducible assumption) | assumption)
                          obtain ⟨ad163, e163, hx163_0, hx163_1⟩ := at_T23 (Kd.R_reads' HO_3.out).2.2 x5_1 p163 q163
                          cases e163
                          replace p163 := eq_true p163
                          replace q163 := eq_true q163
                          try go_wp2_with (first | ((with_reducible refine gate_callee (f := 32) rfl ?_); refine gol (some 23) Try.func32 #[.agg #[.int .i64 ((rd_T23 t160 x5_1).f0), .int .i64 ((rd_T23 t160 x5_1).f1)]] ?_; (with_reducible refine (bocageref02_Next.calls k1 ((rd_T23 t160 x5_1).f0) ((rd_T23 t160 x5_1).f1) t164 t165 _ A7.out).mono ?_); rintro e w29 ⟨rfl, hb⟩; refine ⟨_, rfl, ?_⟩; replace HO_3 := krb HO_3 hb; replace HO_4 := krb HO_4 hb; replace HB := bst HB hb; (try clear hb); (try clear hb2); (try clear hk); (try clear hi)) | ((with_reducible refine gate_callee (f := 42) rfl ?_); refine gol (some 28) Try.func42 #[.slice A0 l0.length c0, .int .i64 t164] ?_; (with_reducible refine (bocageref03_Any.calls k1 _ _ l0 t164 true _ ?side1 ?side2 A8.out).mono ?_); (case side1 => repeat (first | exact (Kd.C_below HR0.out HB.out) | (with_reducible refine Kd.C_alloc ?_ _) | (with_reducible refine Kd.C_drewN ?_ _) | (with_reducible refine Kd.C_drew ?_))); (case side2 => exact HC0.out); rintro e w30 ⟨rfl, hb⟩; refine ⟨_, rfl, ?_⟩; replace HO_3 := krb HO_3 hb; replace HO_4 := krb HO_4 hb; replace HB := bst HB hb; (try clear hb); (try clear hb2); (try clear hk); (try clear hi); obtain ⟨Ao31, co31, eo31⟩ := Kd.R_slice HO_4.out; subst eo31))
                          replace HO_3 := Aside0.mk (Kd.R_drew HO_3.out)
                          replace HO_4 := Aside0.mk (Kd.R_drew HO_4.out)
                          replace HB := Aside0.mk (below_drew1 HB.out)
                          have p167 : 0 ≤ ((ji11) : Int) := of_decide_eq_true (by first | (with_reducible assumption) | assumption)
                          have q167 : (ji11) < (x4_1.length : Int) := of_decide_eq_true (by first | (with_reducible assumption) | assumption)
                          obtain ⟨ad167, e167, hx167_0, hx167_1, hx167_2, hx167_3⟩ := at_T25 (Kd.R_reads' HO_4.out).2.2 (ji11) p167 q167
                          cases e167
                          replace p167 := eq_true p167
                          replace q167 := eq_true q167
                          have p168 : 0 ≤ (x5_1 : Int) := of_decide_eq_true (by first | (with_reducible assumption) | assumption)
                          have q168 : x5_1 < (t160.length : Int) := of_decide_eq_true (by first | (with_reducible assumption) | assumption)
                          obtain ⟨ad168, e168, hx168_0, hx168_1⟩ := at_T23 (Kd.R_reads' HO_3.out).2.2 x5_1 p168 q168
                          obtain rfl : ad163 = ad168 := (by injection e168)
                          replace p168 := eq_true p168
                          replace q168 := eq_true q168
                          refine start_ (n := 14) (S := fun w' => w'.cell? (ad167.add (((ji11)).toNat * 4)) = some (.int .i64 ((rd_T25 x4_1 (ji11)).f0.f0)) ∧ w'.cell? ⟨(ad167.add (((ji11)).toNat * 4)).block, (ad167.add (((ji11)).toNat * 4)).off + 1, none⟩ = some (.int .i64 ((rd_T25 x4_1 (ji11)).f0.f1)) ∧ w'.cell? ⟨(ad167.add (((ji11)).toNat * 4)).block, (ad167.add (((ji11)).toNat * 4)).off + 2, none⟩ = some (.int .i64 ((rd_T25 x4_1 (ji11)).f1.f0)) ∧ w'.cell? ⟨(ad167.add (((ji11)).toNat * 4)).block, (ad167.add (((ji11)).toNat * 4)).off + 3, none⟩ = some (.int .i64 ((rd_T25 x4_1 (ji11)).f1.f1)) ∧ w'.cell? (ad163.add ((x5_1).toNat * 2)) = some (.int .i64 ((rd_T23 t160 x5_1).f0)) ∧ w'.cell? ⟨(ad163.add ((x5_1).toNat * 2)).block, (ad163.add ((x5_1).toNat * 2)).off + 1, none⟩ = some (.int .i64 ((rd_T23 t160 x5_1).f1))) (ds := []) #[false, false, false, false, false, false, false, false, false, false, false, false, false, false] (by kernel_rfl) rfl rfl ⟨hx167_0, hx167_1, hx167_2, hx167_3, hx168_0, hx168_1⟩ (fun hHeld => ?_); refine with_tabW bocageref03_List.tab9 bocageref03_List.bits9 (fun HT_ HW_ => ?_)
                          generalize w30.drew = w32 at HO_3 HO_4 HB hx167_0 hx167_1 hx167_2 hx167_3 hx168_0 hx168_1 hHeld ⊢
                          refine pu 0 (some 33) #[true, false, false, false, false, false, false, false, false, false, false, false, false, false] (any_of HT_.out (by kernel_rfl)) ?_
                          refine pu 1 (some 34) #[true, true, false, false, false, false, false, false, false, false, false, false, false, false] (any_of HT_.out (by kernel_rfl)) ?_
                          refine pu 2 (some 35) #[true, true, true, false, false, false, false, false, false, false, false, false, false, false] (any_of HT_.out (by kernel_rfl)) ?_
                          refine pu 3 (some 36) #[true, true, true, true, false, false, false, false, false, false, false, false, false, false] (any_of HT_.out (by kernel_rfl)) ?_
                          refine pu 4 (some 37) #[true, true, true, true, true, false, false, false, false, false, false, false, false, false] (any_of HT_.out (by kernel_rfl)) ?_
                          refine pu 5 (some 38) #[true, true, true, true, true, true, false, false, false, false, false, false, false, false] (any_of HT_.out (by kernel_rfl)) ?_
                          refine pu 6 (some 39) #[true, true, true, true, true, true, true, false, false, false, false, false, false, false] (any_of HT_.out (by kernel_rfl)) ?_
                          refine pu 8 (some 41) #[true, true, true, true, true, true, true, false, true, false, false, false, false, false] (any_of HT_.out (by kernel_rfl)) ?_
                          refine pu 9 (some 42) #[true, true, true, true, true, true, true, false, true, true, false, false, false, false] (any_of HT_.out (by kernel_rfl)) ?_
                          refine pu 10 (some 43) #[true, true, true, true, true, true, true, false, true, true, true, false, false, false] (any_of HT_.out (by kernel_rfl)) ?_
                          refine tk6 7 (some 40) #[true, true, true, true, true, true, true, true, true, true, true, false, false, false] (take_ofW HT_.out HW_.out (by kernel_rfl)) hHeld ?_
                          refine tk6 11 (some 44) #[true, true, true, true, true, true, true, true, true, true, true, true, false, false] (take_ofW HT_.out HW_.out (by kernel_rfl)) hHeld ?_
                          refine pu 12 (some 45) #[true, true, true, true, true, true, true, true, true, true, true, true, true, false] (any_of HT_.out (by kernel_rfl)) ?_
                          refine pu 13 (some 46) #[true, true, true, true, true, true, true, true, true, true, true, true, true, true] (any_of HT_.out (by kernel_rfl)) ?_
                          refine done_ (done_of HT_.out (by kernel_rfl)) ?_
                          try go_wp2
                          replace HO_3 := Aside0.mk (Kd.R_drew HO_3.out)
                          replace HO_4 := Aside0.mk (Kd.R_drew HO_4.out)
                          replace HB := Aside0.mk (below_drew1 HB.out)
                          have p172 : 0 ≤ (x5_1 : Int) := of_decide_eq_true (by first | (with_reducible assumption) | assumption)
                          have q172 : x5_1 < (t160.length : Int) := of_decide_eq_true (by first | (with_reducible assumption) | assumption)
                          obtain ⟨ad172, e172, hx172_0, hx172_1⟩ := at_T23 (Kd.R_reads' HO_3.out).2.2 x5_1 p172 q172
                          obtain rfl : ad163 = ad172 := (by injection e172)
                          replace p172 := eq_true p172
                          replace q172 := eq_true q172
                          have p173 : 0 ≤ ((ji25) : Int) := of_decide_eq_true (by first | (with_reducible assumption) | assumption)
                          have q173 : (ji25) < (t160.length : Int) := of_decide_eq_true (by first | (with_reducible assumption) | assumption)
                          obtain ⟨ad173, e173, hx173_0, hx173_1⟩ := at_T23 (Kd.R_reads' HO_3.out).2.2 (ji25) p173 q173
                          obtain rfl : ad163 = ad173 := (by injection e173)
                          replace p173 := eq_true p173
                          replace q173 := eq_true q173
                          refine start_ (n := 14) (S := fun w' => w'.cell? (ad163.add ((x5_1).toNat * 2)) = some (.int .i64 ((rd_T23 t160 x5_1).f0)) ∧ w'.cell? ⟨(ad163.add ((x5_1).toNat * 2)).block, (ad163.add ((x5_1).toNat * 2)).off + 1, none⟩ = some (.int .i64 ((rd_T23 t160 x5_1).f1)) ∧ w'.cell? (ad163.add (((ji25)).toNat * 2)) = some (.int .i64 ((rd_T23 t160 (ji25)).f0)) ∧ w'.cell? ⟨(ad163.add (((ji25)).toNat * 2)).block, (ad163.add (((ji25)).toNat * 2)).off + 1, none⟩ = some (.int .i64 ((rd_T23 t160 (ji25)).f1))) (ds := [11, 12]) #[false, false, false, false, false, false, false, false, false, false, false, false, false, false] (by kernel_rfl) rfl rfl ⟨hx172_0, hx172_1, hx173_0, hx173_1⟩ (fun hHeld => ?_); refine with_tabW bocageref03_List.tab11 bocageref03_List.bits11 (fun HT_ HW_ => ?_)
                          generalize w32.drew = w33 at HO_3 HO_4 HB hx172_0 hx172_1 hx173_0 hx173_1 hHeld ⊢
                          refine pu 0 (some 61) #[true, false, false, false, false, false, false, false, false, false, false, false, false, false] (any_of HT_.out (by kernel_rfl)) ?_
                          refine pu 1 (some 62) #[true, true, false, false, false, false, false, false, false, false, false, false, false, false] (any_of HT_.out (by kernel_rfl)) ?_
                          refine pu 2 (some 63) #[true, true, true, false, false, false, false, false, false, false, false, false, false, false] (any_of HT_.out (by kernel_rfl)) ?_
                          refine pu 3 (some 64) #[true, true, true, true, false, false, false, false, false, false, false, false, false, false] (any_of HT_.out (by kernel_rfl)) ?_
                          refine pu 5 (some 66) #[true, true, true, true, false, true, false, false, false, false, false, false, false, false] (any_of HT_.out (by kernel_rfl)) ?_
                          refine pu 6 (some 67) #[true, true, true, true, false, true, true, false, false, false, false, false, false, false] (any_of HT_.out (by kernel_rfl)) ?_
                          refine pu 7 (some 68) #[true, true, true, true, false, true, true, true, false, false, false, false, false, false] (any_of HT_.out (by kernel_rfl)) ?_
                          refine pu 8 (some 69) #[true, true, true, true, false, true, true, true, true, false, false, false, false, false] (any_of HT_.out (by kernel_rfl)) ?_
                          refine tk4 4 (some 65) #[true, true, true, true, true, true, true, true, true, false, false, false, false, false] (take_ofW HT_.out HW_.out (by kernel_rfl)) hHeld ?_
                          refine tk4 9 (some 70) #[true, true, true, true, true, true, true, true, true, true, false, false, false, false] (take_ofW HT_.out HW_.out (by kernel_rfl)) hHeld ?_
                          refine pu 10 (some 71) #[true, true, true, true, true, true, true, true, true, true, true, false, false, false] (any_of HT_.out (by kernel_rfl)) ?_
                          refine last_ (i := 11) (N := some 72) #[true, true, true, true, true, true, true, true, true, true, true, true, false, false] rfl rfl (one_of HT_.out (by kernel_rfl)) (by decide) (fun K hK => ?_)
                          refine value_ (w1 := ?_) (v := ?_) (by rfl) rfl ?_ ?_
                          rotate_left 2
                          · go_simp
                            constructor
                            · rfl
                            · rfl
                          refine hK.out _ _ ?_
                          clear hK K
                          refine nrp 72 ?_
                          refine last_ (i := 12) (N := some 73) #[true, true, true, true, true, true, true, true, true, true, true, true, true, false] rfl rfl (one_of HT_.out (by kernel_rfl)) (by decide) (fun K hK => ?_)
                          refine Kd.R_append_step k25 (w0 := w) w.heap.size (by rfl) (.tmp 61) (.tmp 72) 26 25 (.agg #[(.int .i64 0), (.int .i64 0), (.int .i64 0), (.int .i64 0)]) 32 rfl Try.underlying26 info25 rfl (by decide) (by omega) (.slice (some ad167) x4_1.length co31) x4_1 (⟨(⟨(rd_T23 t160 x5_1).f0, (rd_T23 t160 x5_1).f1⟩ : S23), (⟨(rd_T23 t160 (ji25)).f0, (rd_T23 t160 (ji25)).f1⟩ : S23)⟩ : S25) [.int .i64 ((rd_T23 t160 x5_1).f0), .int .i64 ((rd_T23 t160 x5_1).f1), .int .i64 ((rd_T23 t160 (ji25)).f0), .int .i64 ((rd_T23 t160 (ji25)).f1)] (fun _ => True) (fun _ => False) rfl rfl ?aP (fun _ hk => hk.elim) ?aF ?aO ?aB ?aS ?aL ?_
                          (case aP => exact k25_mkM _ _ _ (⟨(⟨(rd_T23 t160 x5_1).f0, (rd_T23 t160 x5_1).f1⟩ : S23), (⟨(rd_T23 t160 (ji25)).f0, (rd_T23 t160 (ji25)).f1⟩ : S23)⟩ : S25))
                          (case aB => exact (bl HB))
                          (case aF => exact (fun _ _ => trivial))
                          (case aO => exact (kr HO_4))
                          (case aS => exact (below_size (bl HB)))
                          (case aL => have := LMc27.out; omega)
                          intro v175 w34 ho hb hg hat
                          rw [← Ny174.out] at ho
                          replace HO_3 := Aside0.mk (Kd.R_over' (kr HO_3) (Kd.R_typed (kr HO_4)) (by decide) hg)
                          replace HB := Aside0.mk (hb)
                          have HO176 := Aside0.mk (ho)
                          clear HO_4
                          clear ho hb hg hat
                          refine hK.out _ _ ?_
                          clear hK K
                          refine nrp 73 ?_
                          refine pu 13 (some 4) #[true, true, true, true, true, true, true, true, true, true, true, true, true, true] (any_of HT_.out (by kernel_rfl)) ?_
                          refine done_ (done_of HT_.out (by kernel_rfl)) ?_
                          try go_wp2
                          go_roundg k1
                          case measure => have := HK1.out; omega
                          case rel => exact ⟨(y174), (ji25), (by first | rfl | (simp; done) | (simp only [← hji25] <;> (first | rfl | simp)) | (simp [*]; done)), H', ⟨by have := HK1.out; omega⟩, ⟨kr HO_3⟩, ⟨kr HO176⟩, ⟨bl HB⟩⟩
                        · rw [if_neg c27] at H
                          exact absurd H (by simp)
                      · rw [if_neg c26] at H
                        exact absurd H (by simp)
                  · rw [if_neg c13] at H
                    exact absurd H (by simp)
                · rw [if_neg c12] at H
                  exact absurd H (by simp)
              · rw [if_neg c10] at H
                have c10b0 : decide (0 ≤ (wrap64 ((x4_1.length : Int) - 1))) = false := decide_eq_false c10
                clear c10
                obtain ⟨ji35, hji35⟩ : ∃ j_ : Int, (wrap64 (x5_1 + 1)) = j_ := ⟨_, rfl⟩
                replace H : (if 0 ≤ (ji35) then (if x4_1.length < 4398046511104 then (bocageref03_List.l0 k1 l0 t160 (x4_1 ++ [(⟨(⟨(rd_T23 t160 x5_1).f0, (rd_T23 t160 x5_1).f1⟩ : S23), (⟨(rd_T23 t160 (ji35)).f0, (rd_T23 t160 (ji35)).f1⟩ : S23)⟩ : S25)]) ji35) else (none)) else (none)) = some r := by first | (rw [hji35] at H; exact H) | (simp only [hji35] at H ⊢; exact H)
                (try rw [hji35] at c4b0)
                (try rw [hji35] at A7)
                (try rw [hji35] at A8)
                have hji35w : (IntKind.i64.wrap (x5_1 + 1)) = ji35 := (i64_w _).trans hji35
                by_cases c36 : 0 ≤ (ji35)
                · rw [if_pos c36] at H
                  have c36b0 : decide (0 ≤ (ji35)) = true := decide_eq_true c36
                  clear c36
                  by_cases c37 : x4_1.length < 4398046511104
                  · rw [if_pos c37] at H
                    have LMc37 := Aside0.mk c37
                    clear c37
                    obtain ⟨y179, hy179⟩ : ∃ y_ : List (S25), y_ = (x4_1 ++ [(⟨(⟨(rd_T23 t160 x5_1).f0, (rd_T23 t160 x5_1).f1⟩ : S23), (⟨(rd_T23 t160 (ji35)).f0, (rd_T23 t160 (ji35)).f1⟩ : S23)⟩ : S25)]) := ⟨_, rfl⟩
                    replace H : (bocageref03_List.l0 k1 l0 t160 y179 ji35) = some r := by first | (rw [hy179]; with_reducible exact H) | (have H2_ := (Option.bind_some _ _).symm.trans H; rw [hy179]; with_reducible exact H2_) | (have H2_ := (Option.bind_some _ _).symm.trans H; with_reducible exact H2_) | with_reducible exact H | (rw [hy179]; exact H) | exact H
                    have Ny179 := Aside0.mk hy179
                    clear hy179
                    have H' := Aside0.mk H
                    clear H
                    obtain ⟨Ao38, co38, eo38⟩ := Kd.R_slice HO_3.out
                    subst eo38
                    have p163 : 0 ≤ (x5_1 : Int) := of_decide_eq_true (by first | (with_reducible assumption) | assumption)
                    have q163 : x5_1 < (t160.length : Int) := of_decide_eq_true (by first | (with_reducible assumption) | assumption)
                    obtain ⟨ad163, e163, hx163_0, hx163_1⟩ := at_T23 (Kd.R_reads' HO_3.out).2.2 x5_1 p163 q163
                    cases e163
                    replace p163 := eq_true p163
                    replace q163 := eq_true q163
                    try go_wp2_with (first | ((with_reducible refine gate_callee (f := 32) rfl ?_); refine gol (some 23) Try.func32 #[.agg #[.int .i64 ((rd_T23 t160 x5_1).f0), .int .i64 ((rd_T23 t160 x5_1).f1)]] ?_; (with_reducible refine (bocageref02_Next.calls k1 ((rd_T23 t160 x5_1).f0) ((rd_T23 t160 x5_1).f1) t164 t165 _ A7.out).mono ?_); rintro e w39 ⟨rfl, hb⟩; refine ⟨_, rfl, ?_⟩; replace HO_3 := krb HO_3 hb; replace HO_4 := krb HO_4 hb; replace HB := bst HB hb; (try clear hb); (try clear hb2); (try clear hk); (try clear hi)) | ((with_reducible refine gate_callee (f := 42) rfl ?_); refine gol (some 28) Try.func42 #[.slice A0 l0.length c0, .int .i64 t164] ?_; (with_reducible refine (bocageref03_Any.calls k1 _ _ l0 t164 true _ ?side1 ?side2 A8.out).mono ?_); (case side1 => repeat (first | exact (Kd.C_below HR0.out HB.out) | (with_reducible refine Kd.C_alloc ?_ _) | (with_reducible refine Kd.C_drewN ?_ _) | (with_reducible refine Kd.C_drew ?_))); (case side2 => exact HC0.out); rintro e w40 ⟨rfl, hb⟩; refine ⟨_, rfl, ?_⟩; replace HO_3 := krb HO_3 hb; replace HO_4 := krb HO_4 hb; replace HB := bst HB hb; (try clear hb); (try clear hb2); (try clear hk); (try clear hi); obtain ⟨Ao41, co41, eo41⟩ := Kd.R_slice HO_4.out; subst eo41))
                    replace HO_3 := Aside0.mk (Kd.R_drew HO_3.out)
                    replace HO_4 := Aside0.mk (Kd.R_drew HO_4.out)
                    replace HB := Aside0.mk (below_drew1 HB.out)
                    refine start_ (n := 14) (S := fun w' => True) (ds := []) #[false, false, false, false, false, false, false, false, false, false, false, false, false, false] (by kernel_rfl) rfl rfl trivial (fun hHeld => ?_); refine with_tabW bocageref03_List.tab9 bocageref03_List.bits9 (fun HT_ HW_ => ?_)
                    generalize w40.drew = w42 at HO_3 HO_4 HB hHeld ⊢
                    refine pu 0 (some 33) #[true, false, false, false, false, false, false, false, false, false, false, false, false, false] (any_of HT_.out (by kernel_rfl)) ?_
                    refine pu 1 (some 34) #[true, true, false, false, false, false, false, false, false, false, false, false, false, false] (any_of HT_.out (by kernel_rfl)) ?_
                    refine pu 2 (some 35) #[true, true, true, false, false, false, false, false, false, false, false, false, false, false] (any_of HT_.out (by kernel_rfl)) ?_
                    refine pv 3 (some 36) #[true, true, true, true, false, false, false, false, false, false, false, false, false, false] (any_of HT_.out (by kernel_rfl)) ?_
                    refine pv 4 (some 37) #[true, true, true, true, true, false, false, false, false, false, false, false, false, false] (any_of HT_.out (by kernel_rfl)) ?_
                    refine pv 5 (some 38) #[true, true, true, true, true, true, false, false, false, false, false, false, false, false] (any_of HT_.out (by kernel_rfl)) ?_
                    refine pv 6 (some 39) #[true, true, true, true, true, true, true, false, false, false, false, false, false, false] (any_of HT_.out (by kernel_rfl)) ?_
                    refine pv 7 (some 40) #[true, true, true, true, true, true, true, true, false, false, false, false, false, false] (any_of HT_.out (by kernel_rfl)) ?_
                    refine pv 8 (some 41) #[true, true, true, true, true, true, true, true, true, false, false, false, false, false] (any_of HT_.out (by kernel_rfl)) ?_
                    refine pv 9 (some 42) #[true, true, true, true, true, true, true, true, true, true, false, false, false, false] (any_of HT_.out (by kernel_rfl)) ?_
                    refine pv 10 (some 43) #[true, true, true, true, true, true, true, true, true, true, true, false, false, false] (any_of HT_.out (by kernel_rfl)) ?_
                    refine pv 11 (some 44) #[true, true, true, true, true, true, true, true, true, true, true, true, false, false] (any_of HT_.out (by kernel_rfl)) ?_
                    refine pv 12 (some 45) #[true, true, true, true, true, true, true, true, true, true, true, true, true, false] (any_of HT_.out (by kernel_rfl)) ?_
                    refine pu 13 (some 46) #[true, true, true, true, true, true, true, true, true, true, true, true, true, true] (any_of HT_.out (by kernel_rfl)) ?_
                    refine done_ (done_of HT_.out (by kernel_rfl)) ?_
                    try go_wp2
                    replace HO_3 := Aside0.mk (Kd.R_drew HO_3.out)
                    replace HO_4 := Aside0.mk (Kd.R_drew HO_4.out)
                    replace HB := Aside0.mk (below_drew1 HB.out)
                    have p177 : 0 ≤ (x5_1 : Int) := of_decide_eq_true (by first | (with_reducible assumption) | assumption)
                    have q177 : x5_1 < (t160.length : Int) := of_decide_eq_true (by first | (with_reducible assumption) | assumption)
                    obtain ⟨ad177, e177, hx177_0, hx177_1⟩ := at_T23 (Kd.R_reads' HO_3.out).2.2 x5_1 p177 q177
                    obtain rfl : ad163 = ad177 := (by injection e177)
                    replace p177 := eq_true p177
                    replace q177 := eq_true q177
                    have p178 : 0 ≤ ((ji35) : Int) := of_decide_eq_true (by first | (with_reducible assumption) | assumption)
                    have q178 : (ji35) < (t160.length : Int) := of_decide_eq_true (by first | (with_reducible assumption) | assumption)
                    obtain ⟨ad178, e178, hx178_0, hx178_1⟩ := at_T23 (Kd.R_reads' HO_3.out).2.2 (ji35) p178 q178
                    obtain rfl : ad163 = ad178 := (by injection e178)
                    replace p178 := eq_true p178
                    replace q178 := eq_true q178
                    refine start_ (n := 14) (S := fun w' => w'.cell? (ad163.add ((x5_1).toNat * 2)) = some (.int .i64 ((rd_T23 t160 x5_1).f0)) ∧ w'.cell? ⟨(ad163.add ((x5_1).toNat * 2)).block, (ad163.add ((x5_1).toNat * 2)).off + 1, none⟩ = some (.int .i64 ((rd_T23 t160 x5_1).f1)) ∧ w'.cell? (ad163.add (((ji35)).toNat * 2)) = some (.int .i64 ((rd_T23 t160 (ji35)).f0)) ∧ w'.cell? ⟨(ad163.add (((ji35)).toNat * 2)).block, (ad163.add (((ji35)).toNat * 2)).off + 1, none⟩ = some (.int .i64 ((rd_T23 t160 (ji35)).f1))) (ds := [11, 12]) #[false, false, false, false, false, false, false, false, false, false, false, false, false, false] (by kernel_rfl) rfl rfl ⟨hx177_0, hx177_1, hx178_0, hx178_1⟩ (fun hHeld => ?_); refine with_tabW bocageref03_List.tab11 bocageref03_List.bits11 (fun HT_ HW_ => ?_)
                    generalize w42.drew = w43 at HO_3 HO_4 HB hx177_0 hx177_1 hx178_0 hx178_1 hHeld ⊢
                    refine pu 0 (some 61) #[true, false, false, false, false, false, false, false, false, false, false, false, false, false] (any_of HT_.out (by kernel_rfl)) ?_
                    refine pu 1 (some 62) #[true, true, false, false, false, false, false, false, false, false, false, false, false, false] (any_of HT_.out (by kernel_rfl)) ?_
                    refine pu 2 (some 63) #[true, true, true, false, false, false, false, false, false, false, false, false, false, false] (any_of HT_.out (by kernel_rfl)) ?_
                    refine pu 3 (some 64) #[true, true, true, true, false, false, false, false, false, false, false, false, false, false] (any_of HT_.out (by kernel_rfl)) ?_
                    refine pu 5 (some 66) #[true, true, true, true, false, true, false, false, false, false, false, false, false, false] (any_of HT_.out (by kernel_rfl)) ?_
                    refine pu 6 (some 67) #[true, true, true, true, false, true, true, false, false, false, false, false, false, false] (any_of HT_.out (by kernel_rfl)) ?_
                    refine pu 7 (some 68) #[true, true, true, true, false, true, true, true, false, false, false, false, false, false] (any_of HT_.out (by kernel_rfl)) ?_
                    refine pu 8 (some 69) #[true, true, true, true, false, true, true, true, true, false, false, false, false, false] (any_of HT_.out (by kernel_rfl)) ?_
                    refine tk4 4 (some 65) #[true, true, true, true, true, true, true, true, true, false, false, false, false, false] (take_ofW HT_.out HW_.out (by kernel_rfl)) hHeld ?_
                    refine tk4 9 (some 70) #[true, true, true, true, true, true, true, true, true, true, false, false, false, false] (take_ofW HT_.out HW_.out (by kernel_rfl)) hHeld ?_
                    refine pu 10 (some 71) #[true, true, true, true, true, true, true, true, true, true, true, false, false, false] (any_of HT_.out (by kernel_rfl)) ?_
                    refine last_ (i := 11) (N := some 72) #[true, true, true, true, true, true, true, true, true, true, true, true, false, false] rfl rfl (one_of HT_.out (by kernel_rfl)) (by decide) (fun K hK => ?_)
                    refine value_ (w1 := ?_) (v := ?_) (by rfl) rfl ?_ ?_
                    rotate_left 2
                    · go_simp
                      constructor
                      · rfl
                      · rfl
                    refine hK.out _ _ ?_
                    clear hK K
                    refine nrp 72 ?_
                    refine last_ (i := 12) (N := some 73) #[true, true, true, true, true, true, true, true, true, true, true, true, true, false] rfl rfl (one_of HT_.out (by kernel_rfl)) (by decide) (fun K hK => ?_)
                    refine Kd.R_append_step k25 (w0 := w) w.heap.size (by rfl) (.tmp 61) (.tmp 72) 26 25 (.agg #[(.int .i64 0), (.int .i64 0), (.int .i64 0), (.int .i64 0)]) 32 rfl Try.underlying26 info25 rfl (by decide) (by omega) (.slice Ao41 x4_1.length co41) x4_1 (⟨(⟨(rd_T23 t160 x5_1).f0, (rd_T23 t160 x5_1).f1⟩ : S23), (⟨(rd_T23 t160 (ji35)).f0, (rd_T23 t160 (ji35)).f1⟩ : S23)⟩ : S25) [.int .i64 ((rd_T23 t160 x5_1).f0), .int .i64 ((rd_T23 t160 x5_1).f1), .int .i64 ((rd_T23 t160 (ji35)).f0), .int .i64 ((rd_T23 t160 (ji35)).f1)] (fun _ => True) (fun _ => False) rfl rfl ?aP (fun _ hk => hk.elim) ?aF ?aO ?aB ?aS ?aL ?_
                    (case aP => exact k25_mkM _ _ _ (⟨(⟨(rd_T23 t160 x5_1).f0, (rd_T23 t160 x5_1).f1⟩ : S23), (⟨(rd_T23 t160 (ji35)).f0, (rd_T23 t160 (ji35)).f1⟩ : S23)⟩ : S25))
                    (case aB => exact (bl HB))
                    (case aF => exact (fun _ _ => trivial))
                    (case aO => exact (kr HO_4))
                    (case aS => exact (below_size (bl HB)))
                    (case aL => have := LMc37.out; omega)
                    intro v180 w44 ho hb hg hat
                    rw [← Ny179.out] at ho
                    replace HO_3 := Aside0.mk (Kd.R_over' (kr HO_3) (Kd.R_typed (kr HO_4)) (by decide) hg)
                    replace HB := Aside0.mk (hb)
                    have HO181 := Aside0.mk (ho)
                    clear HO_4
                    clear ho hb hg hat
                    refine hK.out _ _ ?_
                    clear hK K
                    refine nrp 73 ?_
                    refine pu 13 (some 4) #[true, true, true, true, true, true, true, true, true, true, true, true, true, true] (any_of HT_.out (by kernel_rfl)) ?_
                    refine done_ (done_of HT_.out (by kernel_rfl)) ?_
                    try go_wp2
                    go_roundg k1
                    case measure => have := HK1.out; omega
                    case rel => exact ⟨(y179), (ji35), (by first | rfl | (simp; done) | (simp only [← hji35] <;> (first | rfl | simp)) | (simp [*]; done)), H', ⟨by have := HK1.out; omega⟩, ⟨kr HO_3⟩, ⟨kr HO181⟩, ⟨bl HB⟩⟩
                  · rw [if_neg c37] at H
                    exact absurd H (by simp)
                · rw [if_neg c36] at H
                  exact absurd H (by simp)
            · replace c9 := Bool.eq_false_iff.mpr c9
              subst c9
              have H1 : (bocageref03_List.l0 k1 l0 t160 x4_1 (wrap64 (x5_1 + 1))) = some r := by rw [if_neg (show ¬ (false = true) by decide)] at H; exact H
              clear H
              have H := H1
              clear H1
              have H' := Aside0.mk H
              clear H
              obtain ⟨Ao45, co45, eo45⟩ := Kd.R_slice HO_3.out
              subst eo45
              have p163 : 0 ≤ (x5_1 : Int) := of_decide_eq_true (by first | (with_reducible assumption) | assumption)
              have q163 : x5_1 < (t160.length : Int) := of_decide_eq_true (by first | (with_reducible assumption) | assumption)
              obtain ⟨ad163, e163, hx163_0, hx163_1⟩ := at_T23 (Kd.R_reads' HO_3.out).2.2 x5_1 p163 q163
              cases e163
              replace p163 := eq_true p163
              replace q163 := eq_true q163
              go_wp2_with (first | ((with_reducible refine gate_callee (f := 32) rfl ?_); refine gol (some 23) Try.func32 #[.agg #[.int .i64 ((rd_T23 t160 x5_1).f0), .int .i64 ((rd_T23 t160 x5_1).f1)]] ?_; (with_reducible refine (bocageref02_Next.calls k1 ((rd_T23 t160 x5_1).f0) ((rd_T23 t160 x5_1).f1) t164 t165 _ A7.out).mono ?_); rintro e w46 ⟨rfl, hb⟩; refine ⟨_, rfl, ?_⟩; replace HO_3 := krb HO_3 hb; replace HO_4 := krb HO_4 hb; replace HB := bst HB hb; (try clear hb); (try clear hb2); (try clear hk); (try clear hi)) | ((with_reducible refine gate_callee (f := 42) rfl ?_); refine gol (some 28) Try.func42 #[.slice A0 l0.length c0, .int .i64 t164] ?_; (with_reducible refine (bocageref03_Any.calls k1 _ _ l0 t164 false _ ?side1 ?side2 A8.out).mono ?_); (case side1 => repeat (first | exact (Kd.C_below HR0.out HB.out) | (with_reducible refine Kd.C_alloc ?_ _) | (with_reducible refine Kd.C_drewN ?_ _) | (with_reducible refine Kd.C_drew ?_))); (case side2 => exact HC0.out); rintro e w47 ⟨rfl, hb⟩; refine ⟨_, rfl, ?_⟩; replace HO_3 := krb HO_3 hb; replace HO_4 := krb HO_4 hb; replace HB := bst HB hb; (try clear hb); (try clear hb2); (try clear hk); (try clear hi)))
              go_roundg k1
              case measure => have := HK1.out; omega
              case rel => exact ⟨(x4_1), (wrap64 (x5_1 + 1)), (by first | rfl | (simp; done) | (simp [*]; done)), H', ⟨by have := HK1.out; omega⟩, ⟨kr HO_3⟩, ⟨kr HO_4⟩, ⟨bl HB⟩⟩
          · rw [if_neg c6] at H
            exact absurd H (by simp)
        · rw [if_neg c5] at H
          exact absurd H (by simp)
      · rw [if_neg c4] at H
        have c4b0 : decide ((wrap64 (x5_1 + 1)) < (t160.length : Int)) = false := decide_eq_false c4
        clear c4
        obtain rfl := Option.some.inj H
        obtain ⟨Ao48, co48, eo48⟩ := Kd.R_slice HO_3.out
        subst eo48
        go_wp2
        go_ret
        exact ⟨_, by first | rfl | (simp [errW_none, errW_some] <;> rfl) | (simp [*, errW_none, errW_some] <;> rfl), by (with_reducible repeat (first | apply Kd.R_alloc | apply Kd.R_drewN | apply Kd.R_drew)); exact HO_4.out, by repeat (first | (with_reducible first | exact HB.out | apply below_alloc | apply pw_below_drewN | apply below_drew1) | exact HB.out)⟩
end
end Go.Proofs.Ytkkbmjfhpngalaa.Print
