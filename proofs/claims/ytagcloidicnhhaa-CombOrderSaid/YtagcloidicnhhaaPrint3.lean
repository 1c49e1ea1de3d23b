-- lie
import Derived.Test.YtagcloidicnhhaaSh
import Derived.Test.YtagcloidicnhhaaPrint0
import Derived.Test.YtagcloidicnhhaaPrint2
namespace Go.Proofs.Ytagcloidicnhhaa.Print
open Go.RowKit Go.Proofs.YtagcloidicnhhaaW.PrintWords Go.Proofs.YtagcloidicnhhaaW.PrintLast Go.Proofs.YtagcloidicnhhaaW.PrintMore
attribute [local go_sem] max2_int min2_int max_two min_two max_three min_three max_four min_four   -- for this text's walks alone
set_option linter.unusedVariables false
set_option linter.unusedSimpArgs false

/-! ### bocageref01_cut: function 34 -/
def bocageref01_cut.l0 : Nat → List Int → Option (List Int)
 | 0, _ => none
 | k + 1, x0 => if (x0.length : Int) > 0 then (if 0 ≤ (wrap64 ((x0.length : Int) - 1)) then (if (wrap64 ((x0.length : Int) - 1)) < (x0.length : Int) then (if (rd x0 (wrap64 ((x0.length : Int) - 1))) = 0 then (if (wrap64 ((x0.length : Int) - 1)) ≤ (x0.length : Int) then (bocageref01_cut.l0 k (x0.take ((wrap64 ((x0.length : Int) - 1)) : Int).toNat)) else (none)) else (some x0)) else (none)) else (none)) else (some x0)
def bocageref01_cut.f (k : Nat) (l0 : List Int) : Option (List Int) := bocageref01_cut.l0 k l0
theorem bocageref01_cut.mono_l : ∀ k, (∀ y0, LeO (bocageref01_cut.l0 k y0) (bocageref01_cut.l0 (k + 1) y0))
 | 0 => fun _ r h => by simp [bocageref01_cut.l0] at h
 | k + 1 => by
  have ih0 := bocageref01_cut.mono_l k
  ·intro y0
   unfold bocageref01_cut.l0
   repeat' first
   | (with_reducible exact ih0 _)
   | (with_reducible exact LeO.refl _)
   | (with_reducible exact LeO.none _)
   | (with_reducible refine LeO.ite ?_ ?_)
   | (with_reducible refine LeO.bind ?_ (fun _ => ?_))
   | exact ih0 _
   | exact LeO.none _
   | refine LeO.ite ?_ ?_
   | refine LeO.bind ?_ (fun _ => ?_)
theorem bocageref01_cut.mono : ∀ a0 k, LeO (bocageref01_cut.f k a0) (bocageref01_cut.f (k + 1) a0) := by
 intro a0 k
 have ih0 := bocageref01_cut.mono_l k
 unfold bocageref01_cut.f
 repeat' first
   | (with_reducible exact ih0 _)
   | (with_reducible exact LeO.refl _)
   | (with_reducible exact LeO.none _)
   | (with_reducible refine LeO.ite ?_ ?_)
   | (with_reducible refine LeO.bind ?_ (fun _ => ?_))
   | exact ih0 _
   | exact LeO.none _
   | refine LeO.ite ?_ ?_
   | refine LeO.bind ?_ (fun _ => ?_)
set_option maxHeartbeats 8000000 in
set_option maxRecDepth 100000 in
theorem bocageref01_cut.calls (k : Nat) (P0_ : Nat → Prop) (A0 : Option Addr) (c0 : Nat) (l0 : List Int) (r : List Int) (w : World) (hs0 : Kd.V (Kd.int .i64) 3 w w.heap.size (fun k_ => P0_ k_) (.slice A0 l0.length c0) l0) (h : bocageref01_cut.f k l0 = some r) :
  Calls Try.prog 34 #[.slice A0 l0.length c0] w fun e w' => ∃ v0_ : Value, e = .returned (v0_) ∧ Kd.V (Kd.int .i64) 3 w' w.heap.size (fun k_ => (P0_ k_ ∨ w.heap.size ≤ k_)) v0_ r ∧ Below w.heap.size w w' := by
 have HO0 := Aside0.mk (show Kd.V (Kd.int .i64) 3 w w.heap.size (fun k_ => (P0_ k_ ∨ w.heap.size ≤ k_)) (.slice A0 l0.length c0) l0 from Kd.V_mono hs0 (fun k_ hk => .inl hk))
 have HB := Aside0.mk (Below.refl w.heap.size w)
 have H : (bocageref01_cut.l0 k l0) = some r := h
 clear h
 have H' := Aside0.mk H
 clear H
 go_enter Try.func34, Try.ntmps34
 go_wp2
 go_loopg [0] k (fun kq v0 w' => ∃ (x0_1 : List Int), Aside0 (bocageref01_cut.l0 kq x0_1 = some r) ∧ Aside0 (kq ≤ k) ∧ Aside0 (Kd.V (Kd.int .i64) 3 w' w.heap.size (fun k_ => (P0_ k_ ∨ w.heap.size ≤ k_)) v0 x0_1) ∧ Aside0 (Below w.heap.size w w'))
 case atStart => exact ⟨(l0), H', ⟨Nat.le_refl _⟩, ⟨by (with_reducible repeat (first | apply Kd.V_alloc | apply Kd.V_drewN | apply Kd.V_drew)); exact HO0.out⟩, ⟨bl HB⟩⟩
 case round =>
  clear H'
  obtain ⟨x0_1, HA, HK1, HO_0, HB⟩ := hrel
  cases gk with
  | zero => exact absurd HA.out (by simp [bocageref01_cut.l0])
  | succ k1 =>
   have H := HA.out
   clear HA
   simp only [bocageref01_cut.l0] at H
   by_cases c2 : (x0_1.length : Int) > 0
   ·rw [if_pos c2] at H
    have c2b0 : decide (0 < (x0_1.length : Int)) = true := decide_eq_true c2
    have c2b1 : decide (0 < x0_1.length) = true := decide_eq_true (by omega)
    clear c2
    obtain ⟨ji3, hji3⟩ : ∃ j_ : Int, (wrap64 ((x0_1.length : Int) - 1)) = j_ := ⟨_, rfl⟩
    replace H : (if 0 ≤ (ji3) then (if (ji3) < (x0_1.length : Int) then (if (rd x0_1 (ji3)) = 0 then (if (ji3) ≤ (x0_1.length : Int) then (bocageref01_cut.l0 k1 (x0_1.take ((ji3) : Int).toNat)) else (none)) else (some x0_1)) else (none)) else (none)) = some r := by first | (rw [hji3] at H; exact H) | (simp only [hji3] at H ⊢; exact H)
    have hji3w : (IntKind.i64.wrap ((x0_1.length : Int) - 1)) = ji3 := (i64_w _).trans hji3
    by_cases c4 : 0 ≤ (ji3)
    ·rw [if_pos c4] at H
     have c4b0 : decide (0 ≤ (ji3)) = true := decide_eq_true c4
     clear c4
     by_cases c5 : (ji3) < (x0_1.length : Int)
     ·rw [if_pos c5] at H
      have c5b0 : decide ((ji3) < (x0_1.length : Int)) = true := decide_eq_true c5
      clear c5
      by_cases c6 : (rd x0_1 (ji3)) = 0
      ·rw [if_pos c6] at H
       have c6b0 : ((rd x0_1 (ji3)) == 0) = true := beq_iff_eq.mpr c6
       have c6b1 : ((rd x0_1 (ji3)) != 0) = false := bne_eq_false_iff_eq.mpr c6
       clear c6
       have c7b0 := eq_true (of_decide_eq_true (by first | (with_reducible assumption) | assumption) : 0 ≤ (ji3))
       by_cases c8 : (ji3) ≤ (x0_1.length : Int)
       ·rw [if_pos c8] at H
        have c8b0 := eq_true c8
        have c8b1 : decide ((ji3) ≤ (x0_1.length : Int)) = true := decide_eq_true c8
        clear c8
        obtain ⟨y140, hy140⟩ : ∃ y_ : List Int, y_ = (x0_1.take ((ji3) : Int).toNat) := ⟨_, rfl⟩
        replace H : (bocageref01_cut.l0 k1 y140) = some r := by first | (rw [hy140]; with_reducible exact H) | (have H2_ := (Option.bind_some _ _).symm.trans H; rw [hy140]; with_reducible exact H2_) | (have H2_ := (Option.bind_some _ _).symm.trans H; with_reducible exact H2_) | with_reducible exact H | (rw [hy140]; exact H) | exact H
        have Ny140 := Aside0.mk hy140
        clear hy140
        have H' := Aside0.mk H
        clear H
        obtain ⟨Ao9, co9, eo9⟩ := Kd.V_slice HO_0.out
        subst eo9
        have p139 : 0 ≤ ((ji3) : Int) := of_decide_eq_true (by first | (with_reducible assumption) | assumption)
        have q139 : (ji3) < (x0_1.length : Int) := of_decide_eq_true (by first | (with_reducible assumption) | assumption)
        obtain ⟨ad139, e139, hx139_0⟩ := Kd.at_int (Kd.V_reads' HO_0.out).2.2 (ji3) p139 q139
        cases e139
        replace p139 := eq_true p139
        replace q139 := eq_true q139
        have q10 : ((ji3) : Int) ≤ ((x0_1.length : Int) : Int) := of_decide_eq_true (by first | (with_reducible assumption) | assumption)
        obtain ⟨i010, hi010, _, hsz10, _⟩ := info_parts info3
        have hroom10 : x0_1.length ≤ co9 := (Kd.V_reads' HO_0.out).2.1
        have hC10 : Kd.F (Kd.int .i64) _ _ (some ad139) x0_1.length x0_1 := (Kd.V_at (base := w.heap.size) HO_0.out).2.2
        have hcut10 := cut_to (P := Try.prog) 37 3 .i64 Try.underlying37 hi010 (some ad139) x0_1.length co9 (ji3) (of_decide_eq_true (by first | (with_reducible assumption) | assumption)) q10 hroom10
        have hr10 := Kd.F_take (m := ((ji3) : Int).toNat) hC10 (by omega)
        have hy10 : y140.length = ((ji3) : Int).toNat := (by rw [Ny140.out, List.length_take]; omega)
        rw [← Ny140.out] at hr10
        rw [← hy10] at hcut10
        have HO144 := Aside0.mk (show Kd.V (Kd.int .i64) 3 _ w.heap.size _ (.slice (some ad139) y140.length co9) y140 from Kd.V_mk (by omega) hr10)
        have HC144 := Aside0.mk (show y140.length ≤ co9 from by omega)
        clear hr10 hC10 hroom10 hi010 hsz10
        have KY10 := Aside0.mk hy10
        clear hy10
        replace q10 := eq_true q10
        go_wp2
        go_roundg k1
        case measure => have := HK1.out; omega
        case rel => exact ⟨(y140), H', ⟨by have := HK1.out; omega⟩, ⟨by (with_reducible repeat (first | apply Kd.V_alloc | apply Kd.V_drewN | apply Kd.V_drew)); exact HO144.out⟩, ⟨bl HB⟩⟩
       ·rw [if_neg c8] at H
        exact absurd H (by simp)
      ·rw [if_neg c6] at H
       have c6b0 : ((rd x0_1 (ji3)) == 0) = false := beq_eq_false_iff_ne.mpr c6
       have c6b1 : ((rd x0_1 (ji3)) != 0) = true := bne_iff_ne.mpr c6
       obtain rfl := Option.some.inj H
       obtain ⟨Ao11, co11, eo11⟩ := Kd.V_slice HO_0.out
       subst eo11
       have p139 : 0 ≤ ((ji3) : Int) := of_decide_eq_true (by first | (with_reducible assumption) | assumption)
       have q139 : (ji3) < (x0_1.length : Int) := of_decide_eq_true (by first | (with_reducible assumption) | assumption)
       obtain ⟨ad139, e139, hx139_0⟩ := Kd.at_int (Kd.V_reads' HO_0.out).2.2 (ji3) p139 q139
       cases e139
       replace p139 := eq_true p139
       replace q139 := eq_true q139
       go_wp2
       go_ret
       exact ⟨_, by first | rfl | (simp [errW_none, errW_some] <;> rfl) | (simp only [← hji3]; first | rfl | (simp [errW_none, errW_some] <;> rfl)) | (simp [*, errW_none, errW_some] <;> rfl), by (with_reducible repeat (first | apply Kd.V_alloc | apply Kd.V_drewN | apply Kd.V_drew)); exact HO_0.out, by repeat (first | (with_reducible first | exact HB.out | apply below_alloc | apply pw_below_drewN | apply below_drew1) | exact HB.out)⟩
     ·rw [if_neg c5] at H
      exact absurd H (by simp)
    ·rw [if_neg c4] at H
     exact absurd H (by simp)
   ·rw [if_neg c2] at H
    have c2b0 : decide (0 < (x0_1.length : Int)) = false := decide_eq_false c2
    have c2b1 : decide (0 < x0_1.length) = false := decide_eq_false (by omega)
    clear c2
    obtain rfl := Option.some.inj H
    obtain ⟨Ao12, co12, eo12⟩ := Kd.V_slice HO_0.out
    subst eo12
    go_wp2
    go_ret
    exact ⟨_, by first | rfl | (simp [errW_none, errW_some] <;> rfl) | (simp [*, errW_none, errW_some] <;> rfl), by (with_reducible repeat (first | apply Kd.V_alloc | apply Kd.V_drewN | apply Kd.V_drew)); exact HO_0.out, by repeat (first | (with_reducible first | exact HB.out | apply below_alloc | apply pw_below_drewN | apply below_drew1) | exact HB.out)⟩

/-! ### bocageref01_Plus: function 26 -/
def bocageref01_Plus.ok (l : List Int) : Bool := l.all (fun d => decide (0 ≤ d) && decide (d ≤ 9)) && decide (l.length ≤ 1000000)
def bocageref01_Plus.add : Nat → List Int → List Int → Int → Nat → List Int
 | 0, _, _, _, _ => []
 | n + 1, a, b, o, i => (a.getD i 0 + b.getD i 0 + o) % 10 :: bocageref01_Plus.add n a b ((a.getD i 0 + b.getD i 0 + o) / 10) (i + 1)
def bocageref01_Plus.sub : Nat → List Int → List Int → Int → Nat → List Int
 | 0, _, _, _, _ => []
 | n + 1, x, y, o, i => if x.getD i 0 - y.getD i 0 - o < 0 then (x.getD i 0 - y.getD i 0 - o + 10) :: bocageref01_Plus.sub n x y 1 (i + 1) else (x.getD i 0 - y.getD i 0 - o) :: bocageref01_Plus.sub n x y 0 (i + 1)
def bocageref01_Plus.less (k : Nat) (s : Int) (x y : List Int) : Option (Int × List Int) := (bocageref01_cut.f k (bocageref01_Plus.sub x.length x y 0 0)).bind fun r => some (if r.length = 0 then 0 else s, r)
def bocageref01_Plus.f (k : Nat) (a0_0 : Int) (l0_1 : List Int) (a1_0 : Int) (l1_1 : List Int) : Option (Int × List Int) :=
 if (bocageref01_Plus.ok l0_1 && bocageref01_Plus.ok l1_1) = true then
  (if a0_0 = 0 then some (a1_0, l1_1) else if a1_0 = 0 then some (a0_0, l0_1)
   else if a0_0 = a1_0 then (bocageref01_cut.f k (bocageref01_Plus.add (l0_1.length + l1_1.length + 1) l0_1 l1_1 0 0)).bind fun r => some (a0_0, r)
   else (bocageref01_more.f k l1_1 l0_1).bind fun m => if m = true then bocageref01_Plus.less k a1_0 l1_1 l0_1 else bocageref01_Plus.less k a0_0 l0_1 l1_1)
 else none
theorem bocageref01_Plus.less_mono (k : Nat) (s : Int) (x y : List Int) : LeO (bocageref01_Plus.less k s x y) (bocageref01_Plus.less (k + 1) s x y) := by
 intro r h
 unfold bocageref01_Plus.less at h ⊢
 obtain ⟨t, h1, h⟩ := Option.bind_eq_some_iff.1 h
 rw [bocageref01_cut.mono _ _ _ h1]
 exact h
theorem bocageref01_Plus.mono : ∀ a0 a1 a2 a3 k, LeO (bocageref01_Plus.f k a0 a1 a2 a3) (bocageref01_Plus.f (k + 1) a0 a1 a2 a3) := by
 intro a0 a1 a2 a3 k r h
 unfold bocageref01_Plus.f at h ⊢
 split
 ·rename_i h1
  rw [if_pos h1] at h
  split
  ·rename_i h2
   rw [if_pos h2] at h
   exact h
  ·rename_i h2
   rw [if_neg h2] at h
   split
   ·rename_i h3
    rw [if_pos h3] at h
    exact h
   ·rename_i h3
    rw [if_neg h3] at h
    split
    ·rename_i h4
     rw [if_pos h4] at h
     obtain ⟨t, h5, h⟩ := Option.bind_eq_some_iff.1 h
     rw [bocageref01_cut.mono _ _ _ h5]
     exact h
    ·rename_i h4
     rw [if_neg h4] at h
     obtain ⟨t, h5, h⟩ := Option.bind_eq_some_iff.1 h
     rw [bocageref01_more.mono _ _ _ _ h5]
     simp only [Option.bind_some]
     split
     ·rename_i h6
      rw [if_pos h6] at h
      exact bocageref01_Plus.less_mono _ _ _ _ r h
     ·rename_i h6
      rw [if_neg h6] at h
      exact bocageref01_Plus.less_mono _ _ _ _ r h
 ·rename_i h1
  rw [if_neg h1] at h
  exact h
theorem bocageref01_Plus.ok_at {l : List Int} (h : bocageref01_Plus.ok l = true) (i : Nat) : 0 ≤ l.getD i 0 ∧ l.getD i 0 ≤ 9 := by
 simp only [bocageref01_Plus.ok, Bool.and_eq_true, List.all_eq_true, decide_eq_true_eq] at h
 by_cases hi : i < l.length
 ·rw [List.getD_eq_getElem?_getD, List.getElem?_eq_getElem hi]
  exact h.1 _ (List.getElem_mem hi)
 ·rw [List.getD_eq_getElem?_getD, List.getElem?_eq_none (by omega)]; simp
theorem bocageref01_Plus.ok_len {l : List Int} (h : bocageref01_Plus.ok l = true) : l.length ≤ 1000000 := by
 simp only [bocageref01_Plus.ok, Bool.and_eq_true, decide_eq_true_eq] at h
 exact h.2
theorem bocageref01_Plus.dig_some (l : List Int) (i : Nat) (h : l.length ≤ 1000000) : bocageref01_digit.f l (i : Int) = some (l.getD i 0) := by
 unfold bocageref01_digit.f
 by_cases hi : (i : Int) < (l.length : Int)
 ·rw [if_pos hi, if_pos (by omega)]; simp [rd]
 ·rw [if_neg hi, List.getD_eq_getElem?_getD, List.getElem?_eq_none (by omega)]; simp
theorem bocageref01_Plus.add_len : ∀ n a b o i, (bocageref01_Plus.add n a b o i).length = n
 | 0, _, _, _, _ => rfl
 | n + 1, a, b, o, i => by simp [bocageref01_Plus.add, bocageref01_Plus.add_len n]
theorem bocageref01_Plus.sub_len : ∀ n a b o i, (bocageref01_Plus.sub n a b o i).length = n
 | 0, _, _, _, _ => rfl
 | n + 1, a, b, o, i => by simp only [bocageref01_Plus.sub]; split <;> simp [bocageref01_Plus.sub_len n]

/-- the call's memory: the two arguments' boxes, the result, the row that is made; other boxes of two cells -/
structure bocageref01_Plus.Inv (w : World) (n : Nat) (s : Int) (va : Value) (t : Int) (vb : Value) (so : Int) (xs : List Int) (wr : World) : Prop where
 ba : wr.heap[w.heap.size]? = some (.cells #[.int .i64 s, va] 39 (0, 0))
 bb : wr.heap[w.heap.size + 1]? = some (.cells #[.int .i64 t, vb] 39 (0, 0))
 br : wr.heap[w.heap.size + 2]? = some (.cells #[.int .i64 0, .slice none 0 0] 39 (0, 0))
 bo : ∃ v, wr.heap[w.heap.size + 3]? = some (.cells #[.int .i64 so, v] 39 (0, 0)) ∧ wr.ownsRow (w.heap.size + n) 3 1 v xs.length (nums .i64 xs)
 bel : Below w.heap.size w wr
 sz : w.heap.size + n ≤ wr.heap.size
theorem bocageref01_Plus.start (w : World) (s : Int) (va : Value) (t : Int) (vb : Value) : bocageref01_Plus.Inv w 4 s va t vb 0 [] ((((w.alloc (.cells #[.int .i64 s, va] 39)).alloc (.cells #[.int .i64 t, vb] 39)).alloc (.cells #[.int .i64 0, .slice none 0 0] 39)).alloc (.cells #[.int .i64 0, .slice none 0 0] 39)) := by
 refine ⟨?_, ?_, ?_, ⟨.slice none 0 0, ?_, World.ownsRow_nil _ _ _ _⟩, ?_, by simp⟩
 ·exact blk_alloc (blk_alloc (blk_alloc (blk_new _ _) _) _) _
 ·have := blk_new (w.alloc (.cells #[.int .i64 s, va] 39)) (.cells #[.int .i64 t, vb] 39)
  rw [show (w.alloc (.cells #[.int .i64 s, va] 39)).heap.size = w.heap.size + 1 by simp] at this
  exact blk_alloc (blk_alloc this _) _
 ·have := blk_new ((w.alloc (.cells #[.int .i64 s, va] 39)).alloc (.cells #[.int .i64 t, vb] 39)) (.cells #[.int .i64 0, .slice none 0 0] 39)
  rw [show ((w.alloc (.cells #[.int .i64 s, va] 39)).alloc (.cells #[.int .i64 t, vb] 39)).heap.size = w.heap.size + 2 by simp] at this
  exact blk_alloc this _
 ·have := blk_new (((w.alloc (.cells #[.int .i64 s, va] 39)).alloc (.cells #[.int .i64 t, vb] 39)).alloc (.cells #[.int .i64 0, .slice none 0 0] 39)) (.cells #[.int .i64 0, .slice none 0 0] 39)
  rw [show (((w.alloc (.cells #[.int .i64 s, va] 39)).alloc (.cells #[.int .i64 t, vb] 39)).alloc (.cells #[.int .i64 0, .slice none 0 0] 39)).heap.size = w.heap.size + 3 by simp] at this
  exact this
 ·exact (((((Below.refl _ w).alloc (Nat.le_refl _) _).alloc (by simp) _).alloc (by simp; omega) _).alloc (by simp; omega) _)
theorem bocageref01_Plus.start6 (w : World) (s : Int) (va : Value) (t : Int) (vb : Value) (O : Obj) (O' : Obj) {W : World} (h : bocageref01_Plus.Inv w 4 s va t vb 0 [] W) (hz : W.heap.size = w.heap.size + 4) (h0 : W.heap[w.heap.size + 3]? = some (.cells #[.int .i64 0, .slice none 0 0] 39 (0, 0))) :
  bocageref01_Plus.Inv w 6 s va t vb 0 [] ((W.alloc O).alloc O') ∧ ((W.alloc O).alloc O').heap[w.heap.size + 4]? = some O ∧ ((W.alloc O).alloc O').heap[w.heap.size + 5]? = some O' := by
 have e1 := blk_new W O
 have e2 := blk_new (W.alloc O) O'
 rw [show (W.alloc O).heap.size = w.heap.size + 5 by simp [hz]] at e2
 rw [hz] at e1
 exact ⟨⟨blk_alloc (blk_alloc h.ba _) _, blk_alloc (blk_alloc h.bb _) _, blk_alloc (blk_alloc h.br _) _, ⟨.slice none 0 0, blk_alloc (blk_alloc h0 _) _, World.ownsRow_nil _ _ _ _⟩, (h.bel.alloc (by omega) _).alloc (by simp; omega) _, by simp; omega⟩, blk_alloc e1 _, e2⟩
theorem bocageref01_Plus.Inv.far {w wr : World} {n : Nat} {s t so : Int} {va vb : Value} (h : bocageref01_Plus.Inv w n s va t vb so [] wr) (h0 : wr.heap[w.heap.size + 3]? = some (.cells #[.int .i64 so, .slice none 0 0] 39 (0, 0))) (b j : Nat) (hb : w.heap.size + 4 ≤ b) (u : Value) :
  bocageref01_Plus.Inv w n s va t vb so [] (wr.setCell ⟨b, j, none⟩ u) ∧ (wr.setCell ⟨b, j, none⟩ u).heap[w.heap.size + 3]? = some (.cells #[.int .i64 so, .slice none 0 0] 39 (0, 0)) := by
 have e := blk_far h0 (p := ⟨b, j, none⟩) (by show w.heap.size + 3 ≠ b; omega) u
 exact ⟨⟨blk_far h.ba (by show w.heap.size ≠ b; omega) _, blk_far h.bb (by show w.heap.size + 1 ≠ b; omega) _, blk_far h.br (by show w.heap.size + 2 ≠ b; omega) _, ⟨_, e, World.ownsRow_nil _ _ _ _⟩, h.bel.setCell (by show w.heap.size ≤ b; omega) _, by simpa using h.sz⟩, e⟩
theorem bocageref01_Plus.Inv.drewN {w wr : World} {n : Nat} {s t so : Int} {va vb : Value} {xs : List Int} (h : bocageref01_Plus.Inv w n s va t vb so xs wr) (m : Nat) : bocageref01_Plus.Inv w n s va t vb so xs (wr.drewN m) := by
 obtain ⟨h1, h2, h3, ⟨v, h4, h5⟩, h6, h7⟩ := h
 exact ⟨h1, h2, h3, ⟨v, h4, pw_own_below h5 (pw_below_drewN (Below.refl _ _) m)⟩, pw_below_drewN h6 m, h7⟩
/-- a digit has been appended, and the row laid back into its field -/
theorem bocageref01_Plus.Inv.push {w wr w1 : World} {n : Nat} {s t so : Int} {va vb v v' : Value} {xs : List Int} {d : Int} {o : Obj} (h : bocageref01_Plus.Inv w n s va t vb so xs wr) (hn : 4 ≤ n)
  (hv : wr.heap[w.heap.size + 3]? = some (.cells #[.int .i64 so, v] 39 (0, 0))) (hown : wr.ownsRow (w.heap.size + n) 3 1 v xs.length (nums .i64 xs))
  (hown' : w1.ownsRow (w.heap.size + n) 3 1 v' (xs.length + 1) (nums .i64 xs ++ [Value.int .i64 d])) (hg : (wr.alloc o).grownBy w1 v.ownBlock) :
  bocageref01_Plus.Inv w n s va t vb so (xs ++ [d]) (w1.setCell ⟨w.heap.size + 3, 1, none⟩ v') ∧ w1.heap[w.heap.size + 3]? = some (.cells #[.int .i64 so, v] 39 (0, 0)) := by
 have hb : ∀ (b : Nat) (cs : Array Value), b < w.heap.size + 4 → wr.heap[b]? = some (.cells cs 39 (0, 0)) → w1.heap[b]? = some (.cells cs 39 (0, 0)) := by
  intro b cs hlt hb
  rw [hg.block b (by have := blk_lt hb; simp; omega) (fun e => by have := (hown.lt b e.symm).1; omega), heap_alloc_old _ _ (blk_lt hb)]
  exact hb
 have h3 := hb _ _ (by omega) hv
 refine ⟨⟨?_, ?_, ?_, ⟨v', ?_, ?_⟩, ?_, ?_⟩, h3⟩
 ·exact blk_far (hb _ _ (by omega) h.ba) (by simp) _
 ·exact blk_far (hb _ _ (by omega) h.bb) (by simp) _
 ·exact blk_far (hb _ _ (by omega) h.br) (by simp) _
 ·exact blk_put h3 1 _ rfl
 ·have e : nums .i64 (xs ++ [d]) = nums .i64 xs ++ [Value.int .i64 d] := by simp [nums]
  rw [e, List.length_append]
  exact ownsRow_setCell_other hown' (fun e => by have := (hown'.lt _ e).1; simp at this; omega) _
 ·exact ((h.bel.alloc (by have := h.sz; omega) _).grown hg (by have := h.sz; simp; omega) (fun j hj => by have := (hown.lt j hj).1; omega)).setCell (by simp) _
 ·have := hg.size; have := h.sz; simp at *; omega
theorem bocageref01_Plus.reads {w wr : World} {A : Option Addr} {c : Nat} {l : List Int} {P : Nat → Prop} (h : Kd.V (Kd.int .i64) 3 w w.heap.size P (.slice A l.length c) l) (hb : Below w.heap.size w wr) (m : Nat) : Kd.C (Kd.int .i64) (wr.drewN m) A l.length l :=
 Kd.C_drewN (Kd.C_below (Kd.V_reads' h).2.2 hb) m
theorem bocageref01_Plus.quiet {f : FuncId} {args : Array Value} {w : World} {n : Nat} {v : Value} (h : Calls Try.prog f args (w.drewN n) fun e w' => e = .returned v ∧ Drawn0 (w.drewN n) w') : Calls Try.prog f args (w.drewN n) fun e w'' => e = .returned v ∧ ∃ m, w'' = w.drewN m :=
 Calls.quiet_of (h.mono fun _ _ hh => ⟨hh.1, hh.2.out⟩)
theorem bocageref01_Plus.back {w w' : World} {l : List Int} {v : Value} {P Q : Nat → Prop} (h : Kd.V (Kd.int .i64) 3 w w.heap.size P v l) (hb : Below w.heap.size w w') (hq : ∀ k, P k → Q k) : Kd.V (Kd.int .i64) 3 w' w.heap.size Q v l :=
 Kd.V_mono (Kd.V_step h (fun k _ hk => hb.block k hk)) hq

theorem bocageref01_Plus.toV {wr : World} {base b2 g cap : Nat} {xs : List Int} (h : wr.ownsRow base 3 1 (.slice (some ⟨g, 0, none⟩) xs.length cap) xs.length (nums .i64 xs)) : Kd.V (Kd.int .i64) 3 wr b2 (fun k_ => (fun k => base ≤ k) k_) (.slice (some ⟨g, 0, none⟩) xs.length cap) xs :=
 Kd.R_V (Kd.R_of_own (enc := Value.int .i64) (h1 := fun _ => rfl) (base := base) (ok := fun k => base ≤ k) h (fun k hk => (h.lt k hk).1))
theorem bocageref01_Plus.toV' {wr : World} {base b2 : Nat} {v : Value} {xs : List Int} (h : wr.ownsRow base 3 1 v xs.length (nums .i64 xs)) : Kd.V (Kd.int .i64) 3 wr b2 (fun k_ => (fun k => base ≤ k) k_) v xs :=
 Kd.R_V (Kd.R_of_own (enc := Value.int .i64) (h1 := fun _ => rfl) (base := base) (ok := fun k => base ≤ k) h (fun k hk => (h.lt k hk).1))
/-- behind the call of cut -/
theorem bocageref01_Plus.fin {w W w2 : World} {s so : Int} {v v0 : Value} {P Q : Nat → Prop} {rr : List Int} (h3 : W.heap[w.heap.size + 3]? = some (.cells #[.int .i64 s, v] 39 (0, 0))) (h2 : W.heap[w.heap.size + 2]? = some (.cells #[.int .i64 0, .slice none 0 0] 39 (0, 0)))
  (hbel : Below w.heap.size w W) (hb2 : Below W.heap.size W w2) (hV : Kd.V (Kd.int .i64) 3 w2 W.heap.size (fun k_ => ((fun k => w.heap.size + 4 ≤ k) k_ ∨ W.heap.size ≤ k_)) v0 rr) (hso : so = s) :
  (((w2.setCell ⟨w.heap.size + 1 + 1 + 1, 1, none⟩ v0).setCell ⟨w.heap.size + 1 + 1, 0, none⟩ (.int .i64 so)).setCell ⟨w.heap.size + 1 + 1, 1, none⟩ v0).heap[w.heap.size + 1 + 1]? = some (.cells #[.int .i64 s, v0] 39 (0, 0)) ∧
  Kd.V (Kd.int .i64) 3 (((w2.setCell ⟨w.heap.size + 1 + 1 + 1, 1, none⟩ v0).setCell ⟨w.heap.size + 1 + 1, 0, none⟩ (.int .i64 so)).setCell ⟨w.heap.size + 1 + 1, 1, none⟩ v0) w.heap.size (fun k_ => ((P k_ ∨ Q k_) ∨ w.heap.size ≤ k_)) v0 rr ∧
  Below w.heap.size w (((w2.setCell ⟨w.heap.size + 1 + 1 + 1, 1, none⟩ v0).setCell ⟨w.heap.size + 1 + 1, 0, none⟩ (.int .i64 so)).setCell ⟨w.heap.size + 1 + 1, 1, none⟩ v0) := by
 subst hso
 have hlt3 := blk_lt h3
 have h4 := hbel.size
 have hV2 : Kd.V (Kd.int .i64) 3 w2 w.heap.size (fun k => w.heap.size + 4 ≤ k) v0 rr := Kd.V_map hV (fun A hf => (Kd.F_mono hf (fun k hk => hk.elim id (fun h => by show w.heap.size + 4 ≤ k; omega))))
 refine ⟨?_, ?_, ?_⟩
 ·exact blk_put (blk_put (blk_far (blk_below h2 hb2) (by simp) _) 0 _ rfl) 1 _ rfl
 ·refine Kd.V_mono (Kd.V_far (Kd.V_far (Kd.V_far hV2 (fun k hk => ?_) _) (fun k hk => ?_) _) (fun k hk => ?_) _) (fun k hk => .inr (by omega))
  ·show k ≠ w.heap.size + 1 + 1 + 1; omega
  ·show k ≠ w.heap.size + 1 + 1; omega
  ·show k ≠ w.heap.size + 1 + 1; omega
 ·exact (((hbel.trans (hb2.mono h4)).setCell (by show _ ≤ w.heap.size + 1 + 1 + 1; omega) _).setCell (by show _ ≤ w.heap.size + 1 + 1; omega) _).setCell (by show _ ≤ w.heap.size + 1 + 1; omega) _
theorem bocageref01_Plus.fin0 {w W w2 : World} {v0 : Value} {P Q : Nat → Prop} {rr : List Int} (h2 : W.heap[w.heap.size + 2]? = some (.cells #[.int .i64 0, .slice none 0 0] 39 (0, 0)))
  (hbel : Below w.heap.size w W) (hb2 : Below W.heap.size W w2) (hV : Kd.V (Kd.int .i64) 3 w2 W.heap.size (fun k_ => ((fun k => w.heap.size + 4 ≤ k) k_ ∨ W.heap.size ≤ k_)) v0 rr) (hlt3 : w.heap.size + 3 < W.heap.size) :
  ((((w2.setCell ⟨w.heap.size + 1 + 1 + 1, 1, none⟩ v0).setCell ⟨w.heap.size + 1 + 1 + 1, 0, none⟩ (.int .i64 0)).setCell ⟨w.heap.size + 1 + 1, 0, none⟩ (.int .i64 0)).setCell ⟨w.heap.size + 1 + 1, 1, none⟩ v0).heap[w.heap.size + 1 + 1]? = some (.cells #[.int .i64 0, v0] 39 (0, 0)) ∧
  Kd.V (Kd.int .i64) 3 ((((w2.setCell ⟨w.heap.size + 1 + 1 + 1, 1, none⟩ v0).setCell ⟨w.heap.size + 1 + 1 + 1, 0, none⟩ (.int .i64 0)).setCell ⟨w.heap.size + 1 + 1, 0, none⟩ (.int .i64 0)).setCell ⟨w.heap.size + 1 + 1, 1, none⟩ v0) w.heap.size (fun k_ => ((P k_ ∨ Q k_) ∨ w.heap.size ≤ k_)) v0 rr ∧
  Below w.heap.size w ((((w2.setCell ⟨w.heap.size + 1 + 1 + 1, 1, none⟩ v0).setCell ⟨w.heap.size + 1 + 1 + 1, 0, none⟩ (.int .i64 0)).setCell ⟨w.heap.size + 1 + 1, 0, none⟩ (.int .i64 0)).setCell ⟨w.heap.size + 1 + 1, 1, none⟩ v0) := by
 have h4 := hbel.size
 have hV2 : Kd.V (Kd.int .i64) 3 w2 w.heap.size (fun k => w.heap.size + 4 ≤ k) v0 rr := Kd.V_map hV (fun A hf => (Kd.F_mono hf (fun k hk => hk.elim id (fun h => by show w.heap.size + 4 ≤ k; omega))))
 refine ⟨?_, ?_, ?_⟩
 ·exact blk_put (blk_put (blk_far (blk_far (blk_below h2 hb2) (by simp) _) (by simp) _) 0 _ rfl) 1 _ rfl
 ·refine Kd.V_mono (Kd.V_far (Kd.V_far (Kd.V_far (Kd.V_far hV2 (fun k hk => ?_) _) (fun k hk => ?_) _) (fun k hk => ?_) _) (fun k hk => ?_) _) (fun k hk => .inr (by omega))
  ·show k ≠ w.heap.size + 1 + 1 + 1; omega
  ·show k ≠ w.heap.size + 1 + 1 + 1; omega
  ·show k ≠ w.heap.size + 1 + 1; omega
  ·show k ≠ w.heap.size + 1 + 1; omega
 ·exact ((((hbel.trans (hb2.mono h4)).setCell (by show _ ≤ w.heap.size + 1 + 1 + 1; omega) _).setCell (by show _ ≤ w.heap.size + 1 + 1 + 1; omega) _).setCell (by show _ ≤ w.heap.size + 1 + 1; omega) _).setCell (by show _ ≤ w.heap.size + 1 + 1; omega) _
set_option maxHeartbeats 8000000 in
set_option maxRecDepth 100000 in
theorem bocageref01_Plus.calls (k : Nat) (a0_0 : Int) (P0_1_ : Nat → Prop) (A0_1 : Option Addr) (c0_1 : Nat) (l0_1 : List Int) (a1_0 : Int) (P1_1_ : Nat → Prop) (A1_1 : Option Addr) (c1_1 : Nat) (l1_1 : List Int) (r1 : Int) (r2 : List Int) (w : World)
  (hs0_1 : Kd.V (Kd.int .i64) 3 w w.heap.size (fun k_ => P0_1_ k_) (.slice A0_1 l0_1.length c0_1) l0_1) (hs1_1 : Kd.V (Kd.int .i64) 3 w w.heap.size (fun k_ => P1_1_ k_) (.slice A1_1 l1_1.length c1_1) l1_1)
  (h : bocageref01_Plus.f k a0_0 l0_1 a1_0 l1_1 = some (r1, r2)) :
  Calls Try.prog 26 #[.agg #[.int .i64 a0_0, .slice A0_1 l0_1.length c0_1], .agg #[.int .i64 a1_0, .slice A1_1 l1_1.length c1_1]] w fun e w' => ∃ v1_ : Value, e = .returned (.agg #[.int .i64 r1, v1_]) ∧ Kd.V (Kd.int .i64) 3 w' w.heap.size (fun k_ => ((P0_1_ k_ ∨ P1_1_ k_) ∨ w.heap.size ≤ k_)) v1_ r2 ∧ Below w.heap.size w w' := by
 unfold bocageref01_Plus.f at h
 by_cases hok : (bocageref01_Plus.ok l0_1 && bocageref01_Plus.ok l1_1) = true
 ·rw [if_pos hok] at h
  rw [Bool.and_eq_true] at hok
  obtain ⟨hok0, hok1⟩ := hok
  have hln0 := bocageref01_Plus.ok_len hok0
  have hln1 := bocageref01_Plus.ok_len hok1
  have HS0 := Aside0.mk hs0_1
  have HS1 := Aside0.mk hs1_1
  have HK0 := Aside0.mk hok0
  have HK1 := Aside0.mk hok1
  have hcc0 := Aside0.mk (Kd.V_at hs0_1).2.1
  have hcc1 := Aside0.mk (Kd.V_at hs1_1).2.1
  clear hs0_1 hs1_1 hok0 hok1
  by_cases hs : a0_0 = 0
  ·rw [if_pos hs] at h
   simp only [Option.some.injEq, Prod.mk.injEq] at h
   obtain ⟨rfl, rfl⟩ := h
   subst hs
   have hbel : Below w.heap.size w (((w.alloc (Obj.cells #[Value.int IntKind.i64 0, Value.slice A0_1 l0_1.length c0_1] 39)).alloc (Obj.cells #[Value.int IntKind.i64 a1_0, Value.slice A1_1 l1_1.length c1_1] 39)).alloc (Obj.cells #[Value.int IntKind.i64 a1_0, Value.slice A1_1 l1_1.length c1_1] 39)) :=
    ((((Below.refl _ w).alloc (Nat.le_refl _) _).alloc (by simp) _).alloc (by simp; omega) _)
   have HB := Aside0.mk hbel
   clear hbel
   go_enter Try.func26, Try.ntmps26
   go_wp2
   refine bodyPost_ret (results_cell_row rfl _ _ (w.heap.size + 1 + 1) 39 #[.int .i64 a1_0, .slice A1_1 l1_1.length c1_1] (0, 0) _ rfl ?_ Try.underlying39 rfl (by kernel_rfl)) rfl ?_
   ·have := blk_new ((w.alloc (Obj.cells #[Value.int IntKind.i64 0, Value.slice A0_1 l0_1.length c0_1] 39)).alloc (Obj.cells #[Value.int IntKind.i64 a1_0, Value.slice A1_1 l1_1.length c1_1] 39)) (Obj.cells #[Value.int IntKind.i64 a1_0, Value.slice A1_1 l1_1.length c1_1] 39)
    simpa using this
   ·exact ⟨_, rfl, bocageref01_Plus.back HS1.out HB.out (fun _ hk => .inl (.inr hk)), HB.out⟩
  ·rw [if_neg hs] at h
   have hs0 : (a0_0 == 0) = false := beq_eq_false_iff_ne.mpr hs
   have hs1 : (a0_0 != 0) = true := bne_iff_ne.mpr hs
   by_cases ht : a1_0 = 0
   ·rw [if_pos ht] at h
    simp only [Option.some.injEq, Prod.mk.injEq] at h
    obtain ⟨rfl, rfl⟩ := h
    subst ht
    have hbel : Below w.heap.size w (((w.alloc (Obj.cells #[Value.int IntKind.i64 a0_0, Value.slice A0_1 l0_1.length c0_1] 39)).alloc (Obj.cells #[Value.int IntKind.i64 0, Value.slice A1_1 l1_1.length c1_1] 39)).alloc (Obj.cells #[Value.int IntKind.i64 a0_0, Value.slice A0_1 l0_1.length c0_1] 39)) :=
     ((((Below.refl _ w).alloc (Nat.le_refl _) _).alloc (by simp) _).alloc (by simp; omega) _)
    have HB := Aside0.mk hbel
    clear hbel
    go_enter Try.func26, Try.ntmps26
    go_wp2
    refine bodyPost_ret (results_cell_row rfl _ _ (w.heap.size + 1 + 1) 39 #[.int .i64 a0_0, .slice A0_1 l0_1.length c0_1] (0, 0) _ rfl ?_ Try.underlying39 rfl (by kernel_rfl)) rfl ?_
    ·have := blk_new ((w.alloc (Obj.cells #[Value.int IntKind.i64 a0_0, Value.slice A0_1 l0_1.length c0_1] 39)).alloc (Obj.cells #[Value.int IntKind.i64 0, Value.slice A1_1 l1_1.length c1_1] 39)) (Obj.cells #[Value.int IntKind.i64 a0_0, Value.slice A0_1 l0_1.length c0_1] 39)
     simpa using this
    ·exact ⟨_, rfl, bocageref01_Plus.back HS0.out HB.out (fun _ hk => .inl (.inl hk)), HB.out⟩
   ·rw [if_neg ht] at h
    have ht0 : (a1_0 == 0) = false := beq_eq_false_iff_ne.mpr ht
    have ht1 : (a1_0 != 0) = true := bne_iff_ne.mpr ht
    have hst := Aside0.mk (bocageref01_Plus.start w a0_0 (.slice A0_1 l0_1.length c0_1) a1_0 (.slice A1_1 l1_1.length c1_1))
    by_cases hst' : a0_0 = a1_0
    ·rw [if_pos hst'] at h
     subst hst'
     obtain ⟨rr, hcut, hrr⟩ := Option.bind_eq_some_iff.1 h
     simp only [Option.some.injEq, Prod.mk.injEq] at hrr
     obtain ⟨rfl, rfl⟩ := hrr
     have HCUT := Aside0.mk hcut
     obtain ⟨T, hT⟩ : ∃ T, T = bocageref01_Plus.add (l0_1.length + l1_1.length + 1) l0_1 l1_1 0 0 := ⟨_, rfl⟩
     have HT := Aside0.mk hT
     clear h hcut hT ht hs ht0 ht1
     obtain ⟨i0, hi, hz0, hz1, hz2⟩ := info_parts info3
     have HI := Aside0.mk hi
     go_enter Try.func26, Try.ntmps26
     go_upto_block 0 with (fail)
     go_cut [6] (fun v6 wc => Aside0 (bocageref01_Plus.Inv w 4 a0_0 (.slice A0_1 l0_1.length c0_1) a0_0 (.slice A1_1 l1_1.length c1_1) 0 T wc))
     case first =>
      go_wp2
      go_loopg [6, 7] (l0_1.length + l1_1.length + 2) (fun g v6 v7 wr => ∃ (i : Nat) (o : Int) (xs : List Int), v6 = .int .i64 o ∧ v7 = .int .i64 i ∧ i ≤ l0_1.length + l1_1.length + 1 ∧ 0 ≤ o ∧ o ≤ 1 ∧ Aside0 (g + i = l0_1.length + l1_1.length + 2) ∧ Aside0 (xs ++ bocageref01_Plus.add (l0_1.length + l1_1.length + 1 - i) l0_1 l1_1 o i = T) ∧ Aside0 (xs.length = i) ∧ Aside0 (bocageref01_Plus.Inv w 4 a0_0 (.slice A0_1 l0_1.length c0_1) a0_0 (.slice A1_1 l1_1.length c1_1) 0 xs wr))
      case atStart => exact ⟨0, 0, [], rfl, rfl, by omega, by omega, by omega, ⟨rfl⟩, ⟨HT.out.symm⟩, ⟨rfl⟩, hst⟩
      case round =>
       obtain ⟨i, o, xs, rfl, rfl, hile, ho0, ho1, hgi, hsum, hxl, hinv⟩ := hrel
       have hi0 := hinv.out
       have hxl' := hxl.out
       obtain ⟨v, hbo, hown⟩ := hi0.bo
       have cA := (blk_cell hi0.ba 1).trans rfl
       have cB := (blk_cell hi0.bb 1).trans rfl
       have cO : ∀ m, (wr.drewN m).cell? ⟨w.heap.size + 1 + 1 + 1, 1, none⟩ = some v := fun m => (blk_cell (blk_drewN hbo m) 1).trans rfl
       have fO : ∀ m, (wr.drewN m).frozen? ⟨w.heap.size + 1 + 1 + 1, 1, none⟩ = false := fun m => blk_frozen (blk_drewN hbo m) 1
       have hCa := Aside0.mk (bocageref01_Plus.reads HS0.out hi0.bel)
       have hCb := Aside0.mk (bocageref01_Plus.reads HS1.out hi0.bel)
       by_cases hlt : i ≤ l0_1.length + l1_1.length
       ·have hd1 := Aside0.mk (bocageref01_Plus.dig_some l0_1 i hln0)
        have hd2 := Aside0.mk (bocageref01_Plus.dig_some l1_1 i hln1)
        have hb1 := bocageref01_Plus.ok_at HK0.out i
        have hb2 := bocageref01_Plus.ok_at HK1.out i
        have hstep := Aside0.mk (show bocageref01_Plus.add (l0_1.length + l1_1.length + 1 - i) l0_1 l1_1 o i = (l0_1.getD i 0 + l1_1.getD i 0 + o) % 10 :: bocageref01_Plus.add (l0_1.length + l1_1.length + 1 - (i + 1)) l0_1 l1_1 ((l0_1.getD i 0 + l1_1.getD i 0 + o) / 10) (i + 1) by
         rw [show l0_1.length + l1_1.length + 1 - i = (l0_1.length + l1_1.length + 1 - (i + 1)) + 1 by omega]; rfl)
        generalize l0_1.getD i 0 = d1 at hd1 hb1 hstep
        generalize l1_1.getD i 0 = d2 at hd2 hb2 hstep
        obtain ⟨hb10, hb11⟩ := hb1
        obtain ⟨hb20, hb21⟩ := hb2
        have HOWN := Aside0.mk hown
        have HBO := Aside0.mk hbo
        clear hown hbo hi0 hxl'
        have HCO := Aside0.mk cO
        have HFO := Aside0.mk fO
        clear cO fO
        go_wp2
        clear cA cB
        have cA : wr.cell? ⟨w.heap.size, 1, none⟩ = some (.slice A0_1 l0_1.length c0_1) := (blk_cell hinv.out.ba 1).trans rfl
        have cB : wr.cell? ⟨w.heap.size + 1, 1, none⟩ = some (.slice A1_1 l1_1.length c1_1) := (blk_cell hinv.out.bb 1).trans rfl
        go_quiet (first
         | (go_at_call 33; with_reducible exact bocageref01_Plus.quiet (bocageref01_digit.calls _ _ l0_1 (i : Int) d1 _ (hCa.out _) hcc0.out hd1.out))
         | (go_at_call 33; with_reducible exact bocageref01_Plus.quiet (bocageref01_digit.calls _ _ l1_1 (i : Int) d2 _ (hCb.out _) hcc1.out hd2.out)))
        have cO := HCO.out nq
        have fO := HFO.out nq
        go_wp2_with (at_builtin; refine wpList_append_own _ rfl _ _ 37 rfl (w.heap.size + 4) 3 i0 (.int .i64 0) 1 8 Try.underlying37 HI.out hz0 hz1 hz2 rfl (by decide) _ _ _ rfl ((pw_own_below HOWN.out (pw_below_drewN (Below.refl _ _) nq)).alloc _) ⟨wr.heap.size, 0, none⟩ 1 1 [.int .i64 ((d1 + d2 + o) % 10)] rfl rfl ?c1 ?c2 ?c3 ?c4 ?c5 ?_)
        case c1 =>
         intro j u hj
         match j, hj with
         | 0, hj =>
          simp at hj; subst hj
          exact (blk_cell (blk_new (wr.drewN nq) _) 0).trans rfl
        case c2 => intro u hu; simp at hu; subst hu; rfl
        case c3 => have := hxl.out; unfold maxLen; omega
        case c4 => have := hxl.out; omega
        case c5 => have := hinv.out.sz; simp; omega
        intro v' w1 hown' hgrow _
        obtain ⟨hinv', hv1⟩ := (hinv.out.drewN nq).push (by omega) HBO.out (pw_own_below HOWN.out (pw_below_drewN (Below.refl _ _) nq)) hown' hgrow
        obtain ⟨g, cap, rfl, hgb, hgl⟩ := hown'.form (by omega)
        have HI' := Aside0.mk hinv'
        have cO1 : w1.cell? ⟨w.heap.size + 1 + 1 + 1, 1, none⟩ = some v := (blk_cell hv1 1).trans rfl
        have fO1 : w1.frozen? ⟨w.heap.size + 1 + 1 + 1, 1, none⟩ = false := blk_frozen hv1 1
        clear hown' hgrow hinv' hv1 cO fO
        go_wp2
        go_roundg (l0_1.length + l1_1.length + 2 - (i + 1))
        case measure => have := hgi.out; omega
        case rel => exact ⟨i + 1, (d1 + d2 + o) / 10, xs ++ [(d1 + d2 + o) % 10], rfl, by go_num, by omega, by omega, by omega, ⟨by have := hgi.out; omega⟩, ⟨by have := hsum.out; rw [hstep.out] at this; rw [← this]; simp⟩, ⟨by have := hxl.out; simp; omega⟩, HI'⟩
       ·obtain rfl : i = l0_1.length + l1_1.length + 1 := by omega
        go_wp2
        go_meet
        case rel => exact ⟨by have := hsum.out; rw [Nat.sub_self] at this; simp only [bocageref01_Plus.add, List.append_nil] at this; rw [← this]; exact hinv.out⟩
     case rest =>
      have hi0 := hcut.out
      obtain ⟨v, hbo, hown⟩ := hi0.bo
      obtain ⟨g, cap, rfl, hgb, hgl⟩ := hown.form (by rw [HT.out, bocageref01_Plus.add_len]; omega)
      have hV := bocageref01_Plus.toV (b2 := (wc.setCell ⟨w.heap.size + 1 + 1 + 1, 0, none⟩ (.int .i64 a0_0)).heap.size) (ownsRow_setCell_other (a := ⟨w.heap.size + 1 + 1 + 1, 0, none⟩) hown (by simp [Value.ownBlock]; omega) (.int .i64 a0_0))
      have HV := Aside0.mk hV
      have cA := (blk_cell hi0.ba 0).trans rfl
      have cO := (blk_cell hbo 1).trans rfl
      have fO := blk_frozen hbo 0
      have cO : wc.cell? ⟨w.heap.size + 1 + 1 + 1, 1, none⟩ = some (.slice (some ⟨g, 0, none⟩) T.length cap) := (blk_cell hbo 1).trans rfl
      have cO0 : wc.cell? ⟨w.heap.size + 1 + 1 + 1, 0, none⟩ = some (.int .i64 0) := (blk_cell hbo 0).trans rfl
      have fO : wc.frozen? ⟨w.heap.size + 1 + 1 + 1, 0, none⟩ = false := blk_frozen hbo 0
      have cA : wc.cell? ⟨w.heap.size, 0, none⟩ = some (.int .i64 a0_0) := (blk_cell hi0.ba 0).trans rfl
      have HC2 := Aside0.mk (show bocageref01_cut.f k T = some rr by rw [HT.out]; exact HCUT.out)
      have HBO := Aside0.mk hbo
      clear hV hown hbo hi0
      have h3' : (wc.setCell ⟨w.heap.size + 1 + 1 + 1, 0, none⟩ (.int .i64 a0_0)).heap[w.heap.size + 3]? = some (.cells #[.int .i64 a0_0, .slice (some ⟨g, 0, none⟩) T.length cap] 39 (0, 0)) := blk_put HBO.out 0 _ rfl
      have h2' : (wc.setCell ⟨w.heap.size + 1 + 1 + 1, 0, none⟩ (.int .i64 a0_0)).heap[w.heap.size + 2]? = some (.cells #[.int .i64 0, .slice none 0 0] 39 (0, 0)) := blk_far hcut.out.br (by simp) _
      have hbel' : Below w.heap.size w (wc.setCell ⟨w.heap.size + 1 + 1 + 1, 0, none⟩ (.int .i64 a0_0)) := hcut.out.bel.setCell (by show _ ≤ w.heap.size + 1 + 1 + 1; omega) _
      have H3 := Aside0.mk h3'
      have H2 := Aside0.mk h2'
      have HBEL := Aside0.mk hbel'
      clear h3' h2' hbel' hst
      go_wp2_with (go_at_call 34; (with_reducible refine (bocageref01_cut.calls k _ _ _ T rr _ HV.out HC2.out).mono ?_); rintro e w2 ⟨v0, rfl, hV2, hb2⟩; obtain ⟨Ar, cr, rfl⟩ := Kd.V_slice hV2; have HV2 := Aside0.mk hV2; have HB2 := Aside0.mk hb2; have q30 := (blk_cell (blk_below H3.out hb2) 0).trans rfl; have q3f := blk_frozen (blk_below H3.out hb2) 1; have q31 := (blk_cell (blk_below H3.out hb2) 1).trans rfl; have q20 := (blk_cell (blk_below H2.out hb2) 0).trans rfl; have q21 := (blk_cell (blk_below H2.out hb2) 1).trans rfl; have q2f := blk_frozen (blk_below H2.out hb2) 0; have q2g := blk_frozen (blk_below H2.out hb2) 1; clear hV2 hb2)
      obtain ⟨k1, k2, k3⟩ := bocageref01_Plus.fin (P := P0_1_) (Q := P1_1_) H3.out H2.out HBEL.out HB2.out HV2.out rfl
      refine bodyPost_ret (results_cell_row rfl _ _ (w.heap.size + 1 + 1) 39 #[.int .i64 a0_0, .slice Ar rr.length cr] (0, 0) _ rfl k1 Try.underlying39 rfl (by kernel_rfl)) rfl ?_
      exact ⟨_, rfl, k2, k3⟩
    ·rw [if_neg hst'] at h
     have hne0 : (a0_0 == a1_0) = false := beq_eq_false_iff_ne.mpr hst'
     have hne1 : (a0_0 != a1_0) = true := bne_iff_ne.mpr hst'
     obtain ⟨m, hm, h⟩ := Option.bind_eq_some_iff.1 h
     have HM := Aside0.mk hm
     clear hm
     have h6 := bocageref01_Plus.start6 w a0_0 (.slice A0_1 l0_1.length c0_1) a1_0 (.slice A1_1 l1_1.length c1_1) (.cells #[.int .i64 a0_0, .slice A0_1 l0_1.length c0_1] 39) (.cells #[.int .i64 a1_0, .slice A1_1 l1_1.length c1_1] 39) hst.out (by simp) (by
      have := blk_new (((w.alloc (.cells #[.int .i64 a0_0, .slice A0_1 l0_1.length c0_1] 39)).alloc (.cells #[.int .i64 a1_0, .slice A1_1 l1_1.length c1_1] 39)).alloc (.cells #[.int .i64 0, .slice none 0 0] 39)) (.cells #[.int .i64 0, .slice none 0 0] 39)
      rw [show (((w.alloc (.cells #[.int .i64 a0_0, .slice A0_1 l0_1.length c0_1] 39)).alloc (.cells #[.int .i64 a1_0, .slice A1_1 l1_1.length c1_1] 39)).alloc (.cells #[.int .i64 0, .slice none 0 0] 39)).heap.size = w.heap.size + 3 by simp] at this
      exact this)
     have h63 := Aside0.mk (blk_alloc (blk_alloc (show ((((w.alloc (.cells #[.int .i64 a0_0, .slice A0_1 l0_1.length c0_1] 39)).alloc (.cells #[.int .i64 a1_0, .slice A1_1 l1_1.length c1_1] 39)).alloc (.cells #[.int .i64 0, .slice none 0 0] 39)).alloc (.cells #[.int .i64 0, .slice none 0 0] 39)).heap[w.heap.size + 3]? = some (.cells #[.int .i64 0, .slice none 0 0] 39 (0, 0)) by
      have := blk_new (((w.alloc (.cells #[.int .i64 a0_0, .slice A0_1 l0_1.length c0_1] 39)).alloc (.cells #[.int .i64 a1_0, .slice A1_1 l1_1.length c1_1] 39)).alloc (.cells #[.int .i64 0, .slice none 0 0] 39)) (.cells #[.int .i64 0, .slice none 0 0] 39)
      rw [show (((w.alloc (.cells #[.int .i64 a0_0, .slice A0_1 l0_1.length c0_1] 39)).alloc (.cells #[.int .i64 a1_0, .slice A1_1 l1_1.length c1_1] 39)).alloc (.cells #[.int .i64 0, .slice none 0 0] 39)).heap.size = w.heap.size + 3 by simp] at this
      exact this) (.cells #[.int .i64 a0_0, .slice A0_1 l0_1.length c0_1] 39)) (.cells #[.int .i64 a1_0, .slice A1_1 l1_1.length c1_1] 39))
     have H6 := Aside0.mk h6
     clear h6 hst hs ht hst'
     obtain ⟨i0, hi, hz0, hz1, hz2⟩ := info_parts info3
     have HI := Aside0.mk hi
     have HRa := Aside0.mk (Kd.C_below (Kd.V_reads' HS0.out).2.2 H6.out.1.bel)
     have HRb := Aside0.mk (Kd.C_below (Kd.V_reads' HS1.out).2.2 H6.out.1.bel)
     cases m with
     | true =>
      have h' := Aside0.mk (show bocageref01_Plus.less k a1_0 l1_1 l0_1 = some (r1, r2) by simpa using h)
      clear h
      have h := h'.out
      clear h'
      obtain ⟨rr, hcut, hrr⟩ := Option.bind_eq_some_iff.1 h
      clear h
      simp only [Option.some.injEq, Prod.mk.injEq] at hrr
      obtain ⟨hr1, rfl⟩ := hrr
      have HR1 := Aside0.mk hr1
      clear hr1
      obtain ⟨T, hT⟩ : ∃ T, T = bocageref01_Plus.sub l1_1.length l1_1 l0_1 0 0 := ⟨_, rfl⟩
      rw [← hT] at hcut
      have HT := Aside0.mk hT
      have HCUT := Aside0.mk hcut
      clear hT hcut
      go_enter Try.func26, Try.ntmps26
      go_upto_if 72 with (go_at_call 31; (with_reducible refine (bocageref01_more.calls k _ _ l1_1 _ _ l0_1 true _ HRb.out hcc1.out HRa.out hcc0.out HM.out).mono ?_); rintro e w' ⟨rfl, ⟨nd, rfl⟩⟩)
      go_cut [] (fun wc => Aside0 (bocageref01_Plus.Inv w 6 a0_0 (.slice A0_1 l0_1.length c0_1) a1_0 (.slice A1_1 l1_1.length c1_1) 0 [] wc) ∧ Aside0 (wc.heap[w.heap.size + 3]? = some (.cells #[.int .i64 0, .slice none 0 0] 39 (0, 0))) ∧ Aside0 (wc.heap[w.heap.size + 4]? = some (.cells #[.int .i64 a1_0, .slice A1_1 l1_1.length c1_1] 39 (0, 0))) ∧ Aside0 (wc.heap[w.heap.size + 5]? = some (.cells #[.int .i64 a0_0, .slice A0_1 l0_1.length c0_1] 39 (0, 0))))
      case first =>
       go_wp2
       go_meet
       case rel =>
        obtain ⟨e1, e2, e3⟩ := H6.out
        obtain ⟨f1, g1⟩ := (e1.drewN nd).far (blk_drewN h63.out nd) (w.heap.size + 1 + 1 + 1 + 1) 0 (by omega) (.int .i64 a1_0)
        obtain ⟨f2, g2⟩ := f1.far g1 (w.heap.size + 1 + 1 + 1 + 1) 1 (by omega) (.slice A1_1 l1_1.length c1_1)
        obtain ⟨f3, g3⟩ := f2.far g2 (w.heap.size + 1 + 1 + 1 + 1 + 1) 0 (by omega) (.int .i64 a0_0)
        obtain ⟨f4, g4⟩ := f3.far g3 (w.heap.size + 1 + 1 + 1 + 1 + 1) 1 (by omega) (.slice A0_1 l0_1.length c0_1)
        refine ⟨⟨f4⟩, ⟨g4⟩, ⟨?_⟩, ⟨?_⟩⟩
        ·exact blk_far (blk_far (blk_put (blk_put (blk_drewN e2 nd) 0 _ rfl) 1 _ rfl) (by show w.heap.size + 4 ≠ w.heap.size + 1 + 1 + 1 + 1 + 1; omega) _) (by show w.heap.size + 4 ≠ w.heap.size + 1 + 1 + 1 + 1 + 1; omega) _
        ·exact blk_put (blk_put (blk_far (blk_far (blk_drewN e3 nd) (by show w.heap.size + 5 ≠ w.heap.size + 1 + 1 + 1 + 1; omega) _) (by show w.heap.size + 5 ≠ w.heap.size + 1 + 1 + 1 + 1; omega) _) 0 _ rfl) 1 _ rfl
      case rest =>
       obtain ⟨hinv6, hb63, hb64, hb65⟩ := hcut
       clear H6 h63 HRa HRb HM
       obtain ⟨W6, hW6⟩ : ∃ W6, W6 = wc := ⟨_, rfl⟩
       go_upto_block 2 with (fail)
       go_cut [] (fun wc => Aside0 (bocageref01_Plus.Inv w 6 a0_0 (.slice A0_1 l0_1.length c0_1) a1_0 (.slice A1_1 l1_1.length c1_1) 0 T wc) ∧ Aside0 (wc.heap[w.heap.size + 4]? = some (.cells #[.int .i64 a1_0, .slice A1_1 l1_1.length c1_1] 39 (0, 0))) ∧ Aside0 (wc.heap[w.heap.size + 5]? = some (.cells #[.int .i64 a0_0, .slice A0_1 l0_1.length c0_1] 39 (0, 0))))
       case first =>
        go_wp2
        go_loopg [11, 12] (l1_1.length + 1) (fun g v11 v12 wr => ∃ (i : Nat) (o : Int) (xs : List Int), v11 = .int .i64 o ∧ v12 = .int .i64 i ∧ i ≤ l1_1.length ∧ 0 ≤ o ∧ o ≤ 1 ∧ Aside0 (g + i = l1_1.length + 1) ∧ Aside0 (xs ++ bocageref01_Plus.sub (l1_1.length - i) l1_1 l0_1 o i = T) ∧ Aside0 (xs.length = i) ∧ Aside0 (bocageref01_Plus.Inv w 6 a0_0 (.slice A0_1 l0_1.length c0_1) a1_0 (.slice A1_1 l1_1.length c1_1) 0 xs wr) ∧ Aside0 (wr.heap[w.heap.size + 4]? = some (.cells #[.int .i64 a1_0, .slice A1_1 l1_1.length c1_1] 39 (0, 0))) ∧ Aside0 (wr.heap[w.heap.size + 5]? = some (.cells #[.int .i64 a0_0, .slice A0_1 l0_1.length c0_1] 39 (0, 0))))
        case atStart => exact ⟨0, 0, [], rfl, rfl, by omega, by omega, by omega, ⟨by omega⟩, ⟨HT.out.symm⟩, ⟨rfl⟩, hinv6, hb64, hb65⟩
        case round =>
         obtain ⟨i, o, xs, rfl, rfl, hile, ho0, ho1, hgi, hsum, hxl, hinv, hx4, hx5⟩ := hrel
         have hi0 := hinv.out
         obtain ⟨v, hbo, hown⟩ := hi0.bo
         have cX : wr.cell? ⟨w.heap.size + 1 + 1 + 1 + 1, 1, none⟩ = some (.slice A1_1 l1_1.length c1_1) := (blk_cell hx4.out 1).trans rfl
         have cY : wr.cell? ⟨w.heap.size + 1 + 1 + 1 + 1 + 1, 1, none⟩ = some (.slice A0_1 l0_1.length c0_1) := (blk_cell hx5.out 1).trans rfl
         have HCO : Aside0 (∀ m, (wr.drewN m).cell? ⟨w.heap.size + 1 + 1 + 1, 1, none⟩ = some v) := ⟨fun m => (blk_cell (blk_drewN hbo m) 1).trans rfl⟩
         have HFO : Aside0 (∀ m, (wr.drewN m).frozen? ⟨w.heap.size + 1 + 1 + 1, 1, none⟩ = false) := ⟨fun m => blk_frozen (blk_drewN hbo m) 1⟩
         have hCx := Aside0.mk (bocageref01_Plus.reads HS1.out hi0.bel)
         have hCy := Aside0.mk (bocageref01_Plus.reads HS0.out hi0.bel)
         have HOWN := Aside0.mk hown
         have HBO := Aside0.mk hbo
         clear hown hbo hi0
         by_cases hlt : i < l1_1.length
         ·obtain ⟨ad, hA, hcx⟩ := Kd.at_int (hCx.out 0) (i : Int) (by omega) (by omega)
          subst hA
          have hix : ((i : Int)).toNat = i := by omega
          rw [hix] at hcx
          have hrd : rd l1_1 (i : Int) = l1_1.getD i 0 := by simp [rd]
          rw [hrd] at hcx
          replace hcx : wr.cell? (ad.add i) = some (.int .i64 (l1_1.getD i 0)) := hcx
          have hd2 := Aside0.mk (bocageref01_Plus.dig_some l0_1 i hln0)
          have hb1 := bocageref01_Plus.ok_at HK1.out i
          have hb2 := bocageref01_Plus.ok_at HK0.out i
          have hstep := Aside0.mk (show bocageref01_Plus.sub (l1_1.length - i) l1_1 l0_1 o i = (if l1_1.getD i 0 - l0_1.getD i 0 - o < 0 then (l1_1.getD i 0 - l0_1.getD i 0 - o + 10) :: bocageref01_Plus.sub (l1_1.length - (i + 1)) l1_1 l0_1 1 (i + 1) else (l1_1.getD i 0 - l0_1.getD i 0 - o) :: bocageref01_Plus.sub (l1_1.length - (i + 1)) l1_1 l0_1 0 (i + 1)) by
           rw [show l1_1.length - i = (l1_1.length - (i + 1)) + 1 by omega]; rfl)
          clear hix hrd
          generalize l1_1.getD i 0 = d1 at hcx hb1 hstep
          generalize l0_1.getD i 0 = d2 at hd2 hb2 hstep
          obtain ⟨hb10, hb11⟩ := hb1
          obtain ⟨hb20, hb21⟩ := hb2
          have hix0 : 0 ≤ (i : Int) := by omega
          have hix1 : (i : Int) < (l1_1.length : Int) := by omega
          by_cases hneg : d1 - d2 - o < 0
          ·have hneg' : decide (d1 - d2 - o < 0) = true := decide_eq_true hneg
           go_wp2
           go_quiet ((go_at_call 33; with_reducible exact bocageref01_Plus.quiet (bocageref01_digit.calls _ _ l0_1 (i : Int) d2 _ (hCy.out _) hcc0.out hd2.out)))
           have cO := HCO.out nq
           have fO := HFO.out nq
           go_wp2_with (at_builtin; refine wpList_append_own _ rfl _ _ 37 rfl (w.heap.size + 6) 3 i0 (.int .i64 0) 1 8 Try.underlying37 HI.out hz0 hz1 hz2 rfl (by decide) _ _ _ rfl ((pw_own_below HOWN.out (pw_below_drewN (Below.refl _ _) nq)).alloc _) ⟨wr.heap.size, 0, none⟩ 1 1 [.int .i64 (d1 - d2 - o + 10)] rfl rfl ?c1 ?c2 ?c3 ?c4 ?c5 ?_)
           case c1 =>
            intro j u hj
            match j, hj with
            | 0, hj =>
             simp at hj; subst hj
             exact (blk_cell (blk_new (wr.drewN nq) _) 0).trans rfl
           case c2 => intro u hu; simp at hu; subst hu; rfl
           case c3 => have := hxl.out; unfold maxLen; omega
           case c4 => have := hxl.out; omega
           case c5 => have := hinv.out.sz; simp; omega
           intro v' w1 hown' hgrow _
           have hown0 := pw_own_below HOWN.out (pw_below_drewN (Below.refl _ _) nq)
           obtain ⟨hinv', hv1⟩ := (hinv.out.drewN nq).push (by omega) HBO.out hown0 hown' hgrow
           obtain ⟨g, cap, rfl, hgb, hgl⟩ := hown'.form (by omega)
           have hx4' : w1.heap[w.heap.size + 4]? = wr.heap[w.heap.size + 4]? := by
            rw [hgrow.block _ (by have := blk_lt hx4.out; simp; omega) (fun e => by have := (hown0.lt _ e.symm).1; omega), heap_alloc_old _ _ (blk_lt (blk_drewN hx4.out nq))]
            rfl
           have hx5' : w1.heap[w.heap.size + 5]? = wr.heap[w.heap.size + 5]? := by
            rw [hgrow.block _ (by have := blk_lt hx5.out; simp; omega) (fun e => by have := (hown0.lt _ e.symm).1; omega), heap_alloc_old _ _ (blk_lt (blk_drewN hx5.out nq))]
            rfl
           have HI' := Aside0.mk hinv'
           have HX4 := Aside0.mk (blk_far (hx4'.trans hx4.out) (p := ⟨w.heap.size + 3, 1, none⟩) (by simp) (.slice (some ⟨g, 0, none⟩) (xs.length + 1) cap))
           have HX5 := Aside0.mk (blk_far (hx5'.trans hx5.out) (p := ⟨w.heap.size + 3, 1, none⟩) (by simp) (.slice (some ⟨g, 0, none⟩) (xs.length + 1) cap))
           have cO1 : w1.cell? ⟨w.heap.size + 1 + 1 + 1, 1, none⟩ = some v := (blk_cell hv1 1).trans rfl
           have fO1 : w1.frozen? ⟨w.heap.size + 1 + 1 + 1, 1, none⟩ = false := blk_frozen hv1 1
           clear hown' hgrow hinv' hv1 cO fO hown0 hx4' hx5'
           go_wp2
           go_roundg (l1_1.length + 1 - (i + 1))
           case measure => have := hgi.out; omega
           case rel => exact ⟨i + 1, 1, xs ++ [d1 - d2 - o + 10], rfl, by go_num, by omega, by omega, by omega, ⟨by have := hgi.out; omega⟩, ⟨by have := hsum.out; rw [hstep.out, if_pos hneg] at this; rw [← this]; simp⟩, ⟨by have := hxl.out; simp; omega⟩, HI', HX4, HX5⟩
          ·have hneg' : decide (d1 - d2 - o < 0) = false := decide_eq_false hneg
           go_wp2
           go_quiet ((go_at_call 33; with_reducible exact bocageref01_Plus.quiet (bocageref01_digit.calls _ _ l0_1 (i : Int) d2 _ (hCy.out _) hcc0.out hd2.out)))
           have cO := HCO.out nq
           have fO := HFO.out nq
           go_wp2_with (at_builtin; refine wpList_append_own _ rfl _ _ 37 rfl (w.heap.size + 6) 3 i0 (.int .i64 0) 1 8 Try.underlying37 HI.out hz0 hz1 hz2 rfl (by decide) _ _ _ rfl ((pw_own_below HOWN.out (pw_below_drewN (Below.refl _ _) nq)).alloc _) ⟨wr.heap.size, 0, none⟩ 1 1 [.int .i64 (d1 - d2 - o)] rfl rfl ?c1 ?c2 ?c3 ?c4 ?c5 ?_)
           case c1 =>
            intro j u hj
            match j, hj with
            | 0, hj =>
             simp at hj; subst hj
             exact (blk_cell (blk_new (wr.drewN nq) _) 0).trans rfl
           case c2 => intro u hu; simp at hu; subst hu; rfl
           case c3 => have := hxl.out; unfold maxLen; omega
           case c4 => have := hxl.out; omega
           case c5 => have := hinv.out.sz; simp; omega
           intro v' w1 hown' hgrow _
           have hown0 := pw_own_below HOWN.out (pw_below_drewN (Below.refl _ _) nq)
           obtain ⟨hinv', hv1⟩ := (hinv.out.drewN nq).push (by omega) HBO.out hown0 hown' hgrow
           obtain ⟨g, cap, rfl, hgb, hgl⟩ := hown'.form (by omega)
           have hx4' : w1.heap[w.heap.size + 4]? = wr.heap[w.heap.size + 4]? := by
            rw [hgrow.block _ (by have := blk_lt hx4.out; simp; omega) (fun e => by have := (hown0.lt _ e.symm).1; omega), heap_alloc_old _ _ (blk_lt (blk_drewN hx4.out nq))]
            rfl
           have hx5' : w1.heap[w.heap.size + 5]? = wr.heap[w.heap.size + 5]? := by
            rw [hgrow.block _ (by have := blk_lt hx5.out; simp; omega) (fun e => by have := (hown0.lt _ e.symm).1; omega), heap_alloc_old _ _ (blk_lt (blk_drewN hx5.out nq))]
            rfl
           have HI' := Aside0.mk hinv'
           have HX4 := Aside0.mk (blk_far (hx4'.trans hx4.out) (p := ⟨w.heap.size + 3, 1, none⟩) (by simp) (.slice (some ⟨g, 0, none⟩) (xs.length + 1) cap))
           have HX5 := Aside0.mk (blk_far (hx5'.trans hx5.out) (p := ⟨w.heap.size + 3, 1, none⟩) (by simp) (.slice (some ⟨g, 0, none⟩) (xs.length + 1) cap))
           have cO1 : w1.cell? ⟨w.heap.size + 1 + 1 + 1, 1, none⟩ = some v := (blk_cell hv1 1).trans rfl
           have fO1 : w1.frozen? ⟨w.heap.size + 1 + 1 + 1, 1, none⟩ = false := blk_frozen hv1 1
           clear hown' hgrow hinv' hv1 cO fO hown0 hx4' hx5'
           go_wp2
           go_roundg (l1_1.length + 1 - (i + 1))
           case measure => have := hgi.out; omega
           case rel => exact ⟨i + 1, 0, xs ++ [d1 - d2 - o], rfl, by go_num, by omega, by omega, by omega, ⟨by have := hgi.out; omega⟩, ⟨by have := hsum.out; rw [hstep.out, if_neg (by omega)] at this; rw [← this]; simp⟩, ⟨by have := hxl.out; simp; omega⟩, HI', HX4, HX5⟩
         ·obtain rfl : i = l1_1.length := by omega
          go_wp2
          go_meet
          case rel => exact ⟨⟨by have := hsum.out; rw [Nat.sub_self] at this; simp only [bocageref01_Plus.sub, List.append_nil] at this; rw [← this]; exact hinv.out⟩, hx4, hx5⟩
       case rest =>
        obtain ⟨hcT, hx4, hx5⟩ := hcut
        clear hinv6 hb63 hb64 hb65 hW6
        have hi0 := hcT.out
        obtain ⟨v, hbo, hown⟩ := hi0.bo
        have hTn : Aside0 (T.length = l1_1.length) := ⟨by rw [HT.out, bocageref01_Plus.sub_len]⟩
        obtain ⟨Ao, co, hvo⟩ := own_slice hown
        subst hvo
        have hV : Kd.V (Kd.int .i64) 3 (wc.setCell ⟨w.heap.size + 1 + 1 + 1, 0, none⟩ (.int .i64 a1_0)) (wc.setCell ⟨w.heap.size + 1 + 1 + 1, 0, none⟩ (.int .i64 a1_0)).heap.size (fun k_ => (fun k => w.heap.size + 6 ≤ k) k_) (.slice Ao T.length co) T :=
         bocageref01_Plus.toV' (ownsRow_setCell_other (a := ⟨w.heap.size + 1 + 1 + 1, 0, none⟩) hown (fun e => by have := (hown.lt _ e).1; simp at this; omega) (.int .i64 a1_0))
        have HV := Aside0.mk hV
        have cO0 : wc.cell? ⟨w.heap.size + 1 + 1 + 1, 0, none⟩ = some (.int .i64 0) := (blk_cell hbo 0).trans rfl
        have cO : wc.cell? ⟨w.heap.size + 1 + 1 + 1, 1, none⟩ = some (.slice Ao T.length co) := (blk_cell hbo 1).trans rfl
        have fO : wc.frozen? ⟨w.heap.size + 1 + 1 + 1, 0, none⟩ = false := blk_frozen hbo 0
        have cX : wc.cell? ⟨w.heap.size + 1 + 1 + 1 + 1, 0, none⟩ = some (.int .i64 a1_0) := (blk_cell hx4.out 0).trans rfl
        have H3 : Aside0 ((wc.setCell ⟨w.heap.size + 1 + 1 + 1, 0, none⟩ (.int .i64 a1_0)).heap[w.heap.size + 3]? = some (.cells #[.int .i64 a1_0, .slice Ao T.length co] 39 (0, 0))) := ⟨blk_put hbo 0 _ rfl⟩
        have H2 : Aside0 ((wc.setCell ⟨w.heap.size + 1 + 1 + 1, 0, none⟩ (.int .i64 a1_0)).heap[w.heap.size + 2]? = some (.cells #[.int .i64 0, .slice none 0 0] 39 (0, 0))) := ⟨blk_far hcT.out.br (by simp) _⟩
        have HBEL : Aside0 (Below w.heap.size w (wc.setCell ⟨w.heap.size + 1 + 1 + 1, 0, none⟩ (.int .i64 a1_0))) := ⟨hcT.out.bel.setCell (by show _ ≤ w.heap.size + 1 + 1 + 1; omega) _⟩
        clear hV hown hbo hi0
        by_cases hr0 : rr.length = 0
        ·have hr0' : ((rr.length : Int) == 0) = true := by simp [hr0]
         have HR0 := Aside0.mk hr0
         clear hr0
         go_wp2_with (go_at_call 34; (with_reducible refine (bocageref01_cut.calls k _ _ _ T rr _ HV.out HCUT.out).mono ?_); rintro e w2 ⟨v0, rfl, hV2, hb2⟩; obtain ⟨Ar, cr, rfl⟩ := Kd.V_slice hV2; have HV2 := Aside0.mk hV2; have HB2 := Aside0.mk hb2; have q30 := (blk_cell (blk_below H3.out hb2) 0).trans rfl; have q3f := blk_frozen (blk_below H3.out hb2) 1; have q3g := blk_frozen (blk_below H3.out hb2) 0; have q31 := (blk_cell (blk_below H3.out hb2) 1).trans rfl; have q20 := (blk_cell (blk_below H2.out hb2) 0).trans rfl; have q21 := (blk_cell (blk_below H2.out hb2) 1).trans rfl; have q2f := blk_frozen (blk_below H2.out hb2) 0; have q2g := blk_frozen (blk_below H2.out hb2) 1; clear hV2 hb2)
         have hr1 := HR1.out
         rw [if_pos HR0.out] at hr1
         subst hr1
         obtain ⟨k1, k2, k3⟩ := bocageref01_Plus.fin0 (P := P0_1_) (Q := P1_1_) H2.out HBEL.out HB2.out (Kd.V_mono HV2.out (fun k hk => hk.imp (fun h => by show w.heap.size + 4 ≤ k; have : w.heap.size + 6 ≤ k := h; omega) id)) (blk_lt H3.out)
         refine bodyPost_ret (results_cell_row rfl _ _ (w.heap.size + 1 + 1) 39 #[.int .i64 0, .slice Ar rr.length cr] (0, 0) _ rfl k1 Try.underlying39 rfl (by kernel_rfl)) rfl ?_
         exact ⟨_, rfl, k2, k3⟩
        ·have hr0' : ((rr.length : Int) == 0) = false := beq_eq_false_iff_ne.mpr (by omega)
         have HR0 := Aside0.mk hr0
         clear hr0
         go_wp2_with (go_at_call 34; (with_reducible refine (bocageref01_cut.calls k _ _ _ T rr _ HV.out HCUT.out).mono ?_); rintro e w2 ⟨v0, rfl, hV2, hb2⟩; obtain ⟨Ar, cr, rfl⟩ := Kd.V_slice hV2; have HV2 := Aside0.mk hV2; have HB2 := Aside0.mk hb2; have q30 := (blk_cell (blk_below H3.out hb2) 0).trans rfl; have q3f := blk_frozen (blk_below H3.out hb2) 1; have q31 := (blk_cell (blk_below H3.out hb2) 1).trans rfl; have q20 := (blk_cell (blk_below H2.out hb2) 0).trans rfl; have q21 := (blk_cell (blk_below H2.out hb2) 1).trans rfl; have q2f := blk_frozen (blk_below H2.out hb2) 0; have q2g := blk_frozen (blk_below H2.out hb2) 1; clear hV2 hb2)
         obtain ⟨k1, k2, k3⟩ := bocageref01_Plus.fin (P := P0_1_) (Q := P1_1_) H3.out H2.out HBEL.out HB2.out (Kd.V_mono HV2.out (fun k hk => hk.imp (fun h => by show w.heap.size + 4 ≤ k; have : w.heap.size + 6 ≤ k := h; omega) id)) rfl
         have hr1 := HR1.out
         rw [if_neg HR0.out] at hr1
         subst hr1
         refine bodyPost_ret (results_cell_row rfl _ _ (w.heap.size + 1 + 1) 39 #[.int .i64 a1_0, .slice Ar rr.length cr] (0, 0) _ rfl k1 Try.underlying39 rfl (by kernel_rfl)) rfl ?_
         exact ⟨_, rfl, k2, k3⟩
     | false =>
      have h' := Aside0.mk (show bocageref01_Plus.less k a0_0 l0_1 l1_1 = some (r1, r2) by simpa using h)
      clear h
      have h := h'.out
      clear h'
      obtain ⟨rr, hcut, hrr⟩ := Option.bind_eq_some_iff.1 h
      clear h
      simp only [Option.some.injEq, Prod.mk.injEq] at hrr
      obtain ⟨hr1, rfl⟩ := hrr
      have HR1 := Aside0.mk hr1
      clear hr1
      obtain ⟨T, hT⟩ : ∃ T, T = bocageref01_Plus.sub l0_1.length l0_1 l1_1 0 0 := ⟨_, rfl⟩
      rw [← hT] at hcut
      have HT := Aside0.mk hT
      have HCUT := Aside0.mk hcut
      clear hT hcut
      go_enter Try.func26, Try.ntmps26
      go_upto_if 72 with (go_at_call 31; (with_reducible refine (bocageref01_more.calls k _ _ l1_1 _ _ l0_1 false _ HRb.out hcc1.out HRa.out hcc0.out HM.out).mono ?_); rintro e w' ⟨rfl, ⟨nd, rfl⟩⟩)
      go_cut [] (fun wc => Aside0 (bocageref01_Plus.Inv w 6 a0_0 (.slice A0_1 l0_1.length c0_1) a1_0 (.slice A1_1 l1_1.length c1_1) 0 [] wc) ∧ Aside0 (wc.heap[w.heap.size + 3]? = some (.cells #[.int .i64 0, .slice none 0 0] 39 (0, 0))) ∧ Aside0 (wc.heap[w.heap.size + 4]? = some (.cells #[.int .i64 a0_0, .slice A0_1 l0_1.length c0_1] 39 (0, 0))) ∧ Aside0 (wc.heap[w.heap.size + 5]? = some (.cells #[.int .i64 a1_0, .slice A1_1 l1_1.length c1_1] 39 (0, 0))))
      case first =>
       go_wp2
       go_meet
       case rel => exact ⟨⟨H6.out.1.drewN nd⟩, ⟨blk_drewN h63.out nd⟩, ⟨blk_drewN H6.out.2.1 nd⟩, ⟨blk_drewN H6.out.2.2 nd⟩⟩
      case rest =>
       obtain ⟨hinv6, hb63, hb64, hb65⟩ := hcut
       clear H6 h63 HRa HRb HM
       obtain ⟨W6, hW6⟩ : ∃ W6, W6 = wc := ⟨_, rfl⟩
       go_upto_block 2 with (fail)
       go_cut [] (fun wc => Aside0 (bocageref01_Plus.Inv w 6 a0_0 (.slice A0_1 l0_1.length c0_1) a1_0 (.slice A1_1 l1_1.length c1_1) 0 T wc) ∧ Aside0 (wc.heap[w.heap.size + 4]? = some (.cells #[.int .i64 a0_0, .slice A0_1 l0_1.length c0_1] 39 (0, 0))) ∧ Aside0 (wc.heap[w.heap.size + 5]? = some (.cells #[.int .i64 a1_0, .slice A1_1 l1_1.length c1_1] 39 (0, 0))))
       case first =>
        go_wp2
        go_loopg [11, 12] (l0_1.length + 1) (fun g v11 v12 wr => ∃ (i : Nat) (o : Int) (xs : List Int), v11 = .int .i64 o ∧ v12 = .int .i64 i ∧ i ≤ l0_1.length ∧ 0 ≤ o ∧ o ≤ 1 ∧ Aside0 (g + i = l0_1.length + 1) ∧ Aside0 (xs ++ bocageref01_Plus.sub (l0_1.length - i) l0_1 l1_1 o i = T) ∧ Aside0 (xs.length = i) ∧ Aside0 (bocageref01_Plus.Inv w 6 a0_0 (.slice A0_1 l0_1.length c0_1) a1_0 (.slice A1_1 l1_1.length c1_1) 0 xs wr) ∧ Aside0 (wr.heap[w.heap.size + 4]? = some (.cells #[.int .i64 a0_0, .slice A0_1 l0_1.length c0_1] 39 (0, 0))) ∧ Aside0 (wr.heap[w.heap.size + 5]? = some (.cells #[.int .i64 a1_0, .slice A1_1 l1_1.length c1_1] 39 (0, 0))))
        case atStart => exact ⟨0, 0, [], rfl, rfl, by omega, by omega, by omega, ⟨by omega⟩, ⟨HT.out.symm⟩, ⟨rfl⟩, hinv6, hb64, hb65⟩
        case round =>
         obtain ⟨i, o, xs, rfl, rfl, hile, ho0, ho1, hgi, hsum, hxl, hinv, hx4, hx5⟩ := hrel
         have hi0 := hinv.out
         obtain ⟨v, hbo, hown⟩ := hi0.bo
         have cX : wr.cell? ⟨w.heap.size + 1 + 1 + 1 + 1, 1, none⟩ = some (.slice A0_1 l0_1.length c0_1) := (blk_cell hx4.out 1).trans rfl
         have cY : wr.cell? ⟨w.heap.size + 1 + 1 + 1 + 1 + 1, 1, none⟩ = some (.slice A1_1 l1_1.length c1_1) := (blk_cell hx5.out 1).trans rfl
         have HCO : Aside0 (∀ m, (wr.drewN m).cell? ⟨w.heap.size + 1 + 1 + 1, 1, none⟩ = some v) := ⟨fun m => (blk_cell (blk_drewN hbo m) 1).trans rfl⟩
         have HFO : Aside0 (∀ m, (wr.drewN m).frozen? ⟨w.heap.size + 1 + 1 + 1, 1, none⟩ = false) := ⟨fun m => blk_frozen (blk_drewN hbo m) 1⟩
         have hCx := Aside0.mk (bocageref01_Plus.reads HS0.out hi0.bel)
         have hCy := Aside0.mk (bocageref01_Plus.reads HS1.out hi0.bel)
         have HOWN := Aside0.mk hown
         have HBO := Aside0.mk hbo
         clear hown hbo hi0
         by_cases hlt : i < l0_1.length
         ·obtain ⟨ad, hA, hcx⟩ := Kd.at_int (hCx.out 0) (i : Int) (by omega) (by omega)
          subst hA
          have hix : ((i : Int)).toNat = i := by omega
          rw [hix] at hcx
          have hrd : rd l0_1 (i : Int) = l0_1.getD i 0 := by simp [rd]
          rw [hrd] at hcx
          replace hcx : wr.cell? (ad.add i) = some (.int .i64 (l0_1.getD i 0)) := hcx
          have hd2 := Aside0.mk (bocageref01_Plus.dig_some l1_1 i hln1)
          have hb1 := bocageref01_Plus.ok_at HK0.out i
          have hb2 := bocageref01_Plus.ok_at HK1.out i
          have hstep := Aside0.mk (show bocageref01_Plus.sub (l0_1.length - i) l0_1 l1_1 o i = (if l0_1.getD i 0 - l1_1.getD i 0 - o < 0 then (l0_1.getD i 0 - l1_1.getD i 0 - o + 10) :: bocageref01_Plus.sub (l0_1.length - (i + 1)) l0_1 l1_1 1 (i + 1) else (l0_1.getD i 0 - l1_1.getD i 0 - o) :: bocageref01_Plus.sub (l0_1.length - (i + 1)) l0_1 l1_1 0 (i + 1)) by
           rw [show l0_1.length - i = (l0_1.length - (i + 1)) + 1 by omega]; rfl)
          clear hix hrd
          generalize l0_1.getD i 0 = d1 at hcx hb1 hstep
          generalize l1_1.getD i 0 = d2 at hd2 hb2 hstep
          obtain ⟨hb10, hb11⟩ := hb1
          obtain ⟨hb20, hb21⟩ := hb2
          have hix0 : 0 ≤ (i : Int) := by omega
          have hix1 : (i : Int) < (l0_1.length : Int) := by omega
          by_cases hneg : d1 - d2 - o < 0
          ·have hneg' : decide (d1 - d2 - o < 0) = true := decide_eq_true hneg
           go_wp2
           go_quiet ((go_at_call 33; with_reducible exact bocageref01_Plus.quiet (bocageref01_digit.calls _ _ l1_1 (i : Int) d2 _ (hCy.out _) hcc1.out hd2.out)))
           have cO := HCO.out nq
           have fO := HFO.out nq
           go_wp2_with (at_builtin; refine wpList_append_own _ rfl _ _ 37 rfl (w.heap.size + 6) 3 i0 (.int .i64 0) 1 8 Try.underlying37 HI.out hz0 hz1 hz2 rfl (by decide) _ _ _ rfl ((pw_own_below HOWN.out (pw_below_drewN (Below.refl _ _) nq)).alloc _) ⟨wr.heap.size, 0, none⟩ 1 1 [.int .i64 (d1 - d2 - o + 10)] rfl rfl ?c1 ?c2 ?c3 ?c4 ?c5 ?_)
           case c1 =>
            intro j u hj
            match j, hj with
            | 0, hj =>
             simp at hj; subst hj
             exact (blk_cell (blk_new (wr.drewN nq) _) 0).trans rfl
           case c2 => intro u hu; simp at hu; subst hu; rfl
           case c3 => have := hxl.out; unfold maxLen; omega
           case c4 => have := hxl.out; omega
           case c5 => have := hinv.out.sz; simp; omega
           intro v' w1 hown' hgrow _
           have hown0 := pw_own_below HOWN.out (pw_below_drewN (Below.refl _ _) nq)
           obtain ⟨hinv', hv1⟩ := (hinv.out.drewN nq).push (by omega) HBO.out hown0 hown' hgrow
           obtain ⟨g, cap, rfl, hgb, hgl⟩ := hown'.form (by omega)
           have hx4' : w1.heap[w.heap.size + 4]? = wr.heap[w.heap.size + 4]? := by
            rw [hgrow.block _ (by have := blk_lt hx4.out; simp; omega) (fun e => by have := (hown0.lt _ e.symm).1; omega), heap_alloc_old _ _ (blk_lt (blk_drewN hx4.out nq))]
            rfl
           have hx5' : w1.heap[w.heap.size + 5]? = wr.heap[w.heap.size + 5]? := by
            rw [hgrow.block _ (by have := blk_lt hx5.out; simp; omega) (fun e => by have := (hown0.lt _ e.symm).1; omega), heap_alloc_old _ _ (blk_lt (blk_drewN hx5.out nq))]
            rfl
           have HI' := Aside0.mk hinv'
           have HX4 := Aside0.mk (blk_far (hx4'.trans hx4.out) (p := ⟨w.heap.size + 3, 1, none⟩) (by simp) (.slice (some ⟨g, 0, none⟩) (xs.length + 1) cap))
           have HX5 := Aside0.mk (blk_far (hx5'.trans hx5.out) (p := ⟨w.heap.size + 3, 1, none⟩) (by simp) (.slice (some ⟨g, 0, none⟩) (xs.length + 1) cap))
           have cO1 : w1.cell? ⟨w.heap.size + 1 + 1 + 1, 1, none⟩ = some v := (blk_cell hv1 1).trans rfl
           have fO1 : w1.frozen? ⟨w.heap.size + 1 + 1 + 1, 1, none⟩ = false := blk_frozen hv1 1
           clear hown' hgrow hinv' hv1 cO fO hown0 hx4' hx5'
           go_wp2
           go_roundg (l0_1.length + 1 - (i + 1))
           case measure => have := hgi.out; omega
           case rel => exact ⟨i + 1, 1, xs ++ [d1 - d2 - o + 10], rfl, by go_num, by omega, by omega, by omega, ⟨by have := hgi.out; omega⟩, ⟨by have := hsum.out; rw [hstep.out, if_pos hneg] at this; rw [← this]; simp⟩, ⟨by have := hxl.out; simp; omega⟩, HI', HX4, HX5⟩
          ·have hneg' : decide (d1 - d2 - o < 0) = false := decide_eq_false hneg
           go_wp2
           go_quiet ((go_at_call 33; with_reducible exact bocageref01_Plus.quiet (bocageref01_digit.calls _ _ l1_1 (i : Int) d2 _ (hCy.out _) hcc1.out hd2.out)))
           have cO := HCO.out nq
           have fO := HFO.out nq
           go_wp2_with (at_builtin; refine wpList_append_own _ rfl _ _ 37 rfl (w.heap.size + 6) 3 i0 (.int .i64 0) 1 8 Try.underlying37 HI.out hz0 hz1 hz2 rfl (by decide) _ _ _ rfl ((pw_own_below HOWN.out (pw_below_drewN (Below.refl _ _) nq)).alloc _) ⟨wr.heap.size, 0, none⟩ 1 1 [.int .i64 (d1 - d2 - o)] rfl rfl ?c1 ?c2 ?c3 ?c4 ?c5 ?_)
           case c1 =>
            intro j u hj
            match j, hj with
            | 0, hj =>
             simp at hj; subst hj
             exact (blk_cell (blk_new (wr.drewN nq) _) 0).trans rfl
           case c2 => intro u hu; simp at hu; subst hu; rfl
           case c3 => have := hxl.out; unfold maxLen; omega
           case c4 => have := hxl.out; omega
           case c5 => have := hinv.out.sz; simp; omega
           intro v' w1 hown' hgrow _
           have hown0 := pw_own_below HOWN.out (pw_below_drewN (Below.refl _ _) nq)
           obtain ⟨hinv', hv1⟩ := (hinv.out.drewN nq).push (by omega) HBO.out hown0 hown' hgrow
           obtain ⟨g, cap, rfl, hgb, hgl⟩ := hown'.form (by omega)
           have hx4' : w1.heap[w.heap.size + 4]? = wr.heap[w.heap.size + 4]? := by
            rw [hgrow.block _ (by have := blk_lt hx4.out; simp; omega) (fun e => by have := (hown0.lt _ e.symm).1; omega), heap_alloc_old _ _ (blk_lt (blk_drewN hx4.out nq))]
            rfl
           have hx5' : w1.heap[w.heap.size + 5]? = wr.heap[w.heap.size + 5]? := by
            rw [hgrow.block _ (by have := blk_lt hx5.out; simp; omega) (fun e => by have := (hown0.lt _ e.symm).1; omega), heap_alloc_old _ _ (blk_lt (blk_drewN hx5.out nq))]
            rfl
           have HI' := Aside0.mk hinv'
           have HX4 := Aside0.mk (blk_far (hx4'.trans hx4.out) (p := ⟨w.heap.size + 3, 1, none⟩) (by simp) (.slice (some ⟨g, 0, none⟩) (xs.length + 1) cap))
           have HX5 := Aside0.mk (blk_far (hx5'.trans hx5.out) (p := ⟨w.heap.size + 3, 1, none⟩) (by simp) (.slice (some ⟨g, 0, none⟩) (xs.length + 1) cap))
           have cO1 : w1.cell? ⟨w.heap.size + 1 + 1 + 1, 1, none⟩ = some v := (blk_cell hv1 1).trans rfl
           have fO1 : w1.frozen? ⟨w.heap.size + 1 + 1 + 1, 1, none⟩ = false := blk_frozen hv1 1
           clear hown' hgrow hinv' hv1 cO fO hown0 hx4' hx5'
           go_wp2
           go_roundg (l0_1.length + 1 - (i + 1))
           case measure => have := hgi.out; omega
           case rel => exact ⟨i + 1, 0, xs ++ [d1 - d2 - o], rfl, by go_num, by omega, by omega, by omega, ⟨by have := hgi.out; omega⟩, ⟨by have := hsum.out; rw [hstep.out, if_neg (by omega)] at this; rw [← this]; simp⟩, ⟨by have := hxl.out; simp; omega⟩, HI', HX4, HX5⟩
         ·obtain rfl : i = l0_1.length := by omega
          go_wp2
          go_meet
          case rel => exact ⟨⟨by have := hsum.out; rw [Nat.sub_self] at this; simp only [bocageref01_Plus.sub, List.append_nil] at this; rw [← this]; exact hinv.out⟩, hx4, hx5⟩
       case rest =>
        obtain ⟨hcT, hx4, hx5⟩ := hcut
        clear hinv6 hb63 hb64 hb65 hW6
        have hi0 := hcT.out
        obtain ⟨v, hbo, hown⟩ := hi0.bo
        have hTn : Aside0 (T.length = l0_1.length) := ⟨by rw [HT.out, bocageref01_Plus.sub_len]⟩
        obtain ⟨Ao, co, hvo⟩ := own_slice hown
        subst hvo
        have hV : Kd.V (Kd.int .i64) 3 (wc.setCell ⟨w.heap.size + 1 + 1 + 1, 0, none⟩ (.int .i64 a0_0)) (wc.setCell ⟨w.heap.size + 1 + 1 + 1, 0, none⟩ (.int .i64 a0_0)).heap.size (fun k_ => (fun k => w.heap.size + 6 ≤ k) k_) (.slice Ao T.length co) T :=
         bocageref01_Plus.toV' (ownsRow_setCell_other (a := ⟨w.heap.size + 1 + 1 + 1, 0, none⟩) hown (fun e => by have := (hown.lt _ e).1; simp at this; omega) (.int .i64 a0_0))
        have HV := Aside0.mk hV
        have cO0 : wc.cell? ⟨w.heap.size + 1 + 1 + 1, 0, none⟩ = some (.int .i64 0) := (blk_cell hbo 0).trans rfl
        have cO : wc.cell? ⟨w.heap.size + 1 + 1 + 1, 1, none⟩ = some (.slice Ao T.length co) := (blk_cell hbo 1).trans rfl
        have fO : wc.frozen? ⟨w.heap.size + 1 + 1 + 1, 0, none⟩ = false := blk_frozen hbo 0
        have cX : wc.cell? ⟨w.heap.size + 1 + 1 + 1 + 1, 0, none⟩ = some (.int .i64 a0_0) := (blk_cell hx4.out 0).trans rfl
        have H3 : Aside0 ((wc.setCell ⟨w.heap.size + 1 + 1 + 1, 0, none⟩ (.int .i64 a0_0)).heap[w.heap.size + 3]? = some (.cells #[.int .i64 a0_0, .slice Ao T.length co] 39 (0, 0))) := ⟨blk_put hbo 0 _ rfl⟩
        have H2 : Aside0 ((wc.setCell ⟨w.heap.size + 1 + 1 + 1, 0, none⟩ (.int .i64 a0_0)).heap[w.heap.size + 2]? = some (.cells #[.int .i64 0, .slice none 0 0] 39 (0, 0))) := ⟨blk_far hcT.out.br (by simp) _⟩
        have HBEL : Aside0 (Below w.heap.size w (wc.setCell ⟨w.heap.size + 1 + 1 + 1, 0, none⟩ (.int .i64 a0_0))) := ⟨hcT.out.bel.setCell (by show _ ≤ w.heap.size + 1 + 1 + 1; omega) _⟩
        clear hV hown hbo hi0
        by_cases hr0 : rr.length = 0
        ·have hr0' : ((rr.length : Int) == 0) = true := by simp [hr0]
         have HR0 := Aside0.mk hr0
         clear hr0
         go_wp2_with (go_at_call 34; (with_reducible refine (bocageref01_cut.calls k _ _ _ T rr _ HV.out HCUT.out).mono ?_); rintro e w2 ⟨v0, rfl, hV2, hb2⟩; obtain ⟨Ar, cr, rfl⟩ := Kd.V_slice hV2; have HV2 := Aside0.mk hV2; have HB2 := Aside0.mk hb2; have q30 := (blk_cell (blk_below H3.out hb2) 0).trans rfl; have q3f := blk_frozen (blk_below H3.out hb2) 1; have q3g := blk_frozen (blk_below H3.out hb2) 0; have q31 := (blk_cell (blk_below H3.out hb2) 1).trans rfl; have q20 := (blk_cell (blk_below H2.out hb2) 0).trans rfl; have q21 := (blk_cell (blk_below H2.out hb2) 1).trans rfl; have q2f := blk_frozen (blk_below H2.out hb2) 0; have q2g := blk_frozen (blk_below H2.out hb2) 1; clear hV2 hb2)
         have hr1 := HR1.out
         rw [if_pos HR0.out] at hr1
         subst hr1
         obtain ⟨k1, k2, k3⟩ := bocageref01_Plus.fin0 (P := P0_1_) (Q := P1_1_) H2.out HBEL.out HB2.out (Kd.V_mono HV2.out (fun k hk => hk.imp (fun h => by show w.heap.size + 4 ≤ k; have : w.heap.size + 6 ≤ k := h; omega) id)) (blk_lt H3.out)
         refine bodyPost_ret (results_cell_row rfl _ _ (w.heap.size + 1 + 1) 39 #[.int .i64 0, .slice Ar rr.length cr] (0, 0) _ rfl k1 Try.underlying39 rfl (by kernel_rfl)) rfl ?_
         exact ⟨_, rfl, k2, k3⟩
        ·have hr0' : ((rr.length : Int) == 0) = false := beq_eq_false_iff_ne.mpr (by omega)
         have HR0 := Aside0.mk hr0
         clear hr0
         go_wp2_with (go_at_call 34; (with_reducible refine (bocageref01_cut.calls k _ _ _ T rr _ HV.out HCUT.out).mono ?_); rintro e w2 ⟨v0, rfl, hV2, hb2⟩; obtain ⟨Ar, cr, rfl⟩ := Kd.V_slice hV2; have HV2 := Aside0.mk hV2; have HB2 := Aside0.mk hb2; have q30 := (blk_cell (blk_below H3.out hb2) 0).trans rfl; have q3f := blk_frozen (blk_below H3.out hb2) 1; have q31 := (blk_cell (blk_below H3.out hb2) 1).trans rfl; have q20 := (blk_cell (blk_below H2.out hb2) 0).trans rfl; have q21 := (blk_cell (blk_below H2.out hb2) 1).trans rfl; have q2f := blk_frozen (blk_below H2.out hb2) 0; have q2g := blk_frozen (blk_below H2.out hb2) 1; clear hV2 hb2)
         obtain ⟨k1, k2, k3⟩ := bocageref01_Plus.fin (P := P0_1_) (Q := P1_1_) H3.out H2.out HBEL.out HB2.out (Kd.V_mono HV2.out (fun k hk => hk.imp (fun h => by show w.heap.size + 4 ≤ k; have : w.heap.size + 6 ≤ k := h; omega) id)) rfl
         have hr1 := HR1.out
         rw [if_neg HR0.out] at hr1
         subst hr1
         refine bodyPost_ret (results_cell_row rfl _ _ (w.heap.size + 1 + 1) 39 #[.int .i64 a0_0, .slice Ar rr.length cr] (0, 0) _ rfl k1 Try.underlying39 rfl (by kernel_rfl)) rfl ?_
         exact ⟨_, rfl, k2, k3⟩
 ·rw [if_neg hok] at h
  cases h

end Go.Proofs.Ytagcloidicnhhaa.Print
