-- Turned by program out of the print of this seat (wip/print): the same walks under a Below that tells of the draws, too.
import Derived.Test.YtkkbmjfhpngalaaPrint0
import Derived.Test.YtkkbmjfhpngalaaPrint1
import Derived.Test.YtkkbmjfhpngalaaPrint2
import Derived.Test.YtkkbmjfhpngalaaSh
namespace Go.Proofs.Ytkkbmjfhpngalaa.PrintG
open Go.RowKit hiding Below
open Go.Proofs.YtkkbmjfhpngalaaW.PrintWords hiding below_alloc below_drew pw_below_drewN below_then below_size below_step below_set below_drew1 blk_below box_event
open Go.Proofs.YtkkbmjfhpngalaaW.PrintLast Go.Proofs.YtkkbmjfhpngalaaW.PrintMore Go.Proofs.Ytkkbmjfhpngalaa.Print
attribute [local go_sem] max2_int min2_int max_two min_two max_three min_three max_four min_four
set_option linter.unusedVariables false
set_option linter.unusedSimpArgs false
/-- what lies below stands, and draws are made only -/
structure Below (B : Nat) (w w' : World) : Prop where
  b : Go.RowKit.Below B w w'
  d : w.drawn ≤ w'.drawn
theorem Below.refl (B : Nat) (w : World) : Below B w w := ⟨Go.RowKit.Below.refl B w, Nat.le_refl _⟩
theorem Below.size {B : Nat} {w w' : World} (h : Below B w w') : w.heap.size ≤ w'.heap.size := h.b.size
theorem below_alloc {w W : World} (h : Below w.heap.size w W) (o : Obj) : Below w.heap.size w (W.alloc o) := ⟨h.b.alloc h.b.size o, h.d⟩
theorem pw_below_drewN {B : Nat} {w W : World} (h : Below B w W) (n : Nat) : Below B w (W.drewN n) := ⟨⟨h.b.os, h.b.tape, h.b.output, h.b.size, h.b.block⟩, Nat.le_trans h.d (Nat.le_add_right _ _)⟩
theorem below_drew1 {B : Nat} {w W : World} (h : Below B w W) : Below B w W.drew := ⟨h.b.drew, Nat.le_trans h.d (Nat.le_succ _)⟩
theorem below_size {w W : World} (h : Below w.heap.size w W) : w.heap.size ≤ W.heap.size := h.b.size
theorem below_step {w W w2 : World} (h : Below w.heap.size w W) (k : Below W.heap.size W w2) : Below w.heap.size w w2 :=
  ⟨h.b.trans ⟨k.b.os, k.b.tape, k.b.output, k.b.size, fun i hi => k.b.block i (Nat.lt_of_lt_of_le hi h.b.size)⟩, Nat.le_trans h.d k.d⟩
theorem below_set {w W : World} {g j : Nat} {v : Value} (h : Below w.heap.size w W) (hg : w.heap.size ≤ g) : Below w.heap.size w (W.setCell ⟨g, j, none⟩ v) := ⟨h.b.setCell hg _, h.d⟩
theorem blk_below {w w1 : World} {g : Nat} {o : Obj} (h : w.heap[g]? = some o) (hb : Below w.heap.size w w1) : w1.heap[g]? = some o := (hb.b.block g (blk_lt h)).trans h
section
variable {P : Program} {ops : Array Oper} {rest : List Oper} {o : Oper} {a : Act} {Q : Exit → Act → World → Prop}
theorem box_event {W : World} (hgd : o.guard = none) {N : Tmp} (_hd : o.dst = some N) {cs : Array Value} {t : TypeId}
    (hrun : (execOp a.eval o).run P W = .ok (.value (.pointer (some ⟨W.heap.size, 0, none⟩))) (W.alloc (.cells cs t (0, 0))))
    (h : ∀ g, g = W.heap.size → ∀ w1, w1.heap[g]? = some (.cells cs t (0, 0)) → Below W.heap.size W w1 → wpList P ops Q rest (a.put o.dst (.pointer (some ⟨g, 0, none⟩))) w1) : wpList P ops Q (o :: rest) a W :=
  Kd.event_run hgd hrun (h _ rfl _ (blk_new W _) (below_alloc (Below.refl _ _) _))
/-- a row that is written out: numbers of 64 bits -/
theorem Kd.R_lit_step (d : Kd Int) {w0 W : World} (base e : Nat) (hw : Region.wanted o (yielded ops a.tmps) = true) {N : Tmp} (_hd : o.dst = some N) {xs : List Int} {inner : List Value} {ok okp : Nat → Prop} {Kc : Act → World → Prop}
    (hrun : (execOp a.eval o).run P W = .ok (.value (.slice (some ⟨W.heap.size, 0, none⟩) xs.length xs.length)) (W.alloc (.cells inner.toArray e)))
    (hrep : Reps (d.M W base okp) d.sz xs inner) (hok : ∀ k, okp k → ok k) (hfresh : ok W.heap.size) (HB : Below base w0 W) (hbase : base ≤ W.heap.size) (hm : xs.length ≤ 9223372036854775807)
    (h : ∀ v1 w1, d.R e w1 base ok v1 xs → Below base w0 w1 → W.grownBy w1 none → (∃ b, v1.ownBlock = some b ∧ W.heap.size ≤ b) → Kc (a.put o.dst v1) w1) : if Region.wanted o (yielded ops a.tmps) = true then Oper.wp P o a W Kc Q else Kc (a.put o.dst undef) W := by
  -- the kit's own step, for a row of its own that tells nothing of the draws; what is known of the world besides is told by the run
  have key := Go.Proofs.YtkkbmjfhpngalaaW.PrintWords.Kd.R_lit_step (ops := ops) (a := a) (Q := Q) (Kc := fun a' w' => w' = W.alloc (.cells inner.toArray e) → Kc a' w') d base e hw _hd hrun hrep hok hfresh HB.b hbase hm
    (fun v1 w1 h1 h2 h3 h4 he => h v1 w1 h1 ⟨h2, by rw [he]; exact HB.d⟩ h3 h4)
  rw [if_pos hw] at key ⊢
  unfold Oper.wp at key ⊢
  rw [hrun] at key ⊢
  exact key rfl
end
theorem bl {B : Nat} {w0 w W : World} (h : Aside0 (Below B w0 w)) (c : Below B w0 w → Below B w0 W := by (intro h_; repeat (first | (with_reducible first | exact h_ | apply below_alloc | apply pw_below_drewN | apply below_drew1 | refine below_set ?_ (Aside0.out (by assumption))) | exact h_))) : Below B w0 W := c h.out
theorem bkb {w W w1 : World} {g : Nat} {o : Obj} (h : Aside0 (w.heap[g]? = some o)) (hb : Below W.heap.size W w1) (c : w.heap[g]? = some o → W.heap[g]? = some o := by (intro h_; (with_reducible repeat (first | refine blk_drewN ?_ _ | refine blk_drew ?_ | refine blk_alloc ?_ _)); exact h_)) : Aside0 (w1.heap[g]? = some o) := ⟨blk_below (c h.out) hb⟩
theorem bst {w0 w W w1 : World} (h : Aside0 (Below w0.heap.size w0 w)) (hb : Below W.heap.size W w1) (c : Below w0.heap.size w0 w → Below w0.heap.size w0 W := by (intro h_; repeat (first | (with_reducible first | exact h_ | apply below_alloc | apply pw_below_drewN | apply below_drew1 | refine below_set ?_ (Aside0.out (by assumption))) | exact h_))) : Aside0 (Below w0.heap.size w0 w1) := ⟨below_step (c h.out) hb⟩
theorem krb {α : Type} {d : Kd α} {e base : Nat} {w W w1 : World} {ok : Nat → Prop} {v : Value} {xs : List α} (h : Aside0 (d.R e w base ok v xs)) (hb : Below W.heap.size W w1) (c : d.R e w base ok v xs → d.R e W base ok v xs := by (intro h_; (with_reducible repeat (first | apply Kd.R_alloc | apply Kd.R_drewN | apply Kd.R_drew)); exact h_)) : Aside0 (d.R e w1 base ok v xs) := ⟨Kd.R_below (c h.out) hb.b⟩
theorem lsz {w0 w W : World} {g : Nat} (hg : g = W.heap.size) (h : Aside0 (Below w0.heap.size w0 w)) (c : Below w0.heap.size w0 w → Below w0.heap.size w0 W := by (intro h_; repeat (first | (with_reducible first | exact h_ | apply below_alloc | apply pw_below_drewN | apply below_drew1 | refine below_set ?_ (Aside0.out (by assumption))) | exact h_))) : Aside0 (w0.heap.size ≤ g) := ⟨by rw [hg]; exact below_size (c h.out)⟩
theorem endB {B : Nat} {w0 w W : World} {e e' : Ending} (h : Aside0 (Below B w0 w)) (he : e = e' := by first | rfl | (simp [errW_none, errW_some] <;> rfl) | (simp [*, errW_none, errW_some] <;> rfl)) (c : Below B w0 w → Below B w0 W := by (intro h_; repeat (first | (with_reducible first | exact h_ | apply below_alloc | apply pw_below_drewN | apply below_drew1 | refine below_set ?_ (Aside0.out (by assumption))) | exact h_))) : e = e' ∧ Below B w0 W := ⟨he, c h.out⟩
section
variable {P : Program} {ops : Array Oper} {Q : Exit → Act → World → Prop}
theorem bxe {o : Oper} {rest : List Oper} {a : Act} {W : World} {N : Tmp} {cs : Array Value} {t : TypeId} (h : ∀ g, g = W.heap.size → ∀ w1, w1.heap[g]? = some (.cells cs t (0, 0)) → Below W.heap.size W w1 → wpList P ops Q rest (a.put o.dst (.pointer (some ⟨g, 0, none⟩))) w1) (hd : o.dst = some N := by rfl) (hg : o.guard = none := by rfl)
    (hr : (execOp a.eval o).run P W = .ok (.value (.pointer (some ⟨W.heap.size, 0, none⟩))) (W.alloc (.cells cs t (0, 0))) := by first | (go_simp; done) | (go_simp; rfl)) : wpList P ops Q (o :: rest) a W := box_event hg hd hr h
end
set_option maxHeartbeats 8000000 in
set_option maxRecDepth 100000 in
theorem cut_First.calls  (r1 : Int) (r2 : Int) (w : World) (h : cut_First.f  = some (r1, r2)) :
    Calls Try.prog 69 #[] w fun e w' => e = .returned (.agg #[.int .i64 r1, .int .i64 r2]) ∧ Below w.heap.size w w' := by
  have hu23 := Try.underlying23
  have HB := Aside0.mk (Below.refl w.heap.size w)
  have H : (some ((-1), 0)) = some (r1, r2) := h
  clear h
  simp only [Option.some.injEq, Prod.mk.injEq] at H
  obtain ⟨rfl, rfl⟩ := H
  go_enter Try.func69, Try.ntmps69
  go_wp2_with (first | ((with_reducible refine gate_dst (N := 0) rfl ?_); refine bxe (N := 0) (cs := #[.int .i64 0, .int .i64 0]) (t := 23) ?_; intro gb217 hg w1 hbox hb; have BK217 := Aside0.mk (hbox); have GW217 := lsz hg HB; have GE217 := lsz hg HB; replace HB := bst HB hb; clear hb hbox hg; obtain ⟨hcz2_0, hcz2_1⟩ := e2 BK217; obtain ⟨hfz2_0, hfz2_1⟩ := f2 BK217))
  refine bodyPost_ret (results_cell_row rfl _ _ gb217 23 #[.int .i64 (-1), .int .i64 0] (0, 0) _ rfl (bkp BK217) Try.underlying23 rfl (by kernel_rfl)) rfl ?_
  exact endB HB
set_option maxHeartbeats 8000000 in
set_option maxRecDepth 100000 in
theorem cut_Last.calls  (r1 : Int) (r2 : Int) (w : World) (h : cut_Last.f  = some (r1, r2)) :
    Calls Try.prog 70 #[] w fun e w' => e = .returned (.agg #[.int .i64 r1, .int .i64 r2]) ∧ Below w.heap.size w w' := by
  have hu23 := Try.underlying23
  have HB := Aside0.mk (Below.refl w.heap.size w)
  have H : (some (1, 0)) = some (r1, r2) := h
  clear h
  simp only [Option.some.injEq, Prod.mk.injEq] at H
  obtain ⟨rfl, rfl⟩ := H
  go_enter Try.func70, Try.ntmps70
  go_wp2_with (first | ((with_reducible refine gate_dst (N := 0) rfl ?_); refine bxe (N := 0) (cs := #[.int .i64 0, .int .i64 0]) (t := 23) ?_; intro gb218 hg w1 hbox hb; have BK218 := Aside0.mk (hbox); have GW218 := lsz hg HB; have GE218 := lsz hg HB; replace HB := bst HB hb; clear hb hbox hg; obtain ⟨hcz2_0, hcz2_1⟩ := e2 BK218; obtain ⟨hfz2_0, hfz2_1⟩ := f2 BK218))
  refine bodyPost_ret (results_cell_row rfl _ _ gb218 23 #[.int .i64 1, .int .i64 0] (0, 0) _ rfl (bkp BK218) Try.underlying23 rfl (by kernel_rfl)) rfl ?_
  exact endB HB
set_option maxHeartbeats 8000000 in
set_option maxRecDepth 100000 in
theorem cut_Canon.calls (k : Nat) (a0_0 : Int) (a0_1 : Int) (r1 : Int) (r2 : Int) (w : World) (h : cut_Canon.f k a0_0 a0_1 = some (r1, r2)) :
    Calls Try.prog 55 #[.agg #[.int .i64 a0_0, .int .i64 a0_1]] w fun e w' => e = .returned (.agg #[.int .i64 r1, .int .i64 r2]) ∧ Below w.heap.size w w' := by
  have hu23 := Try.underlying23
  have HB := Aside0.mk (Below.refl w.heap.size w)
  have H : (if a0_0 < 0 then (cut_Canon.j0 k true a0_0 a0_1) else (if a0_0 = 0 then (cut_Canon.j0 k (a0_1 == (-9223372036854775808)) a0_0 a0_1) else (cut_Canon.j0 k false a0_0 a0_1))) = some (r1, r2) := h
  clear h
  have HC2 := Aside0.mk H
  clear H
  go_enter Try.func55, Try.ntmps55
  go_upto_region 1 with (first | ((with_reducible refine gate_dst (N := 1) rfl ?_); refine bxe (N := 1) (cs := #[.int .i64 a0_0, .int .i64 a0_1]) (t := 23) ?_; intro gb219 hg w3 hbox hb; have BK219 := Aside0.mk (hbox); have GW219 := lsz hg HB; have GE219 := lsz hg HB; replace HB := bst HB hb; clear hb hbox hg) | ((with_reducible refine gate_dst (N := 2) rfl ?_); refine bxe (N := 2) (cs := #[.int .i64 0, .int .i64 0]) (t := 23) ?_; intro gb220 hg w4 hbox hb; have BK220 := Aside0.mk (hbox); have GW220 := lsz hg HB; have GE220 := lsz hg HB; replace HB := bst HB hb; have NB219_220 := nlt hg BK219; have NB220_219 := ngt hg BK219; replace BK219 := bkb BK219 hb; clear hb hbox hg))
  (try simp only [Act.put, List.setIfInBounds_toArray, List.set_cons_zero, List.set_cons_succ])
  go_cut [3] (fun v3 wc => ∃ (kq : Nat) (x3_1 : Bool), v3 = .bool x3_1 ∧ Aside0 (cut_Canon.j0 kq x3_1 a0_0 a0_1 = some (r1, r2)) ∧ Aside0 (kq ≤ k) ∧ Aside0 (wc.heap[gb219]? = some (.cells #[.int .i64 a0_0, .int .i64 a0_1] 23 (0, 0))) ∧ Aside0 (wc.heap[gb220]? = some (.cells #[.int .i64 0, .int .i64 0] 23 (0, 0))) ∧ Aside0 (Below w.heap.size w wc))
  case first =>
    have H := HC2.out
    clear HC2
    by_cases c5 : a0_0 < 0
    · rw [if_pos c5] at H
      have c5b0 : decide (a0_0 < 0) = true := decide_eq_true c5
      clear c5
      (first | rw [c5b0] | (simp only [i64_w, i32_w]; rw [c5b0]) | skip)
      have H' := Aside0.mk H
      clear H
      have hnb6 := NB219_220.out
      have hnc6 := NB220_219.out
      have hcz7_0 : w4.cell? ⟨gb219, 0, none⟩ = some (.int .i64 a0_0) := (blk_cell BK219.out 0).trans rfl
      have hcz7_1 : w4.cell? ⟨gb219, 1, none⟩ = some (.int .i64 a0_1) := (blk_cell BK219.out 1).trans rfl
      have hfz7_0 := blk_frozen BK219.out 0
      have hfz7_1 := blk_frozen BK219.out 1
      go_wp2
      go_meet
      case rel => exact ⟨_, (true), (by first | rfl | (simp; done) | (simp [*]; done)), H', ⟨by first | omega | exact Nat.le_refl _⟩, ⟨bk BK219⟩, ⟨bk BK220⟩, ⟨bl HB⟩⟩
    · rw [if_neg c5] at H
      have c5b0 : decide (a0_0 < 0) = false := decide_eq_false c5
      clear c5
      (first | rw [c5b0] | (simp only [i64_w, i32_w]; rw [c5b0]) | skip)
      by_cases c8 : a0_0 = 0
      · rw [if_pos c8] at H
        have c8b0 : (a0_0 == 0) = true := beq_iff_eq.mpr c8
        have c8b1 : (a0_0 != 0) = false := bne_eq_false_iff_eq.mpr c8
        clear c8
        have H' := Aside0.mk H
        clear H
        have hnb9 := NB219_220.out
        have hnc9 := NB220_219.out
        have hcz10_0 : w4.cell? ⟨gb219, 0, none⟩ = some (.int .i64 a0_0) := (blk_cell BK219.out 0).trans rfl
        have hcz10_1 : w4.cell? ⟨gb219, 1, none⟩ = some (.int .i64 a0_1) := (blk_cell BK219.out 1).trans rfl
        have hfz10_0 := blk_frozen BK219.out 0
        have hfz10_1 := blk_frozen BK219.out 1
        go_wp2
        go_meet
        case rel => exact ⟨_, ((a0_1 == (-9223372036854775808))), (by first | rfl | (simp; done) | (simp [*]; done)), H', ⟨by first | omega | exact Nat.le_refl _⟩, ⟨bk BK219⟩, ⟨bk BK220⟩, ⟨bl HB⟩⟩
      · rw [if_neg c8] at H
        have c8b0 : (a0_0 == 0) = false := beq_eq_false_iff_ne.mpr c8
        have c8b1 : (a0_0 != 0) = true := bne_iff_ne.mpr c8
        have H' := Aside0.mk H
        clear H
        have hnb11 := NB219_220.out
        have hnc11 := NB220_219.out
        have hcz12_0 : w4.cell? ⟨gb219, 0, none⟩ = some (.int .i64 a0_0) := (blk_cell BK219.out 0).trans rfl
        have hcz12_1 : w4.cell? ⟨gb219, 1, none⟩ = some (.int .i64 a0_1) := (blk_cell BK219.out 1).trans rfl
        have hfz12_0 := blk_frozen BK219.out 0
        have hfz12_1 := blk_frozen BK219.out 1
        go_wp2
        go_meet
        case rel => exact ⟨_, (false), (by first | rfl | (simp; done) | (simp [*]; done)), H', ⟨by first | omega | exact Nat.le_refl _⟩, ⟨bk BK219⟩, ⟨bk BK220⟩, ⟨bl HB⟩⟩
  case rest =>
    clear HC2
    try clear c1
    try clear p2
    try clear c5
    try clear c5b0
    try clear c6
    try clear c8
    try clear c8b0
    try clear c8b1
    try clear c9
    try clear c11
    try clear hcz10_0
    try clear hcz10_1
    try clear hcz12_0
    try clear hcz12_1
    try clear hcz7_0
    try clear hcz7_1
    try clear hfz10_0
    try clear hfz10_1
    try clear hfz12_0
    try clear hfz12_1
    try clear hfz7_0
    try clear hfz7_1
    obtain ⟨kq, x3_1, rfl, HA, HJ1, BK219, BK220, HB⟩ := hcut
    cases kq with
    | zero => exact absurd HA.out (by simp [cut_Canon.j0])
    | succ kj1 =>
      have H := HA.out
      clear HA
      simp only [cut_Canon.j0] at H
      by_cases c13 : x3_1 = true
      · subst c13
        have H1 : ((cut_First.f).bind fun bt221 => (some (bt221.1, bt221.2))) = some (r1, r2) := by rw [if_pos rfl] at H; exact H
        clear H
        have H := H1
        clear H1
        replace H := Option.bind_eq_some_iff.mp H
        obtain ⟨⟨t221, t222⟩, A140, H⟩ := H
        replace H : (some (t221, t222)) = some (r1, r2) := H
        have A14 := Aside0.mk A140
        clear A140
        simp only [Option.some.injEq, Prod.mk.injEq] at H
        obtain ⟨rfl, rfl⟩ := H
        go_wp2_with (first | ((with_reducible refine gate_callee (f := 69) rfl ?_); refine gol (some 17) Try.func69 #[] ?_; (with_reducible refine (cut_First.calls  t221 t222 _ A14.out).mono ?_); rintro e w15 ⟨rfl, hb⟩; refine ⟨_, rfl, ?_⟩; replace BK219 := bkb BK219 hb; replace BK220 := bkb BK220 hb; replace HB := bst HB hb; (try clear hb); (try clear hb2); (try clear hk); (try clear hi); have hnb16 := NB220_219.out; have hnc16 := NB219_220.out; obtain ⟨hcz17_0, hcz17_1⟩ := e2 BK220; obtain ⟨hfz17_0, hfz17_1⟩ := f2 BK220))
        refine bodyPost_ret (results_cell_row rfl _ _ gb220 23 #[.int .i64 t221, .int .i64 t222] (0, 0) _ rfl (bkp BK220) Try.underlying23 rfl (by kernel_rfl)) rfl ?_
        exact endB HB
      · replace c13 := Bool.eq_false_iff.mpr c13
        subst c13
        have H1 : (if a0_0 > 0 then ((cut_Last.f).bind fun bt223 => (some (bt223.1, bt223.2))) else (some (a0_0, a0_1))) = some (r1, r2) := by rw [if_neg (show ¬ (false = true) by decide)] at H; exact H
        clear H
        have H := H1
        clear H1
        by_cases c18 : a0_0 > 0
        · rw [if_pos c18] at H
          have c18b0 : decide (0 < a0_0) = true := decide_eq_true c18
          clear c18
          replace H := Option.bind_eq_some_iff.mp H
          obtain ⟨⟨t223, t224⟩, A190, H⟩ := H
          replace H : (some (t223, t224)) = some (r1, r2) := H
          have A19 := Aside0.mk A190
          clear A190
          simp only [Option.some.injEq, Prod.mk.injEq] at H
          obtain ⟨rfl, rfl⟩ := H
          have hnb20 := NB219_220.out
          have hnc20 := NB220_219.out
          have hcz21_0 : wc.cell? ⟨gb219, 0, none⟩ = some (.int .i64 a0_0) := (blk_cell BK219.out 0).trans rfl
          have hcz21_1 : wc.cell? ⟨gb219, 1, none⟩ = some (.int .i64 a0_1) := (blk_cell BK219.out 1).trans rfl
          have hfz21_0 := blk_frozen BK219.out 0
          have hfz21_1 := blk_frozen BK219.out 1
          go_wp2_with (first | ((with_reducible refine gate_callee (f := 70) rfl ?_); refine gol (some 22) Try.func70 #[] ?_; (with_reducible refine (cut_Last.calls  t223 t224 _ A19.out).mono ?_); rintro e w22 ⟨rfl, hb⟩; refine ⟨_, rfl, ?_⟩; replace BK219 := bkb BK219 hb; replace BK220 := bkb BK220 hb; replace HB := bst HB hb; (try clear hb); (try clear hb2); (try clear hk); (try clear hi); obtain ⟨hcz23_0, hcz23_1⟩ := e2 BK220; obtain ⟨hfz23_0, hfz23_1⟩ := f2 BK220))
          refine bodyPost_ret (results_cell_row rfl _ _ gb220 23 #[.int .i64 t223, .int .i64 t224] (0, 0) _ rfl (bkp BK220) Try.underlying23 rfl (by kernel_rfl)) rfl ?_
          exact endB HB
        · rw [if_neg c18] at H
          have c18b0 : decide (0 < a0_0) = false := decide_eq_false c18
          clear c18
          simp only [Option.some.injEq, Prod.mk.injEq] at H
          obtain ⟨rfl, rfl⟩ := H
          have hnb24 := NB219_220.out
          have hnc24 := NB220_219.out
          have hcz25_0 : wc.cell? ⟨gb219, 0, none⟩ = some (.int .i64 a0_0) := (blk_cell BK219.out 0).trans rfl
          have hcz25_1 : wc.cell? ⟨gb219, 1, none⟩ = some (.int .i64 a0_1) := (blk_cell BK219.out 1).trans rfl
          have hfz25_0 := blk_frozen BK219.out 0
          have hfz25_1 := blk_frozen BK219.out 1
          have hcz26_0 : wc.cell? ⟨gb220, 0, none⟩ = some (.int .i64 0) := (blk_cell BK220.out 0).trans rfl
          have hcz26_1 : wc.cell? ⟨gb220, 1, none⟩ = some (.int .i64 0) := (blk_cell BK220.out 1).trans rfl
          have hfz26_0 := blk_frozen BK220.out 0
          have hfz26_1 := blk_frozen BK220.out 1
          go_wp2
          refine bodyPost_ret (results_cell_row rfl _ _ gb220 23 #[.int .i64 a0_0, .int .i64 a0_1] (0, 0) _ rfl (bkp BK220) Try.underlying23 rfl (by kernel_rfl)) rfl ?_
          exact endB HB
set_option maxHeartbeats 8000000 in
set_option maxRecDepth 100000 in
theorem cut_Compare.calls (k : Nat) (a0_0 : Int) (a0_1 : Int) (a1_0 : Int) (a1_1 : Int) (r : Int) (w : World) (h : cut_Compare.f k a0_0 a0_1 a1_0 a1_1 = some r) :
    Calls Try.prog 53 #[.agg #[.int .i64 a0_0, .int .i64 a0_1], .agg #[.int .i64 a1_0, .int .i64 a1_1]] w fun e w' => e = .returned (.int .i64 r) ∧ Below w.heap.size w w' := by
  have hu23 := Try.underlying23
  have HB := Aside0.mk (Below.refl w.heap.size w)
  have H : ((cut_Canon.f k a0_0 a0_1).bind fun bt232 => ((cut_Canon.f k a1_0 a1_1).bind fun bt234 => ((cmp_Compare_int.f bt232.1 bt234.1).bind fun t236 => ((cmp_Compare_int64.f bt232.2 bt234.2).bind fun t237 => ((cmp_Or_int.f k (([t236, t237] : List Int))).bind fun t241 => (some t241)))))) = some r := h
  clear h
  replace H := Option.bind_eq_some_iff.mp H
  obtain ⟨⟨t232, t233⟩, A30, H⟩ := H
  replace H : ((cut_Canon.f k a1_0 a1_1).bind fun bt234 => ((cmp_Compare_int.f t232 bt234.1).bind fun t236 => ((cmp_Compare_int64.f t233 bt234.2).bind fun t237 => ((cmp_Or_int.f k (([t236, t237] : List Int))).bind fun t241 => (some t241))))) = some r := H
  have A3 := Aside0.mk A30
  clear A30
  replace H := Option.bind_eq_some_iff.mp H
  obtain ⟨⟨t234, t235⟩, A40, H⟩ := H
  replace H : ((cmp_Compare_int.f t232 t234).bind fun t236 => ((cmp_Compare_int64.f t233 t235).bind fun t237 => ((cmp_Or_int.f k (([t236, t237] : List Int))).bind fun t241 => (some t241)))) = some r := H
  have A4 := Aside0.mk A40
  clear A40
  replace H := Option.bind_eq_some_iff.mp H
  obtain ⟨t236, A50, H⟩ := H
  replace H : ((cmp_Compare_int64.f t233 t235).bind fun t237 => ((cmp_Or_int.f k (([t236, t237] : List Int))).bind fun t241 => (some t241))) = some r := H
  have A5 := Aside0.mk A50
  clear A50
  replace H := Option.bind_eq_some_iff.mp H
  obtain ⟨t237, A60, H⟩ := H
  replace H : ((cmp_Or_int.f k (([t236, t237] : List Int))).bind fun t241 => (some t241)) = some r := H
  have A6 := Aside0.mk A60
  clear A60
  obtain ⟨y238, hy238⟩ : ∃ y_ : List Int, y_ = (([t236, t237] : List Int)) := ⟨_, rfl⟩
  replace H : ((cmp_Or_int.f k y238).bind fun t241 => (some t241)) = some r := by first | (rw [hy238]; with_reducible exact H) | (have H2_ := (Option.bind_some _ _).symm.trans H; rw [hy238]; with_reducible exact H2_) | (have H2_ := (Option.bind_some _ _).symm.trans H; with_reducible exact H2_) | with_reducible exact H | (rw [hy238]; exact H) | exact H
  have Ny238 := Aside0.mk hy238
  clear hy238
  replace H := Option.bind_eq_some_iff.mp H
  obtain ⟨t241, A70, H⟩ := H
  replace H : (some t241) = some r := H
  have A7 := Aside0.mk A70
  clear A70
  obtain rfl := Option.some.inj H
  go_enter Try.func53, Try.ntmps53
  try go_wp2_with (first | ((with_reducible refine gate_dst (N := 2) rfl ?_); refine bxe (N := 2) (cs := #[.int .i64 a0_0, .int .i64 a0_1]) (t := 23) ?_; intro gb230 hg w8 hbox hb; have BK230 := Aside0.mk (hbox); have GW230 := lsz hg HB; have GE230 := lsz hg HB; replace HB := bst HB hb; clear hb hbox hg) | ((with_reducible refine gate_dst (N := 3) rfl ?_); refine bxe (N := 3) (cs := #[.int .i64 a1_0, .int .i64 a1_1]) (t := 23) ?_; intro gb231 hg w9 hbox hb; have BK231 := Aside0.mk (hbox); have GW231 := lsz hg HB; have GE231 := lsz hg HB; replace HB := bst HB hb; have NB230_231 := nlt hg BK230; have NB231_230 := ngt hg BK230; replace BK230 := bkb BK230 hb; clear hb hbox hg))
  replace BK230 := Aside0.mk (blk_drew BK230.out)
  replace BK231 := Aside0.mk (blk_drew BK231.out)
  replace HB := Aside0.mk (below_drew1 HB.out)
  refine start_ (n := 6) (S := fun w' => w'.cell? ⟨gb230, 0, none⟩ = some (.int .i64 a0_0) ∧ w'.cell? ⟨gb230, 1, none⟩ = some (.int .i64 a0_1) ∧ w'.cell? ⟨gb231, 0, none⟩ = some (.int .i64 a1_0) ∧ w'.cell? ⟨gb231, 1, none⟩ = some (.int .i64 a1_1)) (ds := [4, 5]) #[false, false, false, false, false, false] (by kernel_rfl) rfl rfl (c2 BK230 (e2 BK231)) (fun hHeld => ?_)
  generalize w9.drew = w10 at BK230 BK231 HB hHeld ⊢
  refine tk4 0 (some 5) #[true, false, false, false, false, false] (by kernel_rfl) hHeld ?_
  refine tk4 2 (some 7) #[true, false, true, false, false, false] (by kernel_rfl) hHeld ?_
  refine one_ (i := 1) (N := some 6) #[true, true, true, false, false, false] rfl rfl (by kernel_rfl) (by decide) (fun K hK => ?_)
  refine goes_ Try.func55 (by kernel_rfl) rfl #[.agg #[.int .i64 a0_0, .int .i64 a0_1]] (by rfl) rfl rfl (by (try simp only [List.map_toArray, List.map_cons, List.map_nil]); first | done | rfl | (simp only [List.length_drop, List.length_take]; rfl)) ?_
  with_reducible refine (cut_Canon.calls k a0_0 a0_1 t232 t233 _ A3.out).mono ?_
  rintro e w11 ⟨rfl, hb⟩
  refine ⟨_, rfl, ?_⟩
  replace BK230 := bkb BK230 hb
  replace BK231 := bkb BK231 hb
  replace HB := bst HB hb
  (try clear hb)
  (try clear hb2)
  (try clear hk)
  (try clear hi)
  refine hK.out _ _ (c2 BK230 (e2 BK231)) (fun hHeld => ?_)
  clear hK K
  refine nrp 6 ?_
  refine one_ (i := 3) (N := some 8) #[true, true, true, true, false, false] rfl rfl (by kernel_rfl) (by decide) (fun K hK => ?_)
  refine goes_ Try.func55 (by kernel_rfl) rfl #[.agg #[.int .i64 a1_0, .int .i64 a1_1]] (by rfl) rfl rfl (by (try simp only [List.map_toArray, List.map_cons, List.map_nil]); first | done | rfl | (simp only [List.length_drop, List.length_take]; rfl)) ?_
  with_reducible refine (cut_Canon.calls k a1_0 a1_1 t234 t235 _ A4.out).mono ?_
  rintro e w12 ⟨rfl, hb⟩
  refine ⟨_, rfl, ?_⟩
  replace BK230 := bkb BK230 hb
  replace BK231 := bkb BK231 hb
  replace HB := bst HB hb
  (try clear hb)
  (try clear hb2)
  (try clear hk)
  (try clear hi)
  refine hK.out _ _ (c2 BK230 (e2 BK231)) (fun hHeld => ?_)
  clear hK K
  refine nrp 8 ?_
  refine last_ (i := 4) (N := none) #[true, true, true, true, true, false] rfl rfl (by kernel_rfl) (by decide) (fun K hK => ?_)
  have hs13 : w12.cell? ⟨gb230, 0, none⟩ = some (.int .i64 a0_0) := (blk_cell BK230.out 0).trans rfl
  have hfs13 := blk_frozen BK230.out 0
  have hns13_1 := NB231_230.out
  have hms13_1 := NB230_231.out
  have hs14 : w12.cell? ⟨gb230, 1, none⟩ = some (.int .i64 a0_1) := (blk_cell BK230.out 1).trans rfl
  have hfs14 := blk_frozen BK230.out 1
  have hns14_1 := NB231_230.out
  have hms14_1 := NB230_231.out
  refine skip_ (w1 := ?_) (by rfl) rfl ?_ ?_
  rotate_left
  · go_simp
    rfl
  refine hK.out _ _ ?_
  clear hK K
  refine last_ (i := 5) (N := none) #[true, true, true, true, true, true] rfl rfl (by kernel_rfl) (by decide) (fun K hK => ?_)
  have hs15 : w12.cell? ⟨gb231, 0, none⟩ = some (.int .i64 a1_0) := (blk_cell BK231.out 0).trans rfl
  have hfs15 := blk_frozen BK231.out 0
  have hns15_0 := NB230_231.out
  have hms15_0 := NB231_230.out
  have hs16 : w12.cell? ⟨gb231, 1, none⟩ = some (.int .i64 a1_1) := (blk_cell BK231.out 1).trans rfl
  have hfs16 := blk_frozen BK231.out 1
  have hns16_0 := NB230_231.out
  have hms16_0 := NB231_230.out
  refine skip_ (w1 := ?_) (by rfl) rfl ?_ ?_
  rotate_left
  · go_simp
    rfl
  refine hK.out _ _ ?_
  clear hK K
  refine done_ (by kernel_rfl) ?_
  try go_wp2
  have n0_ : Aside0 (((((w12.setCell ⟨gb230, 0, none⟩ (.int .i64 t232)).setCell ⟨gb230, 1, none⟩ (.int .i64 t233)).setCell ⟨gb231, 0, none⟩ (.int .i64 t234)).setCell ⟨gb231, 1, none⟩ (.int .i64 t235)).heap[gb230]? = some (.cells #[.int .i64 t232, .int .i64 t233] 23 (0, 0))) := ⟨by (with_reducible repeat (first | refine blk_drewN ?_ _ | refine blk_drew ?_ | refine blk_alloc ?_ _)); refine blk_far ?_ NB230_231.out _; (with_reducible repeat (first | refine blk_drewN ?_ _ | refine blk_drew ?_ | refine blk_alloc ?_ _)); refine blk_far ?_ NB230_231.out _; (with_reducible repeat (first | refine blk_drewN ?_ _ | refine blk_drew ?_ | refine blk_alloc ?_ _)); refine blk_put (cs := #[.int .i64 t232, .int .i64 a0_1]) ?_ 1 _ rfl; (with_reducible repeat (first | refine blk_drewN ?_ _ | refine blk_drew ?_ | refine blk_alloc ?_ _)); refine blk_put (cs := #[.int .i64 a0_0, .int .i64 a0_1]) ?_ 0 _ rfl; (with_reducible repeat (first | refine blk_drewN ?_ _ | refine blk_drew ?_ | refine blk_alloc ?_ _)); exact BK230.out⟩
  have n1_ : Aside0 (((((w12.setCell ⟨gb230, 0, none⟩ (.int .i64 t232)).setCell ⟨gb230, 1, none⟩ (.int .i64 t233)).setCell ⟨gb231, 0, none⟩ (.int .i64 t234)).setCell ⟨gb231, 1, none⟩ (.int .i64 t235)).heap[gb231]? = some (.cells #[.int .i64 t234, .int .i64 t235] 23 (0, 0))) := ⟨by (with_reducible repeat (first | refine blk_drewN ?_ _ | refine blk_drew ?_ | refine blk_alloc ?_ _)); refine blk_put (cs := #[.int .i64 t234, .int .i64 a1_1]) ?_ 1 _ rfl; (with_reducible repeat (first | refine blk_drewN ?_ _ | refine blk_drew ?_ | refine blk_alloc ?_ _)); refine blk_put (cs := #[.int .i64 a1_0, .int .i64 a1_1]) ?_ 0 _ rfl; (with_reducible repeat (first | refine blk_drewN ?_ _ | refine blk_drew ?_ | refine blk_alloc ?_ _)); refine blk_far ?_ NB231_230.out _; (with_reducible repeat (first | refine blk_drewN ?_ _ | refine blk_drew ?_ | refine blk_alloc ?_ _)); refine blk_far ?_ NB231_230.out _; (with_reducible repeat (first | refine blk_drewN ?_ _ | refine blk_drew ?_ | refine blk_alloc ?_ _)); exact BK231.out⟩
  have n2_ : Aside0 (Below w.heap.size w ((((w12.setCell ⟨gb230, 0, none⟩ (.int .i64 t232)).setCell ⟨gb230, 1, none⟩ (.int .i64 t233)).setCell ⟨gb231, 0, none⟩ (.int .i64 t234)).setCell ⟨gb231, 1, none⟩ (.int .i64 t235))) := ⟨bl HB⟩
  (try clear BK230)
  (try clear BK231)
  (try clear HB)
  generalize ((((w12.setCell ⟨gb230, 0, none⟩ (.int .i64 t232)).setCell ⟨gb230, 1, none⟩ (.int .i64 t233)).setCell ⟨gb231, 0, none⟩ (.int .i64 t234)).setCell ⟨gb231, 1, none⟩ (.int .i64 t235)) = w17 at n0_ n1_ n2_ ⊢
  have BK230 := n0_
  have BK231 := n1_
  have HB := n2_
  clear n0_ n1_ n2_
  replace BK230 := Aside0.mk (blk_drew BK230.out)
  replace BK231 := Aside0.mk (blk_drew BK231.out)
  replace HB := Aside0.mk (below_drew1 HB.out)
  refine start_ (n := 13) (S := fun w' => w'.cell? ⟨gb230, 0, none⟩ = some (.int .i64 t232) ∧ w'.cell? ⟨gb230, 1, none⟩ = some (.int .i64 t233) ∧ w'.cell? ⟨gb231, 0, none⟩ = some (.int .i64 t234) ∧ w'.cell? ⟨gb231, 1, none⟩ = some (.int .i64 t235)) (ds := []) #[false, false, false, false, false, false, false, false, false, false, false, false, false] (by kernel_rfl) rfl rfl (c2 BK230 (e2 BK231)) (fun hHeld => ?_); refine with_tabW cut_Compare.tab2 cut_Compare.bits2 (fun HT_ HW_ => ?_)
  generalize w17.drew = w18 at BK230 BK231 HB hHeld ⊢
  refine pu 0 (some 9) #[true, false, false, false, false, false, false, false, false, false, false, false, false] (any_of HT_.out (by kernel_rfl)) ?_
  refine pu 2 (some 11) #[true, false, true, false, false, false, false, false, false, false, false, false, false] (any_of HT_.out (by kernel_rfl)) ?_
  refine pu 5 (some 14) #[true, false, true, false, false, true, false, false, false, false, false, false, false] (any_of HT_.out (by kernel_rfl)) ?_
  refine pu 7 (some 16) #[true, false, true, false, false, true, false, true, false, false, false, false, false] (any_of HT_.out (by kernel_rfl)) ?_
  refine tk4 1 (some 10) #[true, true, true, false, false, true, false, true, false, false, false, false, false] (take_ofW HT_.out HW_.out (by kernel_rfl)) hHeld ?_
  refine tk4 3 (some 12) #[true, true, true, true, false, true, false, true, false, false, false, false, false] (take_ofW HT_.out HW_.out (by kernel_rfl)) hHeld ?_
  refine tk4 6 (some 15) #[true, true, true, true, false, true, true, true, false, false, false, false, false] (take_ofW HT_.out HW_.out (by kernel_rfl)) hHeld ?_
  refine tk4 8 (some 17) #[true, true, true, true, false, true, true, true, true, false, false, false, false] (take_ofW HT_.out HW_.out (by kernel_rfl)) hHeld ?_
  refine one_ (i := 4) (N := some 13) #[true, true, true, true, true, true, true, true, true, false, false, false, false] rfl rfl (one_of HT_.out (by kernel_rfl)) (by decide) (fun K hK => ?_)
  refine goes_ Try.func72 (by kernel_rfl) rfl #[.int .i64 t232, .int .i64 t234] (by rfl) rfl rfl (by (try simp only [List.map_toArray, List.map_cons, List.map_nil]); first | done | rfl | (simp only [List.length_drop, List.length_take]; rfl)) ?_
  with_reducible refine (cmp_Compare_int.calls t232 t234 t236 _ A5.out).mono ?_
  rintro e w' ⟨rfl, ⟨nd, rfl⟩⟩
  refine ⟨_, rfl, ?_⟩
  refine hK.out _ _ (c2 BK230 (e2 BK231)) (fun hHeld => ?_)
  clear hK K
  refine nrp 13 ?_
  refine one_ (i := 9) (N := some 18) #[true, true, true, true, true, true, true, true, true, true, false, false, false] rfl rfl (one_of HT_.out (by kernel_rfl)) (by decide) (fun K hK => ?_)
  refine goes_ Try.func73 (by kernel_rfl) rfl #[.int .i64 t233, .int .i64 t235] (by rfl) rfl rfl (by (try simp only [List.map_toArray, List.map_cons, List.map_nil]); first | done | rfl | (simp only [List.length_drop, List.length_take]; rfl)) ?_
  with_reducible refine (cmp_Compare_int64.calls t233 t235 t237 _ A6.out).mono ?_
  rintro e w' ⟨rfl, ⟨nd, rfl⟩⟩
  refine ⟨_, rfl, ?_⟩
  refine hK.out _ _ (c2 BK230 (e2 BK231)) (fun hHeld => ?_)
  clear hK K
  refine nrp 18 ?_
  refine one_ (i := 10) (N := some 19) #[true, true, true, true, true, true, true, true, true, true, true, false, false] rfl rfl (one_of HT_.out (by kernel_rfl)) (by decide) (fun K hK => ?_)
  refine Kd.R_lit_step (Kd.int .i64) _ 3 ?hg (N := 19) ?hd (xs := ([t236, t237] : List Int)) (inner := [.int .i64 t236, .int .i64 t237]) (ok := fun _ => True) (okp := fun _ => True) ?hr ?hp (fun _ hk => hk) trivial (Below.refl _ _) (Nat.le_refl _) (by simp) ?_; (case hd => rfl); (case hg => rfl); (case hr => first | (go_simp; done) | (go_simp; rfl)); (case hp => exact (Reps.one (show Kd.M (Kd.int .i64) _ _ _ t236 [.int .i64 t236] from rfl) (Reps.one (show Kd.M (Kd.int .i64) _ _ _ t237 [.int .i64 t237] from rfl) (Reps.none _ _))))
  intro v239 w19 ho20 hb hg_ hnew_
  clear hg_ hnew_
  (first | rw [← Ny238.out] at ho20 | (simp only [Int.reduceToNat] at ho20; rw [← Ny238.out] at ho20))
  have HO240 := Aside0.mk (Kd.R_lower ho20 (below_size (bl HB)))
  replace BK230 := bkb BK230 hb
  replace BK231 := bkb BK231 hb
  replace HB := bst HB hb
  clear hb ho20
  obtain ⟨Ao21, co21, eo21⟩ := Kd.R_slice HO240.out
  (first | subst eo21 | (injection eo21 with f1_ f2_ f3_; have f4_ := f1_.symm; have f5_ := f3_.symm; clear f1_ f2_ f3_; subst f4_; subst f5_))
  refine hK.out _ _ (c2 BK230 (e2 BK231)) (fun hHeld => ?_)
  clear hK K
  refine nrp 19 ?_
  refine one_ (i := 11) (N := some 20) #[true, true, true, true, true, true, true, true, true, true, true, true, false] rfl rfl (one_of HT_.out (by kernel_rfl)) (by decide) (fun K hK => ?_)
  refine goes_ Try.func66 (by kernel_rfl) rfl #[.slice Ao21 y238.length co21] (by rfl) rfl rfl (by (try simp only [List.map_toArray, List.map_cons, List.map_nil]); first | done | rfl | (simp only [List.length_drop, List.length_take]; rfl)) ?_
  with_reducible refine (cmp_Or_int.calls k _ _ y238 t241 _ ?side1 ?side2 A7.out).mono ?_
  (case side1 => repeat (first | exact (Kd.R_reads' HO240.out).2.2 | (with_reducible refine Kd.C_alloc ?_ _) | (with_reducible refine Kd.C_drewN ?_ _) | (with_reducible refine Kd.C_drew ?_)))
  (case side2 => exact (Kd.R_reads' HO240.out).2.1)
  rintro e w' ⟨rfl, ⟨nd, rfl⟩⟩
  refine ⟨_, rfl, ?_⟩
  refine hK.out _ _ (c2 BK230 (e2 BK231)) (fun hHeld => ?_)
  clear hK K
  refine nrp 20 ?_
  refine pu 12 (some 4) #[true, true, true, true, true, true, true, true, true, true, true, true, true] (any_of HT_.out (by kernel_rfl)) ?_
  refine done_ (done_of HT_.out (by kernel_rfl)) ?_
  try go_wp2
  go_ret
  exact endB HB
set_option maxHeartbeats 8000000 in
set_option maxRecDepth 100000 in
theorem span_Compare.calls (k : Nat) (a0_0 : Int) (a0_1 : Int) (a0_2 : Int) (a0_3 : Int) (a1_0 : Int) (a1_1 : Int) (a1_2 : Int) (a1_3 : Int) (r : Int) (w : World) (h : span_Compare.f k a0_0 a0_1 a0_2 a0_3 a1_0 a1_1 a1_2 a1_3 = some r) :
    Calls Try.prog 38 #[.agg #[.int .i64 a0_0, .int .i64 a0_1, .int .i64 a0_2, .int .i64 a0_3], .agg #[.int .i64 a1_0, .int .i64 a1_1, .int .i64 a1_2, .int .i64 a1_3]] w fun e w' => e = .returned (.int .i64 r) ∧ Below w.heap.size w w' := by
  have hu25 := Try.underlying25
  have hu23 := Try.underlying23
  have HB := Aside0.mk (Below.refl w.heap.size w)
  have H : ((cut_Compare.f k a0_0 a0_1 a1_0 a1_1).bind fun t391 => ((cut_Compare.f k a0_2 a0_3 a1_2 a1_3).bind fun t392 => ((cmp_Or_int.f k (([t391, t392] : List Int))).bind fun t396 => (some t396)))) = some r := h
  clear h
  replace H := Option.bind_eq_some_iff.mp H
  obtain ⟨t391, A30, H⟩ := H
  replace H : ((cut_Compare.f k a0_2 a0_3 a1_2 a1_3).bind fun t392 => ((cmp_Or_int.f k (([t391, t392] : List Int))).bind fun t396 => (some t396))) = some r := H
  have A3 := Aside0.mk A30
  clear A30
  replace H := Option.bind_eq_some_iff.mp H
  obtain ⟨t392, A40, H⟩ := H
  replace H : ((cmp_Or_int.f k (([t391, t392] : List Int))).bind fun t396 => (some t396)) = some r := H
  have A4 := Aside0.mk A40
  clear A40
  obtain ⟨y393, hy393⟩ : ∃ y_ : List Int, y_ = (([t391, t392] : List Int)) := ⟨_, rfl⟩
  replace H : ((cmp_Or_int.f k y393).bind fun t396 => (some t396)) = some r := by first | (rw [hy393]; with_reducible exact H) | (have H2_ := (Option.bind_some _ _).symm.trans H; rw [hy393]; with_reducible exact H2_) | (have H2_ := (Option.bind_some _ _).symm.trans H; with_reducible exact H2_) | with_reducible exact H | (rw [hy393]; exact H) | exact H
  have Ny393 := Aside0.mk hy393
  clear hy393
  replace H := Option.bind_eq_some_iff.mp H
  obtain ⟨t396, A50, H⟩ := H
  replace H : (some t396) = some r := H
  have A5 := Aside0.mk A50
  clear A50
  obtain rfl := Option.some.inj H
  go_enter Try.func38, Try.ntmps38
  try go_wp2_with (first | ((with_reducible refine gate_dst (N := 2) rfl ?_); refine bxe (N := 2) (cs := #[.int .i64 a0_0, .int .i64 a0_1, .int .i64 a0_2, .int .i64 a0_3]) (t := 25) ?_; intro gb389 hg w6 hbox hb; have BK389 := Aside0.mk (hbox); have GW389 := lsz hg HB; have GE389 := lsz hg HB; replace HB := bst HB hb; clear hb hbox hg) | ((with_reducible refine gate_dst (N := 3) rfl ?_); refine bxe (N := 3) (cs := #[.int .i64 a1_0, .int .i64 a1_1, .int .i64 a1_2, .int .i64 a1_3]) (t := 25) ?_; intro gb390 hg w7 hbox hb; have BK390 := Aside0.mk (hbox); have GW390 := lsz hg HB; have GE390 := lsz hg HB; replace HB := bst HB hb; have NB389_390 := nlt hg BK389; have NB390_389 := ngt hg BK389; replace BK389 := bkb BK389 hb; clear hb hbox hg))
  replace BK389 := Aside0.mk (blk_drew BK389.out)
  replace BK390 := Aside0.mk (blk_drew BK390.out)
  replace HB := Aside0.mk (below_drew1 HB.out)
  refine start_ (n := 13) (S := fun w' => w'.cell? ⟨gb389, 0, none⟩ = some (.int .i64 a0_0) ∧ w'.cell? ⟨gb389, 1, none⟩ = some (.int .i64 a0_1) ∧ w'.cell? ⟨gb389, 2, none⟩ = some (.int .i64 a0_2) ∧ w'.cell? ⟨gb389, 3, none⟩ = some (.int .i64 a0_3) ∧ w'.cell? ⟨gb390, 0, none⟩ = some (.int .i64 a1_0) ∧ w'.cell? ⟨gb390, 1, none⟩ = some (.int .i64 a1_1) ∧ w'.cell? ⟨gb390, 2, none⟩ = some (.int .i64 a1_2) ∧ w'.cell? ⟨gb390, 3, none⟩ = some (.int .i64 a1_3)) (ds := []) #[false, false, false, false, false, false, false, false, false, false, false, false, false] (by kernel_rfl) rfl rfl (c4 BK389 (e4 BK390)) (fun hHeld => ?_); refine with_tabW span_Compare.tab1 span_Compare.bits1 (fun HT_ HW_ => ?_)
  generalize w7.drew = w8 at BK389 BK390 HB hHeld ⊢
  refine pu 0 (some 5) #[true, false, false, false, false, false, false, false, false, false, false, false, false] (any_of HT_.out (by kernel_rfl)) ?_
  refine pu 2 (some 7) #[true, false, true, false, false, false, false, false, false, false, false, false, false] (any_of HT_.out (by kernel_rfl)) ?_
  refine pu 5 (some 10) #[true, false, true, false, false, true, false, false, false, false, false, false, false] (any_of HT_.out (by kernel_rfl)) ?_
  refine pu 7 (some 12) #[true, false, true, false, false, true, false, true, false, false, false, false, false] (any_of HT_.out (by kernel_rfl)) ?_
  refine tk8 1 (some 6) #[true, true, true, false, false, true, false, true, false, false, false, false, false] (take_ofW HT_.out HW_.out (by kernel_rfl)) hHeld ?_
  refine tk8 3 (some 8) #[true, true, true, true, false, true, false, true, false, false, false, false, false] (take_ofW HT_.out HW_.out (by kernel_rfl)) hHeld ?_
  refine tk8 6 (some 11) #[true, true, true, true, false, true, true, true, false, false, false, false, false] (take_ofW HT_.out HW_.out (by kernel_rfl)) hHeld ?_
  refine tk8 8 (some 13) #[true, true, true, true, false, true, true, true, true, false, false, false, false] (take_ofW HT_.out HW_.out (by kernel_rfl)) hHeld ?_
  refine one_ (i := 4) (N := some 9) #[true, true, true, true, true, true, true, true, true, false, false, false, false] rfl rfl (one_of HT_.out (by kernel_rfl)) (by decide) (fun K hK => ?_)
  refine goes_ Try.func53 (by kernel_rfl) rfl #[.agg #[.int .i64 a0_0, .int .i64 a0_1], .agg #[.int .i64 a1_0, .int .i64 a1_1]] (by rfl) rfl rfl (by (try simp only [List.map_toArray, List.map_cons, List.map_nil]); first | done | rfl | (simp only [List.length_drop, List.length_take]; rfl)) ?_
  with_reducible refine (cut_Compare.calls k a0_0 a0_1 a1_0 a1_1 t391 _ A3.out).mono ?_
  rintro e w9 ⟨rfl, hb⟩
  refine ⟨_, rfl, ?_⟩
  replace BK389 := bkb BK389 hb
  replace BK390 := bkb BK390 hb
  replace HB := bst HB hb
  (try clear hb)
  (try clear hb2)
  (try clear hk)
  (try clear hi)
  refine hK.out _ _ (c4 BK389 (e4 BK390)) (fun hHeld => ?_)
  clear hK K
  refine nrp 9 ?_
  refine one_ (i := 9) (N := some 14) #[true, true, true, true, true, true, true, true, true, true, false, false, false] rfl rfl (one_of HT_.out (by kernel_rfl)) (by decide) (fun K hK => ?_)
  refine goes_ Try.func53 (by kernel_rfl) rfl #[.agg #[.int .i64 a0_2, .int .i64 a0_3], .agg #[.int .i64 a1_2, .int .i64 a1_3]] (by rfl) rfl rfl (by (try simp only [List.map_toArray, List.map_cons, List.map_nil]); first | done | rfl | (simp only [List.length_drop, List.length_take]; rfl)) ?_
  with_reducible refine (cut_Compare.calls k a0_2 a0_3 a1_2 a1_3 t392 _ A4.out).mono ?_
  rintro e w10 ⟨rfl, hb⟩
  refine ⟨_, rfl, ?_⟩
  replace BK389 := bkb BK389 hb
  replace BK390 := bkb BK390 hb
  replace HB := bst HB hb
  (try clear hb)
  (try clear hb2)
  (try clear hk)
  (try clear hi)
  refine hK.out _ _ (c4 BK389 (e4 BK390)) (fun hHeld => ?_)
  clear hK K
  refine nrp 14 ?_
  refine one_ (i := 10) (N := some 15) #[true, true, true, true, true, true, true, true, true, true, true, false, false] rfl rfl (one_of HT_.out (by kernel_rfl)) (by decide) (fun K hK => ?_)
  refine Kd.R_lit_step (Kd.int .i64) _ 3 ?hg (N := 15) ?hd (xs := ([t391, t392] : List Int)) (inner := [.int .i64 t391, .int .i64 t392]) (ok := fun _ => True) (okp := fun _ => True) ?hr ?hp (fun _ hk => hk) trivial (Below.refl _ _) (Nat.le_refl _) (by simp) ?_; (case hd => rfl); (case hg => rfl); (case hr => first | (go_simp; done) | (go_simp; rfl)); (case hp => exact (Reps.one (show Kd.M (Kd.int .i64) _ _ _ t391 [.int .i64 t391] from rfl) (Reps.one (show Kd.M (Kd.int .i64) _ _ _ t392 [.int .i64 t392] from rfl) (Reps.none _ _))))
  intro v394 w11 ho12 hb hg_ hnew_
  clear hg_ hnew_
  (first | rw [← Ny393.out] at ho12 | (simp only [Int.reduceToNat] at ho12; rw [← Ny393.out] at ho12))
  have HO395 := Aside0.mk (Kd.R_lower ho12 (below_size (bl HB)))
  replace BK389 := bkb BK389 hb
  replace BK390 := bkb BK390 hb
  replace HB := bst HB hb
  clear hb ho12
  obtain ⟨Ao13, co13, eo13⟩ := Kd.R_slice HO395.out
  (first | subst eo13 | (injection eo13 with f1_ f2_ f3_; have f4_ := f1_.symm; have f5_ := f3_.symm; clear f1_ f2_ f3_; subst f4_; subst f5_))
  refine hK.out _ _ (c4 BK389 (e4 BK390)) (fun hHeld => ?_)
  clear hK K
  refine nrp 15 ?_
  refine one_ (i := 11) (N := some 16) #[true, true, true, true, true, true, true, true, true, true, true, true, false] rfl rfl (one_of HT_.out (by kernel_rfl)) (by decide) (fun K hK => ?_)
  refine goes_ Try.func66 (by kernel_rfl) rfl #[.slice Ao13 y393.length co13] (by rfl) rfl rfl (by (try simp only [List.map_toArray, List.map_cons, List.map_nil]); first | done | rfl | (simp only [List.length_drop, List.length_take]; rfl)) ?_
  with_reducible refine (cmp_Or_int.calls k _ _ y393 t396 _ ?side1 ?side2 A5.out).mono ?_
  (case side1 => repeat (first | exact (Kd.R_reads' HO395.out).2.2 | (with_reducible refine Kd.C_alloc ?_ _) | (with_reducible refine Kd.C_drewN ?_ _) | (with_reducible refine Kd.C_drew ?_)))
  (case side2 => exact (Kd.R_reads' HO395.out).2.1)
  rintro e w' ⟨rfl, ⟨nd, rfl⟩⟩
  refine ⟨_, rfl, ?_⟩
  refine hK.out _ _ (c4 BK389 (e4 BK390)) (fun hHeld => ?_)
  clear hK K
  refine nrp 16 ?_
  refine pu 12 (some 4) #[true, true, true, true, true, true, true, true, true, true, true, true, true] (any_of HT_.out (by kernel_rfl)) ?_
  refine done_ (done_of HT_.out (by kernel_rfl)) ?_
  try go_wp2
  go_ret
  exact endB HB
end Go.Proofs.Ytkkbmjfhpngalaa.PrintG
