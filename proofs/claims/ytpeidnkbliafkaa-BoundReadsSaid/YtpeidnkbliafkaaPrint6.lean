-- Laid by wip/print/bprint.py of this repo, over the kit's printer, with functions given by hand; not trusted: Lean checks it.
import Derived.Test.YtpeidnkbliafkaaPrint0
import Derived.Test.YtpeidnkbliafkaaPrint5
import Derived.Test.YtpeidnkbliafkaaSh
namespace Go.Proofs.Ytpeidnkbliafkaa.Print
open Go.RowKit Go.Proofs.YtpeidnkbliafkaaW.PrintWords Go.Proofs.YtpeidnkbliafkaaW.PrintLast Go.Proofs.YtpeidnkbliafkaaW.PrintMore
attribute [local go_sem] max2_int min2_int max_two min_two max_three min_three max_four min_four   -- for this text's walks alone
set_option linter.unusedVariables false
set_option linter.unusedSimpArgs false
/-! ### bocageref04_Span: function 22 -/
mutual
def bocageref04_Span.j0 : Nat → Bool → Int → Int → Int → Int → Option (Int × Int × Int × Int × Int)
 | 0, _, _, _, _, _ => none
 | k + 1, x25, x317000, x317001, x318000, x318001 => if x25 = true then (some (0, 0, 0, 0, 40)) else (if x317000 = 1 then ((bocageref02_Behind.f x317001).bind fun bt321 => (bocageref04_Span.j1 k x317000 x317001 x318000 x318001 bt321.1 bt321.2 1 0)) else (bocageref04_Span.j1 k x317000 x317001 x318000 x318001 (-1) 0 1 0))
def bocageref04_Span.j1 : Nat → Int → Int → Int → Int → Int → Int → Int → Int → Option (Int × Int × Int × Int × Int)
 | 0, _, _, _, _, _, _, _, _ => none
 | k + 1, x317000, x317001, x318000, x318001, x320000, x320001, x321000, x321001 => if x317000 = 2 then ((bocageref02_Ahead.f k x317001).bind fun bt323 => (bocageref04_Span.j2 k x318000 x318001 bt323.1 bt323.2 x321000 x321001)) else (bocageref04_Span.j2 k x318000 x318001 x320000 x320001 x321000 x321001)
def bocageref04_Span.j2 : Nat → Int → Int → Int → Int → Int → Int → Option (Int × Int × Int × Int × Int)
 | 0, _, _, _, _, _, _ => none
 | k + 1, x318000, x318001, x320000, x320001, x321000, x321001 => if x318000 = 1 then ((bocageref02_Ahead.f k x318001).bind fun bt325 => (bocageref04_Span.j3 k x318000 x318001 x320000 x320001 bt325.1 bt325.2)) else (bocageref04_Span.j3 k x318000 x318001 x320000 x320001 x321000 x321001)
def bocageref04_Span.j3 : Nat → Int → Int → Int → Int → Int → Int → Option (Int × Int × Int × Int × Int)
 | 0, _, _, _, _, _, _ => none
 | k + 1, x318000, x318001, x320000, x320001, x321000, x321001 => if x318000 = 2 then ((bocageref02_Behind.f x318001).bind fun bt327 => ((bocageref03_Of.f k x320000 x320001 bt327.1 bt327.2).bind fun bt329 => (some (bt329.1, bt329.2.1, bt329.2.2.1, bt329.2.2.2.1, bt329.2.2.2.2)))) else ((bocageref03_Of.f k x320000 x320001 x321000 x321001).bind fun bt334 => (some (bt334.1, bt334.2.1, bt334.2.2.1, bt334.2.2.2.1, bt334.2.2.2.2)))
end
def bocageref04_Span.f (k : Nat) (a0_0 : Int) (a0_1 : Int) (a1_0 : Int) (a1_1 : Int) : Option (Int × Int × Int × Int × Int) := if a0_0 < 0 then (bocageref04_Span.j0 k true a0_0 a0_1 a1_0 a1_1) else (if a0_0 > 2 then (bocageref04_Span.j0 k true a0_0 a0_1 a1_0 a1_1) else (if a1_0 < 0 then (bocageref04_Span.j0 k true a0_0 a0_1 a1_0 a1_1) else (bocageref04_Span.j0 k (decide (a1_0 > 2)) a0_0 a0_1 a1_0 a1_1)))
theorem bocageref04_Span.mono_l : ∀ k, (∀ y0 y1 y2 y3 y4, LeO (bocageref04_Span.j0 k y0 y1 y2 y3 y4) (bocageref04_Span.j0 (k + 1) y0 y1 y2 y3 y4)) ∧ (∀ y0 y1 y2 y3 y4 y5 y6 y7, LeO (bocageref04_Span.j1 k y0 y1 y2 y3 y4 y5 y6 y7) (bocageref04_Span.j1 (k + 1) y0 y1 y2 y3 y4 y5 y6 y7)) ∧ (∀ y0 y1 y2 y3 y4 y5, LeO (bocageref04_Span.j2 k y0 y1 y2 y3 y4 y5) (bocageref04_Span.j2 (k + 1) y0 y1 y2 y3 y4 y5)) ∧ (∀ y0 y1 y2 y3 y4 y5, LeO (bocageref04_Span.j3 k y0 y1 y2 y3 y4 y5) (bocageref04_Span.j3 (k + 1) y0 y1 y2 y3 y4 y5))
 | 0 => ⟨fun _ _ _ _ _ r h => by simp [bocageref04_Span.j0] at h, fun _ _ _ _ _ _ _ _ r h => by simp [bocageref04_Span.j1] at h, fun _ _ _ _ _ _ r h => by simp [bocageref04_Span.j2] at h, fun _ _ _ _ _ _ r h => by simp [bocageref04_Span.j3] at h⟩
 | k + 1 => by
  obtain ⟨ih0, ih1, ih2, ih3⟩ := bocageref04_Span.mono_l k
  refine ⟨?_, ?_, ?_, ?_⟩
  ·intro y0 y1 y2 y3 y4
   unfold bocageref04_Span.j0
   repeat' first
   | (with_reducible exact ih0 _ _ _ _ _)
   | (with_reducible exact ih1 _ _ _ _ _ _ _ _)
   | (with_reducible exact ih2 _ _ _ _ _ _)
   | (with_reducible exact ih3 _ _ _ _ _ _)
   | (with_reducible exact bocageref02_Ahead.mono _ _)
   | (with_reducible exact bocageref03_Of.mono _ _ _ _ _)
   | (with_reducible exact LeO.refl _)
   | (with_reducible exact LeO.none _)
   | (with_reducible refine LeO.ite ?_ ?_)
   | (with_reducible refine LeO.bind ?_ (fun _ => ?_))
   | exact ih0 _ _ _ _ _
   | exact ih1 _ _ _ _ _ _ _ _
   | exact ih2 _ _ _ _ _ _
   | exact ih3 _ _ _ _ _ _
   | exact bocageref02_Ahead.mono _ _
   | exact bocageref03_Of.mono _ _ _ _ _
   | exact LeO.none _
   | refine LeO.ite ?_ ?_
   | refine LeO.bind ?_ (fun _ => ?_)
  ·intro y0 y1 y2 y3 y4 y5 y6 y7
   unfold bocageref04_Span.j1
   repeat' first
   | (with_reducible exact ih0 _ _ _ _ _)
   | (with_reducible exact ih1 _ _ _ _ _ _ _ _)
   | (with_reducible exact ih2 _ _ _ _ _ _)
   | (with_reducible exact ih3 _ _ _ _ _ _)
   | (with_reducible exact bocageref02_Ahead.mono _ _)
   | (with_reducible exact bocageref03_Of.mono _ _ _ _ _)
   | (with_reducible exact LeO.refl _)
   | (with_reducible exact LeO.none _)
   | (with_reducible refine LeO.ite ?_ ?_)
   | (with_reducible refine LeO.bind ?_ (fun _ => ?_))
   | exact ih0 _ _ _ _ _
   | exact ih1 _ _ _ _ _ _ _ _
   | exact ih2 _ _ _ _ _ _
   | exact ih3 _ _ _ _ _ _
   | exact bocageref02_Ahead.mono _ _
   | exact bocageref03_Of.mono _ _ _ _ _
   | exact LeO.none _
   | refine LeO.ite ?_ ?_
   | refine LeO.bind ?_ (fun _ => ?_)
  ·intro y0 y1 y2 y3 y4 y5
   unfold bocageref04_Span.j2
   repeat' first
   | (with_reducible exact ih0 _ _ _ _ _)
   | (with_reducible exact ih1 _ _ _ _ _ _ _ _)
   | (with_reducible exact ih2 _ _ _ _ _ _)
   | (with_reducible exact ih3 _ _ _ _ _ _)
   | (with_reducible exact bocageref02_Ahead.mono _ _)
   | (with_reducible exact bocageref03_Of.mono _ _ _ _ _)
   | (with_reducible exact LeO.refl _)
   | (with_reducible exact LeO.none _)
   | (with_reducible refine LeO.ite ?_ ?_)
   | (with_reducible refine LeO.bind ?_ (fun _ => ?_))
   | exact ih0 _ _ _ _ _
   | exact ih1 _ _ _ _ _ _ _ _
   | exact ih2 _ _ _ _ _ _
   | exact ih3 _ _ _ _ _ _
   | exact bocageref02_Ahead.mono _ _
   | exact bocageref03_Of.mono _ _ _ _ _
   | exact LeO.none _
   | refine LeO.ite ?_ ?_
   | refine LeO.bind ?_ (fun _ => ?_)
  ·intro y0 y1 y2 y3 y4 y5
   unfold bocageref04_Span.j3
   repeat' first
   | (with_reducible exact ih0 _ _ _ _ _)
   | (with_reducible exact ih1 _ _ _ _ _ _ _ _)
   | (with_reducible exact ih2 _ _ _ _ _ _)
   | (with_reducible exact ih3 _ _ _ _ _ _)
   | (with_reducible exact bocageref02_Ahead.mono _ _)
   | (with_reducible exact bocageref03_Of.mono _ _ _ _ _)
   | (with_reducible exact LeO.refl _)
   | (with_reducible exact LeO.none _)
   | (with_reducible refine LeO.ite ?_ ?_)
   | (with_reducible refine LeO.bind ?_ (fun _ => ?_))
   | exact ih0 _ _ _ _ _
   | exact ih1 _ _ _ _ _ _ _ _
   | exact ih2 _ _ _ _ _ _
   | exact ih3 _ _ _ _ _ _
   | exact bocageref02_Ahead.mono _ _
   | exact bocageref03_Of.mono _ _ _ _ _
   | exact LeO.none _
   | refine LeO.ite ?_ ?_
   | refine LeO.bind ?_ (fun _ => ?_)
theorem bocageref04_Span.mono : ∀ a0 a1 a2 a3 k, LeO (bocageref04_Span.f k a0 a1 a2 a3) (bocageref04_Span.f (k + 1) a0 a1 a2 a3) := by
 intro a0 a1 a2 a3 k
 obtain ⟨ih0, ih1, ih2, ih3⟩ := bocageref04_Span.mono_l k
 unfold bocageref04_Span.f
 repeat' first
   | (with_reducible exact ih0 _ _ _ _ _)
   | (with_reducible exact ih1 _ _ _ _ _ _ _ _)
   | (with_reducible exact ih2 _ _ _ _ _ _)
   | (with_reducible exact ih3 _ _ _ _ _ _)
   | (with_reducible exact bocageref02_Ahead.mono _ _)
   | (with_reducible exact bocageref03_Of.mono _ _ _ _ _)
   | (with_reducible exact LeO.refl _)
   | (with_reducible exact LeO.none _)
   | (with_reducible refine LeO.ite ?_ ?_)
   | (with_reducible refine LeO.bind ?_ (fun _ => ?_))
   | exact ih0 _ _ _ _ _
   | exact ih1 _ _ _ _ _ _ _ _
   | exact ih2 _ _ _ _ _ _
   | exact ih3 _ _ _ _ _ _
   | exact bocageref02_Ahead.mono _ _
   | exact bocageref03_Of.mono _ _ _ _ _
   | exact LeO.none _
   | refine LeO.ite ?_ ?_
   | refine LeO.bind ?_ (fun _ => ?_)
set_option maxHeartbeats 8000000 in
set_option maxRecDepth 100000 in
theorem bocageref04_Span.calls (k : Nat) (a0_0 : Int) (a0_1 : Int) (a1_0 : Int) (a1_1 : Int) (r1 : Int) (r2 : Int) (r3 : Int) (r4 : Int) (r5 : Int) (w : World) (h : bocageref04_Span.f k a0_0 a0_1 a1_0 a1_1 = some (r1, r2, r3, r4, r5)) :
  Calls Try.prog 22 #[.agg #[.int .i64 a0_0, .int .i64 a0_1], .agg #[.int .i64 a1_0, .int .i64 a1_1]] w fun e w' => e = .returned (.tuple #[.agg #[.int .i64 r1, .int .i64 r2, .int .i64 r3, .int .i64 r4], .int .i64 r5]) ∧ Below w.heap.size w w' := by
 have hu23 := Try.underlying23
 have hu27 := Try.underlying27
 have hu25 := Try.underlying25
 have HB := Aside0.mk (Below.refl w.heap.size w)
 have H : (if a0_0 < 0 then (bocageref04_Span.j0 k true a0_0 a0_1 a1_0 a1_1) else (if a0_0 > 2 then (bocageref04_Span.j0 k true a0_0 a0_1 a1_0 a1_1) else (if a1_0 < 0 then (bocageref04_Span.j0 k true a0_0 a0_1 a1_0 a1_1) else (bocageref04_Span.j0 k (decide (a1_0 > 2)) a0_0 a0_1 a1_0 a1_1)))) = some (r1, r2, r3, r4, r5) := h
 clear h
 have HC3 := Aside0.mk H
 clear H
 go_enter Try.func22, Try.ntmps22
 go_upto_region 1 with (first | ((with_reducible refine gate_dst (N := 2) rfl ?_); refine bxe (N := 2) (cs := #[.int .i64 a0_0, .int .i64 a0_1]) (t := 23) ?_; intro gb316 hg w4 hbox hb; have BK316 := Aside0.mk (hbox); have GW316 := lsz hg HB; have GE316 := lsz hg HB; replace HB := bst HB hb; clear hb hbox hg) | ((with_reducible refine gate_dst (N := 3) rfl ?_); refine bxe (N := 3) (cs := #[.int .i64 a1_0, .int .i64 a1_1]) (t := 23) ?_; intro gb317 hg w5 hbox hb; have BK317 := Aside0.mk (hbox); have GW317 := lsz hg HB; have GE317 := lsz hg HB; replace HB := bst HB hb; have NB316_317 := nlt hg BK316; have NB317_316 := ngt hg BK316; replace BK316 := bkb BK316 hb; clear hb hbox hg) | ((with_reducible refine gate_dst (N := 4) rfl ?_); refine bxe (N := 4) (cs := #[.int .i64 0, .int .i64 0, .int .i64 0, .int .i64 0]) (t := 27) ?_; intro gb318 hg w6 hbox hb; have BK318 := Aside0.mk (hbox); have GW318 := lsz hg HB; have GE318 := lsz hg HB; replace HB := bst HB hb; have NB316_318 := nlt hg BK316; have NB318_316 := ngt hg BK316; replace BK316 := bkb BK316 hb; have NB317_318 := nlt hg BK317; have NB318_317 := ngt hg BK317; replace BK317 := bkb BK317 hb; clear hb hbox hg))
 (try simp only [Act.put, List.setIfInBounds_toArray, List.set_cons_zero, List.set_cons_succ])
 go_cut [25] (fun v25 wc => ∃ (kq : Nat) (x25_2 : Bool), v25 = .bool x25_2 ∧ Aside0 (bocageref04_Span.j0 kq x25_2 a0_0 a0_1 a1_0 a1_1 = some (r1, r2, r3, r4, r5)) ∧ Aside0 (kq ≤ k) ∧ Aside0 (wc.heap[gb316]? = some (.cells #[.int .i64 a0_0, .int .i64 a0_1] 23 (0, 0))) ∧ Aside0 (wc.heap[gb317]? = some (.cells #[.int .i64 a1_0, .int .i64 a1_1] 23 (0, 0))) ∧ Aside0 (wc.heap[gb318]? = some (.cells #[.int .i64 0, .int .i64 0, .int .i64 0, .int .i64 0] 27 (0, 0))) ∧ Aside0 (Below w.heap.size w wc))
 case first =>
  have H := HC3.out
  clear HC3
  by_cases c7 : a0_0 < 0
  ·rw [if_pos c7] at H
   have c7b0 : decide (a0_0 < 0) = true := decide_eq_true c7
   clear c7
   (first | rw [c7b0] | (simp only [i64_w, i32_w]; rw [c7b0]) | skip)
   have H' := Aside0.mk H
   clear H
   have hnb8 := NB316_317.out
   have hnc8 := NB317_316.out
   have hnb9 := NB316_318.out
   have hnc9 := NB318_316.out
   have hcz10_0 : w6.cell? ⟨gb316, 0, none⟩ = some (.int .i64 a0_0) := (blk_cell BK316.out 0).trans rfl
   have hcz10_1 : w6.cell? ⟨gb316, 1, none⟩ = some (.int .i64 a0_1) := (blk_cell BK316.out 1).trans rfl
   have hfz10_0 := blk_frozen BK316.out 0
   have hfz10_1 := blk_frozen BK316.out 1
   go_wp2
   go_meet
   case rel => exact ⟨_, (true), (by first | rfl | (simp; done) | (simp [*]; done)), H', ⟨by first | omega | exact Nat.le_refl _⟩, ⟨bk BK316⟩, ⟨bk BK317⟩, ⟨bk BK318⟩, ⟨bl HB⟩⟩
  ·rw [if_neg c7] at H
   have c7b0 : decide (a0_0 < 0) = false := decide_eq_false c7
   clear c7
   (first | rw [c7b0] | (simp only [i64_w, i32_w]; rw [c7b0]) | skip)
   by_cases c11 : a0_0 > 2
   ·rw [if_pos c11] at H
    have c11b0 : decide (2 < a0_0) = true := decide_eq_true c11
    clear c11
    have H' := Aside0.mk H
    clear H
    have hnb12 := NB316_317.out
    have hnc12 := NB317_316.out
    have hnb13 := NB316_318.out
    have hnc13 := NB318_316.out
    have hcz14_0 : w6.cell? ⟨gb316, 0, none⟩ = some (.int .i64 a0_0) := (blk_cell BK316.out 0).trans rfl
    have hcz14_1 : w6.cell? ⟨gb316, 1, none⟩ = some (.int .i64 a0_1) := (blk_cell BK316.out 1).trans rfl
    have hfz14_0 := blk_frozen BK316.out 0
    have hfz14_1 := blk_frozen BK316.out 1
    go_wp2
    go_meet
    case rel => exact ⟨_, (true), (by first | rfl | (simp; done) | (simp [*]; done)), H', ⟨by first | omega | exact Nat.le_refl _⟩, ⟨bk BK316⟩, ⟨bk BK317⟩, ⟨bk BK318⟩, ⟨bl HB⟩⟩
   ·rw [if_neg c11] at H
    have c11b0 : decide (2 < a0_0) = false := decide_eq_false c11
    clear c11
    by_cases c15 : a1_0 < 0
    ·rw [if_pos c15] at H
     have c15b0 : decide (a1_0 < 0) = true := decide_eq_true c15
     clear c15
     have H' := Aside0.mk H
     clear H
     have hnb16 := NB316_317.out
     have hnc16 := NB317_316.out
     have hnb17 := NB316_318.out
     have hnc17 := NB318_316.out
     have hcz18_0 : w6.cell? ⟨gb316, 0, none⟩ = some (.int .i64 a0_0) := (blk_cell BK316.out 0).trans rfl
     have hcz18_1 : w6.cell? ⟨gb316, 1, none⟩ = some (.int .i64 a0_1) := (blk_cell BK316.out 1).trans rfl
     have hfz18_0 := blk_frozen BK316.out 0
     have hfz18_1 := blk_frozen BK316.out 1
     have hnb19 := NB317_318.out
     have hnc19 := NB318_317.out
     have hcz20_0 : w6.cell? ⟨gb317, 0, none⟩ = some (.int .i64 a1_0) := (blk_cell BK317.out 0).trans rfl
     have hcz20_1 : w6.cell? ⟨gb317, 1, none⟩ = some (.int .i64 a1_1) := (blk_cell BK317.out 1).trans rfl
     have hfz20_0 := blk_frozen BK317.out 0
     have hfz20_1 := blk_frozen BK317.out 1
     go_wp2
     go_meet
     case rel => exact ⟨_, (true), (by first | rfl | (simp; done) | (simp [*]; done)), H', ⟨by first | omega | exact Nat.le_refl _⟩, ⟨bk BK316⟩, ⟨bk BK317⟩, ⟨bk BK318⟩, ⟨bl HB⟩⟩
    ·rw [if_neg c15] at H
     have c15b0 : decide (a1_0 < 0) = false := decide_eq_false c15
     clear c15
     have H' := Aside0.mk H
     clear H
     have hnb21 := NB316_317.out
     have hnc21 := NB317_316.out
     have hnb22 := NB316_318.out
     have hnc22 := NB318_316.out
     have hcz23_0 : w6.cell? ⟨gb316, 0, none⟩ = some (.int .i64 a0_0) := (blk_cell BK316.out 0).trans rfl
     have hcz23_1 : w6.cell? ⟨gb316, 1, none⟩ = some (.int .i64 a0_1) := (blk_cell BK316.out 1).trans rfl
     have hfz23_0 := blk_frozen BK316.out 0
     have hfz23_1 := blk_frozen BK316.out 1
     have hnb24 := NB317_318.out
     have hnc24 := NB318_317.out
     have hcz25_0 : w6.cell? ⟨gb317, 0, none⟩ = some (.int .i64 a1_0) := (blk_cell BK317.out 0).trans rfl
     have hcz25_1 : w6.cell? ⟨gb317, 1, none⟩ = some (.int .i64 a1_1) := (blk_cell BK317.out 1).trans rfl
     have hfz25_0 := blk_frozen BK317.out 0
     have hfz25_1 := blk_frozen BK317.out 1
     go_wp2
     go_meet
     case rel => exact ⟨_, (decide (a1_0 > 2)), (by first | rfl | (simp; done) | (simp [*]; done)), H', ⟨by first | omega | exact Nat.le_refl _⟩, ⟨bk BK316⟩, ⟨bk BK317⟩, ⟨bk BK318⟩, ⟨bl HB⟩⟩
 case rest =>
  clear HC3
  obtain ⟨kq, x25_2, rfl, HA, HJ2, BK316, BK317, BK318, HB⟩ := hcut
  cases kq with
  | zero => exact absurd HA.out (by simp [bocageref04_Span.j0])
  | succ kj2 =>
   have H := HA.out
   clear HA
   simp only [bocageref04_Span.j0] at H
   by_cases c26 : x25_2 = true
   ·subst c26
    have H1 : (some (0, 0, 0, 0, 40)) = some (r1, r2, r3, r4, r5) := by rw [if_pos rfl] at H; exact H
    clear H
    have H := H1
    clear H1
    simp only [Option.some.injEq, Prod.mk.injEq] at H
    obtain ⟨rfl, rfl, rfl, rfl, rfl⟩ := H
    have hnb27 := NB318_316.out
    have hnc27 := NB316_318.out
    have hnb28 := NB318_317.out
    have hnc28 := NB317_318.out
    have hcz29_0 : wc.cell? ⟨gb318, 0, none⟩ = some (.int .i64 0) := (blk_cell BK318.out 0).trans rfl
    have hcz29_1 : wc.cell? ⟨gb318, 1, none⟩ = some (.int .i64 0) := (blk_cell BK318.out 1).trans rfl
    have hcz29_2 : wc.cell? ⟨gb318, 2, none⟩ = some (.int .i64 0) := (blk_cell BK318.out 2).trans rfl
    have hcz29_3 : wc.cell? ⟨gb318, 3, none⟩ = some (.int .i64 0) := (blk_cell BK318.out 3).trans rfl
    have hfz29_0 := blk_frozen BK318.out 0
    have hfz29_1 := blk_frozen BK318.out 1
    have hfz29_2 := blk_frozen BK318.out 2
    have hfz29_3 := blk_frozen BK318.out 3
    go_wp2
    refine bodyPost_ret (results_ct rfl _ _ gb318 27 #[.int .i64 0, .int .i64 0, .int .i64 0, .int .i64 0] (0, 0) _ rfl (bkp BK318) Try.underlying27 rfl (by kernel_rfl)) rfl ?_
    exact endB HB
   ·replace c26 := Bool.eq_false_iff.mpr c26
    subst c26
    have H1 : (if a0_0 = 1 then ((bocageref02_Behind.f a0_1).bind fun bt321 => (bocageref04_Span.j1 kj2 a0_0 a0_1 a1_0 a1_1 bt321.1 bt321.2 1 0)) else (bocageref04_Span.j1 kj2 a0_0 a0_1 a1_0 a1_1 (-1) 0 1 0)) = some (r1, r2, r3, r4, r5) := by rw [if_neg (show ¬ (false = true) by decide)] at H; exact H
    clear H
    have H := H1
    clear H1
    have HC30 := Aside0.mk H
    clear H
    go_upto_if 31 with (first | ((with_reducible refine gate_dst (N := 6) rfl ?_); refine bxe (N := 6) (cs := #[.int .i64 0, .int .i64 0]) (t := 25) ?_; intro gb319 hg w31 hbox hb; have BK319 := Aside0.mk (hbox); have GW319 := lsz hg HB; have GE319 := lsz hg HB; replace HB := bst HB hb; have NB316_319 := nlt hg BK316; have NB319_316 := ngt hg BK316; replace BK316 := bkb BK316 hb; have NB317_319 := nlt hg BK317; have NB319_317 := ngt hg BK317; replace BK317 := bkb BK317 hb; have NB318_319 := nlt hg BK318; have NB319_318 := ngt hg BK318; replace BK318 := bkb BK318 hb; clear hb hbox hg; have hnb32 := NB319_316.out; have hnc32 := NB316_319.out; have hnb33 := NB319_317.out; have hnc33 := NB317_319.out; have hnb34 := NB319_318.out; have hnc34 := NB318_319.out; obtain ⟨hcz35_0, hcz35_1⟩ := e2 BK319; obtain ⟨hfz35_0, hfz35_1⟩ := f2 BK319) | ((with_reducible refine gate_dst (N := 7) rfl ?_); refine bxe (N := 7) (cs := #[.int .i64 0, .int .i64 0]) (t := 25) ?_; intro gb320 hg w36 hbox hb; have BK320 := Aside0.mk (hbox); have GW320 := lsz hg HB; have GE320 := lsz hg HB; replace HB := bst HB hb; have NB316_320 := Aside0.mk ((by rw [hg]; exact Nat.ne_of_lt (blk_lt (bkf BK316 NB316_319)) : gb316 ≠ gb320)); have NB320_316 := Aside0.mk ((by rw [hg]; exact Nat.ne_of_gt (blk_lt (bkf BK316 NB316_319)) : gb320 ≠ gb316)); replace BK316 := Aside0.mk (blk_below (bkf BK316 NB316_319) hb); have NB317_320 := Aside0.mk ((by rw [hg]; exact Nat.ne_of_lt (blk_lt (bkf BK317 NB317_319)) : gb317 ≠ gb320)); have NB320_317 := Aside0.mk ((by rw [hg]; exact Nat.ne_of_gt (blk_lt (bkf BK317 NB317_319)) : gb320 ≠ gb317)); replace BK317 := Aside0.mk (blk_below (bkf BK317 NB317_319) hb); have NB318_320 := Aside0.mk ((by rw [hg]; exact Nat.ne_of_lt (blk_lt (bkf BK318 NB318_319)) : gb318 ≠ gb320)); have NB320_318 := Aside0.mk ((by rw [hg]; exact Nat.ne_of_gt (blk_lt (bkf BK318 NB318_319)) : gb320 ≠ gb318)); replace BK318 := Aside0.mk (blk_below (bkf BK318 NB318_319) hb); have NB319_320 := Aside0.mk ((by rw [hg]; exact Nat.ne_of_lt (blk_lt (g := gb319) (o := .cells #[.int .i64 (-1), .int .i64 0] 25 (0, 0)) (bkp BK319)) : gb319 ≠ gb320)); have NB320_319 := Aside0.mk ((by rw [hg]; exact Nat.ne_of_gt (blk_lt (g := gb319) (o := .cells #[.int .i64 (-1), .int .i64 0] 25 (0, 0)) (bkp BK319)) : gb320 ≠ gb319)); replace BK319 := Aside0.mk (blk_below (g := gb319) (o := .cells #[.int .i64 (-1), .int .i64 0] 25 (0, 0)) (bkp BK319) hb); clear hb hbox hg; have hnb37 := NB320_316.out; have hnc37 := NB316_320.out; have hnb38 := NB320_317.out; have hnc38 := NB317_320.out; have hnb39 := NB320_318.out; have hnc39 := NB318_320.out; have hnb40 := NB320_319.out; have hnc40 := NB319_320.out; obtain ⟨hcz41_0, hcz41_1⟩ := e2 BK320; obtain ⟨hfz41_0, hfz41_1⟩ := f2 BK320; have hnb42 := NB316_317.out; have hnc42 := NB317_316.out; have hnb43 := NB316_318.out; have hnc43 := NB318_316.out; obtain ⟨hcz44_0, hcz44_1⟩ := e2 BK316; obtain ⟨hfz44_0, hfz44_1⟩ := f2 BK316))
    (try simp only [Act.put, List.setIfInBounds_toArray, List.set_cons_zero, List.set_cons_succ])
    go_cut [] (fun wc => ∃ (kq : Nat) (x320000_29 : Int) (x320001_29 : Int), Aside0 (bocageref04_Span.j1 kq a0_0 a0_1 a1_0 a1_1 x320000_29 x320001_29 1 0 = some (r1, r2, r3, r4, r5)) ∧ Aside0 (kq ≤ kj2) ∧ Aside0 (wc.heap[gb316]? = some (.cells #[.int .i64 a0_0, .int .i64 a0_1] 23 (0, 0))) ∧ Aside0 (wc.heap[gb317]? = some (.cells #[.int .i64 a1_0, .int .i64 a1_1] 23 (0, 0))) ∧ Aside0 (wc.heap[gb318]? = some (.cells #[.int .i64 0, .int .i64 0, .int .i64 0, .int .i64 0] 27 (0, 0))) ∧ Aside0 (wc.heap[gb319]? = some (.cells #[.int .i64 x320000_29, .int .i64 x320001_29] 25 (0, 0))) ∧ Aside0 (wc.heap[gb320]? = some (.cells #[.int .i64 1, .int .i64 0] 25 (0, 0))) ∧ Aside0 (Below w.heap.size w wc))
    case first =>
     have H := HC30.out
     clear HC30
     by_cases c45 : a0_0 = 1
     ·rw [if_pos c45] at H
      have c45b0 : (a0_0 == 1) = true := beq_iff_eq.mpr c45
      have c45b1 : (a0_0 != 1) = false := bne_eq_false_iff_eq.mpr c45
      clear c45
      (first | rw [c45b0] | (simp only [i64_w, i32_w]; rw [c45b0]) | skip)
      replace H := Option.bind_eq_some_iff.mp H
      obtain ⟨⟨t321, t322⟩, A460, H⟩ := H
      (try (set_option simprocs false in dsimp only at H))
      have A46 := Aside0.mk A460
      clear A460
      have H' := Aside0.mk H
      clear H
      have hnb47 := NB316_317.out
      have hnc47 := NB317_316.out
      have hnb48 := NB316_318.out
      have hnc48 := NB318_316.out
      have hnb49 := NB316_319.out
      have hnc49 := NB319_316.out
      have hnb50 := NB316_320.out
      have hnc50 := NB320_316.out
      have hcz51_0 : w36.cell? ⟨gb316, 0, none⟩ = some (.int .i64 a0_0) := (blk_cell BK316.out 0).trans rfl
      have hcz51_1 : w36.cell? ⟨gb316, 1, none⟩ = some (.int .i64 a0_1) := (blk_cell BK316.out 1).trans rfl
      have hfz51_0 := blk_frozen BK316.out 0
      have hfz51_1 := blk_frozen BK316.out 1
      go_wp2_with (first | ((with_reducible refine gate_callee (f := 51) rfl ?_); refine gol (some 34) Try.func51 #[.int .i64 a0_1] ?_; (with_reducible refine (bocageref02_Behind.calls a0_1 t321 t322 _ A46.out).mono ?_); rintro e w52 ⟨rfl, hb⟩; refine ⟨_, rfl, ?_⟩; replace BK316 := Aside0.mk (blk_below (bkf BK316 NB316_320) hb); replace BK317 := Aside0.mk (blk_below (bkf BK317 NB317_320) hb); replace BK318 := Aside0.mk (blk_below (bkf BK318 NB318_320) hb); replace BK319 := Aside0.mk (blk_below (bkf BK319 NB319_320) hb); replace BK320 := Aside0.mk (blk_below (g := gb320) (o := .cells #[.int .i64 1, .int .i64 0] 25 (0, 0)) (bkp BK320) hb); replace HB := bst HB hb; (try clear hb); (try clear hb2); (try clear hk); (try clear hi); have hnb53 := NB319_317.out; have hnc53 := NB317_319.out; have hnb54 := NB319_318.out; have hnc54 := NB318_319.out; have hnb55 := NB319_320.out; have hnc55 := NB320_319.out; obtain ⟨hcz56_0, hcz56_1⟩ := e2 BK319; obtain ⟨hfz56_0, hfz56_1⟩ := f2 BK319))
      go_meet
      case rel => exact ⟨_, (t321), (t322), H', ⟨by have := HJ2.out; first | omega | exact Nat.le_refl _⟩, ⟨by (with_reducible repeat (first | refine blk_drewN ?_ _ | refine blk_drew ?_ | refine blk_alloc ?_ _)); refine blk_far ?_ NB316_319.out _; (with_reducible repeat (first | refine blk_drewN ?_ _ | refine blk_drew ?_ | refine blk_alloc ?_ _)); refine blk_far ?_ NB316_319.out _; (with_reducible repeat (first | refine blk_drewN ?_ _ | refine blk_drew ?_ | refine blk_alloc ?_ _)); exact BK316.out⟩, ⟨by (with_reducible repeat (first | refine blk_drewN ?_ _ | refine blk_drew ?_ | refine blk_alloc ?_ _)); refine blk_far ?_ NB317_319.out _; (with_reducible repeat (first | refine blk_drewN ?_ _ | refine blk_drew ?_ | refine blk_alloc ?_ _)); refine blk_far ?_ NB317_319.out _; (with_reducible repeat (first | refine blk_drewN ?_ _ | refine blk_drew ?_ | refine blk_alloc ?_ _)); exact BK317.out⟩, ⟨by (with_reducible repeat (first | refine blk_drewN ?_ _ | refine blk_drew ?_ | refine blk_alloc ?_ _)); refine blk_far ?_ NB318_319.out _; (with_reducible repeat (first | refine blk_drewN ?_ _ | refine blk_drew ?_ | refine blk_alloc ?_ _)); refine blk_far ?_ NB318_319.out _; (with_reducible repeat (first | refine blk_drewN ?_ _ | refine blk_drew ?_ | refine blk_alloc ?_ _)); exact BK318.out⟩, ⟨by (with_reducible repeat (first | refine blk_drewN ?_ _ | refine blk_drew ?_ | refine blk_alloc ?_ _)); refine blk_put (cs := #[.int .i64 t321, .int .i64 0]) ?_ 1 _ rfl; (with_reducible repeat (first | refine blk_drewN ?_ _ | refine blk_drew ?_ | refine blk_alloc ?_ _)); refine blk_put (cs := #[.int .i64 (-1), .int .i64 0]) ?_ 0 _ rfl; (with_reducible repeat (first | refine blk_drewN ?_ _ | refine blk_drew ?_ | refine blk_alloc ?_ _)); exact BK319.out⟩, ⟨by (with_reducible repeat (first | refine blk_drewN ?_ _ | refine blk_drew ?_ | refine blk_alloc ?_ _)); refine blk_far ?_ NB320_319.out _; (with_reducible repeat (first | refine blk_drewN ?_ _ | refine blk_drew ?_ | refine blk_alloc ?_ _)); refine blk_far ?_ NB320_319.out _; (with_reducible repeat (first | refine blk_drewN ?_ _ | refine blk_drew ?_ | refine blk_alloc ?_ _)); exact BK320.out⟩, ⟨bl HB⟩⟩
     ·rw [if_neg c45] at H
      have c45b0 : (a0_0 == 1) = false := beq_eq_false_iff_ne.mpr c45
      have c45b1 : (a0_0 != 1) = true := bne_iff_ne.mpr c45
      (first | rw [c45b0] | (simp only [i64_w, i32_w]; rw [c45b0]) | skip)
      have H' := Aside0.mk H
      clear H
      go_wp2
      go_meet
      case rel => exact ⟨_, ((-1)), (0), H', ⟨by have := HJ2.out; first | omega | exact Nat.le_refl _⟩, ⟨by (with_reducible repeat (first | refine blk_drewN ?_ _ | refine blk_drew ?_ | refine blk_alloc ?_ _)); refine blk_far ?_ NB316_320.out _; (with_reducible repeat (first | refine blk_drewN ?_ _ | refine blk_drew ?_ | refine blk_alloc ?_ _)); refine blk_far ?_ NB316_320.out _; (with_reducible repeat (first | refine blk_drewN ?_ _ | refine blk_drew ?_ | refine blk_alloc ?_ _)); exact BK316.out⟩, ⟨by (with_reducible repeat (first | refine blk_drewN ?_ _ | refine blk_drew ?_ | refine blk_alloc ?_ _)); refine blk_far ?_ NB317_320.out _; (with_reducible repeat (first | refine blk_drewN ?_ _ | refine blk_drew ?_ | refine blk_alloc ?_ _)); refine blk_far ?_ NB317_320.out _; (with_reducible repeat (first | refine blk_drewN ?_ _ | refine blk_drew ?_ | refine blk_alloc ?_ _)); exact BK317.out⟩, ⟨by (with_reducible repeat (first | refine blk_drewN ?_ _ | refine blk_drew ?_ | refine blk_alloc ?_ _)); refine blk_far ?_ NB318_320.out _; (with_reducible repeat (first | refine blk_drewN ?_ _ | refine blk_drew ?_ | refine blk_alloc ?_ _)); refine blk_far ?_ NB318_320.out _; (with_reducible repeat (first | refine blk_drewN ?_ _ | refine blk_drew ?_ | refine blk_alloc ?_ _)); exact BK318.out⟩, ⟨by (with_reducible repeat (first | refine blk_drewN ?_ _ | refine blk_drew ?_ | refine blk_alloc ?_ _)); refine blk_far ?_ NB319_320.out _; (with_reducible repeat (first | refine blk_drewN ?_ _ | refine blk_drew ?_ | refine blk_alloc ?_ _)); refine blk_far ?_ NB319_320.out _; (with_reducible repeat (first | refine blk_drewN ?_ _ | refine blk_drew ?_ | refine blk_alloc ?_ _)); exact BK319.out⟩, ⟨by (with_reducible repeat (first | refine blk_drewN ?_ _ | refine blk_drew ?_ | refine blk_alloc ?_ _)); refine blk_put (cs := #[.int .i64 1, .int .i64 0]) ?_ 1 _ rfl; (with_reducible repeat (first | refine blk_drewN ?_ _ | refine blk_drew ?_ | refine blk_alloc ?_ _)); refine blk_put (cs := #[.int .i64 0, .int .i64 0]) ?_ 0 _ rfl; (with_reducible repeat (first | refine blk_drewN ?_ _ | refine blk_drew ?_ | refine blk_alloc ?_ _)); exact BK320.out⟩, ⟨bl HB⟩⟩
    case rest =>
     clear HC30
     try clear c26
     try clear hcz35_0
     try clear hcz35_1
     try clear hcz41_0
     try clear hcz41_1
     try clear hcz44_0
     try clear hcz44_1
     try clear hfz35_0
     try clear hfz35_1
     try clear hfz41_0
     try clear hfz41_1
     try clear hfz44_0
     try clear hfz44_1
     obtain ⟨kq, x320000_29, x320001_29, HA, HJ29, BK316, BK317, BK318, BK319, BK320, HB⟩ := hcut
     cases kq with
     | zero => exact absurd HA.out (by simp [bocageref04_Span.j1])
     | succ kj29 =>
      have H := HA.out
      clear HA
      simp only [bocageref04_Span.j1] at H
      have HC57 := Aside0.mk H
      clear H
      have hnb58 := NB316_317.out
      have hnc58 := NB317_316.out
      have hnb59 := NB316_318.out
      have hnc59 := NB318_316.out
      have hnb60 := NB316_319.out
      have hnc60 := NB319_316.out
      have hnb61 := NB316_320.out
      have hnc61 := NB320_316.out
      have hcz62_0 : wc.cell? ⟨gb316, 0, none⟩ = some (.int .i64 a0_0) := (blk_cell BK316.out 0).trans rfl
      have hcz62_1 : wc.cell? ⟨gb316, 1, none⟩ = some (.int .i64 a0_1) := (blk_cell BK316.out 1).trans rfl
      have hfz62_0 := blk_frozen BK316.out 0
      have hfz62_1 := blk_frozen BK316.out 1
      go_upto_if 37 with (fail)
      go_cut [] (fun wc => ∃ (kq : Nat) (x320000_56 : Int) (x320001_56 : Int), Aside0 (bocageref04_Span.j2 kq a1_0 a1_1 x320000_56 x320001_56 1 0 = some (r1, r2, r3, r4, r5)) ∧ Aside0 (kq ≤ kj29) ∧ Aside0 (wc.heap[gb316]? = some (.cells #[.int .i64 a0_0, .int .i64 a0_1] 23 (0, 0))) ∧ Aside0 (wc.heap[gb317]? = some (.cells #[.int .i64 a1_0, .int .i64 a1_1] 23 (0, 0))) ∧ Aside0 (wc.heap[gb318]? = some (.cells #[.int .i64 0, .int .i64 0, .int .i64 0, .int .i64 0] 27 (0, 0))) ∧ Aside0 (wc.heap[gb319]? = some (.cells #[.int .i64 x320000_56, .int .i64 x320001_56] 25 (0, 0))) ∧ Aside0 (wc.heap[gb320]? = some (.cells #[.int .i64 1, .int .i64 0] 25 (0, 0))) ∧ Aside0 (Below w.heap.size w wc))
      case first =>
       have H := HC57.out
       clear HC57
       by_cases c63 : a0_0 = 2
       ·rw [if_pos c63] at H
        have c63b0 : (a0_0 == 2) = true := beq_iff_eq.mpr c63
        have c63b1 : (a0_0 != 2) = false := bne_eq_false_iff_eq.mpr c63
        clear c63
        (first | rw [c63b0] | (simp only [i64_w, i32_w]; rw [c63b0]) | skip)
        replace H := Option.bind_eq_some_iff.mp H
        obtain ⟨⟨t323, t324⟩, A640, H⟩ := H
        (try (set_option simprocs false in dsimp only at H))
        have A64 := Aside0.mk A640
        clear A640
        have H' := Aside0.mk H
        clear H
        have hnb65 := NB316_317.out
        have hnc65 := NB317_316.out
        have hnb66 := NB316_318.out
        have hnc66 := NB318_316.out
        have hnb67 := NB316_319.out
        have hnc67 := NB319_316.out
        have hnb68 := NB316_320.out
        have hnc68 := NB320_316.out
        have hcz69_0 : wc.cell? ⟨gb316, 0, none⟩ = some (.int .i64 a0_0) := (blk_cell BK316.out 0).trans rfl
        have hcz69_1 : wc.cell? ⟨gb316, 1, none⟩ = some (.int .i64 a0_1) := (blk_cell BK316.out 1).trans rfl
        have hfz69_0 := blk_frozen BK316.out 0
        have hfz69_1 := blk_frozen BK316.out 1
        go_wp2_with (first | ((with_reducible refine gate_callee (f := 35) rfl ?_); refine gol (some 40) Try.func35 #[.int .i64 a0_1] ?_; (with_reducible refine (bocageref02_Ahead.calls kj29 a0_1 t323 t324 _ A64.out).mono ?_); rintro e w70 ⟨rfl, hb⟩; refine ⟨_, rfl, ?_⟩; replace BK316 := bkb BK316 hb; replace BK317 := bkb BK317 hb; replace BK318 := bkb BK318 hb; replace BK319 := bkb BK319 hb; replace BK320 := bkb BK320 hb; replace HB := bst HB hb; (try clear hb); (try clear hb2); (try clear hk); (try clear hi); have hnb71 := NB319_317.out; have hnc71 := NB317_319.out; have hnb72 := NB319_318.out; have hnc72 := NB318_319.out; have hnb73 := NB319_320.out; have hnc73 := NB320_319.out; obtain ⟨hcz74_0, hcz74_1⟩ := e2 BK319; obtain ⟨hfz74_0, hfz74_1⟩ := f2 BK319))
        go_meet
        case rel => exact ⟨_, (t323), (t324), H', ⟨by have := HJ2.out; have := HJ29.out; first | omega | exact Nat.le_refl _⟩, ⟨by (with_reducible repeat (first | refine blk_drewN ?_ _ | refine blk_drew ?_ | refine blk_alloc ?_ _)); refine blk_far ?_ NB316_319.out _; (with_reducible repeat (first | refine blk_drewN ?_ _ | refine blk_drew ?_ | refine blk_alloc ?_ _)); refine blk_far ?_ NB316_319.out _; (with_reducible repeat (first | refine blk_drewN ?_ _ | refine blk_drew ?_ | refine blk_alloc ?_ _)); exact BK316.out⟩, ⟨by (with_reducible repeat (first | refine blk_drewN ?_ _ | refine blk_drew ?_ | refine blk_alloc ?_ _)); refine blk_far ?_ NB317_319.out _; (with_reducible repeat (first | refine blk_drewN ?_ _ | refine blk_drew ?_ | refine blk_alloc ?_ _)); refine blk_far ?_ NB317_319.out _; (with_reducible repeat (first | refine blk_drewN ?_ _ | refine blk_drew ?_ | refine blk_alloc ?_ _)); exact BK317.out⟩, ⟨by (with_reducible repeat (first | refine blk_drewN ?_ _ | refine blk_drew ?_ | refine blk_alloc ?_ _)); refine blk_far ?_ NB318_319.out _; (with_reducible repeat (first | refine blk_drewN ?_ _ | refine blk_drew ?_ | refine blk_alloc ?_ _)); refine blk_far ?_ NB318_319.out _; (with_reducible repeat (first | refine blk_drewN ?_ _ | refine blk_drew ?_ | refine blk_alloc ?_ _)); exact BK318.out⟩, ⟨by (with_reducible repeat (first | refine blk_drewN ?_ _ | refine blk_drew ?_ | refine blk_alloc ?_ _)); refine blk_put (cs := #[.int .i64 t323, .int .i64 x320001_29]) ?_ 1 _ rfl; (with_reducible repeat (first | refine blk_drewN ?_ _ | refine blk_drew ?_ | refine blk_alloc ?_ _)); refine blk_put (cs := #[.int .i64 x320000_29, .int .i64 x320001_29]) ?_ 0 _ rfl; (with_reducible repeat (first | refine blk_drewN ?_ _ | refine blk_drew ?_ | refine blk_alloc ?_ _)); exact BK319.out⟩, ⟨by (with_reducible repeat (first | refine blk_drewN ?_ _ | refine blk_drew ?_ | refine blk_alloc ?_ _)); refine blk_far ?_ NB320_319.out _; (with_reducible repeat (first | refine blk_drewN ?_ _ | refine blk_drew ?_ | refine blk_alloc ?_ _)); refine blk_far ?_ NB320_319.out _; (with_reducible repeat (first | refine blk_drewN ?_ _ | refine blk_drew ?_ | refine blk_alloc ?_ _)); exact BK320.out⟩, ⟨bl HB⟩⟩
       ·rw [if_neg c63] at H
        have c63b0 : (a0_0 == 2) = false := beq_eq_false_iff_ne.mpr c63
        have c63b1 : (a0_0 != 2) = true := bne_iff_ne.mpr c63
        (first | rw [c63b0] | (simp only [i64_w, i32_w]; rw [c63b0]) | skip)
        have H' := Aside0.mk H
        clear H
        go_wp2
        go_meet
        case rel => exact ⟨_, (x320000_29), (x320001_29), H', ⟨by have := HJ2.out; have := HJ29.out; first | omega | exact Nat.le_refl _⟩, ⟨bk BK316⟩, ⟨bk BK317⟩, ⟨bk BK318⟩, ⟨bk BK319⟩, ⟨bk BK320⟩, ⟨bl HB⟩⟩
      case rest =>
       clear HC57
       try clear hcz62_0
       try clear hcz62_1
       try clear hfz62_0
       try clear hfz62_1
       obtain ⟨kq, x320000_56, x320001_56, HA, HJ56, BK316, BK317, BK318, BK319, BK320, HB⟩ := hcut
       cases kq with
       | zero => exact absurd HA.out (by simp [bocageref04_Span.j2])
       | succ kj56 =>
        have H := HA.out
        clear HA
        simp only [bocageref04_Span.j2] at H
        have HC75 := Aside0.mk H
        clear H
        have hnb76 := NB317_316.out
        have hnc76 := NB316_317.out
        have hnb77 := NB317_318.out
        have hnc77 := NB318_317.out
        have hnb78 := NB317_319.out
        have hnc78 := NB319_317.out
        have hnb79 := NB317_320.out
        have hnc79 := NB320_317.out
        have hcz80_0 : wc.cell? ⟨gb317, 0, none⟩ = some (.int .i64 a1_0) := (blk_cell BK317.out 0).trans rfl
        have hcz80_1 : wc.cell? ⟨gb317, 1, none⟩ = some (.int .i64 a1_1) := (blk_cell BK317.out 1).trans rfl
        have hfz80_0 := blk_frozen BK317.out 0
        have hfz80_1 := blk_frozen BK317.out 1
        go_upto_if 43 with (fail)
        go_cut [] (fun wc => ∃ (kq : Nat) (x321000_74 : Int) (x321001_74 : Int), Aside0 (bocageref04_Span.j3 kq a1_0 a1_1 x320000_56 x320001_56 x321000_74 x321001_74 = some (r1, r2, r3, r4, r5)) ∧ Aside0 (kq ≤ kj56) ∧ Aside0 (wc.heap[gb316]? = some (.cells #[.int .i64 a0_0, .int .i64 a0_1] 23 (0, 0))) ∧ Aside0 (wc.heap[gb317]? = some (.cells #[.int .i64 a1_0, .int .i64 a1_1] 23 (0, 0))) ∧ Aside0 (wc.heap[gb318]? = some (.cells #[.int .i64 0, .int .i64 0, .int .i64 0, .int .i64 0] 27 (0, 0))) ∧ Aside0 (wc.heap[gb319]? = some (.cells #[.int .i64 x320000_56, .int .i64 x320001_56] 25 (0, 0))) ∧ Aside0 (wc.heap[gb320]? = some (.cells #[.int .i64 x321000_74, .int .i64 x321001_74] 25 (0, 0))) ∧ Aside0 (Below w.heap.size w wc))
        case first =>
         have H := HC75.out
         clear HC75
         by_cases c81 : a1_0 = 1
         ·rw [if_pos c81] at H
          have c81b0 : (a1_0 == 1) = true := beq_iff_eq.mpr c81
          have c81b1 : (a1_0 != 1) = false := bne_eq_false_iff_eq.mpr c81
          clear c81
          (first | rw [c81b0] | (simp only [i64_w, i32_w]; rw [c81b0]) | skip)
          replace H := Option.bind_eq_some_iff.mp H
          obtain ⟨⟨t325, t326⟩, A820, H⟩ := H
          (try (set_option simprocs false in dsimp only at H))
          have A82 := Aside0.mk A820
          clear A820
          have H' := Aside0.mk H
          clear H
          have hnb83 := NB317_316.out
          have hnc83 := NB316_317.out
          have hnb84 := NB317_318.out
          have hnc84 := NB318_317.out
          have hnb85 := NB317_319.out
          have hnc85 := NB319_317.out
          have hnb86 := NB317_320.out
          have hnc86 := NB320_317.out
          have hcz87_0 : wc.cell? ⟨gb317, 0, none⟩ = some (.int .i64 a1_0) := (blk_cell BK317.out 0).trans rfl
          have hcz87_1 : wc.cell? ⟨gb317, 1, none⟩ = some (.int .i64 a1_1) := (blk_cell BK317.out 1).trans rfl
          have hfz87_0 := blk_frozen BK317.out 0
          have hfz87_1 := blk_frozen BK317.out 1
          go_wp2_with (first | ((with_reducible refine gate_callee (f := 35) rfl ?_); refine gol (some 46) Try.func35 #[.int .i64 a1_1] ?_; (with_reducible refine (bocageref02_Ahead.calls kj56 a1_1 t325 t326 _ A82.out).mono ?_); rintro e w88 ⟨rfl, hb⟩; refine ⟨_, rfl, ?_⟩; replace BK316 := bkb BK316 hb; replace BK317 := bkb BK317 hb; replace BK318 := bkb BK318 hb; replace BK319 := bkb BK319 hb; replace BK320 := bkb BK320 hb; replace HB := bst HB hb; (try clear hb); (try clear hb2); (try clear hk); (try clear hi); have hnb89 := NB320_316.out; have hnc89 := NB316_320.out; have hnb90 := NB320_318.out; have hnc90 := NB318_320.out; have hnb91 := NB320_319.out; have hnc91 := NB319_320.out; obtain ⟨hcz92_0, hcz92_1⟩ := e2 BK320; obtain ⟨hfz92_0, hfz92_1⟩ := f2 BK320))
          go_meet
          case rel => exact ⟨_, (t325), (t326), H', ⟨by have := HJ2.out; have := HJ29.out; have := HJ56.out; first | omega | exact Nat.le_refl _⟩, ⟨by (with_reducible repeat (first | refine blk_drewN ?_ _ | refine blk_drew ?_ | refine blk_alloc ?_ _)); refine blk_far ?_ NB316_320.out _; (with_reducible repeat (first | refine blk_drewN ?_ _ | refine blk_drew ?_ | refine blk_alloc ?_ _)); refine blk_far ?_ NB316_320.out _; (with_reducible repeat (first | refine blk_drewN ?_ _ | refine blk_drew ?_ | refine blk_alloc ?_ _)); exact BK316.out⟩, ⟨by (with_reducible repeat (first | refine blk_drewN ?_ _ | refine blk_drew ?_ | refine blk_alloc ?_ _)); refine blk_far ?_ NB317_320.out _; (with_reducible repeat (first | refine blk_drewN ?_ _ | refine blk_drew ?_ | refine blk_alloc ?_ _)); refine blk_far ?_ NB317_320.out _; (with_reducible repeat (first | refine blk_drewN ?_ _ | refine blk_drew ?_ | refine blk_alloc ?_ _)); exact BK317.out⟩, ⟨by (with_reducible repeat (first | refine blk_drewN ?_ _ | refine blk_drew ?_ | refine blk_alloc ?_ _)); refine blk_far ?_ NB318_320.out _; (with_reducible repeat (first | refine blk_drewN ?_ _ | refine blk_drew ?_ | refine blk_alloc ?_ _)); refine blk_far ?_ NB318_320.out _; (with_reducible repeat (first | refine blk_drewN ?_ _ | refine blk_drew ?_ | refine blk_alloc ?_ _)); exact BK318.out⟩, ⟨by (with_reducible repeat (first | refine blk_drewN ?_ _ | refine blk_drew ?_ | refine blk_alloc ?_ _)); refine blk_far ?_ NB319_320.out _; (with_reducible repeat (first | refine blk_drewN ?_ _ | refine blk_drew ?_ | refine blk_alloc ?_ _)); refine blk_far ?_ NB319_320.out _; (with_reducible repeat (first | refine blk_drewN ?_ _ | refine blk_drew ?_ | refine blk_alloc ?_ _)); exact BK319.out⟩, ⟨by (with_reducible repeat (first | refine blk_drewN ?_ _ | refine blk_drew ?_ | refine blk_alloc ?_ _)); refine blk_put (cs := #[.int .i64 t325, .int .i64 0]) ?_ 1 _ rfl; (with_reducible repeat (first | refine blk_drewN ?_ _ | refine blk_drew ?_ | refine blk_alloc ?_ _)); refine blk_put (cs := #[.int .i64 1, .int .i64 0]) ?_ 0 _ rfl; (with_reducible repeat (first | refine blk_drewN ?_ _ | refine blk_drew ?_ | refine blk_alloc ?_ _)); exact BK320.out⟩, ⟨bl HB⟩⟩
         ·rw [if_neg c81] at H
          have c81b0 : (a1_0 == 1) = false := beq_eq_false_iff_ne.mpr c81
          have c81b1 : (a1_0 != 1) = true := bne_iff_ne.mpr c81
          (first | rw [c81b0] | (simp only [i64_w, i32_w]; rw [c81b0]) | skip)
          have H' := Aside0.mk H
          clear H
          go_wp2
          go_meet
          case rel => exact ⟨_, (1), (0), H', ⟨by have := HJ2.out; have := HJ29.out; have := HJ56.out; first | omega | exact Nat.le_refl _⟩, ⟨bk BK316⟩, ⟨bk BK317⟩, ⟨bk BK318⟩, ⟨bk BK319⟩, ⟨bk BK320⟩, ⟨bl HB⟩⟩
        case rest =>
         clear HC75
         try clear hcz80_0
         try clear hcz80_1
         try clear hfz80_0
         try clear hfz80_1
         obtain ⟨kq, x321000_74, x321001_74, HA, HJ74, BK316, BK317, BK318, BK319, BK320, HB⟩ := hcut
         cases kq with
         | zero => exact absurd HA.out (by simp [bocageref04_Span.j3])
         | succ kj74 =>
          have H := HA.out
          clear HA
          simp only [bocageref04_Span.j3] at H
          by_cases c93 : a1_0 = 2
          ·rw [if_pos c93] at H
           have c93b0 : (a1_0 == 2) = true := beq_iff_eq.mpr c93
           have c93b1 : (a1_0 != 2) = false := bne_eq_false_iff_eq.mpr c93
           clear c93
           replace H := Option.bind_eq_some_iff.mp H
           obtain ⟨⟨t327, t328⟩, A940, H⟩ := H
           (try (set_option simprocs false in dsimp only at H))
           have A94 := Aside0.mk A940
           clear A940
           replace H := Option.bind_eq_some_iff.mp H
           obtain ⟨⟨t329, t330, t331, t332, t333⟩, A950, H⟩ := H
           (try (set_option simprocs false in dsimp only at H))
           have A95 := Aside0.mk A950
           clear A950
           simp only [Option.some.injEq, Prod.mk.injEq] at H
           obtain ⟨rfl, rfl, rfl, rfl, rfl⟩ := H
           have hnb96 := NB317_316.out
           have hnc96 := NB316_317.out
           have hnb97 := NB317_318.out
           have hnc97 := NB318_317.out
           have hnb98 := NB317_319.out
           have hnc98 := NB319_317.out
           have hnb99 := NB317_320.out
           have hnc99 := NB320_317.out
           have hcz100_0 : wc.cell? ⟨gb317, 0, none⟩ = some (.int .i64 a1_0) := (blk_cell BK317.out 0).trans rfl
           have hcz100_1 : wc.cell? ⟨gb317, 1, none⟩ = some (.int .i64 a1_1) := (blk_cell BK317.out 1).trans rfl
           have hfz100_0 := blk_frozen BK317.out 0
           have hfz100_1 := blk_frozen BK317.out 1
           go_wp2_with (first | ((with_reducible refine gate_callee (f := 51) rfl ?_); refine gol (some 52) Try.func51 #[.int .i64 a1_1] ?_; (with_reducible refine (bocageref02_Behind.calls a1_1 t327 t328 _ A94.out).mono ?_); rintro e w101 ⟨rfl, hb⟩; refine ⟨_, rfl, ?_⟩; replace BK316 := bkb BK316 hb; replace BK317 := bkb BK317 hb; replace BK318 := bkb BK318 hb; replace BK319 := bkb BK319 hb; replace BK320 := bkb BK320 hb; replace HB := bst HB hb; (try clear hb); (try clear hb2); (try clear hk); (try clear hi); have hnb102 := NB320_316.out; have hnc102 := NB316_320.out; have hnb103 := NB320_318.out; have hnc103 := NB318_320.out; have hnb104 := NB320_319.out; have hnc104 := NB319_320.out; obtain ⟨hcz105_0, hcz105_1⟩ := e2 BK320; obtain ⟨hfz105_0, hfz105_1⟩ := f2 BK320; have hnb106 := NB319_316.out; have hnc106 := NB316_319.out; have hnb107 := NB319_318.out; have hnc107 := NB318_319.out; obtain ⟨hcz108_0, hcz108_1⟩ := e2 BK319; obtain ⟨hfz108_0, hfz108_1⟩ := f2 BK319) | ((with_reducible refine gate_callee (f := 27) rfl ?_); refine gol (some 55) Try.func27 #[.agg #[.int .i64 x320000_56, .int .i64 x320001_56], .agg #[.int .i64 t327, .int .i64 t328]] ?_; (with_reducible refine (bocageref03_Of.calls kj74 x320000_56 x320001_56 t327 t328 t329 t330 t331 t332 t333 _ A95.out).mono ?_); rintro e w109 ⟨rfl, hb⟩; refine ⟨_, rfl, ?_⟩; replace BK316 := Aside0.mk (blk_below (bkf BK316 NB316_320) hb); replace BK317 := Aside0.mk (blk_below (bkf BK317 NB317_320) hb); replace BK318 := Aside0.mk (blk_below (bkf BK318 NB318_320) hb); replace BK319 := Aside0.mk (blk_below (bkf BK319 NB319_320) hb); replace BK320 := Aside0.mk (blk_below (g := gb320) (o := .cells #[.int .i64 t327, .int .i64 t328] 25 (0, 0)) (bkp BK320) hb); replace HB := bst HB hb; (try clear hb); (try clear hb2); (try clear hk); (try clear hi); have hnb110 := NB318_316.out; have hnc110 := NB316_318.out; obtain ⟨hcz111_0, hcz111_1, hcz111_2, hcz111_3⟩ := e4 BK318; obtain ⟨hfz111_0, hfz111_1, hfz111_2, hfz111_3⟩ := f4 BK318))
           refine bodyPost_ret (results_ct rfl _ _ gb318 27 #[.int .i64 t329, .int .i64 t330, .int .i64 t331, .int .i64 t332] (0, 0) _ rfl (bkp BK318) Try.underlying27 rfl (by kernel_rfl)) rfl ?_
           exact endB HB
          ·rw [if_neg c93] at H
           have c93b0 : (a1_0 == 2) = false := beq_eq_false_iff_ne.mpr c93
           have c93b1 : (a1_0 != 2) = true := bne_iff_ne.mpr c93
           replace H := Option.bind_eq_some_iff.mp H
           obtain ⟨⟨t334, t335, t336, t337, t338⟩, A1120, H⟩ := H
           (try (set_option simprocs false in dsimp only at H))
           have A112 := Aside0.mk A1120
           clear A1120
           simp only [Option.some.injEq, Prod.mk.injEq] at H
           obtain ⟨rfl, rfl, rfl, rfl, rfl⟩ := H
           have hnb113 := NB317_316.out
           have hnc113 := NB316_317.out
           have hnb114 := NB317_318.out
           have hnc114 := NB318_317.out
           have hnb115 := NB317_319.out
           have hnc115 := NB319_317.out
           have hnb116 := NB317_320.out
           have hnc116 := NB320_317.out
           have hcz117_0 : wc.cell? ⟨gb317, 0, none⟩ = some (.int .i64 a1_0) := (blk_cell BK317.out 0).trans rfl
           have hcz117_1 : wc.cell? ⟨gb317, 1, none⟩ = some (.int .i64 a1_1) := (blk_cell BK317.out 1).trans rfl
           have hfz117_0 := blk_frozen BK317.out 0
           have hfz117_1 := blk_frozen BK317.out 1
           have hnb118 := NB319_316.out
           have hnc118 := NB316_319.out
           have hnb119 := NB319_318.out
           have hnc119 := NB318_319.out
           have hnb120 := NB319_320.out
           have hnc120 := NB320_319.out
           have hcz121_0 : wc.cell? ⟨gb319, 0, none⟩ = some (.int .i64 x320000_56) := (blk_cell BK319.out 0).trans rfl
           have hcz121_1 : wc.cell? ⟨gb319, 1, none⟩ = some (.int .i64 x320001_56) := (blk_cell BK319.out 1).trans rfl
           have hfz121_0 := blk_frozen BK319.out 0
           have hfz121_1 := blk_frozen BK319.out 1
           have hnb122 := NB320_316.out
           have hnc122 := NB316_320.out
           have hnb123 := NB320_318.out
           have hnc123 := NB318_320.out
           have hcz124_0 : wc.cell? ⟨gb320, 0, none⟩ = some (.int .i64 x321000_74) := (blk_cell BK320.out 0).trans rfl
           have hcz124_1 : wc.cell? ⟨gb320, 1, none⟩ = some (.int .i64 x321001_74) := (blk_cell BK320.out 1).trans rfl
           have hfz124_0 := blk_frozen BK320.out 0
           have hfz124_1 := blk_frozen BK320.out 1
           go_wp2_with (first | ((with_reducible refine gate_callee (f := 27) rfl ?_); refine gol (some 55) Try.func27 #[.agg #[.int .i64 x320000_56, .int .i64 x320001_56], .agg #[.int .i64 x321000_74, .int .i64 x321001_74]] ?_; (with_reducible refine (bocageref03_Of.calls kj74 x320000_56 x320001_56 x321000_74 x321001_74 t334 t335 t336 t337 t338 _ A112.out).mono ?_); rintro e w125 ⟨rfl, hb⟩; refine ⟨_, rfl, ?_⟩; replace BK316 := bkb BK316 hb; replace BK317 := bkb BK317 hb; replace BK318 := bkb BK318 hb; replace BK319 := bkb BK319 hb; replace BK320 := bkb BK320 hb; replace HB := bst HB hb; (try clear hb); (try clear hb2); (try clear hk); (try clear hi); have hnb126 := NB318_316.out; have hnc126 := NB316_318.out; obtain ⟨hcz127_0, hcz127_1, hcz127_2, hcz127_3⟩ := e4 BK318; obtain ⟨hfz127_0, hfz127_1, hfz127_2, hfz127_3⟩ := f4 BK318))
           refine bodyPost_ret (results_ct rfl _ _ gb318 27 #[.int .i64 t334, .int .i64 t335, .int .i64 t336, .int .i64 t337] (0, 0) _ rfl (bkp BK318) Try.underlying27 rfl (by kernel_rfl)) rfl ?_
           exact endB HB
end Go.Proofs.Ytpeidnkbliafkaa.Print
