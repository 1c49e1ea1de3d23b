-- Laid by wip/print/bprint.py of this repo, over the kit's printer, with functions given by hand; not trusted: Lean checks it.
import Derived.Test.YtpeidnkbliafkaaPrint0
import Derived.Test.YtpeidnkbliafkaaPrint1
import Derived.Test.YtpeidnkbliafkaaSh
namespace Go.Proofs.Ytpeidnkbliafkaa.Print
open Go.RowKit Go.Proofs.YtpeidnkbliafkaaW.PrintWords Go.Proofs.YtpeidnkbliafkaaW.PrintLast Go.Proofs.YtpeidnkbliafkaaW.PrintMore
attribute [local go_sem] max2_int min2_int max_two min_two max_three min_three max_four min_four   -- for this text's walks alone
set_option linter.unusedVariables false
set_option linter.unusedSimpArgs false
/-! ### bound_Span: function 9 -/
mutual
def bound_Span.j0 : Nat → Bool → Int → Int → Int → Int → Option (Int × Int × Int × Int × Int)
 | 0, _, _, _, _, _ => none
 | k + 1, x15, x150000, x150001, x151000, x151001 => if x15 = true then (some (0, 0, 0, 0, 40)) else ((cut_First.f).bind fun bt154 => ((cut_Last.f).bind fun bt156 => (if x150000 = 1 then ((cut_Behind.f x150001).bind fun bt160 => (bound_Span.j1 k x151000 x151001 bt160.1 bt160.2 bt156.1 bt156.2)) else (if x150000 = 2 then ((cut_Ahead.f k x150001).bind fun bt162 => (bound_Span.j1 k x151000 x151001 bt162.1 bt162.2 bt156.1 bt156.2)) else (bound_Span.j1 k x151000 x151001 bt154.1 bt154.2 bt156.1 bt156.2)))))
def bound_Span.j1 : Nat → Int → Int → Int → Int → Int → Int → Option (Int × Int × Int × Int × Int)
 | 0, _, _, _, _, _, _ => none
 | k + 1, x151000, x151001, x159000, x159001, x160000, x160001 => if x151000 = 1 then ((cut_Ahead.f k x151001).bind fun bt164 => ((span_Of.f k x159000 x159001 bt164.1 bt164.2).bind fun bt166 => (some (bt166.1, bt166.2.1, bt166.2.2.1, bt166.2.2.2.1, bt166.2.2.2.2)))) else (if x151000 = 2 then ((cut_Behind.f x151001).bind fun bt171 => ((span_Of.f k x159000 x159001 bt171.1 bt171.2).bind fun bt173 => (some (bt173.1, bt173.2.1, bt173.2.2.1, bt173.2.2.2.1, bt173.2.2.2.2)))) else ((span_Of.f k x159000 x159001 x160000 x160001).bind fun bt178 => (some (bt178.1, bt178.2.1, bt178.2.2.1, bt178.2.2.2.1, bt178.2.2.2.2))))
end
def bound_Span.f (k : Nat) (a0_0 : Int) (a0_1 : Int) (a1_0 : Int) (a1_1 : Int) : Option (Int × Int × Int × Int × Int) := (bound_right.f a0_0 a0_1).bind fun t152 => (if t152 = true then ((bound_right.f a1_0 a1_1).bind fun t153 => (bound_Span.j0 k (!t153) a0_0 a0_1 a1_0 a1_1)) else (bound_Span.j0 k true a0_0 a0_1 a1_0 a1_1))
theorem bound_Span.mono_l : ∀ k, (∀ y0 y1 y2 y3 y4, LeO (bound_Span.j0 k y0 y1 y2 y3 y4) (bound_Span.j0 (k + 1) y0 y1 y2 y3 y4)) ∧ (∀ y0 y1 y2 y3 y4 y5, LeO (bound_Span.j1 k y0 y1 y2 y3 y4 y5) (bound_Span.j1 (k + 1) y0 y1 y2 y3 y4 y5))
 | 0 => ⟨fun _ _ _ _ _ r h => by simp [bound_Span.j0] at h, fun _ _ _ _ _ _ r h => by simp [bound_Span.j1] at h⟩
 | k + 1 => by
  obtain ⟨ih0, ih1⟩ := bound_Span.mono_l k
  refine ⟨?_, ?_⟩
  ·intro y0 y1 y2 y3 y4
   unfold bound_Span.j0
   repeat' first
   | (with_reducible exact ih0 _ _ _ _ _)
   | (with_reducible exact ih1 _ _ _ _ _ _)
   | (with_reducible exact cut_Ahead.mono _ _)
   | (with_reducible exact span_Of.mono _ _ _ _ _)
   | (with_reducible exact LeO.refl _)
   | (with_reducible exact LeO.none _)
   | (with_reducible refine LeO.ite ?_ ?_)
   | (with_reducible refine LeO.bind ?_ (fun _ => ?_))
   | exact ih0 _ _ _ _ _
   | exact ih1 _ _ _ _ _ _
   | exact cut_Ahead.mono _ _
   | exact span_Of.mono _ _ _ _ _
   | exact LeO.none _
   | refine LeO.ite ?_ ?_
   | refine LeO.bind ?_ (fun _ => ?_)
  ·intro y0 y1 y2 y3 y4 y5
   unfold bound_Span.j1
   repeat' first
   | (with_reducible exact ih0 _ _ _ _ _)
   | (with_reducible exact ih1 _ _ _ _ _ _)
   | (with_reducible exact cut_Ahead.mono _ _)
   | (with_reducible exact span_Of.mono _ _ _ _ _)
   | (with_reducible exact LeO.refl _)
   | (with_reducible exact LeO.none _)
   | (with_reducible refine LeO.ite ?_ ?_)
   | (with_reducible refine LeO.bind ?_ (fun _ => ?_))
   | exact ih0 _ _ _ _ _
   | exact ih1 _ _ _ _ _ _
   | exact cut_Ahead.mono _ _
   | exact span_Of.mono _ _ _ _ _
   | exact LeO.none _
   | refine LeO.ite ?_ ?_
   | refine LeO.bind ?_ (fun _ => ?_)
theorem bound_Span.mono : ∀ a0 a1 a2 a3 k, LeO (bound_Span.f k a0 a1 a2 a3) (bound_Span.f (k + 1) a0 a1 a2 a3) := by
 intro a0 a1 a2 a3 k
 obtain ⟨ih0, ih1⟩ := bound_Span.mono_l k
 unfold bound_Span.f
 repeat' first
   | (with_reducible exact ih0 _ _ _ _ _)
   | (with_reducible exact ih1 _ _ _ _ _ _)
   | (with_reducible exact cut_Ahead.mono _ _)
   | (with_reducible exact span_Of.mono _ _ _ _ _)
   | (with_reducible exact LeO.refl _)
   | (with_reducible exact LeO.none _)
   | (with_reducible refine LeO.ite ?_ ?_)
   | (with_reducible refine LeO.bind ?_ (fun _ => ?_))
   | exact ih0 _ _ _ _ _
   | exact ih1 _ _ _ _ _ _
   | exact cut_Ahead.mono _ _
   | exact span_Of.mono _ _ _ _ _
   | exact LeO.none _
   | refine LeO.ite ?_ ?_
   | refine LeO.bind ?_ (fun _ => ?_)
set_option maxHeartbeats 8000000 in
set_option maxRecDepth 100000 in
theorem bound_Span.calls (k : Nat) (a0_0 : Int) (a0_1 : Int) (a1_0 : Int) (a1_1 : Int) (r1 : Int) (r2 : Int) (r3 : Int) (r4 : Int) (r5 : Int) (w : World) (h : bound_Span.f k a0_0 a0_1 a1_0 a1_1 = some (r1, r2, r3, r4, r5)) :
  Calls Try.prog 9 #[.agg #[.int .i64 a0_0, .int .i64 a0_1], .agg #[.int .i64 a1_0, .int .i64 a1_1]] w fun e w' => e = .returned (.tuple #[.agg #[.int .i64 r1, .int .i64 r2, .int .i64 r3, .int .i64 r4], .int .i64 r5]) ∧ Below w.heap.size w w' := by
 have hu23 := Try.underlying23
 have hu27 := Try.underlying27
 have hu25 := Try.underlying25
 have HB := Aside0.mk (Below.refl w.heap.size w)
 have H : ((bound_right.f a0_0 a0_1).bind fun t152 => (if t152 = true then ((bound_right.f a1_0 a1_1).bind fun t153 => (bound_Span.j0 k (!t153) a0_0 a0_1 a1_0 a1_1)) else (bound_Span.j0 k true a0_0 a0_1 a1_0 a1_1))) = some (r1, r2, r3, r4, r5) := h
 clear h
 have HC3 := Aside0.mk H
 clear H
 go_enter Try.func9, Try.ntmps9
 go_upto_region 1 with (first | ((with_reducible refine gate_dst (N := 2) rfl ?_); refine bxe (N := 2) (cs := #[.int .i64 a0_0, .int .i64 a0_1]) (t := 23) ?_; intro gb149 hg w4 hbox hb; have BK149 := Aside0.mk (hbox); have GW149 := lsz hg HB; have GE149 := lsz hg HB; replace HB := bst HB hb; clear hb hbox hg) | ((with_reducible refine gate_dst (N := 3) rfl ?_); refine bxe (N := 3) (cs := #[.int .i64 a1_0, .int .i64 a1_1]) (t := 23) ?_; intro gb150 hg w5 hbox hb; have BK150 := Aside0.mk (hbox); have GW150 := lsz hg HB; have GE150 := lsz hg HB; replace HB := bst HB hb; have NB149_150 := nlt hg BK149; have NB150_149 := ngt hg BK149; replace BK149 := bkb BK149 hb; clear hb hbox hg) | ((with_reducible refine gate_dst (N := 4) rfl ?_); refine bxe (N := 4) (cs := #[.int .i64 0, .int .i64 0, .int .i64 0, .int .i64 0]) (t := 27) ?_; intro gb151 hg w6 hbox hb; have BK151 := Aside0.mk (hbox); have GW151 := lsz hg HB; have GE151 := lsz hg HB; replace HB := bst HB hb; have NB149_151 := nlt hg BK149; have NB151_149 := ngt hg BK149; replace BK149 := bkb BK149 hb; have NB150_151 := nlt hg BK150; have NB151_150 := ngt hg BK150; replace BK150 := bkb BK150 hb; clear hb hbox hg))
 (try simp only [Act.put, List.setIfInBounds_toArray, List.set_cons_zero, List.set_cons_succ])
 go_cut [15] (fun v15 wc => ∃ (kq : Nat) (x15_2 : Bool), v15 = .bool x15_2 ∧ Aside0 (bound_Span.j0 kq x15_2 a0_0 a0_1 a1_0 a1_1 = some (r1, r2, r3, r4, r5)) ∧ Aside0 (kq ≤ k) ∧ Aside0 (wc.heap[gb149]? = some (.cells #[.int .i64 a0_0, .int .i64 a0_1] 23 (0, 0))) ∧ Aside0 (wc.heap[gb150]? = some (.cells #[.int .i64 a1_0, .int .i64 a1_1] 23 (0, 0))) ∧ Aside0 (wc.heap[gb151]? = some (.cells #[.int .i64 0, .int .i64 0, .int .i64 0, .int .i64 0] 27 (0, 0))) ∧ Aside0 (Below w.heap.size w wc))
 case first =>
  have H := HC3.out
  clear HC3
  replace H := Option.bind_eq_some_iff.mp H
  obtain ⟨t152, A70, H⟩ := H
  replace H : (if t152 = true then ((bound_right.f a1_0 a1_1).bind fun t153 => (bound_Span.j0 k (!t153) a0_0 a0_1 a1_0 a1_1)) else (bound_Span.j0 k true a0_0 a0_1 a1_0 a1_1)) = some (r1, r2, r3, r4, r5) := H
  have A7 := Aside0.mk A70
  clear A70
  by_cases c8 : t152 = true
  ·subst c8
   have H1 : ((bound_right.f a1_0 a1_1).bind fun t153 => (bound_Span.j0 k (!t153) a0_0 a0_1 a1_0 a1_1)) = some (r1, r2, r3, r4, r5) := by rw [if_pos rfl] at H; exact H
   clear H
   have H := H1
   clear H1
   replace H := Option.bind_eq_some_iff.mp H
   obtain ⟨t153, A90, H⟩ := H
   replace H : (bound_Span.j0 k (!t153) a0_0 a0_1 a1_0 a1_1) = some (r1, r2, r3, r4, r5) := H
   have A9 := Aside0.mk A90
   clear A90
   have H' := Aside0.mk H
   clear H
   have hnb10 := NB149_150.out
   have hnc10 := NB150_149.out
   have hnb11 := NB149_151.out
   have hnc11 := NB151_149.out
   have hcz12_0 : w6.cell? ⟨gb149, 0, none⟩ = some (.int .i64 a0_0) := (blk_cell BK149.out 0).trans rfl
   have hcz12_1 : w6.cell? ⟨gb149, 1, none⟩ = some (.int .i64 a0_1) := (blk_cell BK149.out 1).trans rfl
   have hfz12_0 := blk_frozen BK149.out 0
   have hfz12_1 := blk_frozen BK149.out 1
   go_wp2_with (first | ((with_reducible refine gate_callee (f := 28) rfl ?_); refine gol (some 9) Try.func28 #[.agg #[.int .i64 a0_0, .int .i64 a0_1]] ?_; (with_reducible refine (bound_right.calls a0_0 a0_1 true _ A7.out).mono ?_); rintro e w13 ⟨rfl, hb⟩; refine ⟨_, rfl, ?_⟩; replace BK149 := bkb BK149 hb; replace BK150 := bkb BK150 hb; replace BK151 := bkb BK151 hb; replace HB := bst HB hb; (try clear hb); (try clear hb2); (try clear hk); (try clear hi); have hnb14 := NB150_151.out; have hnc14 := NB151_150.out; obtain ⟨hcz15_0, hcz15_1⟩ := e2 BK150; obtain ⟨hfz15_0, hfz15_1⟩ := f2 BK150) | (go_at_call 28; (with_reducible refine (bound_right.calls a1_0 a1_1 t153 _ A9.out).mono ?_); rintro e w16 ⟨rfl, hb⟩; replace BK149 := bkb BK149 hb; replace BK150 := bkb BK150 hb; replace BK151 := bkb BK151 hb; replace HB := bst HB hb; (try clear hb); (try clear hb2); (try clear hk); (try clear hi)))
   go_meet
   case rel => exact ⟨_, (!t153), (by first | rfl | (simp; done) | (simp [*]; done)), H', ⟨by first | omega | exact Nat.le_refl _⟩, ⟨bk BK149⟩, ⟨bk BK150⟩, ⟨bk BK151⟩, ⟨bl HB⟩⟩
  ·replace c8 := Bool.eq_false_iff.mpr c8
   subst c8
   have H1 : (bound_Span.j0 k true a0_0 a0_1 a1_0 a1_1) = some (r1, r2, r3, r4, r5) := by rw [if_neg (show ¬ (false = true) by decide)] at H; exact H
   clear H
   have H := H1
   clear H1
   have H' := Aside0.mk H
   clear H
   have hnb17 := NB149_150.out
   have hnc17 := NB150_149.out
   have hnb18 := NB149_151.out
   have hnc18 := NB151_149.out
   have hcz19_0 : w6.cell? ⟨gb149, 0, none⟩ = some (.int .i64 a0_0) := (blk_cell BK149.out 0).trans rfl
   have hcz19_1 : w6.cell? ⟨gb149, 1, none⟩ = some (.int .i64 a0_1) := (blk_cell BK149.out 1).trans rfl
   have hfz19_0 := blk_frozen BK149.out 0
   have hfz19_1 := blk_frozen BK149.out 1
   go_wp2_with (first | ((with_reducible refine gate_callee (f := 28) rfl ?_); refine gol (some 9) Try.func28 #[.agg #[.int .i64 a0_0, .int .i64 a0_1]] ?_; (with_reducible refine (bound_right.calls a0_0 a0_1 false _ A7.out).mono ?_); rintro e w20 ⟨rfl, hb⟩; refine ⟨_, rfl, ?_⟩; replace BK149 := bkb BK149 hb; replace BK150 := bkb BK150 hb; replace BK151 := bkb BK151 hb; replace HB := bst HB hb; (try clear hb); (try clear hb2); (try clear hk); (try clear hi)))
   go_meet
   case rel => exact ⟨_, (true), (by first | rfl | (simp; done) | (simp [*]; done)), H', ⟨by first | omega | exact Nat.le_refl _⟩, ⟨bk BK149⟩, ⟨bk BK150⟩, ⟨bk BK151⟩, ⟨bl HB⟩⟩
 case rest =>
  clear HC3
  obtain ⟨kq, x15_2, rfl, HA, HJ2, BK149, BK150, BK151, HB⟩ := hcut
  cases kq with
  | zero => exact absurd HA.out (by simp [bound_Span.j0])
  | succ kj2 =>
   have H := HA.out
   clear HA
   simp only [bound_Span.j0] at H
   by_cases c21 : x15_2 = true
   ·subst c21
    have H1 : (some (0, 0, 0, 0, 40)) = some (r1, r2, r3, r4, r5) := by rw [if_pos rfl] at H; exact H
    clear H
    have H := H1
    clear H1
    simp only [Option.some.injEq, Prod.mk.injEq] at H
    obtain ⟨rfl, rfl, rfl, rfl, rfl⟩ := H
    have hnb22 := NB151_149.out
    have hnc22 := NB149_151.out
    have hnb23 := NB151_150.out
    have hnc23 := NB150_151.out
    have hcz24_0 : wc.cell? ⟨gb151, 0, none⟩ = some (.int .i64 0) := (blk_cell BK151.out 0).trans rfl
    have hcz24_1 : wc.cell? ⟨gb151, 1, none⟩ = some (.int .i64 0) := (blk_cell BK151.out 1).trans rfl
    have hcz24_2 : wc.cell? ⟨gb151, 2, none⟩ = some (.int .i64 0) := (blk_cell BK151.out 2).trans rfl
    have hcz24_3 : wc.cell? ⟨gb151, 3, none⟩ = some (.int .i64 0) := (blk_cell BK151.out 3).trans rfl
    have hfz24_0 := blk_frozen BK151.out 0
    have hfz24_1 := blk_frozen BK151.out 1
    have hfz24_2 := blk_frozen BK151.out 2
    have hfz24_3 := blk_frozen BK151.out 3
    go_wp2
    refine bodyPost_ret (results_ct rfl _ _ gb151 27 #[.int .i64 0, .int .i64 0, .int .i64 0, .int .i64 0] (0, 0) _ rfl (bkp BK151) Try.underlying27 rfl (by kernel_rfl)) rfl ?_
    exact endB HB
   ·replace c21 := Bool.eq_false_iff.mpr c21
    subst c21
    have H1 : ((cut_First.f).bind fun bt154 => ((cut_Last.f).bind fun bt156 => (if a0_0 = 1 then ((cut_Behind.f a0_1).bind fun bt160 => (bound_Span.j1 kj2 a1_0 a1_1 bt160.1 bt160.2 bt156.1 bt156.2)) else (if a0_0 = 2 then ((cut_Ahead.f kj2 a0_1).bind fun bt162 => (bound_Span.j1 kj2 a1_0 a1_1 bt162.1 bt162.2 bt156.1 bt156.2)) else (bound_Span.j1 kj2 a1_0 a1_1 bt154.1 bt154.2 bt156.1 bt156.2))))) = some (r1, r2, r3, r4, r5) := by rw [if_neg (show ¬ (false = true) by decide)] at H; exact H
    clear H
    have H := H1
    clear H1
    replace H := Option.bind_eq_some_iff.mp H
    obtain ⟨⟨t154, t155⟩, A250, H⟩ := H
    replace H : ((cut_Last.f).bind fun bt156 => (if a0_0 = 1 then ((cut_Behind.f a0_1).bind fun bt160 => (bound_Span.j1 kj2 a1_0 a1_1 bt160.1 bt160.2 bt156.1 bt156.2)) else (if a0_0 = 2 then ((cut_Ahead.f kj2 a0_1).bind fun bt162 => (bound_Span.j1 kj2 a1_0 a1_1 bt162.1 bt162.2 bt156.1 bt156.2)) else (bound_Span.j1 kj2 a1_0 a1_1 t154 t155 bt156.1 bt156.2)))) = some (r1, r2, r3, r4, r5) := H
    have A25 := Aside0.mk A250
    clear A250
    replace H := Option.bind_eq_some_iff.mp H
    obtain ⟨⟨t156, t157⟩, A260, H⟩ := H
    replace H : (if a0_0 = 1 then ((cut_Behind.f a0_1).bind fun bt160 => (bound_Span.j1 kj2 a1_0 a1_1 bt160.1 bt160.2 t156 t157)) else (if a0_0 = 2 then ((cut_Ahead.f kj2 a0_1).bind fun bt162 => (bound_Span.j1 kj2 a1_0 a1_1 bt162.1 bt162.2 t156 t157)) else (bound_Span.j1 kj2 a1_0 a1_1 t154 t155 t156 t157))) = some (r1, r2, r3, r4, r5) := H
    have A26 := Aside0.mk A260
    clear A260
    have HC27 := Aside0.mk H
    clear H
    go_upto_block 0 with (first | ((with_reducible refine gate_callee (f := 29) rfl ?_); refine gol (some 17) Try.func29 #[] ?_; (with_reducible refine (cut_First.calls  t154 t155 _ A25.out).mono ?_); rintro e w28 ⟨rfl, hb⟩; refine ⟨_, rfl, ?_⟩; replace BK149 := bkb BK149 hb; replace BK150 := bkb BK150 hb; replace BK151 := bkb BK151 hb; replace HB := bst HB hb; (try clear hb); (try clear hb2); (try clear hk); (try clear hi)) | ((with_reducible refine gate_callee (f := 30) rfl ?_); refine gol (some 18) Try.func30 #[] ?_; (with_reducible refine (cut_Last.calls  t156 t157 _ A26.out).mono ?_); rintro e w29 ⟨rfl, hb⟩; refine ⟨_, rfl, ?_⟩; replace BK149 := bkb BK149 hb; replace BK150 := bkb BK150 hb; replace BK151 := bkb BK151 hb; replace HB := bst HB hb; (try clear hb); (try clear hb2); (try clear hk); (try clear hi)) | ((with_reducible refine gate_dst (N := 6) rfl ?_); refine bxe (N := 6) (cs := #[.int .i64 0, .int .i64 0]) (t := 25) ?_; intro gb158 hg w30 hbox hb; have BK158 := Aside0.mk (hbox); have GW158 := lsz hg HB; have GE158 := lsz hg HB; replace HB := bst HB hb; have NB149_158 := nlt hg BK149; have NB158_149 := ngt hg BK149; replace BK149 := bkb BK149 hb; have NB150_158 := nlt hg BK150; have NB158_150 := ngt hg BK150; replace BK150 := bkb BK150 hb; have NB151_158 := nlt hg BK151; have NB158_151 := ngt hg BK151; replace BK151 := bkb BK151 hb; clear hb hbox hg) | ((with_reducible refine gate_dst (N := 7) rfl ?_); refine bxe (N := 7) (cs := #[.int .i64 0, .int .i64 0]) (t := 25) ?_; intro gb159 hg w31 hbox hb; have BK159 := Aside0.mk (hbox); have GW159 := lsz hg HB; have GE159 := lsz hg HB; replace HB := bst HB hb; have NB149_159 := nlt hg BK149; have NB159_149 := ngt hg BK149; replace BK149 := bkb BK149 hb; have NB150_159 := nlt hg BK150; have NB159_150 := ngt hg BK150; replace BK150 := bkb BK150 hb; have NB151_159 := nlt hg BK151; have NB159_151 := ngt hg BK151; replace BK151 := bkb BK151 hb; have NB158_159 := nlt hg BK158; have NB159_158 := ngt hg BK158; replace BK158 := bkb BK158 hb; clear hb hbox hg; have hnb32 := NB158_149.out; have hnc32 := NB149_158.out; have hnb33 := NB158_150.out; have hnc33 := NB150_158.out; have hnb34 := NB158_151.out; have hnc34 := NB151_158.out; have hnb35 := NB158_159.out; have hnc35 := NB159_158.out; obtain ⟨hcz36_0, hcz36_1⟩ := e2 BK158; obtain ⟨hfz36_0, hfz36_1⟩ := f2 BK158; have hnb37 := NB159_149.out; have hnc37 := NB149_159.out; have hnb38 := NB159_150.out; have hnc38 := NB150_159.out; have hnb39 := NB159_151.out; have hnc39 := NB151_159.out; obtain ⟨hcz40_0, hcz40_1⟩ := e2 BK159; obtain ⟨hfz40_0, hfz40_1⟩ := f2 BK159; have hnb41 := NB149_150.out; have hnc41 := NB150_149.out; have hnb42 := NB149_151.out; have hnc42 := NB151_149.out; obtain ⟨hcz43_0, hcz43_1⟩ := e2 BK149; obtain ⟨hfz43_0, hfz43_1⟩ := f2 BK149))
    (try simp only [Act.put, List.setIfInBounds_toArray, List.set_cons_zero, List.set_cons_succ])
    go_cut [] (fun wc => ∃ (kq : Nat) (x159000_26 : Int) (x159001_26 : Int), Aside0 (bound_Span.j1 kq a1_0 a1_1 x159000_26 x159001_26 t156 t157 = some (r1, r2, r3, r4, r5)) ∧ Aside0 (kq ≤ kj2) ∧ Aside0 (wc.heap[gb149]? = some (.cells #[.int .i64 a0_0, .int .i64 a0_1] 23 (0, 0))) ∧ Aside0 (wc.heap[gb150]? = some (.cells #[.int .i64 a1_0, .int .i64 a1_1] 23 (0, 0))) ∧ Aside0 (wc.heap[gb151]? = some (.cells #[.int .i64 0, .int .i64 0, .int .i64 0, .int .i64 0] 27 (0, 0))) ∧ Aside0 (wc.heap[gb158]? = some (.cells #[.int .i64 x159000_26, .int .i64 x159001_26] 25 (0, 0))) ∧ Aside0 (wc.heap[gb159]? = some (.cells #[.int .i64 t156, .int .i64 t157] 25 (0, 0))) ∧ Aside0 (Below w.heap.size w wc))
    case first =>
     have H := HC27.out
     clear HC27
     by_cases c44 : a0_0 = 1
     ·rw [if_pos c44] at H
      have c44b0 : (a0_0 == 1) = true := beq_iff_eq.mpr c44
      have c44b1 : (a0_0 != 1) = false := bne_eq_false_iff_eq.mpr c44
      clear c44
      (first | rw [c44b0] | (simp only [i64_w, i32_w]; rw [c44b0]) | skip)
      replace H := Option.bind_eq_some_iff.mp H
      obtain ⟨⟨t160, t161⟩, A450, H⟩ := H
      replace H : (bound_Span.j1 kj2 a1_0 a1_1 t160 t161 t156 t157) = some (r1, r2, r3, r4, r5) := H
      have A45 := Aside0.mk A450
      clear A450
      have H' := Aside0.mk H
      clear H
      have hnb46 := NB149_150.out
      have hnc46 := NB150_149.out
      have hnb47 := NB149_151.out
      have hnc47 := NB151_149.out
      have hnb48 := NB149_158.out
      have hnc48 := NB158_149.out
      have hnb49 := NB149_159.out
      have hnc49 := NB159_149.out
      have hcz50_0 : w31.cell? ⟨gb149, 0, none⟩ = some (.int .i64 a0_0) := (blk_cell BK149.out 0).trans rfl
      have hcz50_1 : w31.cell? ⟨gb149, 1, none⟩ = some (.int .i64 a0_1) := (blk_cell BK149.out 1).trans rfl
      have hfz50_0 := blk_frozen BK149.out 0
      have hfz50_1 := blk_frozen BK149.out 1
      go_wp2_with (first | ((with_reducible refine gate_callee (f := 31) rfl ?_); refine gol (some 25) Try.func31 #[.int .i64 a0_1] ?_; (with_reducible refine (cut_Behind.calls a0_1 t160 t161 _ A45.out).mono ?_); rintro e w51 ⟨rfl, hb⟩; refine ⟨_, rfl, ?_⟩; replace BK149 := Aside0.mk (blk_below (g := gb149) (o := .cells #[.int .i64 a0_0, .int .i64 a0_1] 23 (0, 0)) (by (with_reducible repeat (first | refine blk_drewN ?_ _ | refine blk_drew ?_ | refine blk_alloc ?_ _)); refine blk_far ?_ NB149_159.out _; (with_reducible repeat (first | refine blk_drewN ?_ _ | refine blk_drew ?_ | refine blk_alloc ?_ _)); refine blk_far ?_ NB149_159.out _; (with_reducible repeat (first | refine blk_drewN ?_ _ | refine blk_drew ?_ | refine blk_alloc ?_ _)); refine blk_far ?_ NB149_158.out _; (with_reducible repeat (first | refine blk_drewN ?_ _ | refine blk_drew ?_ | refine blk_alloc ?_ _)); refine blk_far ?_ NB149_158.out _; (with_reducible repeat (first | refine blk_drewN ?_ _ | refine blk_drew ?_ | refine blk_alloc ?_ _)); exact BK149.out) hb); replace BK150 := Aside0.mk (blk_below (g := gb150) (o := .cells #[.int .i64 a1_0, .int .i64 a1_1] 23 (0, 0)) (by (with_reducible repeat (first | refine blk_drewN ?_ _ | refine blk_drew ?_ | refine blk_alloc ?_ _)); refine blk_far ?_ NB150_159.out _; (with_reducible repeat (first | refine blk_drewN ?_ _ | refine blk_drew ?_ | refine blk_alloc ?_ _)); refine blk_far ?_ NB150_159.out _; (with_reducible repeat (first | refine blk_drewN ?_ _ | refine blk_drew ?_ | refine blk_alloc ?_ _)); refine blk_far ?_ NB150_158.out _; (with_reducible repeat (first | refine blk_drewN ?_ _ | refine blk_drew ?_ | refine blk_alloc ?_ _)); refine blk_far ?_ NB150_158.out _; (with_reducible repeat (first | refine blk_drewN ?_ _ | refine blk_drew ?_ | refine blk_alloc ?_ _)); exact BK150.out) hb); replace BK151 := Aside0.mk (blk_below (g := gb151) (o := .cells #[.int .i64 0, .int .i64 0, .int .i64 0, .int .i64 0] 27 (0, 0)) (by (with_reducible repeat (first | refine blk_drewN ?_ _ | refine blk_drew ?_ | refine blk_alloc ?_ _)); refine blk_far ?_ NB151_159.out _; (with_reducible repeat (first | refine blk_drewN ?_ _ | refine blk_drew ?_ | refine blk_alloc ?_ _)); refine blk_far ?_ NB151_159.out _; (with_reducible repeat (first | refine blk_drewN ?_ _ | refine blk_drew ?_ | refine blk_alloc ?_ _)); refine blk_far ?_ NB151_158.out _; (with_reducible repeat (first | refine blk_drewN ?_ _ | refine blk_drew ?_ | refine blk_alloc ?_ _)); refine blk_far ?_ NB151_158.out _; (with_reducible repeat (first | refine blk_drewN ?_ _ | refine blk_drew ?_ | refine blk_alloc ?_ _)); exact BK151.out) hb); replace BK158 := Aside0.mk (blk_below (g := gb158) (o := .cells #[.int .i64 t154, .int .i64 t155] 25 (0, 0)) (by (with_reducible repeat (first | refine blk_drewN ?_ _ | refine blk_drew ?_ | refine blk_alloc ?_ _)); refine blk_far ?_ NB158_159.out _; (with_reducible repeat (first | refine blk_drewN ?_ _ | refine blk_drew ?_ | refine blk_alloc ?_ _)); refine blk_far ?_ NB158_159.out _; (with_reducible repeat (first | refine blk_drewN ?_ _ | refine blk_drew ?_ | refine blk_alloc ?_ _)); refine blk_put (cs := #[.int .i64 t154, .int .i64 0]) ?_ 1 _ rfl; (with_reducible repeat (first | refine blk_drewN ?_ _ | refine blk_drew ?_ | refine blk_alloc ?_ _)); refine blk_put (cs := #[.int .i64 0, .int .i64 0]) ?_ 0 _ rfl; (with_reducible repeat (first | refine blk_drewN ?_ _ | refine blk_drew ?_ | refine blk_alloc ?_ _)); exact BK158.out) hb); replace BK159 := Aside0.mk (blk_below (g := gb159) (o := .cells #[.int .i64 t156, .int .i64 t157] 25 (0, 0)) (by (with_reducible repeat (first | refine blk_drewN ?_ _ | refine blk_drew ?_ | refine blk_alloc ?_ _)); refine blk_put (cs := #[.int .i64 t156, .int .i64 0]) ?_ 1 _ rfl; (with_reducible repeat (first | refine blk_drewN ?_ _ | refine blk_drew ?_ | refine blk_alloc ?_ _)); refine blk_put (cs := #[.int .i64 0, .int .i64 0]) ?_ 0 _ rfl; (with_reducible repeat (first | refine blk_drewN ?_ _ | refine blk_drew ?_ | refine blk_alloc ?_ _)); refine blk_far ?_ NB159_158.out _; (with_reducible repeat (first | refine blk_drewN ?_ _ | refine blk_drew ?_ | refine blk_alloc ?_ _)); refine blk_far ?_ NB159_158.out _; (with_reducible repeat (first | refine blk_drewN ?_ _ | refine blk_drew ?_ | refine blk_alloc ?_ _)); exact BK159.out) hb); replace HB := bst HB hb; (try clear hb); (try clear hb2); (try clear hk); (try clear hi); have hnb52 := NB158_150.out; have hnc52 := NB150_158.out; have hnb53 := NB158_151.out; have hnc53 := NB151_158.out; have hnb54 := NB158_159.out; have hnc54 := NB159_158.out; obtain ⟨hcz55_0, hcz55_1⟩ := e2 BK158; obtain ⟨hfz55_0, hfz55_1⟩ := f2 BK158))
      go_meet
      case rel => exact ⟨_, (t160), (t161), H', ⟨by have := HJ2.out; first | omega | exact Nat.le_refl _⟩, ⟨by (with_reducible repeat (first | refine blk_drewN ?_ _ | refine blk_drew ?_ | refine blk_alloc ?_ _)); refine blk_far ?_ NB149_158.out _; (with_reducible repeat (first | refine blk_drewN ?_ _ | refine blk_drew ?_ | refine blk_alloc ?_ _)); refine blk_far ?_ NB149_158.out _; (with_reducible repeat (first | refine blk_drewN ?_ _ | refine blk_drew ?_ | refine blk_alloc ?_ _)); exact BK149.out⟩, ⟨by (with_reducible repeat (first | refine blk_drewN ?_ _ | refine blk_drew ?_ | refine blk_alloc ?_ _)); refine blk_far ?_ NB150_158.out _; (with_reducible repeat (first | refine blk_drewN ?_ _ | refine blk_drew ?_ | refine blk_alloc ?_ _)); refine blk_far ?_ NB150_158.out _; (with_reducible repeat (first | refine blk_drewN ?_ _ | refine blk_drew ?_ | refine blk_alloc ?_ _)); exact BK150.out⟩, ⟨by (with_reducible repeat (first | refine blk_drewN ?_ _ | refine blk_drew ?_ | refine blk_alloc ?_ _)); refine blk_far ?_ NB151_158.out _; (with_reducible repeat (first | refine blk_drewN ?_ _ | refine blk_drew ?_ | refine blk_alloc ?_ _)); refine blk_far ?_ NB151_158.out _; (with_reducible repeat (first | refine blk_drewN ?_ _ | refine blk_drew ?_ | refine blk_alloc ?_ _)); exact BK151.out⟩, ⟨by (with_reducible repeat (first | refine blk_drewN ?_ _ | refine blk_drew ?_ | refine blk_alloc ?_ _)); refine blk_put (cs := #[.int .i64 t160, .int .i64 t155]) ?_ 1 _ rfl; (with_reducible repeat (first | refine blk_drewN ?_ _ | refine blk_drew ?_ | refine blk_alloc ?_ _)); refine blk_put (cs := #[.int .i64 t154, .int .i64 t155]) ?_ 0 _ rfl; (with_reducible repeat (first | refine blk_drewN ?_ _ | refine blk_drew ?_ | refine blk_alloc ?_ _)); exact BK158.out⟩, ⟨by (with_reducible repeat (first | refine blk_drewN ?_ _ | refine blk_drew ?_ | refine blk_alloc ?_ _)); refine blk_far ?_ NB159_158.out _; (with_reducible repeat (first | refine blk_drewN ?_ _ | refine blk_drew ?_ | refine blk_alloc ?_ _)); refine blk_far ?_ NB159_158.out _; (with_reducible repeat (first | refine blk_drewN ?_ _ | refine blk_drew ?_ | refine blk_alloc ?_ _)); exact BK159.out⟩, ⟨bl HB⟩⟩
     ·rw [if_neg c44] at H
      have c44b0 : (a0_0 == 1) = false := beq_eq_false_iff_ne.mpr c44
      have c44b1 : (a0_0 != 1) = true := bne_iff_ne.mpr c44
      (first | rw [c44b0] | (simp only [i64_w, i32_w]; rw [c44b0]) | skip)
      by_cases c56 : a0_0 = 2
      ·rw [if_pos c56] at H
       have c56b0 : (a0_0 == 2) = true := beq_iff_eq.mpr c56
       have c56b1 : (a0_0 != 2) = false := bne_eq_false_iff_eq.mpr c56
       clear c56
       replace H := Option.bind_eq_some_iff.mp H
       obtain ⟨⟨t162, t163⟩, A570, H⟩ := H
       replace H : (bound_Span.j1 kj2 a1_0 a1_1 t162 t163 t156 t157) = some (r1, r2, r3, r4, r5) := H
       have A57 := Aside0.mk A570
       clear A570
       have H' := Aside0.mk H
       clear H
       have hnb58 := NB149_150.out
       have hnc58 := NB150_149.out
       have hnb59 := NB149_151.out
       have hnc59 := NB151_149.out
       have hnb60 := NB149_158.out
       have hnc60 := NB158_149.out
       have hnb61 := NB149_159.out
       have hnc61 := NB159_149.out
       have hcz62_0 : w31.cell? ⟨gb149, 0, none⟩ = some (.int .i64 a0_0) := (blk_cell BK149.out 0).trans rfl
       have hcz62_1 : w31.cell? ⟨gb149, 1, none⟩ = some (.int .i64 a0_1) := (blk_cell BK149.out 1).trans rfl
       have hfz62_0 := blk_frozen BK149.out 0
       have hfz62_1 := blk_frozen BK149.out 1
       go_wp2_with (first | ((with_reducible refine gate_callee (f := 32) rfl ?_); refine gol (some 30) Try.func32 #[.int .i64 a0_1] ?_; (with_reducible refine (cut_Ahead.calls kj2 a0_1 t162 t163 _ A57.out).mono ?_); rintro e w63 ⟨rfl, hb⟩; refine ⟨_, rfl, ?_⟩; replace BK149 := Aside0.mk (blk_below (g := gb149) (o := .cells #[.int .i64 a0_0, .int .i64 a0_1] 23 (0, 0)) (by (with_reducible repeat (first | refine blk_drewN ?_ _ | refine blk_drew ?_ | refine blk_alloc ?_ _)); refine blk_far ?_ NB149_159.out _; (with_reducible repeat (first | refine blk_drewN ?_ _ | refine blk_drew ?_ | refine blk_alloc ?_ _)); refine blk_far ?_ NB149_159.out _; (with_reducible repeat (first | refine blk_drewN ?_ _ | refine blk_drew ?_ | refine blk_alloc ?_ _)); refine blk_far ?_ NB149_158.out _; (with_reducible repeat (first | refine blk_drewN ?_ _ | refine blk_drew ?_ | refine blk_alloc ?_ _)); refine blk_far ?_ NB149_158.out _; (with_reducible repeat (first | refine blk_drewN ?_ _ | refine blk_drew ?_ | refine blk_alloc ?_ _)); exact BK149.out) hb); replace BK150 := Aside0.mk (blk_below (g := gb150) (o := .cells #[.int .i64 a1_0, .int .i64 a1_1] 23 (0, 0)) (by (with_reducible repeat (first | refine blk_drewN ?_ _ | refine blk_drew ?_ | refine blk_alloc ?_ _)); refine blk_far ?_ NB150_159.out _; (with_reducible repeat (first | refine blk_drewN ?_ _ | refine blk_drew ?_ | refine blk_alloc ?_ _)); refine blk_far ?_ NB150_159.out _; (with_reducible repeat (first | refine blk_drewN ?_ _ | refine blk_drew ?_ | refine blk_alloc ?_ _)); refine blk_far ?_ NB150_158.out _; (with_reducible repeat (first | refine blk_drewN ?_ _ | refine blk_drew ?_ | refine blk_alloc ?_ _)); refine blk_far ?_ NB150_158.out _; (with_reducible repeat (first | refine blk_drewN ?_ _ | refine blk_drew ?_ | refine blk_alloc ?_ _)); exact BK150.out) hb); replace BK151 := Aside0.mk (blk_below (g := gb151) (o := .cells #[.int .i64 0, .int .i64 0, .int .i64 0, .int .i64 0] 27 (0, 0)) (by (with_reducible repeat (first | refine blk_drewN ?_ _ | refine blk_drew ?_ | refine blk_alloc ?_ _)); refine blk_far ?_ NB151_159.out _; (with_reducible repeat (first | refine blk_drewN ?_ _ | refine blk_drew ?_ | refine blk_alloc ?_ _)); refine blk_far ?_ NB151_159.out _; (with_reducible repeat (first | refine blk_drewN ?_ _ | refine blk_drew ?_ | refine blk_alloc ?_ _)); refine blk_far ?_ NB151_158.out _; (with_reducible repeat (first | refine blk_drewN ?_ _ | refine blk_drew ?_ | refine blk_alloc ?_ _)); refine blk_far ?_ NB151_158.out _; (with_reducible repeat (first | refine blk_drewN ?_ _ | refine blk_drew ?_ | refine blk_alloc ?_ _)); exact BK151.out) hb); replace BK158 := Aside0.mk (blk_below (g := gb158) (o := .cells #[.int .i64 t154, .int .i64 t155] 25 (0, 0)) (by (with_reducible repeat (first | refine blk_drewN ?_ _ | refine blk_drew ?_ | refine blk_alloc ?_ _)); refine blk_far ?_ NB158_159.out _; (with_reducible repeat (first | refine blk_drewN ?_ _ | refine blk_drew ?_ | refine blk_alloc ?_ _)); refine blk_far ?_ NB158_159.out _; (with_reducible repeat (first | refine blk_drewN ?_ _ | refine blk_drew ?_ | refine blk_alloc ?_ _)); refine blk_put (cs := #[.int .i64 t154, .int .i64 0]) ?_ 1 _ rfl; (with_reducible repeat (first | refine blk_drewN ?_ _ | refine blk_drew ?_ | refine blk_alloc ?_ _)); refine blk_put (cs := #[.int .i64 0, .int .i64 0]) ?_ 0 _ rfl; (with_reducible repeat (first | refine blk_drewN ?_ _ | refine blk_drew ?_ | refine blk_alloc ?_ _)); exact BK158.out) hb); replace BK159 := Aside0.mk (blk_below (g := gb159) (o := .cells #[.int .i64 t156, .int .i64 t157] 25 (0, 0)) (by (with_reducible repeat (first | refine blk_drewN ?_ _ | refine blk_drew ?_ | refine blk_alloc ?_ _)); refine blk_put (cs := #[.int .i64 t156, .int .i64 0]) ?_ 1 _ rfl; (with_reducible repeat (first | refine blk_drewN ?_ _ | refine blk_drew ?_ | refine blk_alloc ?_ _)); refine blk_put (cs := #[.int .i64 0, .int .i64 0]) ?_ 0 _ rfl; (with_reducible repeat (first | refine blk_drewN ?_ _ | refine blk_drew ?_ | refine blk_alloc ?_ _)); refine blk_far ?_ NB159_158.out _; (with_reducible repeat (first | refine blk_drewN ?_ _ | refine blk_drew ?_ | refine blk_alloc ?_ _)); refine blk_far ?_ NB159_158.out _; (with_reducible repeat (first | refine blk_drewN ?_ _ | refine blk_drew ?_ | refine blk_alloc ?_ _)); exact BK159.out) hb); replace HB := bst HB hb; (try clear hb); (try clear hb2); (try clear hk); (try clear hi); have hnb64 := NB158_150.out; have hnc64 := NB150_158.out; have hnb65 := NB158_151.out; have hnc65 := NB151_158.out; have hnb66 := NB158_159.out; have hnc66 := NB159_158.out; obtain ⟨hcz67_0, hcz67_1⟩ := e2 BK158; obtain ⟨hfz67_0, hfz67_1⟩ := f2 BK158))
       go_meet
       case rel => exact ⟨_, (t162), (t163), H', ⟨by have := HJ2.out; first | omega | exact Nat.le_refl _⟩, ⟨by (with_reducible repeat (first | refine blk_drewN ?_ _ | refine blk_drew ?_ | refine blk_alloc ?_ _)); refine blk_far ?_ NB149_158.out _; (with_reducible repeat (first | refine blk_drewN ?_ _ | refine blk_drew ?_ | refine blk_alloc ?_ _)); refine blk_far ?_ NB149_158.out _; (with_reducible repeat (first | refine blk_drewN ?_ _ | refine blk_drew ?_ | refine blk_alloc ?_ _)); exact BK149.out⟩, ⟨by (with_reducible repeat (first | refine blk_drewN ?_ _ | refine blk_drew ?_ | refine blk_alloc ?_ _)); refine blk_far ?_ NB150_158.out _; (with_reducible repeat (first | refine blk_drewN ?_ _ | refine blk_drew ?_ | refine blk_alloc ?_ _)); refine blk_far ?_ NB150_158.out _; (with_reducible repeat (first | refine blk_drewN ?_ _ | refine blk_drew ?_ | refine blk_alloc ?_ _)); exact BK150.out⟩, ⟨by (with_reducible repeat (first | refine blk_drewN ?_ _ | refine blk_drew ?_ | refine blk_alloc ?_ _)); refine blk_far ?_ NB151_158.out _; (with_reducible repeat (first | refine blk_drewN ?_ _ | refine blk_drew ?_ | refine blk_alloc ?_ _)); refine blk_far ?_ NB151_158.out _; (with_reducible repeat (first | refine blk_drewN ?_ _ | refine blk_drew ?_ | refine blk_alloc ?_ _)); exact BK151.out⟩, ⟨by (with_reducible repeat (first | refine blk_drewN ?_ _ | refine blk_drew ?_ | refine blk_alloc ?_ _)); refine blk_put (cs := #[.int .i64 t162, .int .i64 t155]) ?_ 1 _ rfl; (with_reducible repeat (first | refine blk_drewN ?_ _ | refine blk_drew ?_ | refine blk_alloc ?_ _)); refine blk_put (cs := #[.int .i64 t154, .int .i64 t155]) ?_ 0 _ rfl; (with_reducible repeat (first | refine blk_drewN ?_ _ | refine blk_drew ?_ | refine blk_alloc ?_ _)); exact BK158.out⟩, ⟨by (with_reducible repeat (first | refine blk_drewN ?_ _ | refine blk_drew ?_ | refine blk_alloc ?_ _)); refine blk_far ?_ NB159_158.out _; (with_reducible repeat (first | refine blk_drewN ?_ _ | refine blk_drew ?_ | refine blk_alloc ?_ _)); refine blk_far ?_ NB159_158.out _; (with_reducible repeat (first | refine blk_drewN ?_ _ | refine blk_drew ?_ | refine blk_alloc ?_ _)); exact BK159.out⟩, ⟨bl HB⟩⟩
      ·rw [if_neg c56] at H
       have c56b0 : (a0_0 == 2) = false := beq_eq_false_iff_ne.mpr c56
       have c56b1 : (a0_0 != 2) = true := bne_iff_ne.mpr c56
       have H' := Aside0.mk H
       clear H
       go_wp2
       go_meet
       case rel => exact ⟨_, (t154), (t155), H', ⟨by have := HJ2.out; first | omega | exact Nat.le_refl _⟩, ⟨by (with_reducible repeat (first | refine blk_drewN ?_ _ | refine blk_drew ?_ | refine blk_alloc ?_ _)); refine blk_far ?_ NB149_159.out _; (with_reducible repeat (first | refine blk_drewN ?_ _ | refine blk_drew ?_ | refine blk_alloc ?_ _)); refine blk_far ?_ NB149_159.out _; (with_reducible repeat (first | refine blk_drewN ?_ _ | refine blk_drew ?_ | refine blk_alloc ?_ _)); refine blk_far ?_ NB149_158.out _; (with_reducible repeat (first | refine blk_drewN ?_ _ | refine blk_drew ?_ | refine blk_alloc ?_ _)); refine blk_far ?_ NB149_158.out _; (with_reducible repeat (first | refine blk_drewN ?_ _ | refine blk_drew ?_ | refine blk_alloc ?_ _)); exact BK149.out⟩, ⟨by (with_reducible repeat (first | refine blk_drewN ?_ _ | refine blk_drew ?_ | refine blk_alloc ?_ _)); refine blk_far ?_ NB150_159.out _; (with_reducible repeat (first | refine blk_drewN ?_ _ | refine blk_drew ?_ | refine blk_alloc ?_ _)); refine blk_far ?_ NB150_159.out _; (with_reducible repeat (first | refine blk_drewN ?_ _ | refine blk_drew ?_ | refine blk_alloc ?_ _)); refine blk_far ?_ NB150_158.out _; (with_reducible repeat (first | refine blk_drewN ?_ _ | refine blk_drew ?_ | refine blk_alloc ?_ _)); refine blk_far ?_ NB150_158.out _; (with_reducible repeat (first | refine blk_drewN ?_ _ | refine blk_drew ?_ | refine blk_alloc ?_ _)); exact BK150.out⟩, ⟨by (with_reducible repeat (first | refine blk_drewN ?_ _ | refine blk_drew ?_ | refine blk_alloc ?_ _)); refine blk_far ?_ NB151_159.out _; (with_reducible repeat (first | refine blk_drewN ?_ _ | refine blk_drew ?_ | refine blk_alloc ?_ _)); refine blk_far ?_ NB151_159.out _; (with_reducible repeat (first | refine blk_drewN ?_ _ | refine blk_drew ?_ | refine blk_alloc ?_ _)); refine blk_far ?_ NB151_158.out _; (with_reducible repeat (first | refine blk_drewN ?_ _ | refine blk_drew ?_ | refine blk_alloc ?_ _)); refine blk_far ?_ NB151_158.out _; (with_reducible repeat (first | refine blk_drewN ?_ _ | refine blk_drew ?_ | refine blk_alloc ?_ _)); exact BK151.out⟩, ⟨by (with_reducible repeat (first | refine blk_drewN ?_ _ | refine blk_drew ?_ | refine blk_alloc ?_ _)); refine blk_far ?_ NB158_159.out _; (with_reducible repeat (first | refine blk_drewN ?_ _ | refine blk_drew ?_ | refine blk_alloc ?_ _)); refine blk_far ?_ NB158_159.out _; (with_reducible repeat (first | refine blk_drewN ?_ _ | refine blk_drew ?_ | refine blk_alloc ?_ _)); refine blk_put (cs := #[.int .i64 t154, .int .i64 0]) ?_ 1 _ rfl; (with_reducible repeat (first | refine blk_drewN ?_ _ | refine blk_drew ?_ | refine blk_alloc ?_ _)); refine blk_put (cs := #[.int .i64 0, .int .i64 0]) ?_ 0 _ rfl; (with_reducible repeat (first | refine blk_drewN ?_ _ | refine blk_drew ?_ | refine blk_alloc ?_ _)); exact BK158.out⟩, ⟨by (with_reducible repeat (first | refine blk_drewN ?_ _ | refine blk_drew ?_ | refine blk_alloc ?_ _)); refine blk_put (cs := #[.int .i64 t156, .int .i64 0]) ?_ 1 _ rfl; (with_reducible repeat (first | refine blk_drewN ?_ _ | refine blk_drew ?_ | refine blk_alloc ?_ _)); refine blk_put (cs := #[.int .i64 0, .int .i64 0]) ?_ 0 _ rfl; (with_reducible repeat (first | refine blk_drewN ?_ _ | refine blk_drew ?_ | refine blk_alloc ?_ _)); refine blk_far ?_ NB159_158.out _; (with_reducible repeat (first | refine blk_drewN ?_ _ | refine blk_drew ?_ | refine blk_alloc ?_ _)); refine blk_far ?_ NB159_158.out _; (with_reducible repeat (first | refine blk_drewN ?_ _ | refine blk_drew ?_ | refine blk_alloc ?_ _)); exact BK159.out⟩, ⟨bl HB⟩⟩
    case rest =>
     clear HC27
     try clear c21
     try clear hcz36_0
     try clear hcz36_1
     try clear hcz40_0
     try clear hcz40_1
     try clear hcz43_0
     try clear hcz43_1
     try clear hfz36_0
     try clear hfz36_1
     try clear hfz40_0
     try clear hfz40_1
     try clear hfz43_0
     try clear hfz43_1
     obtain ⟨kq, x159000_26, x159001_26, HA, HJ26, BK149, BK150, BK151, BK158, BK159, HB⟩ := hcut
     cases kq with
     | zero => exact absurd HA.out (by simp [bound_Span.j1])
     | succ kj26 =>
      have H := HA.out
      clear HA
      simp only [bound_Span.j1] at H
      by_cases c68 : a1_0 = 1
      ·rw [if_pos c68] at H
       have c68b0 : (a1_0 == 1) = true := beq_iff_eq.mpr c68
       have c68b1 : (a1_0 != 1) = false := bne_eq_false_iff_eq.mpr c68
       clear c68
       replace H := Option.bind_eq_some_iff.mp H
       obtain ⟨⟨t164, t165⟩, A690, H⟩ := H
       replace H : ((span_Of.f kj26 x159000_26 x159001_26 t164 t165).bind fun bt166 => (some (bt166.1, bt166.2.1, bt166.2.2.1, bt166.2.2.2.1, bt166.2.2.2.2))) = some (r1, r2, r3, r4, r5) := H
       have A69 := Aside0.mk A690
       clear A690
       replace H := Option.bind_eq_some_iff.mp H
       obtain ⟨⟨t166, t167, t168, t169, t170⟩, A700, H⟩ := H
       replace H : (some (t166, t167, t168, t169, t170)) = some (r1, r2, r3, r4, r5) := H
       have A70 := Aside0.mk A700
       clear A700
       simp only [Option.some.injEq, Prod.mk.injEq] at H
       obtain ⟨rfl, rfl, rfl, rfl, rfl⟩ := H
       have hnb71 := NB150_149.out
       have hnc71 := NB149_150.out
       have hnb72 := NB150_151.out
       have hnc72 := NB151_150.out
       have hnb73 := NB150_158.out
       have hnc73 := NB158_150.out
       have hnb74 := NB150_159.out
       have hnc74 := NB159_150.out
       have hcz75_0 : wc.cell? ⟨gb150, 0, none⟩ = some (.int .i64 a1_0) := (blk_cell BK150.out 0).trans rfl
       have hcz75_1 : wc.cell? ⟨gb150, 1, none⟩ = some (.int .i64 a1_1) := (blk_cell BK150.out 1).trans rfl
       have hfz75_0 := blk_frozen BK150.out 0
       have hfz75_1 := blk_frozen BK150.out 1
       go_wp2_with (first | ((with_reducible refine gate_callee (f := 32) rfl ?_); refine gol (some 37) Try.func32 #[.int .i64 a1_1] ?_; (with_reducible refine (cut_Ahead.calls kj26 a1_1 t164 t165 _ A69.out).mono ?_); rintro e w76 ⟨rfl, hb⟩; refine ⟨_, rfl, ?_⟩; replace BK149 := bkb BK149 hb; replace BK150 := bkb BK150 hb; replace BK151 := bkb BK151 hb; replace BK158 := bkb BK158 hb; replace BK159 := bkb BK159 hb; replace HB := bst HB hb; (try clear hb); (try clear hb2); (try clear hk); (try clear hi); have hnb77 := NB159_149.out; have hnc77 := NB149_159.out; have hnb78 := NB159_151.out; have hnc78 := NB151_159.out; have hnb79 := NB159_158.out; have hnc79 := NB158_159.out; obtain ⟨hcz80_0, hcz80_1⟩ := e2 BK159; obtain ⟨hfz80_0, hfz80_1⟩ := f2 BK159; have hnb81 := NB158_149.out; have hnc81 := NB149_158.out; have hnb82 := NB158_151.out; have hnc82 := NB151_158.out; obtain ⟨hcz83_0, hcz83_1⟩ := e2 BK158; obtain ⟨hfz83_0, hfz83_1⟩ := f2 BK158) | ((with_reducible refine gate_callee (f := 33) rfl ?_); refine gol (some 45) Try.func33 #[.agg #[.int .i64 x159000_26, .int .i64 x159001_26], .agg #[.int .i64 t164, .int .i64 t165]] ?_; (with_reducible refine (span_Of.calls kj26 x159000_26 x159001_26 t164 t165 t166 t167 t168 t169 t170 _ A70.out).mono ?_); rintro e w84 ⟨rfl, hb⟩; refine ⟨_, rfl, ?_⟩; replace BK149 := Aside0.mk (blk_below (bkf BK149 NB149_159) hb); replace BK150 := Aside0.mk (blk_below (bkf BK150 NB150_159) hb); replace BK151 := Aside0.mk (blk_below (bkf BK151 NB151_159) hb); replace BK158 := Aside0.mk (blk_below (bkf BK158 NB158_159) hb); replace BK159 := Aside0.mk (blk_below (g := gb159) (o := .cells #[.int .i64 t164, .int .i64 t165] 25 (0, 0)) (bkp BK159) hb); replace HB := bst HB hb; (try clear hb); (try clear hb2); (try clear hk); (try clear hi); have hnb85 := NB151_149.out; have hnc85 := NB149_151.out; obtain ⟨hcz86_0, hcz86_1, hcz86_2, hcz86_3⟩ := e4 BK151; obtain ⟨hfz86_0, hfz86_1, hfz86_2, hfz86_3⟩ := f4 BK151))
       refine bodyPost_ret (results_ct rfl _ _ gb151 27 #[.int .i64 t166, .int .i64 t167, .int .i64 t168, .int .i64 t169] (0, 0) _ rfl (bkp BK151) Try.underlying27 rfl (by kernel_rfl)) rfl ?_
       exact endB HB
      ·rw [if_neg c68] at H
       have c68b0 : (a1_0 == 1) = false := beq_eq_false_iff_ne.mpr c68
       have c68b1 : (a1_0 != 1) = true := bne_iff_ne.mpr c68
       by_cases c87 : a1_0 = 2
       ·rw [if_pos c87] at H
        have c87b0 : (a1_0 == 2) = true := beq_iff_eq.mpr c87
        have c87b1 : (a1_0 != 2) = false := bne_eq_false_iff_eq.mpr c87
        clear c87
        replace H := Option.bind_eq_some_iff.mp H
        obtain ⟨⟨t171, t172⟩, A880, H⟩ := H
        replace H : ((span_Of.f kj26 x159000_26 x159001_26 t171 t172).bind fun bt173 => (some (bt173.1, bt173.2.1, bt173.2.2.1, bt173.2.2.2.1, bt173.2.2.2.2))) = some (r1, r2, r3, r4, r5) := H
        have A88 := Aside0.mk A880
        clear A880
        replace H := Option.bind_eq_some_iff.mp H
        obtain ⟨⟨t173, t174, t175, t176, t177⟩, A890, H⟩ := H
        replace H : (some (t173, t174, t175, t176, t177)) = some (r1, r2, r3, r4, r5) := H
        have A89 := Aside0.mk A890
        clear A890
        simp only [Option.some.injEq, Prod.mk.injEq] at H
        obtain ⟨rfl, rfl, rfl, rfl, rfl⟩ := H
        have hnb90 := NB150_149.out
        have hnc90 := NB149_150.out
        have hnb91 := NB150_151.out
        have hnc91 := NB151_150.out
        have hnb92 := NB150_158.out
        have hnc92 := NB158_150.out
        have hnb93 := NB150_159.out
        have hnc93 := NB159_150.out
        have hcz94_0 : wc.cell? ⟨gb150, 0, none⟩ = some (.int .i64 a1_0) := (blk_cell BK150.out 0).trans rfl
        have hcz94_1 : wc.cell? ⟨gb150, 1, none⟩ = some (.int .i64 a1_1) := (blk_cell BK150.out 1).trans rfl
        have hfz94_0 := blk_frozen BK150.out 0
        have hfz94_1 := blk_frozen BK150.out 1
        go_wp2_with (first | ((with_reducible refine gate_callee (f := 31) rfl ?_); refine gol (some 42) Try.func31 #[.int .i64 a1_1] ?_; (with_reducible refine (cut_Behind.calls a1_1 t171 t172 _ A88.out).mono ?_); rintro e w95 ⟨rfl, hb⟩; refine ⟨_, rfl, ?_⟩; replace BK149 := bkb BK149 hb; replace BK150 := bkb BK150 hb; replace BK151 := bkb BK151 hb; replace BK158 := bkb BK158 hb; replace BK159 := bkb BK159 hb; replace HB := bst HB hb; (try clear hb); (try clear hb2); (try clear hk); (try clear hi); have hnb96 := NB159_149.out; have hnc96 := NB149_159.out; have hnb97 := NB159_151.out; have hnc97 := NB151_159.out; have hnb98 := NB159_158.out; have hnc98 := NB158_159.out; obtain ⟨hcz99_0, hcz99_1⟩ := e2 BK159; obtain ⟨hfz99_0, hfz99_1⟩ := f2 BK159; have hnb100 := NB158_149.out; have hnc100 := NB149_158.out; have hnb101 := NB158_151.out; have hnc101 := NB151_158.out; obtain ⟨hcz102_0, hcz102_1⟩ := e2 BK158; obtain ⟨hfz102_0, hfz102_1⟩ := f2 BK158) | ((with_reducible refine gate_callee (f := 33) rfl ?_); refine gol (some 45) Try.func33 #[.agg #[.int .i64 x159000_26, .int .i64 x159001_26], .agg #[.int .i64 t171, .int .i64 t172]] ?_; (with_reducible refine (span_Of.calls kj26 x159000_26 x159001_26 t171 t172 t173 t174 t175 t176 t177 _ A89.out).mono ?_); rintro e w103 ⟨rfl, hb⟩; refine ⟨_, rfl, ?_⟩; replace BK149 := Aside0.mk (blk_below (bkf BK149 NB149_159) hb); replace BK150 := Aside0.mk (blk_below (bkf BK150 NB150_159) hb); replace BK151 := Aside0.mk (blk_below (bkf BK151 NB151_159) hb); replace BK158 := Aside0.mk (blk_below (bkf BK158 NB158_159) hb); replace BK159 := Aside0.mk (blk_below (g := gb159) (o := .cells #[.int .i64 t171, .int .i64 t172] 25 (0, 0)) (bkp BK159) hb); replace HB := bst HB hb; (try clear hb); (try clear hb2); (try clear hk); (try clear hi); have hnb104 := NB151_149.out; have hnc104 := NB149_151.out; obtain ⟨hcz105_0, hcz105_1, hcz105_2, hcz105_3⟩ := e4 BK151; obtain ⟨hfz105_0, hfz105_1, hfz105_2, hfz105_3⟩ := f4 BK151))
        refine bodyPost_ret (results_ct rfl _ _ gb151 27 #[.int .i64 t173, .int .i64 t174, .int .i64 t175, .int .i64 t176] (0, 0) _ rfl (bkp BK151) Try.underlying27 rfl (by kernel_rfl)) rfl ?_
        exact endB HB
       ·rw [if_neg c87] at H
        have c87b0 : (a1_0 == 2) = false := beq_eq_false_iff_ne.mpr c87
        have c87b1 : (a1_0 != 2) = true := bne_iff_ne.mpr c87
        replace H := Option.bind_eq_some_iff.mp H
        obtain ⟨⟨t178, t179, t180, t181, t182⟩, A1060, H⟩ := H
        replace H : (some (t178, t179, t180, t181, t182)) = some (r1, r2, r3, r4, r5) := H
        have A106 := Aside0.mk A1060
        clear A1060
        simp only [Option.some.injEq, Prod.mk.injEq] at H
        obtain ⟨rfl, rfl, rfl, rfl, rfl⟩ := H
        have hnb107 := NB150_149.out
        have hnc107 := NB149_150.out
        have hnb108 := NB150_151.out
        have hnc108 := NB151_150.out
        have hnb109 := NB150_158.out
        have hnc109 := NB158_150.out
        have hnb110 := NB150_159.out
        have hnc110 := NB159_150.out
        have hcz111_0 : wc.cell? ⟨gb150, 0, none⟩ = some (.int .i64 a1_0) := (blk_cell BK150.out 0).trans rfl
        have hcz111_1 : wc.cell? ⟨gb150, 1, none⟩ = some (.int .i64 a1_1) := (blk_cell BK150.out 1).trans rfl
        have hfz111_0 := blk_frozen BK150.out 0
        have hfz111_1 := blk_frozen BK150.out 1
        have hnb112 := NB158_149.out
        have hnc112 := NB149_158.out
        have hnb113 := NB158_151.out
        have hnc113 := NB151_158.out
        have hnb114 := NB158_159.out
        have hnc114 := NB159_158.out
        have hcz115_0 : wc.cell? ⟨gb158, 0, none⟩ = some (.int .i64 x159000_26) := (blk_cell BK158.out 0).trans rfl
        have hcz115_1 : wc.cell? ⟨gb158, 1, none⟩ = some (.int .i64 x159001_26) := (blk_cell BK158.out 1).trans rfl
        have hfz115_0 := blk_frozen BK158.out 0
        have hfz115_1 := blk_frozen BK158.out 1
        have hnb116 := NB159_149.out
        have hnc116 := NB149_159.out
        have hnb117 := NB159_151.out
        have hnc117 := NB151_159.out
        have hcz118_0 : wc.cell? ⟨gb159, 0, none⟩ = some (.int .i64 t156) := (blk_cell BK159.out 0).trans rfl
        have hcz118_1 : wc.cell? ⟨gb159, 1, none⟩ = some (.int .i64 t157) := (blk_cell BK159.out 1).trans rfl
        have hfz118_0 := blk_frozen BK159.out 0
        have hfz118_1 := blk_frozen BK159.out 1
        go_wp2_with (first | ((with_reducible refine gate_callee (f := 33) rfl ?_); refine gol (some 45) Try.func33 #[.agg #[.int .i64 x159000_26, .int .i64 x159001_26], .agg #[.int .i64 t156, .int .i64 t157]] ?_; (with_reducible refine (span_Of.calls kj26 x159000_26 x159001_26 t156 t157 t178 t179 t180 t181 t182 _ A106.out).mono ?_); rintro e w119 ⟨rfl, hb⟩; refine ⟨_, rfl, ?_⟩; replace BK149 := bkb BK149 hb; replace BK150 := bkb BK150 hb; replace BK151 := bkb BK151 hb; replace BK158 := bkb BK158 hb; replace BK159 := bkb BK159 hb; replace HB := bst HB hb; (try clear hb); (try clear hb2); (try clear hk); (try clear hi); have hnb120 := NB151_149.out; have hnc120 := NB149_151.out; obtain ⟨hcz121_0, hcz121_1, hcz121_2, hcz121_3⟩ := e4 BK151; obtain ⟨hfz121_0, hfz121_1, hfz121_2, hfz121_3⟩ := f4 BK151))
        refine bodyPost_ret (results_ct rfl _ _ gb151 27 #[.int .i64 t178, .int .i64 t179, .int .i64 t180, .int .i64 t181] (0, 0) _ rfl (bkp BK151) Try.underlying27 rfl (by kernel_rfl)) rfl ?_
        exact endB HB
/-! ### bound_reader_sign: function 37 -/
def bound_reader_sign.l0 : Nat → ByteArray → Int → Int → ByteArray → Int → Bool → Bool → Option (Int × ByteArray × Int × Bool × Bool)
 | 0, _, _, _, _, _, _, _ => none
 | k + 1, x1, x11, x12, x1000, x1001, x1002, x1003 => if x12 < x11 then (if x1001 < (x1000.size : Int) then (if 0 ≤ x1001 then (if 0 ≤ x12 then (if x12 < (x1.size : Int) then (if (bt x1000 x1001) = (bt x1 x12) then (some (bt x1 x12, x1000, wrap64 (x1001 + 1), x1002, x1003)) else (bound_reader_sign.l0 k x1 x11 (wrap64 (x12 + 1)) x1000 x1001 x1002 x1003)) else (none)) else (none)) else (none)) else (bound_reader_sign.l0 k x1 x11 (wrap64 (x12 + 1)) x1000 x1001 x1002 x1003)) else (some (0, x1000, x1001, true, x1003))
def bound_reader_sign.f (k : Nat) (s0_0 : ByteArray) (s0_1 : Int) (s0_2 : Bool) (s0_3 : Bool) (a1 : ByteArray) : Option (Int × ByteArray × Int × Bool × Bool) := if s0_2 = true then (some (0, s0_0, s0_1, s0_2, s0_3)) else (bound_reader_sign.l0 k a1 (a1.size : Int) 0 s0_0 s0_1 s0_2 s0_3)
theorem bound_reader_sign.mono_l : ∀ k, (∀ y0 y1 y2 y3 y4 y5 y6, LeO (bound_reader_sign.l0 k y0 y1 y2 y3 y4 y5 y6) (bound_reader_sign.l0 (k + 1) y0 y1 y2 y3 y4 y5 y6))
 | 0 => fun _ _ _ _ _ _ _ r h => by simp [bound_reader_sign.l0] at h
 | k + 1 => by
  have ih0 := bound_reader_sign.mono_l k
  ·intro y0 y1 y2 y3 y4 y5 y6
   unfold bound_reader_sign.l0
   repeat' first
   | (with_reducible exact ih0 _ _ _ _ _ _ _)
   | (with_reducible exact LeO.refl _)
   | (with_reducible exact LeO.none _)
   | (with_reducible refine LeO.ite ?_ ?_)
   | (with_reducible refine LeO.bind ?_ (fun _ => ?_))
   | exact ih0 _ _ _ _ _ _ _
   | exact LeO.none _
   | refine LeO.ite ?_ ?_
   | refine LeO.bind ?_ (fun _ => ?_)
theorem bound_reader_sign.mono : ∀ a0 a1 a2 a3 a4 k, LeO (bound_reader_sign.f k a0 a1 a2 a3 a4) (bound_reader_sign.f (k + 1) a0 a1 a2 a3 a4) := by
 intro a0 a1 a2 a3 a4 k
 have ih0 := bound_reader_sign.mono_l k
 unfold bound_reader_sign.f
 repeat' first
   | (with_reducible exact ih0 _ _ _ _ _ _ _)
   | (with_reducible exact LeO.refl _)
   | (with_reducible exact LeO.none _)
   | (with_reducible refine LeO.ite ?_ ?_)
   | (with_reducible refine LeO.bind ?_ (fun _ => ?_))
   | exact ih0 _ _ _ _ _ _ _
   | exact LeO.none _
   | refine LeO.ite ?_ ?_
   | refine LeO.bind ?_ (fun _ => ?_)
set_option maxHeartbeats 8000000 in
set_option maxRecDepth 100000 in
theorem bound_reader_sign.calls (k : Nat) (g : Nat) (s0_0 : ByteArray) (s0_1 : Int) (s0_2 : Bool) (s0_3 : Bool) (a1 : ByteArray) (r1 : Int) (r2 : ByteArray) (r3 : Int) (r4 : Bool) (r5 : Bool) (w0 w : World) (hI : IsS53 w0 w g s0_0 s0_1 s0_2 s0_3) (hB : Below w0.heap.size w0 w) (h : bound_reader_sign.f k s0_0 s0_1 s0_2 s0_3 a1 = some (r1, r2, r3, r4, r5)) :
  Calls Try.prog 37 #[.pointer (some ⟨g, 0, none⟩), .string a1] w fun e w' => e = .returned (.int .u8 r1) ∧ IsS53 w0 w' g r2 r3 r4 r5 ∧ Below w0.heap.size w0 w' ∧ KeepBut w w' g none := by
 have HI0 := Aside0.mk hI
 have HK := Aside0.mk (KeepBut.refl w g none)
 have HL := Aside0.mk hB.size
 clear hI
 have HW0 := Aside0.mk hB.size
 have HB := Aside0.mk hB
 clear hB
 have H : (if s0_2 = true then (some (0, s0_0, s0_1, s0_2, s0_3)) else (bound_reader_sign.l0 k a1 (a1.size : Int) 0 s0_0 s0_1 s0_2 s0_3)) = some (r1, r2, r3, r4, r5) := h
 clear h
 by_cases c3 : s0_2 = true
 ·subst c3
  have H1 : (some (0, s0_0, s0_1, true, s0_3)) = some (r1, r2, r3, r4, r5) := by rw [if_pos rfl] at H; exact H
  clear H
  have H := H1
  clear H1
  simp only [Option.some.injEq, Prod.mk.injEq] at H
  obtain ⟨rfl, rfl, rfl, rfl, rfl⟩ := H
  obtain ⟨HGz4, hgz4⟩ := HI0.out
  have hcz4_0 := cellS53_0 HGz4
  have hcz4_1 := cellS53_1 HGz4
  have hcz4_2 := cellS53_2 HGz4
  have hcz4_3 := cellS53_3 HGz4
  have hfz4_0 := blk_frozen HGz4 0
  have hfz4_1 := blk_frozen HGz4 1
  have hfz4_2 := blk_frozen HGz4 2
  have hfz4_3 := blk_frozen HGz4 3
  clear HGz4 hgz4
  go_enter Try.func37, Try.ntmps37
  go_wp2
  repeat (go_quiet (fail); try go_wp2)
  go_ret
  exact ⟨by first | rfl | (simp [errW_none, errW_some] <;> rfl) | (simp [*, errW_none, errW_some] <;> rfl), by repeat (first | (with_reducible first | exact HI0.out | apply IsS53.alloc | apply IsS53.drewN | apply IsS53.drew | apply IsS53.set_0 | apply IsS53.set_1 | apply IsS53.set_2 | apply IsS53.set_3) | exact HI0.out), by repeat (first | (with_reducible first | exact HB.out | apply below_alloc | apply pw_below_drewN | apply below_drew1 | refine below_set ?_ (IsS53.ge HI0.out)) | exact HB.out), by repeat (first | (with_reducible first | exact HK.out | apply KeepBut.set_ | apply keep_drewN | apply keep_drew | apply keep_alloc) | exact HK.out)⟩
 ·replace c3 := Bool.eq_false_iff.mpr c3
  subst c3
  have H1 : (bound_reader_sign.l0 k a1 (a1.size : Int) 0 s0_0 s0_1 false s0_3) = some (r1, r2, r3, r4, r5) := by rw [if_neg (show ¬ (false = true) by decide)] at H; exact H
  clear H
  have H := H1
  clear H1
  have H' := Aside0.mk H
  clear H
  obtain ⟨HGz5, hgz5⟩ := HI0.out
  have hcz5_0 := cellS53_0 HGz5
  have hcz5_1 := cellS53_1 HGz5
  have hcz5_2 := cellS53_2 HGz5
  have hcz5_3 := cellS53_3 HGz5
  have hfz5_0 := blk_frozen HGz5 0
  have hfz5_1 := blk_frozen HGz5 1
  have hfz5_2 := blk_frozen HGz5 2
  have hfz5_3 := blk_frozen HGz5 3
  clear HGz5 hgz5
  go_enter Try.func37, Try.ntmps37
  go_wp2
  repeat (go_quiet (fail); try go_wp2)
  go_loopg [12] k (fun kq v12 w' => ∃ (x12_1 : Int) (x1001_1 : Int), v12 = .int .i64 x12_1 ∧ Aside0 (bound_reader_sign.l0 kq a1 (a1.size : Int) x12_1 s0_0 x1001_1 false s0_3 = some (r1, r2, r3, r4, r5)) ∧ Aside0 (kq ≤ k) ∧ Aside0 (IsS53 w0 w' g s0_0 x1001_1 false s0_3) ∧ Aside0 (KeepBut w w' g none) ∧ Aside0 (Below w0.heap.size w0 w'))
  case atStart => exact ⟨(0), (s0_1), (by first | rfl | (simp; done) | (simp [*]; done)), H', ⟨Nat.le_refl _⟩, ⟨by repeat (first | (with_reducible first | exact HI0.out | apply IsS53.alloc | apply IsS53.drewN | apply IsS53.drew | apply IsS53.set_0 | apply IsS53.set_1 | apply IsS53.set_2 | apply IsS53.set_3) | exact HI0.out)⟩, ⟨by repeat (first | (with_reducible first | exact HK.out | apply KeepBut.set_ | apply keep_drewN | apply keep_drew | apply keep_alloc) | exact HK.out)⟩, ⟨by repeat (first | (with_reducible first | exact HB.out | apply below_alloc | apply pw_below_drewN | apply below_drew1 | refine below_set ?_ (IsS53.ge HI0.out)) | exact HB.out)⟩⟩
  case round =>
   clear H'
   try clear c3
   try clear hcz5_0
   try clear hcz5_1
   try clear hcz5_2
   try clear hcz5_3
   try clear hfz5_0
   try clear hfz5_1
   try clear hfz5_2
   try clear hfz5_3
   obtain ⟨x12_1, x1001_1, rfl, HA, HK1, HI0, HK, HB⟩ := hrel
   cases gk with
   | zero => exact absurd HA.out (by simp [bound_reader_sign.l0])
   | succ k1 =>
    have H := HA.out
    clear HA
    simp only [bound_reader_sign.l0] at H
    by_cases c6 : x12_1 < (a1.size : Int)
    ·rw [if_pos c6] at H
     have c6b0 : decide (x12_1 < (a1.size : Int)) = true := decide_eq_true c6
     clear c6
     by_cases c7 : x1001_1 < (s0_0.size : Int)
     ·rw [if_pos c7] at H
      have c7b0 : decide (x1001_1 < (s0_0.size : Int)) = true := decide_eq_true c7
      clear c7
      by_cases c8 : 0 ≤ x1001_1
      ·rw [if_pos c8] at H
       have c8b0 : decide (0 ≤ x1001_1) = true := decide_eq_true c8
       clear c8
       by_cases c10 : 0 ≤ x12_1
       ·rw [if_pos c10] at H
        have c10b0 : decide (0 ≤ x12_1) = true := decide_eq_true c10
        clear c10
        by_cases c11 : x12_1 < (a1.size : Int)
        ·rw [if_pos c11] at H
         have c11b0 : decide (x12_1 < (a1.size : Int)) = true := decide_eq_true c11
         clear c11
         by_cases c13 : (bt s0_0 x1001_1) = (bt a1 x12_1)
         ·rw [if_pos c13] at H
          have c13b0 : ((bt s0_0 x1001_1) == (bt a1 x12_1)) = true := beq_iff_eq.mpr c13
          have c13b1 : ((bt s0_0 x1001_1) != (bt a1 x12_1)) = false := bne_eq_false_iff_eq.mpr c13
          clear c13
          simp only [Option.some.injEq, Prod.mk.injEq] at H
          obtain ⟨rfl, rfl, rfl, rfl, rfl⟩ := H
          obtain ⟨HGz15, hgz15⟩ := HI0.out
          have hcz15_0 := cellS53_0 HGz15
          have hcz15_1 := cellS53_1 HGz15
          have hcz15_2 := cellS53_2 HGz15
          have hcz15_3 := cellS53_3 HGz15
          have hfz15_0 := blk_frozen HGz15 0
          have hfz15_1 := blk_frozen HGz15 1
          have hfz15_2 := blk_frozen HGz15 2
          have hfz15_3 := blk_frozen HGz15 3
          clear HGz15 hgz15
          have p9 : 0 ≤ (x1001_1 : Int) := of_decide_eq_true (by first | (with_reducible assumption) | assumption)
          have q9 : x1001_1 < (s0_0.size : Int) := of_decide_eq_true (by first | (with_reducible assumption) | assumption)
          have hx9 := bt_at s0_0 x1001_1
          replace p9 := eq_true p9
          replace q9 := eq_true q9
          have p12 : 0 ≤ (x12_1 : Int) := of_decide_eq_true (by first | (with_reducible assumption) | assumption)
          have q12 : x12_1 < (a1.size : Int) := of_decide_eq_true (by first | (with_reducible assumption) | assumption)
          have hx12 := bt_at a1 x12_1
          replace p12 := eq_true p12
          replace q12 := eq_true q12
          have p14 : 0 ≤ (x12_1 : Int) := of_decide_eq_true (by first | (with_reducible assumption) | assumption)
          have q14 : x12_1 < (a1.size : Int) := of_decide_eq_true (by first | (with_reducible assumption) | assumption)
          have hx14 := bt_at a1 x12_1
          replace p14 := eq_true p14
          replace q14 := eq_true q14
          go_wp2
          repeat (go_quiet (fail); try go_wp2)
          go_ret
          exact ⟨by first | rfl | (simp [errW_none, errW_some] <;> rfl) | (simp [*, errW_none, errW_some] <;> rfl), by repeat (first | (with_reducible first | exact HI0.out | apply IsS53.alloc | apply IsS53.drewN | apply IsS53.drew | apply IsS53.set_0 | apply IsS53.set_1 | apply IsS53.set_2 | apply IsS53.set_3) | exact HI0.out), by repeat (first | (with_reducible first | exact HB.out | apply below_alloc | apply pw_below_drewN | apply below_drew1 | refine below_set ?_ (IsS53.ge HI0.out)) | exact HB.out), by repeat (first | (with_reducible first | exact HK.out | apply KeepBut.set_ | apply keep_drewN | apply keep_drew | apply keep_alloc) | exact HK.out)⟩
         ·rw [if_neg c13] at H
          have c13b0 : ((bt s0_0 x1001_1) == (bt a1 x12_1)) = false := beq_eq_false_iff_ne.mpr c13
          have c13b1 : ((bt s0_0 x1001_1) != (bt a1 x12_1)) = true := bne_iff_ne.mpr c13
          have H' := Aside0.mk H
          clear H
          obtain ⟨HGz16, hgz16⟩ := HI0.out
          have hcz16_0 := cellS53_0 HGz16
          have hcz16_1 := cellS53_1 HGz16
          have hcz16_2 := cellS53_2 HGz16
          have hcz16_3 := cellS53_3 HGz16
          have hfz16_0 := blk_frozen HGz16 0
          have hfz16_1 := blk_frozen HGz16 1
          have hfz16_2 := blk_frozen HGz16 2
          have hfz16_3 := blk_frozen HGz16 3
          clear HGz16 hgz16
          have p9 : 0 ≤ (x1001_1 : Int) := of_decide_eq_true (by first | (with_reducible assumption) | assumption)
          have q9 : x1001_1 < (s0_0.size : Int) := of_decide_eq_true (by first | (with_reducible assumption) | assumption)
          have hx9 := bt_at s0_0 x1001_1
          replace p9 := eq_true p9
          replace q9 := eq_true q9
          have p12 : 0 ≤ (x12_1 : Int) := of_decide_eq_true (by first | (with_reducible assumption) | assumption)
          have q12 : x12_1 < (a1.size : Int) := of_decide_eq_true (by first | (with_reducible assumption) | assumption)
          have hx12 := bt_at a1 x12_1
          replace p12 := eq_true p12
          replace q12 := eq_true q12
          go_wp2
          repeat (go_quiet (fail); try go_wp2)
          go_roundg k1
          case measure => have := HK1.out; omega
          case rel => exact ⟨(wrap64 (x12_1 + 1)), (x1001_1), (by first | rfl | (simp; done) | (simp [*]; done)), H', ⟨by have := HK1.out; omega⟩, ⟨by repeat (first | (with_reducible first | exact HI0.out | apply IsS53.alloc | apply IsS53.drewN | apply IsS53.drew | apply IsS53.set_0 | apply IsS53.set_1 | apply IsS53.set_2 | apply IsS53.set_3) | exact HI0.out)⟩, ⟨by repeat (first | (with_reducible first | exact HK.out | apply KeepBut.set_ | apply keep_drewN | apply keep_drew | apply keep_alloc) | exact HK.out)⟩, ⟨by repeat (first | (with_reducible first | exact HB.out | apply below_alloc | apply pw_below_drewN | apply below_drew1 | refine below_set ?_ (IsS53.ge HI0.out)) | exact HB.out)⟩⟩
        ·rw [if_neg c11] at H
         exact absurd H (by simp)
       ·rw [if_neg c10] at H
        exact absurd H (by simp)
      ·rw [if_neg c8] at H
       exact absurd H (by simp)
     ·rw [if_neg c7] at H
      have c7b0 : decide (x1001_1 < (s0_0.size : Int)) = false := decide_eq_false c7
      clear c7
      have H' := Aside0.mk H
      clear H
      obtain ⟨HGz17, hgz17⟩ := HI0.out
      have hcz17_0 := cellS53_0 HGz17
      have hcz17_1 := cellS53_1 HGz17
      have hcz17_2 := cellS53_2 HGz17
      have hcz17_3 := cellS53_3 HGz17
      have hfz17_0 := blk_frozen HGz17 0
      have hfz17_1 := blk_frozen HGz17 1
      have hfz17_2 := blk_frozen HGz17 2
      have hfz17_3 := blk_frozen HGz17 3
      clear HGz17 hgz17
      go_wp2
      repeat (go_quiet (fail); try go_wp2)
      go_roundg k1
      case measure => have := HK1.out; omega
      case rel => exact ⟨(wrap64 (x12_1 + 1)), (x1001_1), (by first | rfl | (simp; done) | (simp [*]; done)), H', ⟨by have := HK1.out; omega⟩, ⟨by repeat (first | (with_reducible first | exact HI0.out | apply IsS53.alloc | apply IsS53.drewN | apply IsS53.drew | apply IsS53.set_0 | apply IsS53.set_1 | apply IsS53.set_2 | apply IsS53.set_3) | exact HI0.out)⟩, ⟨by repeat (first | (with_reducible first | exact HK.out | apply KeepBut.set_ | apply keep_drewN | apply keep_drew | apply keep_alloc) | exact HK.out)⟩, ⟨by repeat (first | (with_reducible first | exact HB.out | apply below_alloc | apply pw_below_drewN | apply below_drew1 | refine below_set ?_ (IsS53.ge HI0.out)) | exact HB.out)⟩⟩
    ·rw [if_neg c6] at H
     have c6b0 : decide (x12_1 < (a1.size : Int)) = false := decide_eq_false c6
     clear c6
     simp only [Option.some.injEq, Prod.mk.injEq] at H
     obtain ⟨rfl, rfl, rfl, rfl, rfl⟩ := H
     obtain ⟨HGz18, hgz18⟩ := HI0.out
     have hcz18_0 := cellS53_0 HGz18
     have hcz18_1 := cellS53_1 HGz18
     have hcz18_2 := cellS53_2 HGz18
     have hcz18_3 := cellS53_3 HGz18
     have hfz18_0 := blk_frozen HGz18 0
     have hfz18_1 := blk_frozen HGz18 1
     have hfz18_2 := blk_frozen HGz18 2
     have hfz18_3 := blk_frozen HGz18 3
     clear HGz18 hgz18
     go_wp2
     repeat (go_quiet (fail); try go_wp2)
     go_ret
     exact ⟨by first | rfl | (simp [errW_none, errW_some] <;> rfl) | (simp [*, errW_none, errW_some] <;> rfl), by repeat (first | (with_reducible first | exact HI0.out | apply IsS53.alloc | apply IsS53.drewN | apply IsS53.drew | apply IsS53.set_0 | apply IsS53.set_1 | apply IsS53.set_2 | apply IsS53.set_3) | exact HI0.out), by repeat (first | (with_reducible first | exact HB.out | apply below_alloc | apply pw_below_drewN | apply below_drew1 | refine below_set ?_ (IsS53.ge HI0.out)) | exact HB.out), by repeat (first | (with_reducible first | exact HK.out | apply KeepBut.set_ | apply keep_drewN | apply keep_drew | apply keep_alloc) | exact HK.out)⟩
/-! ### bound_reader_blanks: function 45 -/
def bound_reader_blanks.l0 : Nat → ByteArray → Int → Bool → Bool → Option (ByteArray × Int × Bool × Bool)
 | 0, _, _, _, _ => none
 | k + 1, x1000, x1001, x1002, x1003 => if x1003 = true then (if x1002 = true then (some (x1000, x1001, x1002, x1003)) else (if x1001 < (x1000.size : Int) then (if 0 ≤ x1001 then (if (bt x1000 x1001) = 32 then (bound_reader_blanks.l0 k x1000 (wrap64 (x1001 + 1)) x1002 x1003) else (some (x1000, x1001, x1002, x1003))) else (none)) else (some (x1000, x1001, x1002, x1003)))) else (some (x1000, x1001, x1002, x1003))
def bound_reader_blanks.f (k : Nat) (s0_0 : ByteArray) (s0_1 : Int) (s0_2 : Bool) (s0_3 : Bool) : Option (ByteArray × Int × Bool × Bool) := bound_reader_blanks.l0 k s0_0 s0_1 s0_2 s0_3
theorem bound_reader_blanks.mono_l : ∀ k, (∀ y0 y1 y2 y3, LeO (bound_reader_blanks.l0 k y0 y1 y2 y3) (bound_reader_blanks.l0 (k + 1) y0 y1 y2 y3))
 | 0 => fun _ _ _ _ r h => by simp [bound_reader_blanks.l0] at h
 | k + 1 => by
  have ih0 := bound_reader_blanks.mono_l k
  ·intro y0 y1 y2 y3
   unfold bound_reader_blanks.l0
   repeat' first
   | (with_reducible exact ih0 _ _ _ _)
   | (with_reducible exact LeO.refl _)
   | (with_reducible exact LeO.none _)
   | (with_reducible refine LeO.ite ?_ ?_)
   | (with_reducible refine LeO.bind ?_ (fun _ => ?_))
   | exact ih0 _ _ _ _
   | exact LeO.none _
   | refine LeO.ite ?_ ?_
   | refine LeO.bind ?_ (fun _ => ?_)
theorem bound_reader_blanks.mono : ∀ a0 a1 a2 a3 k, LeO (bound_reader_blanks.f k a0 a1 a2 a3) (bound_reader_blanks.f (k + 1) a0 a1 a2 a3) := by
 intro a0 a1 a2 a3 k
 have ih0 := bound_reader_blanks.mono_l k
 unfold bound_reader_blanks.f
 repeat' first
   | (with_reducible exact ih0 _ _ _ _)
   | (with_reducible exact LeO.refl _)
   | (with_reducible exact LeO.none _)
   | (with_reducible refine LeO.ite ?_ ?_)
   | (with_reducible refine LeO.bind ?_ (fun _ => ?_))
   | exact ih0 _ _ _ _
   | exact LeO.none _
   | refine LeO.ite ?_ ?_
   | refine LeO.bind ?_ (fun _ => ?_)
set_option maxHeartbeats 8000000 in
set_option maxRecDepth 100000 in
theorem bound_reader_blanks.calls (k : Nat) (g : Nat) (s0_0 : ByteArray) (s0_1 : Int) (s0_2 : Bool) (s0_3 : Bool) (r1 : ByteArray) (r2 : Int) (r3 : Bool) (r4 : Bool) (w0 w : World) (hI : IsS53 w0 w g s0_0 s0_1 s0_2 s0_3) (hB : Below w0.heap.size w0 w) (h : bound_reader_blanks.f k s0_0 s0_1 s0_2 s0_3 = some (r1, r2, r3, r4)) :
  Calls Try.prog 45 #[.pointer (some ⟨g, 0, none⟩)] w fun e w' => e = .returned (.tuple #[]) ∧ IsS53 w0 w' g r1 r2 r3 r4 ∧ Below w0.heap.size w0 w' ∧ KeepBut w w' g none := by
 have HI0 := Aside0.mk hI
 have HK := Aside0.mk (KeepBut.refl w g none)
 have HL := Aside0.mk hB.size
 clear hI
 have HW0 := Aside0.mk hB.size
 have HB := Aside0.mk hB
 clear hB
 have H : (bound_reader_blanks.l0 k s0_0 s0_1 s0_2 s0_3) = some (r1, r2, r3, r4) := h
 clear h
 have H' := Aside0.mk H
 clear H
 go_enter Try.func45, Try.ntmps45
 go_wp2
 repeat (go_quiet (fail); try go_wp2)
 go_loopg [] k (fun kq w' => ∃ (x1001_1 : Int), Aside0 (bound_reader_blanks.l0 kq s0_0 x1001_1 s0_2 s0_3 = some (r1, r2, r3, r4)) ∧ Aside0 (kq ≤ k) ∧ Aside0 (IsS53 w0 w' g s0_0 x1001_1 s0_2 s0_3) ∧ Aside0 (KeepBut w w' g none) ∧ Aside0 (Below w0.heap.size w0 w'))
 case atStart => exact ⟨(s0_1), H', ⟨Nat.le_refl _⟩, ⟨by repeat (first | (with_reducible first | exact HI0.out | apply IsS53.alloc | apply IsS53.drewN | apply IsS53.drew | apply IsS53.set_0 | apply IsS53.set_1 | apply IsS53.set_2 | apply IsS53.set_3) | exact HI0.out)⟩, ⟨by repeat (first | (with_reducible first | exact HK.out | apply KeepBut.set_ | apply keep_drewN | apply keep_drew | apply keep_alloc) | exact HK.out)⟩, ⟨by repeat (first | (with_reducible first | exact HB.out | apply below_alloc | apply pw_below_drewN | apply below_drew1 | refine below_set ?_ (IsS53.ge HI0.out)) | exact HB.out)⟩⟩
 case round =>
  clear H'
  obtain ⟨x1001_1, HA, HK1, HI0, HK, HB⟩ := hrel
  cases gk with
  | zero => exact absurd HA.out (by simp [bound_reader_blanks.l0])
  | succ k1 =>
   have H := HA.out
   clear HA
   simp only [bound_reader_blanks.l0] at H
   by_cases c2 : s0_3 = true
   ·subst c2
    have H1 : (if s0_2 = true then (some (s0_0, x1001_1, s0_2, true)) else (if x1001_1 < (s0_0.size : Int) then (if 0 ≤ x1001_1 then (if (bt s0_0 x1001_1) = 32 then (bound_reader_blanks.l0 k1 s0_0 (wrap64 (x1001_1 + 1)) s0_2 true) else (some (s0_0, x1001_1, s0_2, true))) else (none)) else (some (s0_0, x1001_1, s0_2, true)))) = some (r1, r2, r3, r4) := by rw [if_pos rfl] at H; exact H
    clear H
    have H := H1
    clear H1
    by_cases c3 : s0_2 = true
    ·subst c3
     have H1 : (some (s0_0, x1001_1, true, true)) = some (r1, r2, r3, r4) := by rw [if_pos rfl] at H; exact H
     clear H
     have H := H1
     clear H1
     simp only [Option.some.injEq, Prod.mk.injEq] at H
     obtain ⟨rfl, rfl, rfl, rfl⟩ := H
     obtain ⟨HGz4, hgz4⟩ := HI0.out
     have hcz4_0 := cellS53_0 HGz4
     have hcz4_1 := cellS53_1 HGz4
     have hcz4_2 := cellS53_2 HGz4
     have hcz4_3 := cellS53_3 HGz4
     have hfz4_0 := blk_frozen HGz4 0
     have hfz4_1 := blk_frozen HGz4 1
     have hfz4_2 := blk_frozen HGz4 2
     have hfz4_3 := blk_frozen HGz4 3
     clear HGz4 hgz4
     go_wp2
     repeat (go_quiet (fail); try go_wp2)
     first | go_end0 | ((try simp only [Exit.inBlock, Exit.then]); refine bodyPost_ret (results_none rfl _ _ _) rfl ?_)
     exact ⟨by first | rfl | (simp [errW_none, errW_some] <;> rfl) | (simp [*, errW_none, errW_some] <;> rfl), by repeat (first | (with_reducible first | exact HI0.out | apply IsS53.alloc | apply IsS53.drewN | apply IsS53.drew | apply IsS53.set_0 | apply IsS53.set_1 | apply IsS53.set_2 | apply IsS53.set_3) | exact HI0.out), by repeat (first | (with_reducible first | exact HB.out | apply below_alloc | apply pw_below_drewN | apply below_drew1 | refine below_set ?_ (IsS53.ge HI0.out)) | exact HB.out), by repeat (first | (with_reducible first | exact HK.out | apply KeepBut.set_ | apply keep_drewN | apply keep_drew | apply keep_alloc) | exact HK.out)⟩
    ·replace c3 := Bool.eq_false_iff.mpr c3
     subst c3
     have H1 : (if x1001_1 < (s0_0.size : Int) then (if 0 ≤ x1001_1 then (if (bt s0_0 x1001_1) = 32 then (bound_reader_blanks.l0 k1 s0_0 (wrap64 (x1001_1 + 1)) false true) else (some (s0_0, x1001_1, false, true))) else (none)) else (some (s0_0, x1001_1, false, true))) = some (r1, r2, r3, r4) := by rw [if_neg (show ¬ (false = true) by decide)] at H; exact H
     clear H
     have H := H1
     clear H1
     by_cases c5 : x1001_1 < (s0_0.size : Int)
     ·rw [if_pos c5] at H
      have c5b0 : decide (x1001_1 < (s0_0.size : Int)) = true := decide_eq_true c5
      clear c5
      by_cases c6 : 0 ≤ x1001_1
      ·rw [if_pos c6] at H
       have c6b0 : decide (0 ≤ x1001_1) = true := decide_eq_true c6
       clear c6
       by_cases c8 : (bt s0_0 x1001_1) = 32
       ·rw [if_pos c8] at H
        have c8b0 : ((bt s0_0 x1001_1) == 32) = true := beq_iff_eq.mpr c8
        have c8b1 : ((bt s0_0 x1001_1) != 32) = false := bne_eq_false_iff_eq.mpr c8
        clear c8
        have H' := Aside0.mk H
        clear H
        obtain ⟨HGz9, hgz9⟩ := HI0.out
        have hcz9_0 := cellS53_0 HGz9
        have hcz9_1 := cellS53_1 HGz9
        have hcz9_2 := cellS53_2 HGz9
        have hcz9_3 := cellS53_3 HGz9
        have hfz9_0 := blk_frozen HGz9 0
        have hfz9_1 := blk_frozen HGz9 1
        have hfz9_2 := blk_frozen HGz9 2
        have hfz9_3 := blk_frozen HGz9 3
        clear HGz9 hgz9
        have p7 : 0 ≤ (x1001_1 : Int) := of_decide_eq_true (by first | (with_reducible assumption) | assumption)
        have q7 : x1001_1 < (s0_0.size : Int) := of_decide_eq_true (by first | (with_reducible assumption) | assumption)
        have hx7 := bt_at s0_0 x1001_1
        replace p7 := eq_true p7
        replace q7 := eq_true q7
        go_wp2
        repeat (go_quiet (fail); try go_wp2)
        go_roundg k1
        case measure => have := HK1.out; omega
        case rel => exact ⟨(wrap64 (x1001_1 + 1)), H', ⟨by have := HK1.out; omega⟩, ⟨by repeat (first | (with_reducible first | exact HI0.out | apply IsS53.alloc | apply IsS53.drewN | apply IsS53.drew | apply IsS53.set_0 | apply IsS53.set_1 | apply IsS53.set_2 | apply IsS53.set_3) | exact HI0.out)⟩, ⟨by repeat (first | (with_reducible first | exact HK.out | apply KeepBut.set_ | apply keep_drewN | apply keep_drew | apply keep_alloc) | exact HK.out)⟩, ⟨by repeat (first | (with_reducible first | exact HB.out | apply below_alloc | apply pw_below_drewN | apply below_drew1 | refine below_set ?_ (IsS53.ge HI0.out)) | exact HB.out)⟩⟩
       ·rw [if_neg c8] at H
        have c8b0 : ((bt s0_0 x1001_1) == 32) = false := beq_eq_false_iff_ne.mpr c8
        have c8b1 : ((bt s0_0 x1001_1) != 32) = true := bne_iff_ne.mpr c8
        simp only [Option.some.injEq, Prod.mk.injEq] at H
        obtain ⟨rfl, rfl, rfl, rfl⟩ := H
        obtain ⟨HGz10, hgz10⟩ := HI0.out
        have hcz10_0 := cellS53_0 HGz10
        have hcz10_1 := cellS53_1 HGz10
        have hcz10_2 := cellS53_2 HGz10
        have hcz10_3 := cellS53_3 HGz10
        have hfz10_0 := blk_frozen HGz10 0
        have hfz10_1 := blk_frozen HGz10 1
        have hfz10_2 := blk_frozen HGz10 2
        have hfz10_3 := blk_frozen HGz10 3
        clear HGz10 hgz10
        have p7 : 0 ≤ (x1001_1 : Int) := of_decide_eq_true (by first | (with_reducible assumption) | assumption)
        have q7 : x1001_1 < (s0_0.size : Int) := of_decide_eq_true (by first | (with_reducible assumption) | assumption)
        have hx7 := bt_at s0_0 x1001_1
        replace p7 := eq_true p7
        replace q7 := eq_true q7
        go_wp2
        repeat (go_quiet (fail); try go_wp2)
        first | go_end0 | ((try simp only [Exit.inBlock, Exit.then]); refine bodyPost_ret (results_none rfl _ _ _) rfl ?_)
        exact ⟨by first | rfl | (simp [errW_none, errW_some] <;> rfl) | (simp [*, errW_none, errW_some] <;> rfl), by repeat (first | (with_reducible first | exact HI0.out | apply IsS53.alloc | apply IsS53.drewN | apply IsS53.drew | apply IsS53.set_0 | apply IsS53.set_1 | apply IsS53.set_2 | apply IsS53.set_3) | exact HI0.out), by repeat (first | (with_reducible first | exact HB.out | apply below_alloc | apply pw_below_drewN | apply below_drew1 | refine below_set ?_ (IsS53.ge HI0.out)) | exact HB.out), by repeat (first | (with_reducible first | exact HK.out | apply KeepBut.set_ | apply keep_drewN | apply keep_drew | apply keep_alloc) | exact HK.out)⟩
      ·rw [if_neg c6] at H
       exact absurd H (by simp)
     ·rw [if_neg c5] at H
      have c5b0 : decide (x1001_1 < (s0_0.size : Int)) = false := decide_eq_false c5
      clear c5
      simp only [Option.some.injEq, Prod.mk.injEq] at H
      obtain ⟨rfl, rfl, rfl, rfl⟩ := H
      obtain ⟨HGz11, hgz11⟩ := HI0.out
      have hcz11_0 := cellS53_0 HGz11
      have hcz11_1 := cellS53_1 HGz11
      have hcz11_2 := cellS53_2 HGz11
      have hcz11_3 := cellS53_3 HGz11
      have hfz11_0 := blk_frozen HGz11 0
      have hfz11_1 := blk_frozen HGz11 1
      have hfz11_2 := blk_frozen HGz11 2
      have hfz11_3 := blk_frozen HGz11 3
      clear HGz11 hgz11
      go_wp2
      repeat (go_quiet (fail); try go_wp2)
      first | go_end0 | ((try simp only [Exit.inBlock, Exit.then]); refine bodyPost_ret (results_none rfl _ _ _) rfl ?_)
      exact ⟨by first | rfl | (simp [errW_none, errW_some] <;> rfl) | (simp [*, errW_none, errW_some] <;> rfl), by repeat (first | (with_reducible first | exact HI0.out | apply IsS53.alloc | apply IsS53.drewN | apply IsS53.drew | apply IsS53.set_0 | apply IsS53.set_1 | apply IsS53.set_2 | apply IsS53.set_3) | exact HI0.out), by repeat (first | (with_reducible first | exact HB.out | apply below_alloc | apply pw_below_drewN | apply below_drew1 | refine below_set ?_ (IsS53.ge HI0.out)) | exact HB.out), by repeat (first | (with_reducible first | exact HK.out | apply KeepBut.set_ | apply keep_drewN | apply keep_drew | apply keep_alloc) | exact HK.out)⟩
   ·replace c2 := Bool.eq_false_iff.mpr c2
    subst c2
    have H1 : (some (s0_0, x1001_1, s0_2, false)) = some (r1, r2, r3, r4) := by rw [if_neg (show ¬ (false = true) by decide)] at H; exact H
    clear H
    have H := H1
    clear H1
    simp only [Option.some.injEq, Prod.mk.injEq] at H
    obtain ⟨rfl, rfl, rfl, rfl⟩ := H
    obtain ⟨HGz12, hgz12⟩ := HI0.out
    have hcz12_0 := cellS53_0 HGz12
    have hcz12_1 := cellS53_1 HGz12
    have hcz12_2 := cellS53_2 HGz12
    have hcz12_3 := cellS53_3 HGz12
    have hfz12_0 := blk_frozen HGz12 0
    have hfz12_1 := blk_frozen HGz12 1
    have hfz12_2 := blk_frozen HGz12 2
    have hfz12_3 := blk_frozen HGz12 3
    clear HGz12 hgz12
    go_wp2
    repeat (go_quiet (fail); try go_wp2)
    first | go_end0 | ((try simp only [Exit.inBlock, Exit.then]); refine bodyPost_ret (results_none rfl _ _ _) rfl ?_)
    exact ⟨by first | rfl | (simp [errW_none, errW_some] <;> rfl) | (simp [*, errW_none, errW_some] <;> rfl), by repeat (first | (with_reducible first | exact HI0.out | apply IsS53.alloc | apply IsS53.drewN | apply IsS53.drew | apply IsS53.set_0 | apply IsS53.set_1 | apply IsS53.set_2 | apply IsS53.set_3) | exact HI0.out), by repeat (first | (with_reducible first | exact HB.out | apply below_alloc | apply pw_below_drewN | apply below_drew1 | refine below_set ?_ (IsS53.ge HI0.out)) | exact HB.out), by repeat (first | (with_reducible first | exact HK.out | apply KeepBut.set_ | apply keep_drewN | apply keep_drew | apply keep_alloc) | exact HK.out)⟩
/-! ### sat_size: function 59 -/
def sat_size.f (a0 : Int) : Option (Int) := if a0 < 0 then (some (IntKind.u64.wrap (-(IntKind.u64.wrap (a0))))) else (some (IntKind.u64.wrap (a0)))
set_option maxHeartbeats 8000000 in
set_option maxRecDepth 100000 in
theorem sat_size.calls (a0 : Int) (r : Int) (w : World) (h : sat_size.f a0 = some r) :
  Calls Try.prog 59 #[.int .i64 a0] w fun e w' => e = .returned (.int .u64 r) ∧ Drawn0 w w' := by
 have H : (if a0 < 0 then (some (IntKind.u64.wrap (-(IntKind.u64.wrap (a0))))) else (some (IntKind.u64.wrap (a0)))) = some r := h
 clear h
 by_cases c2 : a0 < 0
 ·rw [if_pos c2] at H
  have c2b0 : decide (a0 < 0) = true := decide_eq_true c2
  clear c2
  obtain rfl := Option.some.inj H
  go_enter Try.func59, Try.ntmps59
  go_wp2
  go_ret
  exact ⟨by first | rfl | (simp; done) | (simp [*]; done), by repeat (first | exact Drawn0.refl _ | apply Drawn0.step)⟩
 ·rw [if_neg c2] at H
  have c2b0 : decide (a0 < 0) = false := decide_eq_false c2
  clear c2
  obtain rfl := Option.some.inj H
  go_enter Try.func59, Try.ntmps59
  go_wp2
  go_ret
  exact ⟨by first | rfl | (simp; done) | (simp [*]; done), by repeat (first | exact Drawn0.refl _ | apply Drawn0.step)⟩
/-! ### sat_Read: function 44 -/
mutual
def sat_Read.j0 : Nat → ByteArray → Int → Bool → Option (Int × Int)
 | 0, _, _, _ => none
 | k + 1, x0, x4, x16 => if x16 = true then (sat_Read.j1 k x0 1) else (sat_Read.j1 k x0 x4)
def sat_Read.j1 : Nat → ByteArray → Int → Option (Int × Int)
 | 0, _, _ => none
 | k + 1, x0, x4 => (sat_size.f 9223372036854775807).bind fun t183 => (if x4 > 0 then ((sat_size.f (-9223372036854775808)).bind fun t184 => (sat_Read.j2 k x0 x4 t184)) else (sat_Read.j2 k x0 x4 t183))
def sat_Read.j2 : Nat → ByteArray → Int → Int → Option (Int × Int)
 | 0, _, _, _ => none
 | k + 1, x0, x4, x5 => sat_Read.l0 k x0 x4 x5 0 x4
def sat_Read.j5 : Nat → Int → Int → Int → Option (Int × Int)
 | 0, _, _, _ => none
 | k + 1, x4, x6, x7 => if x7 = x4 then (sat_Read.j6 k x4 x6 x7 true) else (if x4 > 0 then (sat_Read.j6 k x4 x6 x7 (x6 == 0)) else (sat_Read.j6 k x4 x6 x7 false))
def sat_Read.j6 : Nat → Int → Int → Int → Bool → Option (Int × Int)
 | 0, _, _, _, _ => none
 | k + 1, x4, x6, x7, x64 => if x64 = true then (some (0, 0)) else (if x4 > 0 then (some (wrap64 (IntKind.u64.wrap (-x6)), x7)) else (some (wrap64 (x6), x7)))
def sat_Read.l0 : Nat → ByteArray → Int → Int → Int → Int → Option (Int × Int)
 | 0, _, _, _, _, _ => none
 | k + 1, x0, x4, x5, x6, x7 => if x7 < (x0.size : Int) then (if 0 ≤ x7 then (if (bt x0 x7) ≥ 48 then (sat_Read.j4 k x0 x4 x5 x6 x7 (decide ((bt x0 x7) ≤ 57))) else (sat_Read.j4 k x0 x4 x5 x6 x7 false)) else (none)) else (sat_Read.j4 k x0 x4 x5 x6 x7 false)
def sat_Read.j4 : Nat → ByteArray → Int → Int → Int → Int → Bool → Option (Int × Int)
 | 0, _, _, _, _, _, _ => none
 | k + 1, x0, x4, x5, x6, x7, x37 => if x37 = true then (if 0 ≤ x7 then (if x7 < (x0.size : Int) then (if x7 > x4 then (if x6 = 0 then (sat_Read.j5 k x4 x6 x7) else (if x6 > (IntKind.u64.wrap (Int.tdiv (IntKind.u64.wrap (x5 - (((bt x0 x7) - 48) % 256))) 10)) then (sat_Read.j5 k x4 x6 x7) else (sat_Read.l0 k x0 x4 x5 (IntKind.u64.wrap ((IntKind.u64.wrap (10 * x6)) + (((bt x0 x7) - 48) % 256))) (wrap64 (x7 + 1))))) else (if x6 > (IntKind.u64.wrap (Int.tdiv (IntKind.u64.wrap (x5 - (((bt x0 x7) - 48) % 256))) 10)) then (sat_Read.j5 k x4 x6 x7) else (sat_Read.l0 k x0 x4 x5 (IntKind.u64.wrap ((IntKind.u64.wrap (10 * x6)) + (((bt x0 x7) - 48) % 256))) (wrap64 (x7 + 1))))) else (none)) else (none)) else (sat_Read.j5 k x4 x6 x7)
end
def sat_Read.f (k : Nat) (a0 : ByteArray) : Option (Int × Int) := if (a0.size : Int) > 0 then (if 0 < (a0.size : Int) then (sat_Read.j0 k a0 0 ((bt a0 0) == 45)) else (none)) else (sat_Read.j0 k a0 0 false)
theorem sat_Read.mono_l : ∀ k, (∀ y0 y1 y2, LeO (sat_Read.j0 k y0 y1 y2) (sat_Read.j0 (k + 1) y0 y1 y2)) ∧ (∀ y0 y1, LeO (sat_Read.j1 k y0 y1) (sat_Read.j1 (k + 1) y0 y1)) ∧ (∀ y0 y1 y2, LeO (sat_Read.j2 k y0 y1 y2) (sat_Read.j2 (k + 1) y0 y1 y2)) ∧ (∀ y0 y1 y2, LeO (sat_Read.j5 k y0 y1 y2) (sat_Read.j5 (k + 1) y0 y1 y2)) ∧ (∀ y0 y1 y2 y3, LeO (sat_Read.j6 k y0 y1 y2 y3) (sat_Read.j6 (k + 1) y0 y1 y2 y3)) ∧ (∀ y0 y1 y2 y3 y4, LeO (sat_Read.l0 k y0 y1 y2 y3 y4) (sat_Read.l0 (k + 1) y0 y1 y2 y3 y4)) ∧ (∀ y0 y1 y2 y3 y4 y5, LeO (sat_Read.j4 k y0 y1 y2 y3 y4 y5) (sat_Read.j4 (k + 1) y0 y1 y2 y3 y4 y5))
 | 0 => ⟨fun _ _ _ r h => by simp [sat_Read.j0] at h, fun _ _ r h => by simp [sat_Read.j1] at h, fun _ _ _ r h => by simp [sat_Read.j2] at h, fun _ _ _ r h => by simp [sat_Read.j5] at h, fun _ _ _ _ r h => by simp [sat_Read.j6] at h, fun _ _ _ _ _ r h => by simp [sat_Read.l0] at h, fun _ _ _ _ _ _ r h => by simp [sat_Read.j4] at h⟩
 | k + 1 => by
  obtain ⟨ih0, ih1, ih2, ih3, ih4, ih5, ih6⟩ := sat_Read.mono_l k
  refine ⟨?_, ?_, ?_, ?_, ?_, ?_, ?_⟩
  ·intro y0 y1 y2
   unfold sat_Read.j0
   repeat' first
   | (with_reducible exact ih0 _ _ _)
   | (with_reducible exact ih1 _ _)
   | (with_reducible exact ih2 _ _ _)
   | (with_reducible exact ih3 _ _ _)
   | (with_reducible exact ih4 _ _ _ _)
   | (with_reducible exact ih5 _ _ _ _ _)
   | (with_reducible exact ih6 _ _ _ _ _ _)
   | (with_reducible exact LeO.refl _)
   | (with_reducible exact LeO.none _)
   | (with_reducible refine LeO.ite ?_ ?_)
   | (with_reducible refine LeO.bind ?_ (fun _ => ?_))
   | exact ih0 _ _ _
   | exact ih1 _ _
   | exact ih2 _ _ _
   | exact ih3 _ _ _
   | exact ih4 _ _ _ _
   | exact ih5 _ _ _ _ _
   | exact ih6 _ _ _ _ _ _
   | exact LeO.none _
   | refine LeO.ite ?_ ?_
   | refine LeO.bind ?_ (fun _ => ?_)
  ·intro y0 y1
   unfold sat_Read.j1
   repeat' first
   | (with_reducible exact ih0 _ _ _)
   | (with_reducible exact ih1 _ _)
   | (with_reducible exact ih2 _ _ _)
   | (with_reducible exact ih3 _ _ _)
   | (with_reducible exact ih4 _ _ _ _)
   | (with_reducible exact ih5 _ _ _ _ _)
   | (with_reducible exact ih6 _ _ _ _ _ _)
   | (with_reducible exact LeO.refl _)
   | (with_reducible exact LeO.none _)
   | (with_reducible refine LeO.ite ?_ ?_)
   | (with_reducible refine LeO.bind ?_ (fun _ => ?_))
   | exact ih0 _ _ _
   | exact ih1 _ _
   | exact ih2 _ _ _
   | exact ih3 _ _ _
   | exact ih4 _ _ _ _
   | exact ih5 _ _ _ _ _
   | exact ih6 _ _ _ _ _ _
   | exact LeO.none _
   | refine LeO.ite ?_ ?_
   | refine LeO.bind ?_ (fun _ => ?_)
  ·intro y0 y1 y2
   unfold sat_Read.j2
   repeat' first
   | (with_reducible exact ih0 _ _ _)
   | (with_reducible exact ih1 _ _)
   | (with_reducible exact ih2 _ _ _)
   | (with_reducible exact ih3 _ _ _)
   | (with_reducible exact ih4 _ _ _ _)
   | (with_reducible exact ih5 _ _ _ _ _)
   | (with_reducible exact ih6 _ _ _ _ _ _)
   | (with_reducible exact LeO.refl _)
   | (with_reducible exact LeO.none _)
   | (with_reducible refine LeO.ite ?_ ?_)
   | (with_reducible refine LeO.bind ?_ (fun _ => ?_))
   | exact ih0 _ _ _
   | exact ih1 _ _
   | exact ih2 _ _ _
   | exact ih3 _ _ _
   | exact ih4 _ _ _ _
   | exact ih5 _ _ _ _ _
   | exact ih6 _ _ _ _ _ _
   | exact LeO.none _
   | refine LeO.ite ?_ ?_
   | refine LeO.bind ?_ (fun _ => ?_)
  ·intro y0 y1 y2
   unfold sat_Read.j5
   repeat' first
   | (with_reducible exact ih0 _ _ _)
   | (with_reducible exact ih1 _ _)
   | (with_reducible exact ih2 _ _ _)
   | (with_reducible exact ih3 _ _ _)
   | (with_reducible exact ih4 _ _ _ _)
   | (with_reducible exact ih5 _ _ _ _ _)
   | (with_reducible exact ih6 _ _ _ _ _ _)
   | (with_reducible exact LeO.refl _)
   | (with_reducible exact LeO.none _)
   | (with_reducible refine LeO.ite ?_ ?_)
   | (with_reducible refine LeO.bind ?_ (fun _ => ?_))
   | exact ih0 _ _ _
   | exact ih1 _ _
   | exact ih2 _ _ _
   | exact ih3 _ _ _
   | exact ih4 _ _ _ _
   | exact ih5 _ _ _ _ _
   | exact ih6 _ _ _ _ _ _
   | exact LeO.none _
   | refine LeO.ite ?_ ?_
   | refine LeO.bind ?_ (fun _ => ?_)
  ·intro y0 y1 y2 y3
   unfold sat_Read.j6
   repeat' first
   | (with_reducible exact ih0 _ _ _)
   | (with_reducible exact ih1 _ _)
   | (with_reducible exact ih2 _ _ _)
   | (with_reducible exact ih3 _ _ _)
   | (with_reducible exact ih4 _ _ _ _)
   | (with_reducible exact ih5 _ _ _ _ _)
   | (with_reducible exact ih6 _ _ _ _ _ _)
   | (with_reducible exact LeO.refl _)
   | (with_reducible exact LeO.none _)
   | (with_reducible refine LeO.ite ?_ ?_)
   | (with_reducible refine LeO.bind ?_ (fun _ => ?_))
   | exact ih0 _ _ _
   | exact ih1 _ _
   | exact ih2 _ _ _
   | exact ih3 _ _ _
   | exact ih4 _ _ _ _
   | exact ih5 _ _ _ _ _
   | exact ih6 _ _ _ _ _ _
   | exact LeO.none _
   | refine LeO.ite ?_ ?_
   | refine LeO.bind ?_ (fun _ => ?_)
  ·intro y0 y1 y2 y3 y4
   unfold sat_Read.l0
   repeat' first
   | (with_reducible exact ih0 _ _ _)
   | (with_reducible exact ih1 _ _)
   | (with_reducible exact ih2 _ _ _)
   | (with_reducible exact ih3 _ _ _)
   | (with_reducible exact ih4 _ _ _ _)
   | (with_reducible exact ih5 _ _ _ _ _)
   | (with_reducible exact ih6 _ _ _ _ _ _)
   | (with_reducible exact LeO.refl _)
   | (with_reducible exact LeO.none _)
   | (with_reducible refine LeO.ite ?_ ?_)
   | (with_reducible refine LeO.bind ?_ (fun _ => ?_))
   | exact ih0 _ _ _
   | exact ih1 _ _
   | exact ih2 _ _ _
   | exact ih3 _ _ _
   | exact ih4 _ _ _ _
   | exact ih5 _ _ _ _ _
   | exact ih6 _ _ _ _ _ _
   | exact LeO.none _
   | refine LeO.ite ?_ ?_
   | refine LeO.bind ?_ (fun _ => ?_)
  ·intro y0 y1 y2 y3 y4 y5
   unfold sat_Read.j4
   repeat' first
   | (with_reducible exact ih0 _ _ _)
   | (with_reducible exact ih1 _ _)
   | (with_reducible exact ih2 _ _ _)
   | (with_reducible exact ih3 _ _ _)
   | (with_reducible exact ih4 _ _ _ _)
   | (with_reducible exact ih5 _ _ _ _ _)
   | (with_reducible exact ih6 _ _ _ _ _ _)
   | (with_reducible exact LeO.refl _)
   | (with_reducible exact LeO.none _)
   | (with_reducible refine LeO.ite ?_ ?_)
   | (with_reducible refine LeO.bind ?_ (fun _ => ?_))
   | exact ih0 _ _ _
   | exact ih1 _ _
   | exact ih2 _ _ _
   | exact ih3 _ _ _
   | exact ih4 _ _ _ _
   | exact ih5 _ _ _ _ _
   | exact ih6 _ _ _ _ _ _
   | exact LeO.none _
   | refine LeO.ite ?_ ?_
   | refine LeO.bind ?_ (fun _ => ?_)
theorem sat_Read.mono : ∀ a0 k, LeO (sat_Read.f k a0) (sat_Read.f (k + 1) a0) := by
 intro a0 k
 obtain ⟨ih0, ih1, ih2, ih3, ih4, ih5, ih6⟩ := sat_Read.mono_l k
 unfold sat_Read.f
 repeat' first
   | (with_reducible exact ih0 _ _ _)
   | (with_reducible exact ih1 _ _)
   | (with_reducible exact ih2 _ _ _)
   | (with_reducible exact ih3 _ _ _)
   | (with_reducible exact ih4 _ _ _ _)
   | (with_reducible exact ih5 _ _ _ _ _)
   | (with_reducible exact ih6 _ _ _ _ _ _)
   | (with_reducible exact LeO.refl _)
   | (with_reducible exact LeO.none _)
   | (with_reducible refine LeO.ite ?_ ?_)
   | (with_reducible refine LeO.bind ?_ (fun _ => ?_))
   | exact ih0 _ _ _
   | exact ih1 _ _
   | exact ih2 _ _ _
   | exact ih3 _ _ _
   | exact ih4 _ _ _ _
   | exact ih5 _ _ _ _ _
   | exact ih6 _ _ _ _ _ _
   | exact LeO.none _
   | refine LeO.ite ?_ ?_
   | refine LeO.bind ?_ (fun _ => ?_)
set_option maxHeartbeats 8000000 in
set_option maxRecDepth 100000 in
theorem sat_Read.calls (k : Nat) (a0 : ByteArray) (r1 : Int) (r2 : Int) (w : World) (h : sat_Read.f k a0 = some (r1, r2)) :
  Calls Try.prog 44 #[.string a0] w fun e w' => e = .returned (.tuple #[.int .i64 r1, .int .i64 r2]) ∧ Drawn0 w w' := by
 have H : (if (a0.size : Int) > 0 then (if 0 < (a0.size : Int) then (sat_Read.j0 k a0 0 ((bt a0 0) == 45)) else (none)) else (sat_Read.j0 k a0 0 false)) = some (r1, r2) := h
 clear h
 have HC2 := Aside0.mk H
 clear H
 go_enter Try.func44, Try.ntmps44
 go_upto_region 2 with (fail)
 go_cut [16] (fun v16 wc => ∃ (kq : Nat) (x16_1 : Bool), v16 = .bool x16_1 ∧ Aside0 (sat_Read.j0 kq a0 0 x16_1 = some (r1, r2)) ∧ Aside0 (kq ≤ k) ∧ Drawn0 w wc)
 case first =>
  have H := HC2.out
  clear HC2
  by_cases c3 : (a0.size : Int) > 0
  ·rw [if_pos c3] at H
   have c3b0 : decide (0 < (a0.size : Int)) = true := decide_eq_true c3
   have c3b1 : decide (0 < a0.size) = true := decide_eq_true (by omega)
   clear c3
   (first | rw [c3b0] | (simp only [i64_w, i32_w]; rw [c3b0]) | skip)
   by_cases c4 : 0 < (a0.size : Int)
   ·rw [if_pos c4] at H
    have c4b0 : decide (0 < (a0.size : Int)) = true := decide_eq_true c4
    have c4b1 : decide (0 < a0.size) = true := decide_eq_true (by omega)
    clear c4
    have H' := Aside0.mk H
    clear H
    have p5 : 0 ≤ (0 : Int) := (by omega)
    have q5 : 0 < a0.size := (by have : (0 : Int) < (a0.size : Int) := of_decide_eq_true (by first | (with_reducible assumption) | assumption); omega)
    have hx5 : ∀ h : 0 < a0.size, ((a0[0]'h).toNat : Int) = bt a0 0 := bt_at a0 0
    clear p5
    have qi5 : (0 < (a0.size : Int)) = True := eq_true (of_decide_eq_true (by first | (with_reducible assumption) | assumption))
    replace q5 := eq_true q5
    go_wp2
    go_meet
    case rel => exact ⟨_, (((bt a0 0) == 45)), (by first | rfl | (simp; done) | (simp [*]; done)), H', ⟨by first | omega | exact Nat.le_refl _⟩, by repeat (first | exact Drawn0.refl _ | apply Drawn0.step)⟩
   ·rw [if_neg c4] at H
    exact absurd H (by simp)
  ·rw [if_neg c3] at H
   have c3b0 : decide (0 < (a0.size : Int)) = false := decide_eq_false c3
   have c3b1 : decide (0 < a0.size) = false := decide_eq_false (by omega)
   clear c3
   (first | rw [c3b0] | (simp only [i64_w, i32_w]; rw [c3b0]) | skip)
   have H' := Aside0.mk H
   clear H
   go_wp2
   go_meet
   case rel => exact ⟨_, (false), (by first | rfl | (simp; done) | (simp [*]; done)), H', ⟨by first | omega | exact Nat.le_refl _⟩, by repeat (first | exact Drawn0.refl _ | apply Drawn0.step)⟩
 case rest =>
  clear HC2
  obtain ⟨kq, x16_1, rfl, HA, HJ1, ⟨mc1, rfl⟩⟩ := hcut
  cases kq with
  | zero => exact absurd HA.out (by simp [sat_Read.j0])
  | succ kj1 =>
   have H := HA.out
   clear HA
   simp only [sat_Read.j0] at H
   have HC6 := Aside0.mk H
   clear H
   go_upto_if 16 with (fail)
   go_cut [4] (fun v4 wc => ∃ (kq : Nat) (x4_5 : Int), v4 = .int .i64 x4_5 ∧ Aside0 (sat_Read.j1 kq a0 x4_5 = some (r1, r2)) ∧ Aside0 (kq ≤ kj1) ∧ Drawn0 w wc)
   case first =>
    have H := HC6.out
    clear HC6
    by_cases c7 : x16_1 = true
    ·subst c7
     have H1 : (sat_Read.j1 kj1 a0 1) = some (r1, r2) := by rw [if_pos rfl] at H; exact H
     clear H
     have H := H1
     clear H1
     have H' := Aside0.mk H
     clear H
     go_wp2
     go_meet
     case rel => exact ⟨_, (1), (by first | rfl | (simp; done) | (simp [*]; done)), H', ⟨by have := HJ1.out; first | omega | exact Nat.le_refl _⟩, by repeat (first | exact Drawn0.refl _ | apply Drawn0.step)⟩
    ·replace c7 := Bool.eq_false_iff.mpr c7
     subst c7
     have H1 : (sat_Read.j1 kj1 a0 0) = some (r1, r2) := by rw [if_neg (show ¬ (false = true) by decide)] at H; exact H
     clear H
     have H := H1
     clear H1
     have H' := Aside0.mk H
     clear H
     go_wp2
     go_meet
     case rel => exact ⟨_, (0), (by first | rfl | (simp; done) | (simp [*]; done)), H', ⟨by have := HJ1.out; first | omega | exact Nat.le_refl _⟩, by repeat (first | exact Drawn0.refl _ | apply Drawn0.step)⟩
   case rest =>
    clear HC6
    obtain ⟨kq, x4_5, rfl, HA, HJ5, ⟨mc5, rfl⟩⟩ := hcut
    cases kq with
    | zero => exact absurd HA.out (by simp [sat_Read.j1])
    | succ kj5 =>
     have H := HA.out
     clear HA
     simp only [sat_Read.j1] at H
     replace H := Option.bind_eq_some_iff.mp H
     obtain ⟨t183, A80, H⟩ := H
     replace H : (if x4_5 > 0 then ((sat_size.f (-9223372036854775808)).bind fun t184 => (sat_Read.j2 kj5 a0 x4_5 t184)) else (sat_Read.j2 kj5 a0 x4_5 t183)) = some (r1, r2) := H
     have A8 := Aside0.mk A80
     clear A80
     have HC9 := Aside0.mk H
     clear H
     go_upto_if 19 with (first | ((with_reducible refine gate_callee (f := 59) rfl ?_); refine gol (some 17) Try.func59 #[.int .i64 9223372036854775807] ?_; (with_reducible refine (sat_size.calls 9223372036854775807 t183 _ A8.out).mono ?_); rintro e w' ⟨rfl, ⟨nd, rfl⟩⟩; refine ⟨_, rfl, ?_⟩))
     (try simp only [Act.put, List.setIfInBounds_toArray, List.set_cons_zero, List.set_cons_succ])
     go_cut [5] (fun v5 wc => ∃ (kq : Nat) (x5_8 : Int), v5 = .int .u64 x5_8 ∧ Aside0 (sat_Read.j2 kq a0 x4_5 x5_8 = some (r1, r2)) ∧ Aside0 (kq ≤ kj5) ∧ Drawn0 w wc)
     case first =>
      have H := HC9.out
      clear HC9
      by_cases c10 : x4_5 > 0
      ·rw [if_pos c10] at H
       have c10b0 : decide (0 < x4_5) = true := decide_eq_true c10
       clear c10
       (first | rw [c10b0] | (simp only [i64_w, i32_w]; rw [c10b0]) | skip)
       replace H := Option.bind_eq_some_iff.mp H
       obtain ⟨t184, A110, H⟩ := H
       replace H : (sat_Read.j2 kj5 a0 x4_5 t184) = some (r1, r2) := H
       have A11 := Aside0.mk A110
       clear A110
       have H' := Aside0.mk H
       clear H
       go_wp2_with (first | ((with_reducible refine gate_callee (f := 59) rfl ?_); refine gol (some 20) Try.func59 #[.int .i64 (-9223372036854775808)] ?_; (with_reducible refine (sat_size.calls (-9223372036854775808) t184 _ A11.out).mono ?_); rintro e w' ⟨rfl, ⟨nd, rfl⟩⟩; refine ⟨_, rfl, ?_⟩))
       go_meet
       case rel => exact ⟨_, (t184), (by first | rfl | (simp; done) | (simp [*]; done)), H', ⟨by have := HJ1.out; have := HJ5.out; first | omega | exact Nat.le_refl _⟩, by repeat (first | exact Drawn0.refl _ | apply Drawn0.step)⟩
      ·rw [if_neg c10] at H
       have c10b0 : decide (0 < x4_5) = false := decide_eq_false c10
       clear c10
       (first | rw [c10b0] | (simp only [i64_w, i32_w]; rw [c10b0]) | skip)
       have H' := Aside0.mk H
       clear H
       go_wp2
       go_meet
       case rel => exact ⟨_, (t183), (by first | rfl | (simp; done) | (simp [*]; done)), H', ⟨by have := HJ1.out; have := HJ5.out; first | omega | exact Nat.le_refl _⟩, by repeat (first | exact Drawn0.refl _ | apply Drawn0.step)⟩
     case rest =>
      clear HC9
      obtain ⟨kq, x5_8, rfl, HA, HJ8, ⟨mc8, rfl⟩⟩ := hcut
      cases kq with
      | zero => exact absurd HA.out (by simp [sat_Read.j2])
      | succ kj8 =>
       have H := HA.out
       clear HA
       simp only [sat_Read.j2] at H
       have HC12 := Aside0.mk H
       clear H
       go_upto_block 0 with (fail)
       go_cut [6, 7] (fun v6 v7 wc => ∃ (kq : Nat) (x6_11 : Int) (x7_11 : Int), v6 = .int .u64 x6_11 ∧ v7 = .int .i64 x7_11 ∧ Aside0 (sat_Read.j5 kq x4_5 x6_11 x7_11 = some (r1, r2)) ∧ Aside0 (kq ≤ kj8) ∧ Drawn0 w wc)
       case first =>
        have H := HC12.out
        clear HC12
        have H' := Aside0.mk H
        clear H
        go_wp2
        go_loopg [6, 7] kj8 (fun kq v6 v7 w' => ∃ (x6_4 : Int) (x7_4 : Int), v6 = .int .u64 x6_4 ∧ v7 = .int .i64 x7_4 ∧ Aside0 (sat_Read.l0 kq a0 x4_5 x5_8 x6_4 x7_4 = some (r1, r2)) ∧ Aside0 (kq ≤ kj8) ∧ Drawn0 w w')
        case atStart => exact ⟨(0), (x4_5), (by first | rfl | (simp; done) | (simp [*]; done)), (by first | rfl | (simp; done) | (simp [*]; done)), H', ⟨Nat.le_refl _⟩, by repeat (first | exact Drawn0.refl _ | apply Drawn0.step)⟩
        case round =>
         clear H'
         obtain ⟨x6_4, x7_4, rfl, rfl, HA, HK4, ⟨m4, rfl⟩⟩ := hrel
         cases gk with
         | zero => exact absurd HA.out (by simp [sat_Read.l0])
         | succ k4 =>
          have H := HA.out
          clear HA
          simp only [sat_Read.l0] at H
          have HC13 := Aside0.mk H
          clear H
          go_upto_region 9 with (fail)
          go_cut [37] (fun v37 wc => ∃ (kq : Nat) (x37_12 : Bool), v37 = .bool x37_12 ∧ Aside0 (sat_Read.j4 kq a0 x4_5 x5_8 x6_4 x7_4 x37_12 = some (r1, r2)) ∧ Aside0 (kq ≤ k4) ∧ Drawn0 w wc)
          case first =>
           have H := HC13.out
           clear HC13
           by_cases c14 : x7_4 < (a0.size : Int)
           ·rw [if_pos c14] at H
            have c14b0 : decide (x7_4 < (a0.size : Int)) = true := decide_eq_true c14
            clear c14
            (first | rw [c14b0] | (simp only [i64_w, i32_w]; rw [c14b0]) | skip)
            by_cases c15 : 0 ≤ x7_4
            ·rw [if_pos c15] at H
             have c15b0 : decide (0 ≤ x7_4) = true := decide_eq_true c15
             clear c15
             by_cases c17 : (bt a0 x7_4) ≥ 48
             ·rw [if_pos c17] at H
              have c17b0 : decide (48 ≤ (bt a0 x7_4)) = true := decide_eq_true c17
              clear c17
              have H' := Aside0.mk H
              clear H
              have p16 : 0 ≤ (x7_4 : Int) := of_decide_eq_true (by first | (with_reducible assumption) | assumption)
              have q16 : x7_4 < (a0.size : Int) := of_decide_eq_true (by first | (with_reducible assumption) | assumption)
              have hx16 := bt_at a0 x7_4
              replace p16 := eq_true p16
              replace q16 := eq_true q16
              have p18 : 0 ≤ (x7_4 : Int) := of_decide_eq_true (by first | (with_reducible assumption) | assumption)
              have q18 : x7_4 < (a0.size : Int) := of_decide_eq_true (by first | (with_reducible assumption) | assumption)
              have hx18 := bt_at a0 x7_4
              replace p18 := eq_true p18
              replace q18 := eq_true q18
              go_wp2
              go_meet
              case rel => exact ⟨_, (decide ((bt a0 x7_4) ≤ 57)), (by first | rfl | (simp; done) | (simp [*]; done)), H', ⟨by have := HJ1.out; have := HJ5.out; have := HJ8.out; have := HK4.out; first | omega | exact Nat.le_refl _⟩, by repeat (first | exact Drawn0.refl _ | apply Drawn0.step)⟩
             ·rw [if_neg c17] at H
              have c17b0 : decide (48 ≤ (bt a0 x7_4)) = false := decide_eq_false c17
              clear c17
              have H' := Aside0.mk H
              clear H
              have p16 : 0 ≤ (x7_4 : Int) := of_decide_eq_true (by first | (with_reducible assumption) | assumption)
              have q16 : x7_4 < (a0.size : Int) := of_decide_eq_true (by first | (with_reducible assumption) | assumption)
              have hx16 := bt_at a0 x7_4
              replace p16 := eq_true p16
              replace q16 := eq_true q16
              go_wp2
              go_meet
              case rel => exact ⟨_, (false), (by first | rfl | (simp; done) | (simp [*]; done)), H', ⟨by have := HJ1.out; have := HJ5.out; have := HJ8.out; have := HK4.out; first | omega | exact Nat.le_refl _⟩, by repeat (first | exact Drawn0.refl _ | apply Drawn0.step)⟩
            ·rw [if_neg c15] at H
             exact absurd H (by simp)
           ·rw [if_neg c14] at H
            have c14b0 : decide (x7_4 < (a0.size : Int)) = false := decide_eq_false c14
            clear c14
            (first | rw [c14b0] | (simp only [i64_w, i32_w]; rw [c14b0]) | skip)
            have H' := Aside0.mk H
            clear H
            go_wp2
            go_meet
            case rel => exact ⟨_, (false), (by first | rfl | (simp; done) | (simp [*]; done)), H', ⟨by have := HJ1.out; have := HJ5.out; have := HJ8.out; have := HK4.out; first | omega | exact Nat.le_refl _⟩, by repeat (first | exact Drawn0.refl _ | apply Drawn0.step)⟩
          case rest =>
           clear HC13
           obtain ⟨kq, x37_12, rfl, HA, HJ12, ⟨mc12, rfl⟩⟩ := hcut
           cases kq with
           | zero => exact absurd HA.out (by simp [sat_Read.j4])
           | succ kj12 =>
            have H := HA.out
            clear HA
            simp only [sat_Read.j4] at H
            by_cases c19 : x37_12 = true
            ·subst c19
             have H1 : (if 0 ≤ x7_4 then (if x7_4 < (a0.size : Int) then (if x7_4 > x4_5 then (if x6_4 = 0 then (sat_Read.j5 kj12 x4_5 x6_4 x7_4) else (if x6_4 > (IntKind.u64.wrap (Int.tdiv (IntKind.u64.wrap (x5_8 - (((bt a0 x7_4) - 48) % 256))) 10)) then (sat_Read.j5 kj12 x4_5 x6_4 x7_4) else (sat_Read.l0 kj12 a0 x4_5 x5_8 (IntKind.u64.wrap ((IntKind.u64.wrap (10 * x6_4)) + (((bt a0 x7_4) - 48) % 256))) (wrap64 (x7_4 + 1))))) else (if x6_4 > (IntKind.u64.wrap (Int.tdiv (IntKind.u64.wrap (x5_8 - (((bt a0 x7_4) - 48) % 256))) 10)) then (sat_Read.j5 kj12 x4_5 x6_4 x7_4) else (sat_Read.l0 kj12 a0 x4_5 x5_8 (IntKind.u64.wrap ((IntKind.u64.wrap (10 * x6_4)) + (((bt a0 x7_4) - 48) % 256))) (wrap64 (x7_4 + 1))))) else (none)) else (none)) = some (r1, r2) := by rw [if_pos rfl] at H; exact H
             clear H
             have H := H1
             clear H1
             by_cases c20 : 0 ≤ x7_4
             ·rw [if_pos c20] at H
              have c20b0 : decide (0 ≤ x7_4) = true := decide_eq_true c20
              clear c20
              by_cases c21 : x7_4 < (a0.size : Int)
              ·rw [if_pos c21] at H
               have c21b0 : decide (x7_4 < (a0.size : Int)) = true := decide_eq_true c21
               clear c21
               by_cases c23 : x7_4 > x4_5
               ·rw [if_pos c23] at H
                have c23b0 : decide (x4_5 < x7_4) = true := decide_eq_true c23
                clear c23
                by_cases c24 : x6_4 = 0
                ·rw [if_pos c24] at H
                 have c24b0 : (x6_4 == 0) = true := beq_iff_eq.mpr c24
                 have c24b1 : (x6_4 != 0) = false := bne_eq_false_iff_eq.mpr c24
                 clear c24
                 have H' := Aside0.mk H
                 clear H
                 have p22 : 0 ≤ (x7_4 : Int) := of_decide_eq_true (by first | (with_reducible assumption) | assumption)
                 have q22 : x7_4 < (a0.size : Int) := of_decide_eq_true (by first | (with_reducible assumption) | assumption)
                 have hx22 := bt_at a0 x7_4
                 replace p22 := eq_true p22
                 replace q22 := eq_true q22
                 go_wp2
                 go_meet
                 case rel => exact ⟨_, (x6_4), (x7_4), (by first | rfl | (simp; done) | (simp [*]; done)), (by first | rfl | (simp; done) | (simp [*]; done)), H', ⟨by have := HJ1.out; have := HJ5.out; have := HJ8.out; have := HK4.out; have := HJ12.out; first | omega | exact Nat.le_refl _⟩, by repeat (first | exact Drawn0.refl _ | apply Drawn0.step)⟩
                ·rw [if_neg c24] at H
                 have c24b0 : (x6_4 == 0) = false := beq_eq_false_iff_ne.mpr c24
                 have c24b1 : (x6_4 != 0) = true := bne_iff_ne.mpr c24
                 by_cases c25 : x6_4 > (IntKind.u64.wrap (Int.tdiv (IntKind.u64.wrap (x5_8 - (((bt a0 x7_4) - 48) % 256))) 10))
                 ·rw [if_pos c25] at H
                  have c25b0 : decide ((IntKind.u64.wrap (Int.tdiv (IntKind.u64.wrap (x5_8 - (((bt a0 x7_4) - 48) % 256))) 10)) < x6_4) = true := decide_eq_true c25
                  clear c25
                  have H' := Aside0.mk H
                  clear H
                  have p22 : 0 ≤ (x7_4 : Int) := of_decide_eq_true (by first | (with_reducible assumption) | assumption)
                  have q22 : x7_4 < (a0.size : Int) := of_decide_eq_true (by first | (with_reducible assumption) | assumption)
                  have hx22 := bt_at a0 x7_4
                  replace p22 := eq_true p22
                  replace q22 := eq_true q22
                  go_wp2
                  go_meet
                  case rel => exact ⟨_, (x6_4), (x7_4), (by first | rfl | (simp; done) | (simp [*]; done)), (by first | rfl | (simp; done) | (simp [*]; done)), H', ⟨by have := HJ1.out; have := HJ5.out; have := HJ8.out; have := HK4.out; have := HJ12.out; first | omega | exact Nat.le_refl _⟩, by repeat (first | exact Drawn0.refl _ | apply Drawn0.step)⟩
                 ·rw [if_neg c25] at H
                  have c25b0 : decide ((IntKind.u64.wrap (Int.tdiv (IntKind.u64.wrap (x5_8 - (((bt a0 x7_4) - 48) % 256))) 10)) < x6_4) = false := decide_eq_false c25
                  clear c25
                  have H' := Aside0.mk H
                  clear H
                  have p22 : 0 ≤ (x7_4 : Int) := of_decide_eq_true (by first | (with_reducible assumption) | assumption)
                  have q22 : x7_4 < (a0.size : Int) := of_decide_eq_true (by first | (with_reducible assumption) | assumption)
                  have hx22 := bt_at a0 x7_4
                  replace p22 := eq_true p22
                  replace q22 := eq_true q22
                  go_wp2
                  go_roundg kj12
                  case measure => have := HJ1.out; have := HJ5.out; have := HJ8.out; have := HK4.out; have := HJ12.out; omega
                  case rel => exact ⟨(IntKind.u64.wrap ((IntKind.u64.wrap (10 * x6_4)) + (((bt a0 x7_4) - 48) % 256))), (wrap64 (x7_4 + 1)), (by first | rfl | (simp; done) | (simp [*]; done)), (by first | rfl | (simp; done) | (simp [*]; done)), H', ⟨by have := HJ1.out; have := HJ5.out; have := HJ8.out; have := HK4.out; have := HJ12.out; omega⟩, by repeat (first | exact Drawn0.refl _ | apply Drawn0.step)⟩
               ·rw [if_neg c23] at H
                have c23b0 : decide (x4_5 < x7_4) = false := decide_eq_false c23
                clear c23
                by_cases c26 : x6_4 > (IntKind.u64.wrap (Int.tdiv (IntKind.u64.wrap (x5_8 - (((bt a0 x7_4) - 48) % 256))) 10))
                ·rw [if_pos c26] at H
                 have c26b0 : decide ((IntKind.u64.wrap (Int.tdiv (IntKind.u64.wrap (x5_8 - (((bt a0 x7_4) - 48) % 256))) 10)) < x6_4) = true := decide_eq_true c26
                 clear c26
                 have H' := Aside0.mk H
                 clear H
                 have p22 : 0 ≤ (x7_4 : Int) := of_decide_eq_true (by first | (with_reducible assumption) | assumption)
                 have q22 : x7_4 < (a0.size : Int) := of_decide_eq_true (by first | (with_reducible assumption) | assumption)
                 have hx22 := bt_at a0 x7_4
                 replace p22 := eq_true p22
                 replace q22 := eq_true q22
                 go_wp2
                 go_meet
                 case rel => exact ⟨_, (x6_4), (x7_4), (by first | rfl | (simp; done) | (simp [*]; done)), (by first | rfl | (simp; done) | (simp [*]; done)), H', ⟨by have := HJ1.out; have := HJ5.out; have := HJ8.out; have := HK4.out; have := HJ12.out; first | omega | exact Nat.le_refl _⟩, by repeat (first | exact Drawn0.refl _ | apply Drawn0.step)⟩
                ·rw [if_neg c26] at H
                 have c26b0 : decide ((IntKind.u64.wrap (Int.tdiv (IntKind.u64.wrap (x5_8 - (((bt a0 x7_4) - 48) % 256))) 10)) < x6_4) = false := decide_eq_false c26
                 clear c26
                 have H' := Aside0.mk H
                 clear H
                 have p22 : 0 ≤ (x7_4 : Int) := of_decide_eq_true (by first | (with_reducible assumption) | assumption)
                 have q22 : x7_4 < (a0.size : Int) := of_decide_eq_true (by first | (with_reducible assumption) | assumption)
                 have hx22 := bt_at a0 x7_4
                 replace p22 := eq_true p22
                 replace q22 := eq_true q22
                 go_wp2
                 go_roundg kj12
                 case measure => have := HJ1.out; have := HJ5.out; have := HJ8.out; have := HK4.out; have := HJ12.out; omega
                 case rel => exact ⟨(IntKind.u64.wrap ((IntKind.u64.wrap (10 * x6_4)) + (((bt a0 x7_4) - 48) % 256))), (wrap64 (x7_4 + 1)), (by first | rfl | (simp; done) | (simp [*]; done)), (by first | rfl | (simp; done) | (simp [*]; done)), H', ⟨by have := HJ1.out; have := HJ5.out; have := HJ8.out; have := HK4.out; have := HJ12.out; omega⟩, by repeat (first | exact Drawn0.refl _ | apply Drawn0.step)⟩
              ·rw [if_neg c21] at H
               exact absurd H (by simp)
             ·rw [if_neg c20] at H
              exact absurd H (by simp)
            ·replace c19 := Bool.eq_false_iff.mpr c19
             subst c19
             have H1 : (sat_Read.j5 kj12 x4_5 x6_4 x7_4) = some (r1, r2) := by rw [if_neg (show ¬ (false = true) by decide)] at H; exact H
             clear H
             have H := H1
             clear H1
             have H' := Aside0.mk H
             clear H
             go_wp2
             go_meet
             case rel => exact ⟨_, (x6_4), (x7_4), (by first | rfl | (simp; done) | (simp [*]; done)), (by first | rfl | (simp; done) | (simp [*]; done)), H', ⟨by have := HJ1.out; have := HJ5.out; have := HJ8.out; have := HK4.out; have := HJ12.out; first | omega | exact Nat.le_refl _⟩, by repeat (first | exact Drawn0.refl _ | apply Drawn0.step)⟩
       case rest =>
        clear HC12
        obtain ⟨kq, x6_11, x7_11, rfl, rfl, HA, HJ11, ⟨mc11, rfl⟩⟩ := hcut
        cases kq with
        | zero => exact absurd HA.out (by simp [sat_Read.j5])
        | succ kj11 =>
         have H := HA.out
         clear HA
         simp only [sat_Read.j5] at H
         have HC27 := Aside0.mk H
         clear H
         go_upto_region 14 with (fail)
         go_cut [64] (fun v64 wc => ∃ (kq : Nat) (x64_26 : Bool), v64 = .bool x64_26 ∧ Aside0 (sat_Read.j6 kq x4_5 x6_11 x7_11 x64_26 = some (r1, r2)) ∧ Aside0 (kq ≤ kj11) ∧ Drawn0 w wc)
         case first =>
          have H := HC27.out
          clear HC27
          by_cases c28 : x7_11 = x4_5
          ·rw [if_pos c28] at H
           have c28b0 : (x7_11 == x4_5) = true := beq_iff_eq.mpr c28
           have c28b1 : (x7_11 != x4_5) = false := bne_eq_false_iff_eq.mpr c28
           clear c28
           (first | rw [c28b0] | (simp only [i64_w, i32_w]; rw [c28b0]) | skip)
           have H' := Aside0.mk H
           clear H
           go_wp2
           go_meet
           case rel => exact ⟨_, (true), (by first | rfl | (simp; done) | (simp [*]; done)), H', ⟨by have := HJ1.out; have := HJ5.out; have := HJ8.out; have := HJ11.out; first | omega | exact Nat.le_refl _⟩, by repeat (first | exact Drawn0.refl _ | apply Drawn0.step)⟩
          ·rw [if_neg c28] at H
           have c28b0 : (x7_11 == x4_5) = false := beq_eq_false_iff_ne.mpr c28
           have c28b1 : (x7_11 != x4_5) = true := bne_iff_ne.mpr c28
           (first | rw [c28b0] | (simp only [i64_w, i32_w]; rw [c28b0]) | skip)
           by_cases c29 : x4_5 > 0
           ·rw [if_pos c29] at H
            have c29b0 : decide (0 < x4_5) = true := decide_eq_true c29
            clear c29
            have H' := Aside0.mk H
            clear H
            go_wp2
            go_meet
            case rel => exact ⟨_, ((x6_11 == 0)), (by first | rfl | (simp; done) | (simp [*]; done)), H', ⟨by have := HJ1.out; have := HJ5.out; have := HJ8.out; have := HJ11.out; first | omega | exact Nat.le_refl _⟩, by repeat (first | exact Drawn0.refl _ | apply Drawn0.step)⟩
           ·rw [if_neg c29] at H
            have c29b0 : decide (0 < x4_5) = false := decide_eq_false c29
            clear c29
            have H' := Aside0.mk H
            clear H
            go_wp2
            go_meet
            case rel => exact ⟨_, (false), (by first | rfl | (simp; done) | (simp [*]; done)), H', ⟨by have := HJ1.out; have := HJ5.out; have := HJ8.out; have := HJ11.out; first | omega | exact Nat.le_refl _⟩, by repeat (first | exact Drawn0.refl _ | apply Drawn0.step)⟩
         case rest =>
          clear HC27
          obtain ⟨kq, x64_26, rfl, HA, HJ26, ⟨mc26, rfl⟩⟩ := hcut
          cases kq with
          | zero => exact absurd HA.out (by simp [sat_Read.j6])
          | succ kj26 =>
           have H := HA.out
           clear HA
           simp only [sat_Read.j6] at H
           by_cases c30 : x64_26 = true
           ·subst c30
            have H1 : (some (0, 0)) = some (r1, r2) := by rw [if_pos rfl] at H; exact H
            clear H
            have H := H1
            clear H1
            simp only [Option.some.injEq, Prod.mk.injEq] at H
            obtain ⟨rfl, rfl⟩ := H
            go_wp2
            go_ret2
            exact ⟨by first | rfl | (simp; done) | (simp [*]; done), by repeat (first | exact Drawn0.refl _ | apply Drawn0.step)⟩
           ·replace c30 := Bool.eq_false_iff.mpr c30
            subst c30
            have H1 : (if x4_5 > 0 then (some (wrap64 (IntKind.u64.wrap (-x6_11)), x7_11)) else (some (wrap64 (x6_11), x7_11))) = some (r1, r2) := by rw [if_neg (show ¬ (false = true) by decide)] at H; exact H
            clear H
            have H := H1
            clear H1
            by_cases c31 : x4_5 > 0
            ·rw [if_pos c31] at H
             have c31b0 : decide (0 < x4_5) = true := decide_eq_true c31
             clear c31
             simp only [Option.some.injEq, Prod.mk.injEq] at H
             obtain ⟨rfl, rfl⟩ := H
             go_wp2
             go_ret2
             exact ⟨by first | rfl | (simp; done) | (simp [*]; done), by repeat (first | exact Drawn0.refl _ | apply Drawn0.step)⟩
            ·rw [if_neg c31] at H
             have c31b0 : decide (0 < x4_5) = false := decide_eq_false c31
             clear c31
             simp only [Option.some.injEq, Prod.mk.injEq] at H
             obtain ⟨rfl, rfl⟩ := H
             go_wp2
             go_ret2
             exact ⟨by first | rfl | (simp; done) | (simp [*]; done), by repeat (first | exact Drawn0.refl _ | apply Drawn0.step)⟩
/-! ### cut_begins: function 65 -/
def cut_begins.f (a0 : ByteArray) (a1 : ByteArray) : Option (Bool) := if (a0.size : Int) ≥ (a1.size : Int) then (if 0 ≤ (a1.size : Int) then (if (a1.size : Int) ≤ (a0.size : Int) then (some ((a0.extract 0 ((a1.size : Int) : Int).toNat).toList == a1.toList)) else (none)) else (none)) else (some false)
set_option maxHeartbeats 8000000 in
set_option maxRecDepth 100000 in
theorem cut_begins.calls (a0 : ByteArray) (a1 : ByteArray) (r : Bool) (w : World) (h : cut_begins.f a0 a1 = some r) :
  Calls Try.prog 65 #[.string a0, .string a1] w fun e w' => e = .returned (.bool r) ∧ Drawn0 w w' := by
 have H : (if (a0.size : Int) ≥ (a1.size : Int) then (if 0 ≤ (a1.size : Int) then (if (a1.size : Int) ≤ (a0.size : Int) then (some ((a0.extract 0 ((a1.size : Int) : Int).toNat).toList == a1.toList)) else (none)) else (none)) else (some false)) = some r := h
 clear h
 by_cases c3 : (a0.size : Int) ≥ (a1.size : Int)
 ·rw [if_pos c3] at H
  have c3b0 : decide ((a1.size : Int) ≤ (a0.size : Int)) = true := decide_eq_true c3
  have c3b1 : decide (a1.size ≤ a0.size) = true := decide_eq_true (Int.ofNat_le.mp c3)
  clear c3
  by_cases c4 : 0 ≤ (a1.size : Int)
  ·rw [if_pos c4] at H
   have c4b0 := eq_true c4
   have c4b1 : decide (0 ≤ (a1.size : Int)) = true := decide_eq_true c4
   clear c4
   by_cases c5 : (a1.size : Int) ≤ (a0.size : Int)
   ·rw [if_pos c5] at H
    have c5b0 := eq_true c5
    have c5b1 : decide ((a1.size : Int) ≤ (a0.size : Int)) = true := decide_eq_true c5
    clear c5
    obtain rfl := Option.some.inj H
    go_enter Try.func65, Try.ntmps65
    go_wp2
    go_ret
    exact ⟨by first | rfl | (simp; done) | (simp [*]; done), by repeat (first | exact Drawn0.refl _ | apply Drawn0.step)⟩
   ·rw [if_neg c5] at H
    exact absurd H (by simp)
  ·rw [if_neg c4] at H
   exact absurd H (by simp)
 ·rw [if_neg c3] at H
  have c3b0 : decide ((a1.size : Int) ≤ (a0.size : Int)) = false := decide_eq_false c3
  have c3b1 : decide (a1.size ≤ a0.size) = false := decide_eq_false (fun h => c3 (Int.ofNat_le.mpr h))
  clear c3
  obtain rfl := Option.some.inj H
  go_enter Try.func65, Try.ntmps65
  go_wp2
  go_ret
  exact ⟨by first | rfl | (simp; done) | (simp [*]; done), by repeat (first | exact Drawn0.refl _ | apply Drawn0.step)⟩
end Go.Proofs.Ytpeidnkbliafkaa.Print
