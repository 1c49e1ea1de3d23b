-- Laid by wip/print/bprint.py of this repo, over the kit's printer, with functions given by hand; not trusted: Lean checks it.
import Derived.Test.YtkkbmjfhpngalaaPrint0
import Derived.Test.YtkkbmjfhpngalaaPrint1
import Derived.Test.YtkkbmjfhpngalaaPrint10
import Derived.Test.YtkkbmjfhpngalaaPrint2
import Derived.Test.YtkkbmjfhpngalaaPrint3
import Derived.Test.YtkkbmjfhpngalaaPrint5
import Derived.Test.YtkkbmjfhpngalaaPrint6
import Derived.Test.YtkkbmjfhpngalaaSh
namespace Go.Proofs.Ytkkbmjfhpngalaa.Print
open Go.RowKit Go.Proofs.YtkkbmjfhpngalaaW.PrintWords Go.Proofs.YtkkbmjfhpngalaaW.PrintLast Go.Proofs.YtkkbmjfhpngalaaW.PrintMore
attribute [local go_sem] max2_int min2_int max_two min_two max_three min_three max_four min_four   -- for this text's walks alone
set_option linter.unusedVariables false
set_option linter.unusedSimpArgs false
section
attribute [local go_sem high] eqA25
/-! ### bocagelaw03_SpanOne: function 4 -/
def bocagelaw03_SpanOne.j0 : Nat → Int → Bool → Int → Int → Int → Int → Option (Bool)
  | 0, _, _, _, _, _, _ => none
  | k + 1, x1, x78, x620000, x620001, x620002, x620003 => if x78 = true then (some false) else ((span_Ends.f k x620000 x620001 x620002 x620003).bind fun bt640 => ((bocageref03_Right.f k x620000 x620001 x620002 x620003).bind fun t642 => (if t642 = true then ((bocageref02_Next.f k x620000 x620001).bind fun bt644 => ((bocageref02_Prev.f k x620002 x620003).bind fun bt646 => ((bocagelaw03_alive.f k).bind fun t648 => (if t648 = true then (if bt640.1 = bt644.1 then (if bt640.2 = bt646.1 then ((span_Has.f k x620000 x620001 x620002 x620003 bt640.1).bind fun t649 => (if t649 = true then ((span_Has.f k x620000 x620001 x620002 x620003 bt640.2).bind fun t650 => (if t650 = true then ((span_Point.f k x1).bind fun bt651 => ((bocageref02_Ahead.f k x1).bind fun bt655 => ((bocageref02_Behind.f x1).bind fun bt657 => (some ((bt651.1 == bt655.1 && (bt651.2.1 == bt655.2)) && ((bt651.2.2.1 == bt657.1 && (bt651.2.2.2 == bt657.2)))))))) else (some false))) else (some false))) else (some false)) else (some false)) else (some false))))) else ((bocagelaw03_alive.f k).bind fun t643 => (if t643 = true then (if bt640.1 = 0 then (some (bt640.2 == 0)) else (some false)) else (some false))))))
def bocagelaw03_SpanOne.f (k : Nat) (a0_0 : Int) (a0_1 : Int) (a0_2 : Int) (a0_3 : Int) (a1 : Int) : Option (Bool) := (span_Of.f k a0_0 a0_1 a0_2 a0_3).bind fun bt620 => ((bocageref03_Of.f k a0_0 a0_1 a0_2 a0_3).bind fun bt626 => ((span_Count.f k a0_0 a0_1 a0_2 a0_3).bind fun bt632 => ((bocageref03_Count.f k a0_0 a0_1 a0_2 a0_3).bind fun bt634 => (if ((!(bt620.1 == bt626.1) || (!(bt620.2.1 == bt626.2.1))) || ((!(bt620.2.2.1 == bt626.2.2.1) || (!(bt620.2.2.2.1 == bt626.2.2.2.1))))) = true then (bocagelaw03_SpanOne.j0 k a1 true a0_0 a0_1 a0_2 a0_3) else (if bt620.2.2.2.2 = bt626.2.2.2.2 then (if bt632.1 = bt634.1 then (if (bt632.2 != bt634.2) = true then (bocagelaw03_SpanOne.j0 k a1 true a0_0 a0_1 a0_2 a0_3) else ((span_Right.f k a0_0 a0_1 a0_2 a0_3).bind fun t636 => ((bocageref03_Right.f k a0_0 a0_1 a0_2 a0_3).bind fun t637 => (if (t636 != t637) = true then (bocagelaw03_SpanOne.j0 k a1 true a0_0 a0_1 a0_2 a0_3) else ((span_Has.f k a0_0 a0_1 a0_2 a0_3 a1).bind fun t638 => ((bocageref03_Has.f k a0_0 a0_1 a0_2 a0_3 a1).bind fun t639 => (bocagelaw03_SpanOne.j0 k a1 (t638 != t639) a0_0 a0_1 a0_2 a0_3))))))) else (bocagelaw03_SpanOne.j0 k a1 true a0_0 a0_1 a0_2 a0_3)) else (bocagelaw03_SpanOne.j0 k a1 true a0_0 a0_1 a0_2 a0_3))))))
theorem bocagelaw03_SpanOne.mono_l : ∀ k, (∀ y0 y1 y2 y3 y4 y5, LeO (bocagelaw03_SpanOne.j0 k y0 y1 y2 y3 y4 y5) (bocagelaw03_SpanOne.j0 (k + 1) y0 y1 y2 y3 y4 y5))
  | 0 => fun _ _ _ _ _ _ r h => by simp [bocagelaw03_SpanOne.j0] at h
  | k + 1 => by
    have ih0 := bocagelaw03_SpanOne.mono_l k
    · intro y0 y1 y2 y3 y4 y5
      unfold bocagelaw03_SpanOne.j0
      repeat' first
      | (with_reducible exact ih0 _ _ _ _ _ _)
      | (with_reducible exact bocagelaw03_alive.mono _)
      | (with_reducible exact bocageref02_Ahead.mono _ _)
      | (with_reducible exact bocageref02_Next.mono _ _ _)
      | (with_reducible exact bocageref02_Prev.mono _ _ _)
      | (with_reducible exact bocageref03_Count.mono _ _ _ _ _)
      | (with_reducible exact bocageref03_Has.mono _ _ _ _ _ _)
      | (with_reducible exact bocageref03_Of.mono _ _ _ _ _)
      | (with_reducible exact bocageref03_Right.mono _ _ _ _ _)
      | (with_reducible exact span_Count.mono _ _ _ _ _)
      | (with_reducible exact span_Ends.mono _ _ _ _ _)
      | (with_reducible exact span_Has.mono _ _ _ _ _ _)
      | (with_reducible exact span_Of.mono _ _ _ _ _)
      | (with_reducible exact span_Point.mono _ _)
      | (with_reducible exact span_Right.mono _ _ _ _ _)
      | (with_reducible exact LeO.refl _)
      | (with_reducible exact LeO.none _)
      | (with_reducible refine LeO.ite ?_ ?_)
      | (with_reducible refine LeO.bind ?_ (fun _ => ?_))
      | exact ih0 _ _ _ _ _ _
      | exact bocagelaw03_alive.mono _
      | exact bocageref02_Ahead.mono _ _
      | exact bocageref02_Next.mono _ _ _
      | exact bocageref02_Prev.mono _ _ _
      | exact bocageref03_Count.mono _ _ _ _ _
      | exact bocageref03_Has.mono _ _ _ _ _ _
      | exact bocageref03_Of.mono _ _ _ _ _
      | exact bocageref03_Right.mono _ _ _ _ _
      | exact span_Count.mono _ _ _ _ _
      | exact span_Ends.mono _ _ _ _ _
      | exact span_Has.mono _ _ _ _ _ _
      | exact span_Of.mono _ _ _ _ _
      | exact span_Point.mono _ _
      | exact span_Right.mono _ _ _ _ _
      | exact LeO.none _
      | refine LeO.ite ?_ ?_
      | refine LeO.bind ?_ (fun _ => ?_)
theorem bocagelaw03_SpanOne.mono : ∀ a0 a1 a2 a3 a4 k, LeO (bocagelaw03_SpanOne.f k a0 a1 a2 a3 a4) (bocagelaw03_SpanOne.f (k + 1) a0 a1 a2 a3 a4) := by
  intro a0 a1 a2 a3 a4 k
  have ih0 := bocagelaw03_SpanOne.mono_l k
  unfold bocagelaw03_SpanOne.f
  repeat' first
      | (with_reducible exact ih0 _ _ _ _ _ _)
      | (with_reducible exact bocagelaw03_alive.mono _)
      | (with_reducible exact bocageref02_Ahead.mono _ _)
      | (with_reducible exact bocageref02_Next.mono _ _ _)
      | (with_reducible exact bocageref02_Prev.mono _ _ _)
      | (with_reducible exact bocageref03_Count.mono _ _ _ _ _)
      | (with_reducible exact bocageref03_Has.mono _ _ _ _ _ _)
      | (with_reducible exact bocageref03_Of.mono _ _ _ _ _)
      | (with_reducible exact bocageref03_Right.mono _ _ _ _ _)
      | (with_reducible exact span_Count.mono _ _ _ _ _)
      | (with_reducible exact span_Ends.mono _ _ _ _ _)
      | (with_reducible exact span_Has.mono _ _ _ _ _ _)
      | (with_reducible exact span_Of.mono _ _ _ _ _)
      | (with_reducible exact span_Point.mono _ _)
      | (with_reducible exact span_Right.mono _ _ _ _ _)
      | (with_reducible exact LeO.refl _)
      | (with_reducible exact LeO.none _)
      | (with_reducible refine LeO.ite ?_ ?_)
      | (with_reducible refine LeO.bind ?_ (fun _ => ?_))
      | exact ih0 _ _ _ _ _ _
      | exact bocagelaw03_alive.mono _
      | exact bocageref02_Ahead.mono _ _
      | exact bocageref02_Next.mono _ _ _
      | exact bocageref02_Prev.mono _ _ _
      | exact bocageref03_Count.mono _ _ _ _ _
      | exact bocageref03_Has.mono _ _ _ _ _ _
      | exact bocageref03_Of.mono _ _ _ _ _
      | exact bocageref03_Right.mono _ _ _ _ _
      | exact span_Count.mono _ _ _ _ _
      | exact span_Ends.mono _ _ _ _ _
      | exact span_Has.mono _ _ _ _ _ _
      | exact span_Of.mono _ _ _ _ _
      | exact span_Point.mono _ _
      | exact span_Right.mono _ _ _ _ _
      | exact LeO.none _
      | refine LeO.ite ?_ ?_
      | refine LeO.bind ?_ (fun _ => ?_)
def bocagelaw03_SpanOne.T5 : Bool × List (List Nat × List Nat) := (true, [([], []), ([], []), ([0, 1], [0, 1]), ([2], [2]), ([3], [3]), ([3], [3]), ([4, 5, 3], [3, 4, 5]), ([3, 6], [3, 6]), ([7, 3], [7]), ([8], [8]), ([8], [8]), ([9, 10, 8], [8, 9, 10]), ([8, 11], [8, 11]), ([12, 8], [12]), ([13], [13]), ([13], [13]), ([14, 15, 13], [13, 14, 15]), ([13, 16], [13, 16]), ([17, 13], [17]), ([18], [18]), ([19, 18, 18], [18, 19]), ([18], [18]), ([21, 20, 18], [18, 21]), ([20, 22, 18], [18, 20, 22]), ([18, 23], [18, 23]), ([24, 22], [24]), ([25], [25]), ([25], [25]), ([26, 27, 25, 25], [25, 26, 27]), ([25], [25]), ([25], [25]), ([29, 30, 28, 25], [25, 29, 30]), ([28, 31, 25], [25, 28, 31]), ([25, 32], [25, 32])])
def bocagelaw03_SpanOne.B5 : List Nat := [0, 0, 3, 7, 15, 15, 63, 127, 255, 511, 511, 2047, 4095, 8191, 16383, 16383, 65535, 131071, 262143, 524287, 1048575, 524287, 4194303, 8388607, 16777215, 33554431, 67108863, 67108863, 268435455, 67108863, 67108863, 2147483647, 4294967295, 8589934591]
theorem bocagelaw03_SpanOne.tab5 : rtab .any (opsOf Try.f4 5) = bocagelaw03_SpanOne.T5 := by kernel_rfl
theorem bocagelaw03_SpanOne.bits5 : waitsOk bocagelaw03_SpanOne.T5.2 bocagelaw03_SpanOne.B5 = true := by kernel_rfl
set_option maxHeartbeats 8000000 in
set_option maxRecDepth 100000 in
theorem bocagelaw03_SpanOne.calls (k : Nat) (a0_0 : Int) (a0_1 : Int) (a0_2 : Int) (a0_3 : Int) (a1 : Int) (r : Bool) (w : World) (h : bocagelaw03_SpanOne.f k a0_0 a0_1 a0_2 a0_3 a1 = some r) (hr : r = true) :
    Calls Try.prog 4 #[.agg #[.int .i64 a0_0, .int .i64 a0_1, .int .i64 a0_2, .int .i64 a0_3], .int .i64 a1] w fun e w' => e = .returned (.bool r) ∧ Below w.heap.size w w' := by
  have HRT := Aside0.mk hr
  clear hr
  have hu25 := Try.underlying25
  have hu23 := Try.underlying23
  have HB := Aside0.mk (Below.refl w.heap.size w)
  have H : ((span_Of.f k a0_0 a0_1 a0_2 a0_3).bind fun bt620 => ((bocageref03_Of.f k a0_0 a0_1 a0_2 a0_3).bind fun bt626 => ((span_Count.f k a0_0 a0_1 a0_2 a0_3).bind fun bt632 => ((bocageref03_Count.f k a0_0 a0_1 a0_2 a0_3).bind fun bt634 => (if ((!(bt620.1 == bt626.1) || (!(bt620.2.1 == bt626.2.1))) || ((!(bt620.2.2.1 == bt626.2.2.1) || (!(bt620.2.2.2.1 == bt626.2.2.2.1))))) = true then (bocagelaw03_SpanOne.j0 k a1 true a0_0 a0_1 a0_2 a0_3) else (if bt620.2.2.2.2 = bt626.2.2.2.2 then (if bt632.1 = bt634.1 then (if (bt632.2 != bt634.2) = true then (bocagelaw03_SpanOne.j0 k a1 true a0_0 a0_1 a0_2 a0_3) else ((span_Right.f k a0_0 a0_1 a0_2 a0_3).bind fun t636 => ((bocageref03_Right.f k a0_0 a0_1 a0_2 a0_3).bind fun t637 => (if (t636 != t637) = true then (bocagelaw03_SpanOne.j0 k a1 true a0_0 a0_1 a0_2 a0_3) else ((span_Has.f k a0_0 a0_1 a0_2 a0_3 a1).bind fun t638 => ((bocageref03_Has.f k a0_0 a0_1 a0_2 a0_3 a1).bind fun t639 => (bocagelaw03_SpanOne.j0 k a1 (t638 != t639) a0_0 a0_1 a0_2 a0_3))))))) else (bocagelaw03_SpanOne.j0 k a1 true a0_0 a0_1 a0_2 a0_3)) else (bocagelaw03_SpanOne.j0 k a1 true a0_0 a0_1 a0_2 a0_3))))))) = some r := h
  clear h
  replace H := Option.bind_eq_some_iff.mp H
  obtain ⟨⟨t620, t621, t622, t623, t624⟩, A30, H⟩ := H
  (try (set_option simprocs false in dsimp only at H))
  have A3 := Aside0.mk A30
  clear A30
  replace H := Option.bind_eq_some_iff.mp H
  obtain ⟨⟨t626, t627, t628, t629, t630⟩, A40, H⟩ := H
  (try (set_option simprocs false in dsimp only at H))
  have A4 := Aside0.mk A40
  clear A40
  replace H := Option.bind_eq_some_iff.mp H
  obtain ⟨⟨t632, t633⟩, A50, H⟩ := H
  (try (set_option simprocs false in dsimp only at H))
  have A5 := Aside0.mk A50
  clear A50
  replace H := Option.bind_eq_some_iff.mp H
  obtain ⟨⟨t634, t635⟩, A60, H⟩ := H
  (try (set_option simprocs false in dsimp only at H))
  have A6 := Aside0.mk A60
  clear A60
  have HC7 := Aside0.mk H
  clear H
  go_enter Try.func4, Try.ntmps4
  go_upto_region 5 with (first | ((with_reducible refine gate_dst (N := 2) rfl ?_); refine bxe (N := 2) (cs := #[.int .i64 a0_0, .int .i64 a0_1, .int .i64 a0_2, .int .i64 a0_3]) (t := 25) ?_; intro gb619 hg w8 hbox hb; have BK619 := Aside0.mk (hbox); have GW619 := lsz hg HB; have GE619 := lsz hg HB; replace HB := bst HB hb; clear hb hbox hg; obtain ⟨hcz9_0, hcz9_1, hcz9_2, hcz9_3⟩ := e4 BK619; obtain ⟨hfz9_0, hfz9_1, hfz9_2, hfz9_3⟩ := f4 BK619) | ((with_reducible refine gate_callee (f := 24) rfl ?_); refine gol (some 24) Try.func24 #[.agg #[.int .i64 a0_0, .int .i64 a0_1], .agg #[.int .i64 a0_2, .int .i64 a0_3]] ?_; (with_reducible refine (span_Of.calls k a0_0 a0_1 a0_2 a0_3 t620 t621 t622 t623 t624 _ A3.out).mono ?_); rintro e w10 ⟨rfl, hb⟩; refine ⟨_, rfl, ?_⟩; replace BK619 := bkb BK619 hb; replace HB := bst HB hb; (try clear hb); (try clear hb2); (try clear hk); (try clear hi)) | ((with_reducible refine gate_dst (N := 5) rfl ?_); refine bxe (N := 5) (cs := #[.int .i64 0, .int .i64 0, .int .i64 0, .int .i64 0]) (t := 25) ?_; intro gb625 hg w11 hbox hb; have BK625 := Aside0.mk (hbox); have GW625 := lsz hg HB; have GE625 := lsz hg HB; replace HB := bst HB hb; have NB619_625 := nlt hg BK619; have NB625_619 := ngt hg BK619; replace BK619 := bkb BK619 hb; clear hb hbox hg; have hnb12 := NB625_619.out; have hnc12 := NB619_625.out; obtain ⟨hcz13_0, hcz13_1, hcz13_2, hcz13_3⟩ := e4 BK625; obtain ⟨hfz13_0, hfz13_1, hfz13_2, hfz13_3⟩ := f4 BK625; obtain ⟨hcz14_0, hcz14_1, hcz14_2, hcz14_3⟩ := e4 BK619; obtain ⟨hfz14_0, hfz14_1, hfz14_2, hfz14_3⟩ := f4 BK619) | ((with_reducible refine gate_callee (f := 25) rfl ?_); refine gol (some 32) Try.func25 #[.agg #[.int .i64 a0_0, .int .i64 a0_1], .agg #[.int .i64 a0_2, .int .i64 a0_3]] ?_; (with_reducible refine (bocageref03_Of.calls k a0_0 a0_1 a0_2 a0_3 t626 t627 t628 t629 t630 _ A4.out).mono ?_); rintro e w15 ⟨rfl, hb⟩; refine ⟨_, rfl, ?_⟩; replace BK619 := Aside0.mk (blk_below (bkf BK619 NB619_625) hb); replace BK625 := Aside0.mk (blk_below (g := gb625) (o := .cells #[.int .i64 t620, .int .i64 t621, .int .i64 t622, .int .i64 t623] 25 (0, 0)) (bkp BK625) hb); replace HB := bst HB hb; (try clear hb); (try clear hb2); (try clear hk); (try clear hi)) | ((with_reducible refine gate_dst (N := 7) rfl ?_); refine bxe (N := 7) (cs := #[.int .i64 0, .int .i64 0, .int .i64 0, .int .i64 0]) (t := 25) ?_; intro gb631 hg w16 hbox hb; have BK631 := Aside0.mk (hbox); have GW631 := lsz hg HB; have GE631 := lsz hg HB; replace HB := bst HB hb; have NB619_631 := nlt hg BK619; have NB631_619 := ngt hg BK619; replace BK619 := bkb BK619 hb; have NB625_631 := nlt hg BK625; have NB631_625 := ngt hg BK625; replace BK625 := bkb BK625 hb; clear hb hbox hg; have hnb17 := NB631_619.out; have hnc17 := NB619_631.out; have hnb18 := NB631_625.out; have hnc18 := NB625_631.out; obtain ⟨hcz19_0, hcz19_1, hcz19_2, hcz19_3⟩ := e4 BK631; obtain ⟨hfz19_0, hfz19_1, hfz19_2, hfz19_3⟩ := f4 BK631; obtain ⟨hcz20_0, hcz20_1, hcz20_2, hcz20_3⟩ := e4 BK619; obtain ⟨hfz20_0, hfz20_1, hfz20_2, hfz20_3⟩ := f4 BK619) | ((with_reducible refine gate_callee (f := 26) rfl ?_); refine gol (some 37) Try.func26 #[.agg #[.int .i64 a0_0, .int .i64 a0_1, .int .i64 a0_2, .int .i64 a0_3]] ?_; (with_reducible refine (span_Count.calls k a0_0 a0_1 a0_2 a0_3 t632 t633 _ A5.out).mono ?_); rintro e w21 ⟨rfl, hb⟩; refine ⟨_, rfl, ?_⟩; replace BK619 := Aside0.mk (blk_below (bkf BK619 NB619_631) hb); replace BK625 := Aside0.mk (blk_below (bkf BK625 NB625_631) hb); replace BK631 := Aside0.mk (blk_below (g := gb631) (o := .cells #[.int .i64 t626, .int .i64 t627, .int .i64 t628, .int .i64 t629] 25 (0, 0)) (bkp BK631) hb); replace HB := bst HB hb; (try clear hb); (try clear hb2); (try clear hk); (try clear hi); obtain ⟨hcz22_0, hcz22_1, hcz22_2, hcz22_3⟩ := e4 BK619; obtain ⟨hfz22_0, hfz22_1, hfz22_2, hfz22_3⟩ := f4 BK619) | ((with_reducible refine gate_callee (f := 27) rfl ?_); refine gol (some 42) Try.func27 #[.agg #[.int .i64 a0_0, .int .i64 a0_1, .int .i64 a0_2, .int .i64 a0_3]] ?_; (with_reducible refine (bocageref03_Count.calls k a0_0 a0_1 a0_2 a0_3 t634 t635 _ A6.out).mono ?_); rintro e w23 ⟨rfl, hb⟩; refine ⟨_, rfl, ?_⟩; replace BK619 := bkb BK619 hb; replace BK625 := bkb BK625 hb; replace BK631 := bkb BK631 hb; replace HB := bst HB hb; (try clear hb); (try clear hb2); (try clear hk); (try clear hi)))
  (try simp only [Act.put, List.setIfInBounds_toArray, List.set_cons_zero, List.set_cons_succ])
  go_cut [78] (fun v78 wc => ∃ (kq : Nat) (x78_6 : Bool), v78 = .bool x78_6 ∧ Aside0 (bocagelaw03_SpanOne.j0 kq a1 x78_6 a0_0 a0_1 a0_2 a0_3 = some r) ∧ Aside0 (kq ≤ k) ∧ Aside0 (wc.heap[gb619]? = some (.cells #[.int .i64 a0_0, .int .i64 a0_1, .int .i64 a0_2, .int .i64 a0_3] 25 (0, 0))) ∧ Aside0 (wc.heap[gb625]? = some (.cells #[.int .i64 t620, .int .i64 t621, .int .i64 t622, .int .i64 t623] 25 (0, 0))) ∧ Aside0 (wc.heap[gb631]? = some (.cells #[.int .i64 t626, .int .i64 t627, .int .i64 t628, .int .i64 t629] 25 (0, 0))) ∧ Aside0 (Below w.heap.size w wc))
  case first =>
    have H := HC7.out
    clear HC7
    by_cases c24 : ((!(t620 == t626) || (!(t621 == t627))) || ((!(t622 == t628) || (!(t623 == t629))))) = true
    · rw [if_pos c24] at H
      have c24b0 : ((!(t620 == t626) || (!(t621 == t627))) || ((!(t622 == t628) || (!(t623 == t629))))) = true := c24
      clear c24
      (first | rw [c24b0] | (simp only [i64_w, i32_w]; rw [c24b0]) | skip)
      have H' := Aside0.mk H
      clear H
      try go_wp2
      replace BK619 := Aside0.mk (blk_drew BK619.out)
      replace BK625 := Aside0.mk (blk_drew BK625.out)
      replace BK631 := Aside0.mk (blk_drew BK631.out)
      replace HB := Aside0.mk (below_drew1 HB.out)
      refine start_ (n := 34) (S := fun w' => w'.cell? ⟨gb625, 0, none⟩ = some (.int .i64 t620) ∧ w'.cell? ⟨gb625, 1, none⟩ = some (.int .i64 t621) ∧ w'.cell? ⟨gb625, 2, none⟩ = some (.int .i64 t622) ∧ w'.cell? ⟨gb625, 3, none⟩ = some (.int .i64 t623) ∧ w'.cell? ⟨gb631, 0, none⟩ = some (.int .i64 t626) ∧ w'.cell? ⟨gb631, 1, none⟩ = some (.int .i64 t627) ∧ w'.cell? ⟨gb631, 2, none⟩ = some (.int .i64 t628) ∧ w'.cell? ⟨gb631, 3, none⟩ = some (.int .i64 t629)) (ds := []) #[false, false, false, false, false, false, false, false, false, false, false, false, false, false, false, false, false, false, false, false, false, false, false, false, false, false, false, false, false, false, false, false, false, false] (by kernel_rfl) rfl rfl (c4 BK625 (e4 BK631)) (fun hHeld => ?_); refine with_tabW bocagelaw03_SpanOne.tab5 bocagelaw03_SpanOne.bits5 (fun HT_ HW_ => ?_)
      generalize w23.drew = w25 at BK619 BK625 BK631 HB hHeld ⊢
      refine tk8 0 (some 45) #[true, false, false, false, false, false, false, false, false, false, false, false, false, false, false, false, false, false, false, false, false, false, false, false, false, false, false, false, false, false, false, false, false, false] (take_ofW HT_.out HW_.out (by kernel_rfl)) hHeld ?_
      refine tk8 1 (some 46) #[true, true, false, false, false, false, false, false, false, false, false, false, false, false, false, false, false, false, false, false, false, false, false, false, false, false, false, false, false, false, false, false, false, false] (take_ofW HT_.out HW_.out (by kernel_rfl)) hHeld ?_
      refine pu 2 (some 47) #[true, true, true, false, false, false, false, false, false, false, false, false, false, false, false, false, false, false, false, false, false, false, false, false, false, false, false, false, false, false, false, false, false, false] (any_of HT_.out (by kernel_rfl)) ?_
      refine pu 3 (some 48) #[true, true, true, true, false, false, false, false, false, false, false, false, false, false, false, false, false, false, false, false, false, false, false, false, false, false, false, false, false, false, false, false, false, false] (any_of HT_.out (by kernel_rfl)) ?_
      refine pv 4 (some 49) #[true, true, true, true, true, false, false, false, false, false, false, false, false, false, false, false, false, false, false, false, false, false, false, false, false, false, false, false, false, false, false, false, false, false] (any_of HT_.out (by kernel_rfl)) ?_
      refine pv 5 (some 50) #[true, true, true, true, true, true, false, false, false, false, false, false, false, false, false, false, false, false, false, false, false, false, false, false, false, false, false, false, false, false, false, false, false, false] (any_of HT_.out (by kernel_rfl)) ?_
      refine pv 6 (some 51) #[true, true, true, true, true, true, true, false, false, false, false, false, false, false, false, false, false, false, false, false, false, false, false, false, false, false, false, false, false, false, false, false, false, false] (any_of HT_.out (by kernel_rfl)) ?_
      refine pu 7 (some 52) #[true, true, true, true, true, true, true, true, false, false, false, false, false, false, false, false, false, false, false, false, false, false, false, false, false, false, false, false, false, false, false, false, false, false] (any_of HT_.out (by kernel_rfl)) ?_
      refine pu 8 (some 53) #[true, true, true, true, true, true, true, true, true, false, false, false, false, false, false, false, false, false, false, false, false, false, false, false, false, false, false, false, false, false, false, false, false, false] (any_of HT_.out (by kernel_rfl)) ?_
      refine pv 9 (some 54) #[true, true, true, true, true, true, true, true, true, true, false, false, false, false, false, false, false, false, false, false, false, false, false, false, false, false, false, false, false, false, false, false, false, false] (any_of HT_.out (by kernel_rfl)) ?_
      refine pv 10 (some 55) #[true, true, true, true, true, true, true, true, true, true, true, false, false, false, false, false, false, false, false, false, false, false, false, false, false, false, false, false, false, false, false, false, false, false] (any_of HT_.out (by kernel_rfl)) ?_
      refine pv 11 (some 56) #[true, true, true, true, true, true, true, true, true, true, true, true, false, false, false, false, false, false, false, false, false, false, false, false, false, false, false, false, false, false, false, false, false, false] (any_of HT_.out (by kernel_rfl)) ?_
      refine pu 12 (some 57) #[true, true, true, true, true, true, true, true, true, true, true, true, true, false, false, false, false, false, false, false, false, false, false, false, false, false, false, false, false, false, false, false, false, false] (any_of HT_.out (by kernel_rfl)) ?_
      refine pu 13 (some 58) #[true, true, true, true, true, true, true, true, true, true, true, true, true, true, false, false, false, false, false, false, false, false, false, false, false, false, false, false, false, false, false, false, false, false] (any_of HT_.out (by kernel_rfl)) ?_
      refine pv 14 (some 59) #[true, true, true, true, true, true, true, true, true, true, true, true, true, true, true, false, false, false, false, false, false, false, false, false, false, false, false, false, false, false, false, false, false, false] (any_of HT_.out (by kernel_rfl)) ?_
      refine pv 15 (some 60) #[true, true, true, true, true, true, true, true, true, true, true, true, true, true, true, true, false, false, false, false, false, false, false, false, false, false, false, false, false, false, false, false, false, false] (any_of HT_.out (by kernel_rfl)) ?_
      refine pv 16 (some 61) #[true, true, true, true, true, true, true, true, true, true, true, true, true, true, true, true, true, false, false, false, false, false, false, false, false, false, false, false, false, false, false, false, false, false] (any_of HT_.out (by kernel_rfl)) ?_
      refine pu 17 (some 62) #[true, true, true, true, true, true, true, true, true, true, true, true, true, true, true, true, true, true, false, false, false, false, false, false, false, false, false, false, false, false, false, false, false, false] (any_of HT_.out (by kernel_rfl)) ?_
      refine pu 18 (some 63) #[true, true, true, true, true, true, true, true, true, true, true, true, true, true, true, true, true, true, true, false, false, false, false, false, false, false, false, false, false, false, false, false, false, false] (any_of HT_.out (by kernel_rfl)) ?_
      refine pv 19 (some 64) #[true, true, true, true, true, true, true, true, true, true, true, true, true, true, true, true, true, true, true, true, false, false, false, false, false, false, false, false, false, false, false, false, false, false] (any_of HT_.out (by kernel_rfl)) ?_
      refine pv 20 (some 65) #[true, true, true, true, true, true, true, true, true, true, true, true, true, true, true, true, true, true, true, true, true, false, false, false, false, false, false, false, false, false, false, false, false, false] (any_of HT_.out (by kernel_rfl)) ?_
      refine pv 21 (some 66) #[true, true, true, true, true, true, true, true, true, true, true, true, true, true, true, true, true, true, true, true, true, true, false, false, false, false, false, false, false, false, false, false, false, false] (any_of HT_.out (by kernel_rfl)) ?_
      refine pv 22 (some 67) #[true, true, true, true, true, true, true, true, true, true, true, true, true, true, true, true, true, true, true, true, true, true, true, false, false, false, false, false, false, false, false, false, false, false] (any_of HT_.out (by kernel_rfl)) ?_
      refine pv 23 (some 68) #[true, true, true, true, true, true, true, true, true, true, true, true, true, true, true, true, true, true, true, true, true, true, true, true, false, false, false, false, false, false, false, false, false, false] (any_of HT_.out (by kernel_rfl)) ?_
      refine pu 24 (some 69) #[true, true, true, true, true, true, true, true, true, true, true, true, true, true, true, true, true, true, true, true, true, true, true, true, true, false, false, false, false, false, false, false, false, false] (any_of HT_.out (by kernel_rfl)) ?_
      refine pu 25 (some 70) #[true, true, true, true, true, true, true, true, true, true, true, true, true, true, true, true, true, true, true, true, true, true, true, true, true, true, false, false, false, false, false, false, false, false] (any_of HT_.out (by kernel_rfl)) ?_
      refine pv 26 (some 71) #[true, true, true, true, true, true, true, true, true, true, true, true, true, true, true, true, true, true, true, true, true, true, true, true, true, true, true, false, false, false, false, false, false, false] (any_of HT_.out (by kernel_rfl)) ?_
      refine pv 27 (some 72) #[true, true, true, true, true, true, true, true, true, true, true, true, true, true, true, true, true, true, true, true, true, true, true, true, true, true, true, true, false, false, false, false, false, false] (any_of HT_.out (by kernel_rfl)) ?_
      refine pv 28 (some 73) #[true, true, true, true, true, true, true, true, true, true, true, true, true, true, true, true, true, true, true, true, true, true, true, true, true, true, true, true, true, false, false, false, false, false] (any_of HT_.out (by kernel_rfl)) ?_
      refine pv 29 (some 74) #[true, true, true, true, true, true, true, true, true, true, true, true, true, true, true, true, true, true, true, true, true, true, true, true, true, true, true, true, true, true, false, false, false, false] (any_of HT_.out (by kernel_rfl)) ?_
      refine pv 30 (some 75) #[true, true, true, true, true, true, true, true, true, true, true, true, true, true, true, true, true, true, true, true, true, true, true, true, true, true, true, true, true, true, true, false, false, false] (any_of HT_.out (by kernel_rfl)) ?_
      refine pv 31 (some 76) #[true, true, true, true, true, true, true, true, true, true, true, true, true, true, true, true, true, true, true, true, true, true, true, true, true, true, true, true, true, true, true, true, false, false] (any_of HT_.out (by kernel_rfl)) ?_
      refine pv 32 (some 77) #[true, true, true, true, true, true, true, true, true, true, true, true, true, true, true, true, true, true, true, true, true, true, true, true, true, true, true, true, true, true, true, true, true, false] (any_of HT_.out (by kernel_rfl)) ?_
      refine pu 33 (some 78) #[true, true, true, true, true, true, true, true, true, true, true, true, true, true, true, true, true, true, true, true, true, true, true, true, true, true, true, true, true, true, true, true, true, true] (any_of HT_.out (by kernel_rfl)) ?_
      refine done_ (done_of HT_.out (by kernel_rfl)) ?_
      try go_wp2
      go_meet
      case rel => exact ⟨_, (true), (by first | rfl | (simp; done) | (simp [*]; done)), H', ⟨by first | omega | exact Nat.le_refl _⟩, ⟨bk BK619⟩, ⟨bk BK625⟩, ⟨bk BK631⟩, ⟨bl HB⟩⟩
    · rw [if_neg c24] at H
      have c24b0 : ((!(t620 == t626) || (!(t621 == t627))) || ((!(t622 == t628) || (!(t623 == t629))))) = false := by simpa using c24
      clear c24
      (first | rw [c24b0] | (simp only [i64_w, i32_w]; rw [c24b0]) | skip)
      by_cases c26 : t624 = t630
      · rw [if_pos c26] at H
        have c26b0 : (t624 == t630) = true := beq_iff_eq.mpr c26
        have c26b1 : (t624 != t630) = false := bne_eq_false_iff_eq.mpr c26
        clear c26
        by_cases c27 : t632 = t634
        · rw [if_pos c27] at H
          have c27b0 : (t632 == t634) = true := beq_iff_eq.mpr c27
          have c27b1 : (t632 != t634) = false := bne_eq_false_iff_eq.mpr c27
          clear c27
          by_cases c28 : (t633 != t635) = true
          · rw [if_pos c28] at H
            have c28b0 : (t633 != t635) = true := c28
            (try (have c28b1 : decide (t633 = t635) = false := by simpa using c28))
            (try (have c28b2 : (t633 == t635) = false := by simpa using c28))
            (try (have c28b3 : ¬ (t633 = t635) := by simpa using c28))
            clear c28
            have H' := Aside0.mk H
            clear H
            try go_wp2
            replace BK619 := Aside0.mk (blk_drew BK619.out)
            replace BK625 := Aside0.mk (blk_drew BK625.out)
            replace BK631 := Aside0.mk (blk_drew BK631.out)
            replace HB := Aside0.mk (below_drew1 HB.out)
            refine start_ (n := 34) (S := fun w' => w'.cell? ⟨gb625, 0, none⟩ = some (.int .i64 t620) ∧ w'.cell? ⟨gb625, 1, none⟩ = some (.int .i64 t621) ∧ w'.cell? ⟨gb625, 2, none⟩ = some (.int .i64 t622) ∧ w'.cell? ⟨gb625, 3, none⟩ = some (.int .i64 t623) ∧ w'.cell? ⟨gb631, 0, none⟩ = some (.int .i64 t626) ∧ w'.cell? ⟨gb631, 1, none⟩ = some (.int .i64 t627) ∧ w'.cell? ⟨gb631, 2, none⟩ = some (.int .i64 t628) ∧ w'.cell? ⟨gb631, 3, none⟩ = some (.int .i64 t629)) (ds := []) #[false, false, false, false, false, false, false, false, false, false, false, false, false, false, false, false, false, false, false, false, false, false, false, false, false, false, false, false, false, false, false, false, false, false] (by kernel_rfl) rfl rfl (c4 BK625 (e4 BK631)) (fun hHeld => ?_); refine with_tabW bocagelaw03_SpanOne.tab5 bocagelaw03_SpanOne.bits5 (fun HT_ HW_ => ?_)
            generalize w23.drew = w29 at BK619 BK625 BK631 HB hHeld ⊢
            refine tk8 0 (some 45) #[true, false, false, false, false, false, false, false, false, false, false, false, false, false, false, false, false, false, false, false, false, false, false, false, false, false, false, false, false, false, false, false, false, false] (take_ofW HT_.out HW_.out (by kernel_rfl)) hHeld ?_
            refine tk8 1 (some 46) #[true, true, false, false, false, false, false, false, false, false, false, false, false, false, false, false, false, false, false, false, false, false, false, false, false, false, false, false, false, false, false, false, false, false] (take_ofW HT_.out HW_.out (by kernel_rfl)) hHeld ?_
            refine pu 2 (some 47) #[true, true, true, false, false, false, false, false, false, false, false, false, false, false, false, false, false, false, false, false, false, false, false, false, false, false, false, false, false, false, false, false, false, false] (any_of HT_.out (by kernel_rfl)) ?_
            refine pu 3 (some 48) #[true, true, true, true, false, false, false, false, false, false, false, false, false, false, false, false, false, false, false, false, false, false, false, false, false, false, false, false, false, false, false, false, false, false] (any_of HT_.out (by kernel_rfl)) ?_
            refine pu 4 (some 49) #[true, true, true, true, true, false, false, false, false, false, false, false, false, false, false, false, false, false, false, false, false, false, false, false, false, false, false, false, false, false, false, false, false, false] (any_of HT_.out (by kernel_rfl)) ?_
            refine pu 5 (some 50) #[true, true, true, true, true, true, false, false, false, false, false, false, false, false, false, false, false, false, false, false, false, false, false, false, false, false, false, false, false, false, false, false, false, false] (any_of HT_.out (by kernel_rfl)) ?_
            refine pu 6 (some 51) #[true, true, true, true, true, true, true, false, false, false, false, false, false, false, false, false, false, false, false, false, false, false, false, false, false, false, false, false, false, false, false, false, false, false] (any_of HT_.out (by kernel_rfl)) ?_
            refine pu 7 (some 52) #[true, true, true, true, true, true, true, true, false, false, false, false, false, false, false, false, false, false, false, false, false, false, false, false, false, false, false, false, false, false, false, false, false, false] (any_of HT_.out (by kernel_rfl)) ?_
            refine pu 8 (some 53) #[true, true, true, true, true, true, true, true, true, false, false, false, false, false, false, false, false, false, false, false, false, false, false, false, false, false, false, false, false, false, false, false, false, false] (any_of HT_.out (by kernel_rfl)) ?_
            refine pu 9 (some 54) #[true, true, true, true, true, true, true, true, true, true, false, false, false, false, false, false, false, false, false, false, false, false, false, false, false, false, false, false, false, false, false, false, false, false] (any_of HT_.out (by kernel_rfl)) ?_
            refine pu 10 (some 55) #[true, true, true, true, true, true, true, true, true, true, true, false, false, false, false, false, false, false, false, false, false, false, false, false, false, false, false, false, false, false, false, false, false, false] (any_of HT_.out (by kernel_rfl)) ?_
            refine pu 11 (some 56) #[true, true, true, true, true, true, true, true, true, true, true, true, false, false, false, false, false, false, false, false, false, false, false, false, false, false, false, false, false, false, false, false, false, false] (any_of HT_.out (by kernel_rfl)) ?_
            refine pu 12 (some 57) #[true, true, true, true, true, true, true, true, true, true, true, true, true, false, false, false, false, false, false, false, false, false, false, false, false, false, false, false, false, false, false, false, false, false] (any_of HT_.out (by kernel_rfl)) ?_
            refine pu 13 (some 58) #[true, true, true, true, true, true, true, true, true, true, true, true, true, true, false, false, false, false, false, false, false, false, false, false, false, false, false, false, false, false, false, false, false, false] (any_of HT_.out (by kernel_rfl)) ?_
            refine pu 14 (some 59) #[true, true, true, true, true, true, true, true, true, true, true, true, true, true, true, false, false, false, false, false, false, false, false, false, false, false, false, false, false, false, false, false, false, false] (any_of HT_.out (by kernel_rfl)) ?_
            refine pu 15 (some 60) #[true, true, true, true, true, true, true, true, true, true, true, true, true, true, true, true, false, false, false, false, false, false, false, false, false, false, false, false, false, false, false, false, false, false] (any_of HT_.out (by kernel_rfl)) ?_
            refine pu 16 (some 61) #[true, true, true, true, true, true, true, true, true, true, true, true, true, true, true, true, true, false, false, false, false, false, false, false, false, false, false, false, false, false, false, false, false, false] (any_of HT_.out (by kernel_rfl)) ?_
            refine pu 17 (some 62) #[true, true, true, true, true, true, true, true, true, true, true, true, true, true, true, true, true, true, false, false, false, false, false, false, false, false, false, false, false, false, false, false, false, false] (any_of HT_.out (by kernel_rfl)) ?_
            refine pu 18 (some 63) #[true, true, true, true, true, true, true, true, true, true, true, true, true, true, true, true, true, true, true, false, false, false, false, false, false, false, false, false, false, false, false, false, false, false] (any_of HT_.out (by kernel_rfl)) ?_
            refine pv 19 (some 64) #[true, true, true, true, true, true, true, true, true, true, true, true, true, true, true, true, true, true, true, true, false, false, false, false, false, false, false, false, false, false, false, false, false, false] (any_of HT_.out (by kernel_rfl)) ?_
            refine pv 20 (some 65) #[true, true, true, true, true, true, true, true, true, true, true, true, true, true, true, true, true, true, true, true, true, false, false, false, false, false, false, false, false, false, false, false, false, false] (any_of HT_.out (by kernel_rfl)) ?_
            refine pv 21 (some 66) #[true, true, true, true, true, true, true, true, true, true, true, true, true, true, true, true, true, true, true, true, true, true, false, false, false, false, false, false, false, false, false, false, false, false] (any_of HT_.out (by kernel_rfl)) ?_
            refine pv 22 (some 67) #[true, true, true, true, true, true, true, true, true, true, true, true, true, true, true, true, true, true, true, true, true, true, true, false, false, false, false, false, false, false, false, false, false, false] (any_of HT_.out (by kernel_rfl)) ?_
            refine pv 23 (some 68) #[true, true, true, true, true, true, true, true, true, true, true, true, true, true, true, true, true, true, true, true, true, true, true, true, false, false, false, false, false, false, false, false, false, false] (any_of HT_.out (by kernel_rfl)) ?_
            refine pu 24 (some 69) #[true, true, true, true, true, true, true, true, true, true, true, true, true, true, true, true, true, true, true, true, true, true, true, true, true, false, false, false, false, false, false, false, false, false] (any_of HT_.out (by kernel_rfl)) ?_
            refine pu 25 (some 70) #[true, true, true, true, true, true, true, true, true, true, true, true, true, true, true, true, true, true, true, true, true, true, true, true, true, true, false, false, false, false, false, false, false, false] (any_of HT_.out (by kernel_rfl)) ?_
            refine pv 26 (some 71) #[true, true, true, true, true, true, true, true, true, true, true, true, true, true, true, true, true, true, true, true, true, true, true, true, true, true, true, false, false, false, false, false, false, false] (any_of HT_.out (by kernel_rfl)) ?_
            refine pv 27 (some 72) #[true, true, true, true, true, true, true, true, true, true, true, true, true, true, true, true, true, true, true, true, true, true, true, true, true, true, true, true, false, false, false, false, false, false] (any_of HT_.out (by kernel_rfl)) ?_
            refine pv 28 (some 73) #[true, true, true, true, true, true, true, true, true, true, true, true, true, true, true, true, true, true, true, true, true, true, true, true, true, true, true, true, true, false, false, false, false, false] (any_of HT_.out (by kernel_rfl)) ?_
            refine pv 29 (some 74) #[true, true, true, true, true, true, true, true, true, true, true, true, true, true, true, true, true, true, true, true, true, true, true, true, true, true, true, true, true, true, false, false, false, false] (any_of HT_.out (by kernel_rfl)) ?_
            refine pv 30 (some 75) #[true, true, true, true, true, true, true, true, true, true, true, true, true, true, true, true, true, true, true, true, true, true, true, true, true, true, true, true, true, true, true, false, false, false] (any_of HT_.out (by kernel_rfl)) ?_
            refine pv 31 (some 76) #[true, true, true, true, true, true, true, true, true, true, true, true, true, true, true, true, true, true, true, true, true, true, true, true, true, true, true, true, true, true, true, true, false, false] (any_of HT_.out (by kernel_rfl)) ?_
            refine pv 32 (some 77) #[true, true, true, true, true, true, true, true, true, true, true, true, true, true, true, true, true, true, true, true, true, true, true, true, true, true, true, true, true, true, true, true, true, false] (any_of HT_.out (by kernel_rfl)) ?_
            refine pu 33 (some 78) #[true, true, true, true, true, true, true, true, true, true, true, true, true, true, true, true, true, true, true, true, true, true, true, true, true, true, true, true, true, true, true, true, true, true] (any_of HT_.out (by kernel_rfl)) ?_
            refine done_ (done_of HT_.out (by kernel_rfl)) ?_
            try go_wp2
            go_meet
            case rel => exact ⟨_, (true), (by first | rfl | (simp; done) | (simp [*]; done)), H', ⟨by first | omega | exact Nat.le_refl _⟩, ⟨bk BK619⟩, ⟨bk BK625⟩, ⟨bk BK631⟩, ⟨bl HB⟩⟩
          · rw [if_neg c28] at H
            have c28b0 : (t633 != t635) = false := by simpa using c28
            (try (have c28b1 : decide (t633 = t635) = true := by simpa using c28))
            (try (have c28b2 : (t633 == t635) = true := by simpa using c28))
            clear c28
            replace H := Option.bind_eq_some_iff.mp H
            obtain ⟨t636, A300, H⟩ := H
            (try (set_option simprocs false in dsimp only at H))
            have A30 := Aside0.mk A300
            clear A300
            replace H := Option.bind_eq_some_iff.mp H
            obtain ⟨t637, A310, H⟩ := H
            (try (set_option simprocs false in dsimp only at H))
            have A31 := Aside0.mk A310
            clear A310
            by_cases c32 : (t636 != t637) = true
            · rw [if_pos c32] at H
              have c32b0 : (t636 != t637) = true := c32
              (try (have c32b1 : decide (t636 = t637) = false := by simpa using c32))
              (try (have c32b2 : (t636 == t637) = false := by simpa using c32))
              (try (have c32b3 : ¬ (t636 = t637) := by simpa using c32))
              clear c32
              have H' := Aside0.mk H
              clear H
              try go_wp2
              replace BK619 := Aside0.mk (blk_drew BK619.out)
              replace BK625 := Aside0.mk (blk_drew BK625.out)
              replace BK631 := Aside0.mk (blk_drew BK631.out)
              replace HB := Aside0.mk (below_drew1 HB.out)
              refine start_ (n := 34) (S := fun w' => w'.cell? ⟨gb625, 0, none⟩ = some (.int .i64 t620) ∧ w'.cell? ⟨gb625, 1, none⟩ = some (.int .i64 t621) ∧ w'.cell? ⟨gb625, 2, none⟩ = some (.int .i64 t622) ∧ w'.cell? ⟨gb625, 3, none⟩ = some (.int .i64 t623) ∧ w'.cell? ⟨gb631, 0, none⟩ = some (.int .i64 t626) ∧ w'.cell? ⟨gb631, 1, none⟩ = some (.int .i64 t627) ∧ w'.cell? ⟨gb631, 2, none⟩ = some (.int .i64 t628) ∧ w'.cell? ⟨gb631, 3, none⟩ = some (.int .i64 t629) ∧ w'.cell? ⟨gb619, 0, none⟩ = some (.int .i64 a0_0) ∧ w'.cell? ⟨gb619, 1, none⟩ = some (.int .i64 a0_1) ∧ w'.cell? ⟨gb619, 2, none⟩ = some (.int .i64 a0_2) ∧ w'.cell? ⟨gb619, 3, none⟩ = some (.int .i64 a0_3)) (ds := []) #[false, false, false, false, false, false, false, false, false, false, false, false, false, false, false, false, false, false, false, false, false, false, false, false, false, false, false, false, false, false, false, false, false, false] (by kernel_rfl) rfl rfl (c4 BK625 (c4 BK631 (e4 BK619))) (fun hHeld => ?_); refine with_tabW bocagelaw03_SpanOne.tab5 bocagelaw03_SpanOne.bits5 (fun HT_ HW_ => ?_)
              generalize w23.drew = w33 at BK619 BK625 BK631 HB hHeld ⊢
              refine tk12 0 (some 45) #[true, false, false, false, false, false, false, false, false, false, false, false, false, false, false, false, false, false, false, false, false, false, false, false, false, false, false, false, false, false, false, false, false, false] (take_ofW HT_.out HW_.out (by kernel_rfl)) hHeld ?_
              refine tk12 1 (some 46) #[true, true, false, false, false, false, false, false, false, false, false, false, false, false, false, false, false, false, false, false, false, false, false, false, false, false, false, false, false, false, false, false, false, false] (take_ofW HT_.out HW_.out (by kernel_rfl)) hHeld ?_
              refine pu 2 (some 47) #[true, true, true, false, false, false, false, false, false, false, false, false, false, false, false, false, false, false, false, false, false, false, false, false, false, false, false, false, false, false, false, false, false, false] (any_of HT_.out (by kernel_rfl)) ?_
              refine pu 3 (some 48) #[true, true, true, true, false, false, false, false, false, false, false, false, false, false, false, false, false, false, false, false, false, false, false, false, false, false, false, false, false, false, false, false, false, false] (any_of HT_.out (by kernel_rfl)) ?_
              refine pu 4 (some 49) #[true, true, true, true, true, false, false, false, false, false, false, false, false, false, false, false, false, false, false, false, false, false, false, false, false, false, false, false, false, false, false, false, false, false] (any_of HT_.out (by kernel_rfl)) ?_
              refine pu 5 (some 50) #[true, true, true, true, true, true, false, false, false, false, false, false, false, false, false, false, false, false, false, false, false, false, false, false, false, false, false, false, false, false, false, false, false, false] (any_of HT_.out (by kernel_rfl)) ?_
              refine pu 6 (some 51) #[true, true, true, true, true, true, true, false, false, false, false, false, false, false, false, false, false, false, false, false, false, false, false, false, false, false, false, false, false, false, false, false, false, false] (any_of HT_.out (by kernel_rfl)) ?_
              refine pu 7 (some 52) #[true, true, true, true, true, true, true, true, false, false, false, false, false, false, false, false, false, false, false, false, false, false, false, false, false, false, false, false, false, false, false, false, false, false] (any_of HT_.out (by kernel_rfl)) ?_
              refine pu 8 (some 53) #[true, true, true, true, true, true, true, true, true, false, false, false, false, false, false, false, false, false, false, false, false, false, false, false, false, false, false, false, false, false, false, false, false, false] (any_of HT_.out (by kernel_rfl)) ?_
              refine pu 9 (some 54) #[true, true, true, true, true, true, true, true, true, true, false, false, false, false, false, false, false, false, false, false, false, false, false, false, false, false, false, false, false, false, false, false, false, false] (any_of HT_.out (by kernel_rfl)) ?_
              refine pu 10 (some 55) #[true, true, true, true, true, true, true, true, true, true, true, false, false, false, false, false, false, false, false, false, false, false, false, false, false, false, false, false, false, false, false, false, false, false] (any_of HT_.out (by kernel_rfl)) ?_
              refine pu 11 (some 56) #[true, true, true, true, true, true, true, true, true, true, true, true, false, false, false, false, false, false, false, false, false, false, false, false, false, false, false, false, false, false, false, false, false, false] (any_of HT_.out (by kernel_rfl)) ?_
              refine pu 12 (some 57) #[true, true, true, true, true, true, true, true, true, true, true, true, true, false, false, false, false, false, false, false, false, false, false, false, false, false, false, false, false, false, false, false, false, false] (any_of HT_.out (by kernel_rfl)) ?_
              refine pu 13 (some 58) #[true, true, true, true, true, true, true, true, true, true, true, true, true, true, false, false, false, false, false, false, false, false, false, false, false, false, false, false, false, false, false, false, false, false] (any_of HT_.out (by kernel_rfl)) ?_
              refine pu 14 (some 59) #[true, true, true, true, true, true, true, true, true, true, true, true, true, true, true, false, false, false, false, false, false, false, false, false, false, false, false, false, false, false, false, false, false, false] (any_of HT_.out (by kernel_rfl)) ?_
              refine pu 15 (some 60) #[true, true, true, true, true, true, true, true, true, true, true, true, true, true, true, true, false, false, false, false, false, false, false, false, false, false, false, false, false, false, false, false, false, false] (any_of HT_.out (by kernel_rfl)) ?_
              refine pu 16 (some 61) #[true, true, true, true, true, true, true, true, true, true, true, true, true, true, true, true, true, false, false, false, false, false, false, false, false, false, false, false, false, false, false, false, false, false] (any_of HT_.out (by kernel_rfl)) ?_
              refine pu 17 (some 62) #[true, true, true, true, true, true, true, true, true, true, true, true, true, true, true, true, true, true, false, false, false, false, false, false, false, false, false, false, false, false, false, false, false, false] (any_of HT_.out (by kernel_rfl)) ?_
              refine pu 18 (some 63) #[true, true, true, true, true, true, true, true, true, true, true, true, true, true, true, true, true, true, true, false, false, false, false, false, false, false, false, false, false, false, false, false, false, false] (any_of HT_.out (by kernel_rfl)) ?_
              refine tk12 19 (some 64) #[true, true, true, true, true, true, true, true, true, true, true, true, true, true, true, true, true, true, true, true, false, false, false, false, false, false, false, false, false, false, false, false, false, false] (take_ofW HT_.out HW_.out (by kernel_rfl)) hHeld ?_
              refine tk12 21 (some 66) #[true, true, true, true, true, true, true, true, true, true, true, true, true, true, true, true, true, true, true, true, false, true, false, false, false, false, false, false, false, false, false, false, false, false] (take_ofW HT_.out HW_.out (by kernel_rfl)) hHeld ?_
              refine one_ (i := 20) (N := some 65) #[true, true, true, true, true, true, true, true, true, true, true, true, true, true, true, true, true, true, true, true, true, true, false, false, false, false, false, false, false, false, false, false, false, false] rfl rfl (one_of HT_.out (by kernel_rfl)) (by decide) (fun K hK => ?_)
              refine goes_ Try.func28 (by kernel_rfl) rfl #[.agg #[.int .i64 a0_0, .int .i64 a0_1, .int .i64 a0_2, .int .i64 a0_3]] (by rfl) rfl rfl (by (try simp only [List.map_toArray, List.map_cons, List.map_nil]); first | done | rfl | (simp only [List.length_drop, List.length_take]; rfl)) ?_
              with_reducible refine (span_Right.calls k a0_0 a0_1 a0_2 a0_3 t636 _ A30.out).mono ?_
              rintro e w34 ⟨rfl, hb⟩
              refine ⟨_, rfl, ?_⟩
              replace BK619 := bkb BK619 hb
              replace BK625 := bkb BK625 hb
              replace BK631 := bkb BK631 hb
              replace HB := bst HB hb
              (try clear hb)
              (try clear hb2)
              (try clear hk)
              (try clear hi)
              refine hK.out _ _ (c4 BK625 (c4 BK631 (e4 BK619))) (fun hHeld => ?_)
              clear hK K
              refine nrp 65 ?_
              refine one_ (i := 22) (N := some 67) #[true, true, true, true, true, true, true, true, true, true, true, true, true, true, true, true, true, true, true, true, true, true, true, false, false, false, false, false, false, false, false, false, false, false] rfl rfl (one_of HT_.out (by kernel_rfl)) (by decide) (fun K hK => ?_)
              refine goes_ Try.func12 (by kernel_rfl) rfl #[.agg #[.int .i64 a0_0, .int .i64 a0_1, .int .i64 a0_2, .int .i64 a0_3]] (by rfl) rfl rfl (by (try simp only [List.map_toArray, List.map_cons, List.map_nil]); first | done | rfl | (simp only [List.length_drop, List.length_take]; rfl)) ?_
              with_reducible refine (bocageref03_Right.calls k a0_0 a0_1 a0_2 a0_3 t637 _ A31.out).mono ?_
              rintro e w35 ⟨rfl, hb⟩
              refine ⟨_, rfl, ?_⟩
              replace BK619 := bkb BK619 hb
              replace BK625 := bkb BK625 hb
              replace BK631 := bkb BK631 hb
              replace HB := bst HB hb
              (try clear hb)
              (try clear hb2)
              (try clear hk)
              (try clear hi)
              refine hK.out _ _ (c4 BK625 (c4 BK631 (e4 BK619))) (fun hHeld => ?_)
              clear hK K
              refine nrp 67 ?_
              refine pu 23 (some 68) #[true, true, true, true, true, true, true, true, true, true, true, true, true, true, true, true, true, true, true, true, true, true, true, true, false, false, false, false, false, false, false, false, false, false] (any_of HT_.out (by kernel_rfl)) ?_
              refine pu 24 (some 69) #[true, true, true, true, true, true, true, true, true, true, true, true, true, true, true, true, true, true, true, true, true, true, true, true, true, false, false, false, false, false, false, false, false, false] (any_of HT_.out (by kernel_rfl)) ?_
              refine pu 25 (some 70) #[true, true, true, true, true, true, true, true, true, true, true, true, true, true, true, true, true, true, true, true, true, true, true, true, true, true, false, false, false, false, false, false, false, false] (any_of HT_.out (by kernel_rfl)) ?_
              refine pv 26 (some 71) #[true, true, true, true, true, true, true, true, true, true, true, true, true, true, true, true, true, true, true, true, true, true, true, true, true, true, true, false, false, false, false, false, false, false] (any_of HT_.out (by kernel_rfl)) ?_
              refine pv 27 (some 72) #[true, true, true, true, true, true, true, true, true, true, true, true, true, true, true, true, true, true, true, true, true, true, true, true, true, true, true, true, false, false, false, false, false, false] (any_of HT_.out (by kernel_rfl)) ?_
              refine pv 28 (some 73) #[true, true, true, true, true, true, true, true, true, true, true, true, true, true, true, true, true, true, true, true, true, true, true, true, true, true, true, true, true, false, false, false, false, false] (any_of HT_.out (by kernel_rfl)) ?_
              refine pv 29 (some 74) #[true, true, true, true, true, true, true, true, true, true, true, true, true, true, true, true, true, true, true, true, true, true, true, true, true, true, true, true, true, true, false, false, false, false] (any_of HT_.out (by kernel_rfl)) ?_
              refine pv 30 (some 75) #[true, true, true, true, true, true, true, true, true, true, true, true, true, true, true, true, true, true, true, true, true, true, true, true, true, true, true, true, true, true, true, false, false, false] (any_of HT_.out (by kernel_rfl)) ?_
              refine pv 31 (some 76) #[true, true, true, true, true, true, true, true, true, true, true, true, true, true, true, true, true, true, true, true, true, true, true, true, true, true, true, true, true, true, true, true, false, false] (any_of HT_.out (by kernel_rfl)) ?_
              refine pv 32 (some 77) #[true, true, true, true, true, true, true, true, true, true, true, true, true, true, true, true, true, true, true, true, true, true, true, true, true, true, true, true, true, true, true, true, true, false] (any_of HT_.out (by kernel_rfl)) ?_
              refine pu 33 (some 78) #[true, true, true, true, true, true, true, true, true, true, true, true, true, true, true, true, true, true, true, true, true, true, true, true, true, true, true, true, true, true, true, true, true, true] (any_of HT_.out (by kernel_rfl)) ?_
              refine done_ (done_of HT_.out (by kernel_rfl)) ?_
              try go_wp2
              go_meet
              case rel => exact ⟨_, (true), (by first | rfl | (simp; done) | (simp [*]; done)), H', ⟨by first | omega | exact Nat.le_refl _⟩, ⟨bk BK619⟩, ⟨bk BK625⟩, ⟨bk BK631⟩, ⟨bl HB⟩⟩
            · rw [if_neg c32] at H
              have c32b0 : (t636 != t637) = false := by simpa using c32
              (try (have c32b1 : decide (t636 = t637) = true := by simpa using c32))
              (try (have c32b2 : (t636 == t637) = true := by simpa using c32))
              clear c32
              replace H := Option.bind_eq_some_iff.mp H
              obtain ⟨t638, A360, H⟩ := H
              (try (set_option simprocs false in dsimp only at H))
              have A36 := Aside0.mk A360
              clear A360
              replace H := Option.bind_eq_some_iff.mp H
              obtain ⟨t639, A370, H⟩ := H
              (try (set_option simprocs false in dsimp only at H))
              have A37 := Aside0.mk A370
              clear A370
              have H' := Aside0.mk H
              clear H
              try go_wp2
              replace BK619 := Aside0.mk (blk_drew BK619.out)
              replace BK625 := Aside0.mk (blk_drew BK625.out)
              replace BK631 := Aside0.mk (blk_drew BK631.out)
              replace HB := Aside0.mk (below_drew1 HB.out)
              refine start_ (n := 34) (S := fun w' => w'.cell? ⟨gb625, 0, none⟩ = some (.int .i64 t620) ∧ w'.cell? ⟨gb625, 1, none⟩ = some (.int .i64 t621) ∧ w'.cell? ⟨gb625, 2, none⟩ = some (.int .i64 t622) ∧ w'.cell? ⟨gb625, 3, none⟩ = some (.int .i64 t623) ∧ w'.cell? ⟨gb631, 0, none⟩ = some (.int .i64 t626) ∧ w'.cell? ⟨gb631, 1, none⟩ = some (.int .i64 t627) ∧ w'.cell? ⟨gb631, 2, none⟩ = some (.int .i64 t628) ∧ w'.cell? ⟨gb631, 3, none⟩ = some (.int .i64 t629) ∧ w'.cell? ⟨gb619, 0, none⟩ = some (.int .i64 a0_0) ∧ w'.cell? ⟨gb619, 1, none⟩ = some (.int .i64 a0_1) ∧ w'.cell? ⟨gb619, 2, none⟩ = some (.int .i64 a0_2) ∧ w'.cell? ⟨gb619, 3, none⟩ = some (.int .i64 a0_3)) (ds := []) #[false, false, false, false, false, false, false, false, false, false, false, false, false, false, false, false, false, false, false, false, false, false, false, false, false, false, false, false, false, false, false, false, false, false] (by kernel_rfl) rfl rfl (c4 BK625 (c4 BK631 (e4 BK619))) (fun hHeld => ?_); refine with_tabW bocagelaw03_SpanOne.tab5 bocagelaw03_SpanOne.bits5 (fun HT_ HW_ => ?_)
              generalize w23.drew = w38 at BK619 BK625 BK631 HB hHeld ⊢
              refine tk12 0 (some 45) #[true, false, false, false, false, false, false, false, false, false, false, false, false, false, false, false, false, false, false, false, false, false, false, false, false, false, false, false, false, false, false, false, false, false] (take_ofW HT_.out HW_.out (by kernel_rfl)) hHeld ?_
              refine tk12 1 (some 46) #[true, true, false, false, false, false, false, false, false, false, false, false, false, false, false, false, false, false, false, false, false, false, false, false, false, false, false, false, false, false, false, false, false, false] (take_ofW HT_.out HW_.out (by kernel_rfl)) hHeld ?_
              refine pu 2 (some 47) #[true, true, true, false, false, false, false, false, false, false, false, false, false, false, false, false, false, false, false, false, false, false, false, false, false, false, false, false, false, false, false, false, false, false] (any_of HT_.out (by kernel_rfl)) ?_
              refine pu 3 (some 48) #[true, true, true, true, false, false, false, false, false, false, false, false, false, false, false, false, false, false, false, false, false, false, false, false, false, false, false, false, false, false, false, false, false, false] (any_of HT_.out (by kernel_rfl)) ?_
              refine pu 4 (some 49) #[true, true, true, true, true, false, false, false, false, false, false, false, false, false, false, false, false, false, false, false, false, false, false, false, false, false, false, false, false, false, false, false, false, false] (any_of HT_.out (by kernel_rfl)) ?_
              refine pu 5 (some 50) #[true, true, true, true, true, true, false, false, false, false, false, false, false, false, false, false, false, false, false, false, false, false, false, false, false, false, false, false, false, false, false, false, false, false] (any_of HT_.out (by kernel_rfl)) ?_
              refine pu 6 (some 51) #[true, true, true, true, true, true, true, false, false, false, false, false, false, false, false, false, false, false, false, false, false, false, false, false, false, false, false, false, false, false, false, false, false, false] (any_of HT_.out (by kernel_rfl)) ?_
              refine pu 7 (some 52) #[true, true, true, true, true, true, true, true, false, false, false, false, false, false, false, false, false, false, false, false, false, false, false, false, false, false, false, false, false, false, false, false, false, false] (any_of HT_.out (by kernel_rfl)) ?_
              refine pu 8 (some 53) #[true, true, true, true, true, true, true, true, true, false, false, false, false, false, false, false, false, false, false, false, false, false, false, false, false, false, false, false, false, false, false, false, false, false] (any_of HT_.out (by kernel_rfl)) ?_
              refine pu 9 (some 54) #[true, true, true, true, true, true, true, true, true, true, false, false, false, false, false, false, false, false, false, false, false, false, false, false, false, false, false, false, false, false, false, false, false, false] (any_of HT_.out (by kernel_rfl)) ?_
              refine pu 10 (some 55) #[true, true, true, true, true, true, true, true, true, true, true, false, false, false, false, false, false, false, false, false, false, false, false, false, false, false, false, false, false, false, false, false, false, false] (any_of HT_.out (by kernel_rfl)) ?_
              refine pu 11 (some 56) #[true, true, true, true, true, true, true, true, true, true, true, true, false, false, false, false, false, false, false, false, false, false, false, false, false, false, false, false, false, false, false, false, false, false] (any_of HT_.out (by kernel_rfl)) ?_
              refine pu 12 (some 57) #[true, true, true, true, true, true, true, true, true, true, true, true, true, false, false, false, false, false, false, false, false, false, false, false, false, false, false, false, false, false, false, false, false, false] (any_of HT_.out (by kernel_rfl)) ?_
              refine pu 13 (some 58) #[true, true, true, true, true, true, true, true, true, true, true, true, true, true, false, false, false, false, false, false, false, false, false, false, false, false, false, false, false, false, false, false, false, false] (any_of HT_.out (by kernel_rfl)) ?_
              refine pu 14 (some 59) #[true, true, true, true, true, true, true, true, true, true, true, true, true, true, true, false, false, false, false, false, false, false, false, false, false, false, false, false, false, false, false, false, false, false] (any_of HT_.out (by kernel_rfl)) ?_
              refine pu 15 (some 60) #[true, true, true, true, true, true, true, true, true, true, true, true, true, true, true, true, false, false, false, false, false, false, false, false, false, false, false, false, false, false, false, false, false, false] (any_of HT_.out (by kernel_rfl)) ?_
              refine pu 16 (some 61) #[true, true, true, true, true, true, true, true, true, true, true, true, true, true, true, true, true, false, false, false, false, false, false, false, false, false, false, false, false, false, false, false, false, false] (any_of HT_.out (by kernel_rfl)) ?_
              refine pu 17 (some 62) #[true, true, true, true, true, true, true, true, true, true, true, true, true, true, true, true, true, true, false, false, false, false, false, false, false, false, false, false, false, false, false, false, false, false] (any_of HT_.out (by kernel_rfl)) ?_
              refine pu 18 (some 63) #[true, true, true, true, true, true, true, true, true, true, true, true, true, true, true, true, true, true, true, false, false, false, false, false, false, false, false, false, false, false, false, false, false, false] (any_of HT_.out (by kernel_rfl)) ?_
              refine tk12 19 (some 64) #[true, true, true, true, true, true, true, true, true, true, true, true, true, true, true, true, true, true, true, true, false, false, false, false, false, false, false, false, false, false, false, false, false, false] (take_ofW HT_.out HW_.out (by kernel_rfl)) hHeld ?_
              refine tk12 21 (some 66) #[true, true, true, true, true, true, true, true, true, true, true, true, true, true, true, true, true, true, true, true, false, true, false, false, false, false, false, false, false, false, false, false, false, false] (take_ofW HT_.out HW_.out (by kernel_rfl)) hHeld ?_
              refine one_ (i := 20) (N := some 65) #[true, true, true, true, true, true, true, true, true, true, true, true, true, true, true, true, true, true, true, true, true, true, false, false, false, false, false, false, false, false, false, false, false, false] rfl rfl (one_of HT_.out (by kernel_rfl)) (by decide) (fun K hK => ?_)
              refine goes_ Try.func28 (by kernel_rfl) rfl #[.agg #[.int .i64 a0_0, .int .i64 a0_1, .int .i64 a0_2, .int .i64 a0_3]] (by rfl) rfl rfl (by (try simp only [List.map_toArray, List.map_cons, List.map_nil]); first | done | rfl | (simp only [List.length_drop, List.length_take]; rfl)) ?_
              with_reducible refine (span_Right.calls k a0_0 a0_1 a0_2 a0_3 t636 _ A30.out).mono ?_
              rintro e w39 ⟨rfl, hb⟩
              refine ⟨_, rfl, ?_⟩
              replace BK619 := bkb BK619 hb
              replace BK625 := bkb BK625 hb
              replace BK631 := bkb BK631 hb
              replace HB := bst HB hb
              (try clear hb)
              (try clear hb2)
              (try clear hk)
              (try clear hi)
              refine hK.out _ _ (c4 BK625 (c4 BK631 (e4 BK619))) (fun hHeld => ?_)
              clear hK K
              refine nrp 65 ?_
              refine one_ (i := 22) (N := some 67) #[true, true, true, true, true, true, true, true, true, true, true, true, true, true, true, true, true, true, true, true, true, true, true, false, false, false, false, false, false, false, false, false, false, false] rfl rfl (one_of HT_.out (by kernel_rfl)) (by decide) (fun K hK => ?_)
              refine goes_ Try.func12 (by kernel_rfl) rfl #[.agg #[.int .i64 a0_0, .int .i64 a0_1, .int .i64 a0_2, .int .i64 a0_3]] (by rfl) rfl rfl (by (try simp only [List.map_toArray, List.map_cons, List.map_nil]); first | done | rfl | (simp only [List.length_drop, List.length_take]; rfl)) ?_
              with_reducible refine (bocageref03_Right.calls k a0_0 a0_1 a0_2 a0_3 t637 _ A31.out).mono ?_
              rintro e w40 ⟨rfl, hb⟩
              refine ⟨_, rfl, ?_⟩
              replace BK619 := bkb BK619 hb
              replace BK625 := bkb BK625 hb
              replace BK631 := bkb BK631 hb
              replace HB := bst HB hb
              (try clear hb)
              (try clear hb2)
              (try clear hk)
              (try clear hi)
              refine hK.out _ _ (c4 BK625 (c4 BK631 (e4 BK619))) (fun hHeld => ?_)
              clear hK K
              refine nrp 67 ?_
              refine pu 23 (some 68) #[true, true, true, true, true, true, true, true, true, true, true, true, true, true, true, true, true, true, true, true, true, true, true, true, false, false, false, false, false, false, false, false, false, false] (any_of HT_.out (by kernel_rfl)) ?_
              refine pu 24 (some 69) #[true, true, true, true, true, true, true, true, true, true, true, true, true, true, true, true, true, true, true, true, true, true, true, true, true, false, false, false, false, false, false, false, false, false] (any_of HT_.out (by kernel_rfl)) ?_
              refine pu 25 (some 70) #[true, true, true, true, true, true, true, true, true, true, true, true, true, true, true, true, true, true, true, true, true, true, true, true, true, true, false, false, false, false, false, false, false, false] (any_of HT_.out (by kernel_rfl)) ?_
              refine pu 27 (some 72) #[true, true, true, true, true, true, true, true, true, true, true, true, true, true, true, true, true, true, true, true, true, true, true, true, true, true, false, true, false, false, false, false, false, false] (any_of HT_.out (by kernel_rfl)) ?_
              refine pu 30 (some 75) #[true, true, true, true, true, true, true, true, true, true, true, true, true, true, true, true, true, true, true, true, true, true, true, true, true, true, false, true, false, false, true, false, false, false] (any_of HT_.out (by kernel_rfl)) ?_
              refine tk12 26 (some 71) #[true, true, true, true, true, true, true, true, true, true, true, true, true, true, true, true, true, true, true, true, true, true, true, true, true, true, true, true, false, false, true, false, false, false] (take_ofW HT_.out HW_.out (by kernel_rfl)) hHeld ?_
              refine tk12 29 (some 74) #[true, true, true, true, true, true, true, true, true, true, true, true, true, true, true, true, true, true, true, true, true, true, true, true, true, true, true, true, false, true, true, false, false, false] (take_ofW HT_.out HW_.out (by kernel_rfl)) hHeld ?_
              refine one_ (i := 28) (N := some 73) #[true, true, true, true, true, true, true, true, true, true, true, true, true, true, true, true, true, true, true, true, true, true, true, true, true, true, true, true, true, true, true, false, false, false] rfl rfl (one_of HT_.out (by kernel_rfl)) (by decide) (fun K hK => ?_)
              refine goes_ Try.func29 (by kernel_rfl) rfl #[.agg #[.int .i64 a0_0, .int .i64 a0_1, .int .i64 a0_2, .int .i64 a0_3], .int .i64 a1] (by rfl) rfl rfl (by (try simp only [List.map_toArray, List.map_cons, List.map_nil]); first | done | rfl | (simp only [List.length_drop, List.length_take]; rfl)) ?_
              with_reducible refine (span_Has.calls k a0_0 a0_1 a0_2 a0_3 a1 t638 _ A36.out).mono ?_
              rintro e w41 ⟨rfl, hb⟩
              refine ⟨_, rfl, ?_⟩
              replace BK619 := bkb BK619 hb
              replace BK625 := bkb BK625 hb
              replace BK631 := bkb BK631 hb
              replace HB := bst HB hb
              (try clear hb)
              (try clear hb2)
              (try clear hk)
              (try clear hi)
              refine hK.out _ _ (c4 BK625 (c4 BK631 (e4 BK619))) (fun hHeld => ?_)
              clear hK K
              refine nrp 73 ?_
              refine one_ (i := 31) (N := some 76) #[true, true, true, true, true, true, true, true, true, true, true, true, true, true, true, true, true, true, true, true, true, true, true, true, true, true, true, true, true, true, true, true, false, false] rfl rfl (one_of HT_.out (by kernel_rfl)) (by decide) (fun K hK => ?_)
              refine goes_ Try.func30 (by kernel_rfl) rfl #[.agg #[.int .i64 a0_0, .int .i64 a0_1, .int .i64 a0_2, .int .i64 a0_3], .int .i64 a1] (by rfl) rfl rfl (by (try simp only [List.map_toArray, List.map_cons, List.map_nil]); first | done | rfl | (simp only [List.length_drop, List.length_take]; rfl)) ?_
              with_reducible refine (bocageref03_Has.calls k a0_0 a0_1 a0_2 a0_3 a1 t639 _ A37.out).mono ?_
              rintro e w42 ⟨rfl, hb⟩
              refine ⟨_, rfl, ?_⟩
              replace BK619 := bkb BK619 hb
              replace BK625 := bkb BK625 hb
              replace BK631 := bkb BK631 hb
              replace HB := bst HB hb
              (try clear hb)
              (try clear hb2)
              (try clear hk)
              (try clear hi)
              refine hK.out _ _ (c4 BK625 (c4 BK631 (e4 BK619))) (fun hHeld => ?_)
              clear hK K
              refine nrp 76 ?_
              refine pu 32 (some 77) #[true, true, true, true, true, true, true, true, true, true, true, true, true, true, true, true, true, true, true, true, true, true, true, true, true, true, true, true, true, true, true, true, true, false] (any_of HT_.out (by kernel_rfl)) ?_
              refine pu 33 (some 78) #[true, true, true, true, true, true, true, true, true, true, true, true, true, true, true, true, true, true, true, true, true, true, true, true, true, true, true, true, true, true, true, true, true, true] (any_of HT_.out (by kernel_rfl)) ?_
              refine done_ (done_of HT_.out (by kernel_rfl)) ?_
              try go_wp2
              go_meet
              case rel => exact ⟨_, ((t638 != t639)), (by first | rfl | (simp; done) | (simp [*]; done)), H', ⟨by first | omega | exact Nat.le_refl _⟩, ⟨bk BK619⟩, ⟨bk BK625⟩, ⟨bk BK631⟩, ⟨bl HB⟩⟩
        · rw [if_neg c27] at H
          have c27b0 : (t632 == t634) = false := beq_eq_false_iff_ne.mpr c27
          have c27b1 : (t632 != t634) = true := bne_iff_ne.mpr c27
          have H' := Aside0.mk H
          clear H
          try go_wp2
          replace BK619 := Aside0.mk (blk_drew BK619.out)
          replace BK625 := Aside0.mk (blk_drew BK625.out)
          replace BK631 := Aside0.mk (blk_drew BK631.out)
          replace HB := Aside0.mk (below_drew1 HB.out)
          refine start_ (n := 34) (S := fun w' => w'.cell? ⟨gb625, 0, none⟩ = some (.int .i64 t620) ∧ w'.cell? ⟨gb625, 1, none⟩ = some (.int .i64 t621) ∧ w'.cell? ⟨gb625, 2, none⟩ = some (.int .i64 t622) ∧ w'.cell? ⟨gb625, 3, none⟩ = some (.int .i64 t623) ∧ w'.cell? ⟨gb631, 0, none⟩ = some (.int .i64 t626) ∧ w'.cell? ⟨gb631, 1, none⟩ = some (.int .i64 t627) ∧ w'.cell? ⟨gb631, 2, none⟩ = some (.int .i64 t628) ∧ w'.cell? ⟨gb631, 3, none⟩ = some (.int .i64 t629)) (ds := []) #[false, false, false, false, false, false, false, false, false, false, false, false, false, false, false, false, false, false, false, false, false, false, false, false, false, false, false, false, false, false, false, false, false, false] (by kernel_rfl) rfl rfl (c4 BK625 (e4 BK631)) (fun hHeld => ?_); refine with_tabW bocagelaw03_SpanOne.tab5 bocagelaw03_SpanOne.bits5 (fun HT_ HW_ => ?_)
          generalize w23.drew = w43 at BK619 BK625 BK631 HB hHeld ⊢
          refine tk8 0 (some 45) #[true, false, false, false, false, false, false, false, false, false, false, false, false, false, false, false, false, false, false, false, false, false, false, false, false, false, false, false, false, false, false, false, false, false] (take_ofW HT_.out HW_.out (by kernel_rfl)) hHeld ?_
          refine tk8 1 (some 46) #[true, true, false, false, false, false, false, false, false, false, false, false, false, false, false, false, false, false, false, false, false, false, false, false, false, false, false, false, false, false, false, false, false, false] (take_ofW HT_.out HW_.out (by kernel_rfl)) hHeld ?_
          refine pu 2 (some 47) #[true, true, true, false, false, false, false, false, false, false, false, false, false, false, false, false, false, false, false, false, false, false, false, false, false, false, false, false, false, false, false, false, false, false] (any_of HT_.out (by kernel_rfl)) ?_
          refine pu 3 (some 48) #[true, true, true, true, false, false, false, false, false, false, false, false, false, false, false, false, false, false, false, false, false, false, false, false, false, false, false, false, false, false, false, false, false, false] (any_of HT_.out (by kernel_rfl)) ?_
          refine pu 4 (some 49) #[true, true, true, true, true, false, false, false, false, false, false, false, false, false, false, false, false, false, false, false, false, false, false, false, false, false, false, false, false, false, false, false, false, false] (any_of HT_.out (by kernel_rfl)) ?_
          refine pu 5 (some 50) #[true, true, true, true, true, true, false, false, false, false, false, false, false, false, false, false, false, false, false, false, false, false, false, false, false, false, false, false, false, false, false, false, false, false] (any_of HT_.out (by kernel_rfl)) ?_
          refine pu 6 (some 51) #[true, true, true, true, true, true, true, false, false, false, false, false, false, false, false, false, false, false, false, false, false, false, false, false, false, false, false, false, false, false, false, false, false, false] (any_of HT_.out (by kernel_rfl)) ?_
          refine pu 7 (some 52) #[true, true, true, true, true, true, true, true, false, false, false, false, false, false, false, false, false, false, false, false, false, false, false, false, false, false, false, false, false, false, false, false, false, false] (any_of HT_.out (by kernel_rfl)) ?_
          refine pu 8 (some 53) #[true, true, true, true, true, true, true, true, true, false, false, false, false, false, false, false, false, false, false, false, false, false, false, false, false, false, false, false, false, false, false, false, false, false] (any_of HT_.out (by kernel_rfl)) ?_
          refine pu 9 (some 54) #[true, true, true, true, true, true, true, true, true, true, false, false, false, false, false, false, false, false, false, false, false, false, false, false, false, false, false, false, false, false, false, false, false, false] (any_of HT_.out (by kernel_rfl)) ?_
          refine pu 10 (some 55) #[true, true, true, true, true, true, true, true, true, true, true, false, false, false, false, false, false, false, false, false, false, false, false, false, false, false, false, false, false, false, false, false, false, false] (any_of HT_.out (by kernel_rfl)) ?_
          refine pu 11 (some 56) #[true, true, true, true, true, true, true, true, true, true, true, true, false, false, false, false, false, false, false, false, false, false, false, false, false, false, false, false, false, false, false, false, false, false] (any_of HT_.out (by kernel_rfl)) ?_
          refine pu 12 (some 57) #[true, true, true, true, true, true, true, true, true, true, true, true, true, false, false, false, false, false, false, false, false, false, false, false, false, false, false, false, false, false, false, false, false, false] (any_of HT_.out (by kernel_rfl)) ?_
          refine pu 13 (some 58) #[true, true, true, true, true, true, true, true, true, true, true, true, true, true, false, false, false, false, false, false, false, false, false, false, false, false, false, false, false, false, false, false, false, false] (any_of HT_.out (by kernel_rfl)) ?_
          refine pv 14 (some 59) #[true, true, true, true, true, true, true, true, true, true, true, true, true, true, true, false, false, false, false, false, false, false, false, false, false, false, false, false, false, false, false, false, false, false] (any_of HT_.out (by kernel_rfl)) ?_
          refine pv 15 (some 60) #[true, true, true, true, true, true, true, true, true, true, true, true, true, true, true, true, false, false, false, false, false, false, false, false, false, false, false, false, false, false, false, false, false, false] (any_of HT_.out (by kernel_rfl)) ?_
          refine pv 16 (some 61) #[true, true, true, true, true, true, true, true, true, true, true, true, true, true, true, true, true, false, false, false, false, false, false, false, false, false, false, false, false, false, false, false, false, false] (any_of HT_.out (by kernel_rfl)) ?_
          refine pu 17 (some 62) #[true, true, true, true, true, true, true, true, true, true, true, true, true, true, true, true, true, true, false, false, false, false, false, false, false, false, false, false, false, false, false, false, false, false] (any_of HT_.out (by kernel_rfl)) ?_
          refine pu 18 (some 63) #[true, true, true, true, true, true, true, true, true, true, true, true, true, true, true, true, true, true, true, false, false, false, false, false, false, false, false, false, false, false, false, false, false, false] (any_of HT_.out (by kernel_rfl)) ?_
          refine pv 19 (some 64) #[true, true, true, true, true, true, true, true, true, true, true, true, true, true, true, true, true, true, true, true, false, false, false, false, false, false, false, false, false, false, false, false, false, false] (any_of HT_.out (by kernel_rfl)) ?_
          refine pv 20 (some 65) #[true, true, true, true, true, true, true, true, true, true, true, true, true, true, true, true, true, true, true, true, true, false, false, false, false, false, false, false, false, false, false, false, false, false] (any_of HT_.out (by kernel_rfl)) ?_
          refine pv 21 (some 66) #[true, true, true, true, true, true, true, true, true, true, true, true, true, true, true, true, true, true, true, true, true, true, false, false, false, false, false, false, false, false, false, false, false, false] (any_of HT_.out (by kernel_rfl)) ?_
          refine pv 22 (some 67) #[true, true, true, true, true, true, true, true, true, true, true, true, true, true, true, true, true, true, true, true, true, true, true, false, false, false, false, false, false, false, false, false, false, false] (any_of HT_.out (by kernel_rfl)) ?_
          refine pv 23 (some 68) #[true, true, true, true, true, true, true, true, true, true, true, true, true, true, true, true, true, true, true, true, true, true, true, true, false, false, false, false, false, false, false, false, false, false] (any_of HT_.out (by kernel_rfl)) ?_
          refine pu 24 (some 69) #[true, true, true, true, true, true, true, true, true, true, true, true, true, true, true, true, true, true, true, true, true, true, true, true, true, false, false, false, false, false, false, false, false, false] (any_of HT_.out (by kernel_rfl)) ?_
          refine pu 25 (some 70) #[true, true, true, true, true, true, true, true, true, true, true, true, true, true, true, true, true, true, true, true, true, true, true, true, true, true, false, false, false, false, false, false, false, false] (any_of HT_.out (by kernel_rfl)) ?_
          refine pv 26 (some 71) #[true, true, true, true, true, true, true, true, true, true, true, true, true, true, true, true, true, true, true, true, true, true, true, true, true, true, true, false, false, false, false, false, false, false] (any_of HT_.out (by kernel_rfl)) ?_
          refine pv 27 (some 72) #[true, true, true, true, true, true, true, true, true, true, true, true, true, true, true, true, true, true, true, true, true, true, true, true, true, true, true, true, false, false, false, false, false, false] (any_of HT_.out (by kernel_rfl)) ?_
          refine pv 28 (some 73) #[true, true, true, true, true, true, true, true, true, true, true, true, true, true, true, true, true, true, true, true, true, true, true, true, true, true, true, true, true, false, false, false, false, false] (any_of HT_.out (by kernel_rfl)) ?_
          refine pv 29 (some 74) #[true, true, true, true, true, true, true, true, true, true, true, true, true, true, true, true, true, true, true, true, true, true, true, true, true, true, true, true, true, true, false, false, false, false] (any_of HT_.out (by kernel_rfl)) ?_
          refine pv 30 (some 75) #[true, true, true, true, true, true, true, true, true, true, true, true, true, true, true, true, true, true, true, true, true, true, true, true, true, true, true, true, true, true, true, false, false, false] (any_of HT_.out (by kernel_rfl)) ?_
          refine pv 31 (some 76) #[true, true, true, true, true, true, true, true, true, true, true, true, true, true, true, true, true, true, true, true, true, true, true, true, true, true, true, true, true, true, true, true, false, false] (any_of HT_.out (by kernel_rfl)) ?_
          refine pv 32 (some 77) #[true, true, true, true, true, true, true, true, true, true, true, true, true, true, true, true, true, true, true, true, true, true, true, true, true, true, true, true, true, true, true, true, true, false] (any_of HT_.out (by kernel_rfl)) ?_
          refine pu 33 (some 78) #[true, true, true, true, true, true, true, true, true, true, true, true, true, true, true, true, true, true, true, true, true, true, true, true, true, true, true, true, true, true, true, true, true, true] (any_of HT_.out (by kernel_rfl)) ?_
          refine done_ (done_of HT_.out (by kernel_rfl)) ?_
          try go_wp2
          go_meet
          case rel => exact ⟨_, (true), (by first | rfl | (simp; done) | (simp [*]; done)), H', ⟨by first | omega | exact Nat.le_refl _⟩, ⟨bk BK619⟩, ⟨bk BK625⟩, ⟨bk BK631⟩, ⟨bl HB⟩⟩
      · rw [if_neg c26] at H
        have c26b0 : (t624 == t630) = false := beq_eq_false_iff_ne.mpr c26
        have c26b1 : (t624 != t630) = true := bne_iff_ne.mpr c26
        have H' := Aside0.mk H
        clear H
        try go_wp2
        replace BK619 := Aside0.mk (blk_drew BK619.out)
        replace BK625 := Aside0.mk (blk_drew BK625.out)
        replace BK631 := Aside0.mk (blk_drew BK631.out)
        replace HB := Aside0.mk (below_drew1 HB.out)
        refine start_ (n := 34) (S := fun w' => w'.cell? ⟨gb625, 0, none⟩ = some (.int .i64 t620) ∧ w'.cell? ⟨gb625, 1, none⟩ = some (.int .i64 t621) ∧ w'.cell? ⟨gb625, 2, none⟩ = some (.int .i64 t622) ∧ w'.cell? ⟨gb625, 3, none⟩ = some (.int .i64 t623) ∧ w'.cell? ⟨gb631, 0, none⟩ = some (.int .i64 t626) ∧ w'.cell? ⟨gb631, 1, none⟩ = some (.int .i64 t627) ∧ w'.cell? ⟨gb631, 2, none⟩ = some (.int .i64 t628) ∧ w'.cell? ⟨gb631, 3, none⟩ = some (.int .i64 t629)) (ds := []) #[false, false, false, false, false, false, false, false, false, false, false, false, false, false, false, false, false, false, false, false, false, false, false, false, false, false, false, false, false, false, false, false, false, false] (by kernel_rfl) rfl rfl (c4 BK625 (e4 BK631)) (fun hHeld => ?_); refine with_tabW bocagelaw03_SpanOne.tab5 bocagelaw03_SpanOne.bits5 (fun HT_ HW_ => ?_)
        generalize w23.drew = w44 at BK619 BK625 BK631 HB hHeld ⊢
        refine tk8 0 (some 45) #[true, false, false, false, false, false, false, false, false, false, false, false, false, false, false, false, false, false, false, false, false, false, false, false, false, false, false, false, false, false, false, false, false, false] (take_ofW HT_.out HW_.out (by kernel_rfl)) hHeld ?_
        refine tk8 1 (some 46) #[true, true, false, false, false, false, false, false, false, false, false, false, false, false, false, false, false, false, false, false, false, false, false, false, false, false, false, false, false, false, false, false, false, false] (take_ofW HT_.out HW_.out (by kernel_rfl)) hHeld ?_
        refine pu 2 (some 47) #[true, true, true, false, false, false, false, false, false, false, false, false, false, false, false, false, false, false, false, false, false, false, false, false, false, false, false, false, false, false, false, false, false, false] (any_of HT_.out (by kernel_rfl)) ?_
        refine pu 3 (some 48) #[true, true, true, true, false, false, false, false, false, false, false, false, false, false, false, false, false, false, false, false, false, false, false, false, false, false, false, false, false, false, false, false, false, false] (any_of HT_.out (by kernel_rfl)) ?_
        refine pu 4 (some 49) #[true, true, true, true, true, false, false, false, false, false, false, false, false, false, false, false, false, false, false, false, false, false, false, false, false, false, false, false, false, false, false, false, false, false] (any_of HT_.out (by kernel_rfl)) ?_
        refine pu 5 (some 50) #[true, true, true, true, true, true, false, false, false, false, false, false, false, false, false, false, false, false, false, false, false, false, false, false, false, false, false, false, false, false, false, false, false, false] (any_of HT_.out (by kernel_rfl)) ?_
        refine pu 6 (some 51) #[true, true, true, true, true, true, true, false, false, false, false, false, false, false, false, false, false, false, false, false, false, false, false, false, false, false, false, false, false, false, false, false, false, false] (any_of HT_.out (by kernel_rfl)) ?_
        refine pu 7 (some 52) #[true, true, true, true, true, true, true, true, false, false, false, false, false, false, false, false, false, false, false, false, false, false, false, false, false, false, false, false, false, false, false, false, false, false] (any_of HT_.out (by kernel_rfl)) ?_
        refine pu 8 (some 53) #[true, true, true, true, true, true, true, true, true, false, false, false, false, false, false, false, false, false, false, false, false, false, false, false, false, false, false, false, false, false, false, false, false, false] (any_of HT_.out (by kernel_rfl)) ?_
        refine pv 9 (some 54) #[true, true, true, true, true, true, true, true, true, true, false, false, false, false, false, false, false, false, false, false, false, false, false, false, false, false, false, false, false, false, false, false, false, false] (any_of HT_.out (by kernel_rfl)) ?_
        refine pv 10 (some 55) #[true, true, true, true, true, true, true, true, true, true, true, false, false, false, false, false, false, false, false, false, false, false, false, false, false, false, false, false, false, false, false, false, false, false] (any_of HT_.out (by kernel_rfl)) ?_
        refine pv 11 (some 56) #[true, true, true, true, true, true, true, true, true, true, true, true, false, false, false, false, false, false, false, false, false, false, false, false, false, false, false, false, false, false, false, false, false, false] (any_of HT_.out (by kernel_rfl)) ?_
        refine pu 12 (some 57) #[true, true, true, true, true, true, true, true, true, true, true, true, true, false, false, false, false, false, false, false, false, false, false, false, false, false, false, false, false, false, false, false, false, false] (any_of HT_.out (by kernel_rfl)) ?_
        refine pu 13 (some 58) #[true, true, true, true, true, true, true, true, true, true, true, true, true, true, false, false, false, false, false, false, false, false, false, false, false, false, false, false, false, false, false, false, false, false] (any_of HT_.out (by kernel_rfl)) ?_
        refine pv 14 (some 59) #[true, true, true, true, true, true, true, true, true, true, true, true, true, true, true, false, false, false, false, false, false, false, false, false, false, false, false, false, false, false, false, false, false, false] (any_of HT_.out (by kernel_rfl)) ?_
        refine pv 15 (some 60) #[true, true, true, true, true, true, true, true, true, true, true, true, true, true, true, true, false, false, false, false, false, false, false, false, false, false, false, false, false, false, false, false, false, false] (any_of HT_.out (by kernel_rfl)) ?_
        refine pv 16 (some 61) #[true, true, true, true, true, true, true, true, true, true, true, true, true, true, true, true, true, false, false, false, false, false, false, false, false, false, false, false, false, false, false, false, false, false] (any_of HT_.out (by kernel_rfl)) ?_
        refine pu 17 (some 62) #[true, true, true, true, true, true, true, true, true, true, true, true, true, true, true, true, true, true, false, false, false, false, false, false, false, false, false, false, false, false, false, false, false, false] (any_of HT_.out (by kernel_rfl)) ?_
        refine pu 18 (some 63) #[true, true, true, true, true, true, true, true, true, true, true, true, true, true, true, true, true, true, true, false, false, false, false, false, false, false, false, false, false, false, false, false, false, false] (any_of HT_.out (by kernel_rfl)) ?_
        refine pv 19 (some 64) #[true, true, true, true, true, true, true, true, true, true, true, true, true, true, true, true, true, true, true, true, false, false, false, false, false, false, false, false, false, false, false, false, false, false] (any_of HT_.out (by kernel_rfl)) ?_
        refine pv 20 (some 65) #[true, true, true, true, true, true, true, true, true, true, true, true, true, true, true, true, true, true, true, true, true, false, false, false, false, false, false, false, false, false, false, false, false, false] (any_of HT_.out (by kernel_rfl)) ?_
        refine pv 21 (some 66) #[true, true, true, true, true, true, true, true, true, true, true, true, true, true, true, true, true, true, true, true, true, true, false, false, false, false, false, false, false, false, false, false, false, false] (any_of HT_.out (by kernel_rfl)) ?_
        refine pv 22 (some 67) #[true, true, true, true, true, true, true, true, true, true, true, true, true, true, true, true, true, true, true, true, true, true, true, false, false, false, false, false, false, false, false, false, false, false] (any_of HT_.out (by kernel_rfl)) ?_
        refine pv 23 (some 68) #[true, true, true, true, true, true, true, true, true, true, true, true, true, true, true, true, true, true, true, true, true, true, true, true, false, false, false, false, false, false, false, false, false, false] (any_of HT_.out (by kernel_rfl)) ?_
        refine pu 24 (some 69) #[true, true, true, true, true, true, true, true, true, true, true, true, true, true, true, true, true, true, true, true, true, true, true, true, true, false, false, false, false, false, false, false, false, false] (any_of HT_.out (by kernel_rfl)) ?_
        refine pu 25 (some 70) #[true, true, true, true, true, true, true, true, true, true, true, true, true, true, true, true, true, true, true, true, true, true, true, true, true, true, false, false, false, false, false, false, false, false] (any_of HT_.out (by kernel_rfl)) ?_
        refine pv 26 (some 71) #[true, true, true, true, true, true, true, true, true, true, true, true, true, true, true, true, true, true, true, true, true, true, true, true, true, true, true, false, false, false, false, false, false, false] (any_of HT_.out (by kernel_rfl)) ?_
        refine pv 27 (some 72) #[true, true, true, true, true, true, true, true, true, true, true, true, true, true, true, true, true, true, true, true, true, true, true, true, true, true, true, true, false, false, false, false, false, false] (any_of HT_.out (by kernel_rfl)) ?_
        refine pv 28 (some 73) #[true, true, true, true, true, true, true, true, true, true, true, true, true, true, true, true, true, true, true, true, true, true, true, true, true, true, true, true, true, false, false, false, false, false] (any_of HT_.out (by kernel_rfl)) ?_
        refine pv 29 (some 74) #[true, true, true, true, true, true, true, true, true, true, true, true, true, true, true, true, true, true, true, true, true, true, true, true, true, true, true, true, true, true, false, false, false, false] (any_of HT_.out (by kernel_rfl)) ?_
        refine pv 30 (some 75) #[true, true, true, true, true, true, true, true, true, true, true, true, true, true, true, true, true, true, true, true, true, true, true, true, true, true, true, true, true, true, true, false, false, false] (any_of HT_.out (by kernel_rfl)) ?_
        refine pv 31 (some 76) #[true, true, true, true, true, true, true, true, true, true, true, true, true, true, true, true, true, true, true, true, true, true, true, true, true, true, true, true, true, true, true, true, false, false] (any_of HT_.out (by kernel_rfl)) ?_
        refine pv 32 (some 77) #[true, true, true, true, true, true, true, true, true, true, true, true, true, true, true, true, true, true, true, true, true, true, true, true, true, true, true, true, true, true, true, true, true, false] (any_of HT_.out (by kernel_rfl)) ?_
        refine pu 33 (some 78) #[true, true, true, true, true, true, true, true, true, true, true, true, true, true, true, true, true, true, true, true, true, true, true, true, true, true, true, true, true, true, true, true, true, true] (any_of HT_.out (by kernel_rfl)) ?_
        refine done_ (done_of HT_.out (by kernel_rfl)) ?_
        try go_wp2
        go_meet
        case rel => exact ⟨_, (true), (by first | rfl | (simp; done) | (simp [*]; done)), H', ⟨by first | omega | exact Nat.le_refl _⟩, ⟨bk BK619⟩, ⟨bk BK625⟩, ⟨bk BK631⟩, ⟨bl HB⟩⟩
  case rest =>
    clear HC7
    try clear c2
    try clear p2
    try clear c3
    try clear c26
    try clear c26b0
    try clear c26b1
    try clear c27
    try clear c27b0
    try clear c27b1
    try clear c29
    try clear c30
    obtain ⟨kq, x78_6, rfl, HA, HJ6, BK619, BK625, BK631, HB⟩ := hcut
    cases kq with
    | zero => exact absurd HA.out (by simp [bocagelaw03_SpanOne.j0])
    | succ kj6 =>
      have H := HA.out
      clear HA
      simp only [bocagelaw03_SpanOne.j0] at H
      by_cases c45 : x78_6 = true
      · subst c45
        have H1 : (some false) = some r := by rw [if_pos rfl] at H; exact H
        exact absurd ((Option.some.inj H1).trans HRT.out) Bool.false_ne_true
      · replace c45 := Bool.eq_false_iff.mpr c45
        subst c45
        have H1 : ((span_Ends.f kj6 a0_0 a0_1 a0_2 a0_3).bind fun bt640 => ((bocageref03_Right.f kj6 a0_0 a0_1 a0_2 a0_3).bind fun t642 => (if t642 = true then ((bocageref02_Next.f kj6 a0_0 a0_1).bind fun bt644 => ((bocageref02_Prev.f kj6 a0_2 a0_3).bind fun bt646 => ((bocagelaw03_alive.f kj6).bind fun t648 => (if t648 = true then (if bt640.1 = bt644.1 then (if bt640.2 = bt646.1 then ((span_Has.f kj6 a0_0 a0_1 a0_2 a0_3 bt640.1).bind fun t649 => (if t649 = true then ((span_Has.f kj6 a0_0 a0_1 a0_2 a0_3 bt640.2).bind fun t650 => (if t650 = true then ((span_Point.f kj6 a1).bind fun bt651 => ((bocageref02_Ahead.f kj6 a1).bind fun bt655 => ((bocageref02_Behind.f a1).bind fun bt657 => (some ((bt651.1 == bt655.1 && (bt651.2.1 == bt655.2)) && ((bt651.2.2.1 == bt657.1 && (bt651.2.2.2 == bt657.2)))))))) else (some false))) else (some false))) else (some false)) else (some false)) else (some false))))) else ((bocagelaw03_alive.f kj6).bind fun t643 => (if t643 = true then (if bt640.1 = 0 then (some (bt640.2 == 0)) else (some false)) else (some false)))))) = some r := by rw [if_neg (show ¬ (false = true) by decide)] at H; exact H
        clear H
        have H := H1
        clear H1
        replace H := Option.bind_eq_some_iff.mp H
        obtain ⟨⟨t640, t641⟩, A460, H⟩ := H
        (try (set_option simprocs false in dsimp only at H))
        have A46 := Aside0.mk A460
        clear A460
        replace H := Option.bind_eq_some_iff.mp H
        obtain ⟨t642, A470, H⟩ := H
        (try (set_option simprocs false in dsimp only at H))
        have A47 := Aside0.mk A470
        clear A470
        by_cases c48 : t642 = true
        · subst c48
          have H1 : ((bocageref02_Next.f kj6 a0_0 a0_1).bind fun bt644 => ((bocageref02_Prev.f kj6 a0_2 a0_3).bind fun bt646 => ((bocagelaw03_alive.f kj6).bind fun t648 => (if t648 = true then (if t640 = bt644.1 then (if t641 = bt646.1 then ((span_Has.f kj6 a0_0 a0_1 a0_2 a0_3 t640).bind fun t649 => (if t649 = true then ((span_Has.f kj6 a0_0 a0_1 a0_2 a0_3 t641).bind fun t650 => (if t650 = true then ((span_Point.f kj6 a1).bind fun bt651 => ((bocageref02_Ahead.f kj6 a1).bind fun bt655 => ((bocageref02_Behind.f a1).bind fun bt657 => (some ((bt651.1 == bt655.1 && (bt651.2.1 == bt655.2)) && ((bt651.2.2.1 == bt657.1 && (bt651.2.2.2 == bt657.2)))))))) else (some false))) else (some false))) else (some false)) else (some false)) else (some false))))) = some r := by rw [if_pos rfl] at H; exact H
          clear H
          have H := H1
          clear H1
          replace H := Option.bind_eq_some_iff.mp H
          obtain ⟨⟨t644, t645⟩, A490, H⟩ := H
          (try (set_option simprocs false in dsimp only at H))
          have A49 := Aside0.mk A490
          clear A490
          replace H := Option.bind_eq_some_iff.mp H
          obtain ⟨⟨t646, t647⟩, A500, H⟩ := H
          (try (set_option simprocs false in dsimp only at H))
          have A50 := Aside0.mk A500
          clear A500
          replace H := Option.bind_eq_some_iff.mp H
          obtain ⟨t648, A510, H⟩ := H
          (try (set_option simprocs false in dsimp only at H))
          have A51 := Aside0.mk A510
          clear A510
          by_cases c52 : t648 = true
          · subst c52
            have H1 : (if t640 = t644 then (if t641 = t646 then ((span_Has.f kj6 a0_0 a0_1 a0_2 a0_3 t640).bind fun t649 => (if t649 = true then ((span_Has.f kj6 a0_0 a0_1 a0_2 a0_3 t641).bind fun t650 => (if t650 = true then ((span_Point.f kj6 a1).bind fun bt651 => ((bocageref02_Ahead.f kj6 a1).bind fun bt655 => ((bocageref02_Behind.f a1).bind fun bt657 => (some ((bt651.1 == bt655.1 && (bt651.2.1 == bt655.2)) && ((bt651.2.2.1 == bt657.1 && (bt651.2.2.2 == bt657.2)))))))) else (some false))) else (some false))) else (some false)) else (some false)) = some r := by rw [if_pos rfl] at H; exact H
            clear H
            have H := H1
            clear H1
            by_cases c53 : t640 = t644
            · rw [if_pos c53] at H
              have c53b0 : (t640 == t644) = true := beq_iff_eq.mpr c53
              have c53b1 : (t640 != t644) = false := bne_eq_false_iff_eq.mpr c53
              clear c53
              by_cases c54 : t641 = t646
              · rw [if_pos c54] at H
                have c54b0 : (t641 == t646) = true := beq_iff_eq.mpr c54
                have c54b1 : (t641 != t646) = false := bne_eq_false_iff_eq.mpr c54
                clear c54
                replace H := Option.bind_eq_some_iff.mp H
                obtain ⟨t649, A550, H⟩ := H
                (try (set_option simprocs false in dsimp only at H))
                have A55 := Aside0.mk A550
                clear A550
                by_cases c56 : t649 = true
                · subst c56
                  have H1 : ((span_Has.f kj6 a0_0 a0_1 a0_2 a0_3 t641).bind fun t650 => (if t650 = true then ((span_Point.f kj6 a1).bind fun bt651 => ((bocageref02_Ahead.f kj6 a1).bind fun bt655 => ((bocageref02_Behind.f a1).bind fun bt657 => (some ((bt651.1 == bt655.1 && (bt651.2.1 == bt655.2)) && ((bt651.2.2.1 == bt657.1 && (bt651.2.2.2 == bt657.2)))))))) else (some false))) = some r := by rw [if_pos rfl] at H; exact H
                  clear H
                  have H := H1
                  clear H1
                  replace H := Option.bind_eq_some_iff.mp H
                  obtain ⟨t650, A570, H⟩ := H
                  (try (set_option simprocs false in dsimp only at H))
                  have A57 := Aside0.mk A570
                  clear A570
                  by_cases c58 : t650 = true
                  · subst c58
                    have H1 : ((span_Point.f kj6 a1).bind fun bt651 => ((bocageref02_Ahead.f kj6 a1).bind fun bt655 => ((bocageref02_Behind.f a1).bind fun bt657 => (some ((bt651.1 == bt655.1 && (bt651.2.1 == bt655.2)) && ((bt651.2.2.1 == bt657.1 && (bt651.2.2.2 == bt657.2)))))))) = some r := by rw [if_pos rfl] at H; exact H
                    clear H
                    have H := H1
                    clear H1
                    replace H := Option.bind_eq_some_iff.mp H
                    obtain ⟨⟨t651, t652, t653, t654⟩, A590, H⟩ := H
                    (try (set_option simprocs false in dsimp only at H))
                    have A59 := Aside0.mk A590
                    clear A590
                    replace H := Option.bind_eq_some_iff.mp H
                    obtain ⟨⟨t655, t656⟩, A600, H⟩ := H
                    (try (set_option simprocs false in dsimp only at H))
                    have A60 := Aside0.mk A600
                    clear A600
                    replace H := Option.bind_eq_some_iff.mp H
                    obtain ⟨⟨t657, t658⟩, A610, H⟩ := H
                    (try (set_option simprocs false in dsimp only at H))
                    have A61 := Aside0.mk A610
                    clear A610
                    obtain rfl := Option.some.inj H
                    have hnb62 := NB619_625.out
                    have hnc62 := NB625_619.out
                    have hnb63 := NB619_631.out
                    have hnc63 := NB631_619.out
                    have hcz64_0 : wc.cell? ⟨gb619, 0, none⟩ = some (.int .i64 a0_0) := (blk_cell BK619.out 0).trans rfl
                    have hcz64_1 : wc.cell? ⟨gb619, 1, none⟩ = some (.int .i64 a0_1) := (blk_cell BK619.out 1).trans rfl
                    have hcz64_2 : wc.cell? ⟨gb619, 2, none⟩ = some (.int .i64 a0_2) := (blk_cell BK619.out 2).trans rfl
                    have hcz64_3 : wc.cell? ⟨gb619, 3, none⟩ = some (.int .i64 a0_3) := (blk_cell BK619.out 3).trans rfl
                    have hfz64_0 := blk_frozen BK619.out 0
                    have hfz64_1 := blk_frozen BK619.out 1
                    have hfz64_2 := blk_frozen BK619.out 2
                    have hfz64_3 := blk_frozen BK619.out 3
                    go_wp2_with (first | ((with_reducible refine gate_callee (f := 31) rfl ?_); refine gol (some 81) Try.func31 #[.agg #[.int .i64 a0_0, .int .i64 a0_1, .int .i64 a0_2, .int .i64 a0_3]] ?_; (with_reducible refine (span_Ends.calls kj6 a0_0 a0_1 a0_2 a0_3 t640 t641 _ A46.out).mono ?_); rintro e w65 ⟨rfl, hb⟩; refine ⟨_, rfl, ?_⟩; replace BK619 := bkb BK619 hb; replace BK625 := bkb BK625 hb; replace BK631 := bkb BK631 hb; replace HB := bst HB hb; (try clear hb); (try clear hb2); (try clear hk); (try clear hi); obtain ⟨hcz66_0, hcz66_1, hcz66_2, hcz66_3⟩ := e4 BK619; obtain ⟨hfz66_0, hfz66_1, hfz66_2, hfz66_3⟩ := f4 BK619) | ((with_reducible refine gate_callee (f := 12) rfl ?_); refine gol (some 85) Try.func12 #[.agg #[.int .i64 a0_0, .int .i64 a0_1, .int .i64 a0_2, .int .i64 a0_3]] ?_; (with_reducible refine (bocageref03_Right.calls kj6 a0_0 a0_1 a0_2 a0_3 true _ A47.out).mono ?_); rintro e w67 ⟨rfl, hb⟩; refine ⟨_, rfl, ?_⟩; replace BK619 := bkb BK619 hb; replace BK625 := bkb BK625 hb; replace BK631 := bkb BK631 hb; replace HB := bst HB hb; (try clear hb); (try clear hb2); (try clear hk); (try clear hi); obtain ⟨hcz68_0, hcz68_1, hcz68_2, hcz68_3⟩ := e4 BK619; obtain ⟨hfz68_0, hfz68_1, hfz68_2, hfz68_3⟩ := f4 BK619) | ((with_reducible refine gate_callee (f := 32) rfl ?_); refine gol (some 99) Try.func32 #[.agg #[.int .i64 a0_0, .int .i64 a0_1]] ?_; (with_reducible refine (bocageref02_Next.calls kj6 a0_0 a0_1 t644 t645 _ A49.out).mono ?_); rintro e w69 ⟨rfl, hb⟩; refine ⟨_, rfl, ?_⟩; replace BK619 := bkb BK619 hb; replace BK625 := bkb BK625 hb; replace BK631 := bkb BK631 hb; replace HB := bst HB hb; (try clear hb); (try clear hb2); (try clear hk); (try clear hi); obtain ⟨hcz70_0, hcz70_1, hcz70_2, hcz70_3⟩ := e4 BK619; obtain ⟨hfz70_0, hfz70_1, hfz70_2, hfz70_3⟩ := f4 BK619) | ((with_reducible refine gate_callee (f := 33) rfl ?_); refine gol (some 105) Try.func33 #[.agg #[.int .i64 a0_2, .int .i64 a0_3]] ?_; (with_reducible refine (bocageref02_Prev.calls kj6 a0_2 a0_3 t646 t647 _ A50.out).mono ?_); rintro e w71 ⟨rfl, hb⟩; refine ⟨_, rfl, ?_⟩; replace BK619 := bkb BK619 hb; replace BK625 := bkb BK625 hb; replace BK631 := bkb BK631 hb; replace HB := bst HB hb; (try clear hb); (try clear hb2); (try clear hk); (try clear hi)) | ((with_reducible refine gate_callee (f := 18) rfl ?_); refine gol (some 108) Try.func18 #[] ?_; (with_reducible refine (bocagelaw03_alive.calls kj6  true _ A51.out rfl).mono ?_); rintro e w72 ⟨rfl, hb⟩; refine ⟨_, rfl, ?_⟩; replace BK619 := bkb BK619 hb; replace BK625 := bkb BK625 hb; replace BK631 := bkb BK631 hb; replace HB := bst HB hb; (try clear hb); (try clear hb2); (try clear hk); (try clear hi); obtain ⟨hcz73_0, hcz73_1, hcz73_2, hcz73_3⟩ := e4 BK619; obtain ⟨hfz73_0, hfz73_1, hfz73_2, hfz73_3⟩ := f4 BK619) | (go_at_call 29; (with_reducible refine (span_Has.calls kj6 a0_0 a0_1 a0_2 a0_3 t640 true _ A55.out).mono ?_); rintro e w74 ⟨rfl, hb⟩; replace BK619 := bkb BK619 hb; replace BK625 := bkb BK625 hb; replace BK631 := bkb BK631 hb; replace HB := bst HB hb; (try clear hb); (try clear hb2); (try clear hk); (try clear hi); obtain ⟨hcz75_0, hcz75_1, hcz75_2, hcz75_3⟩ := e4 BK619; obtain ⟨hfz75_0, hfz75_1, hfz75_2, hfz75_3⟩ := f4 BK619) | (go_at_call 29; (with_reducible refine (span_Has.calls kj6 a0_0 a0_1 a0_2 a0_3 t641 true _ A57.out).mono ?_); rintro e w76 ⟨rfl, hb⟩; replace BK619 := bkb BK619 hb; replace BK625 := bkb BK625 hb; replace BK631 := bkb BK631 hb; replace HB := bst HB hb; (try clear hb); (try clear hb2); (try clear hk); (try clear hi)) | (go_at_call 34; (with_reducible refine (span_Point.calls kj6 a1 t651 t652 t653 t654 _ A59.out).mono ?_); rintro e w77 ⟨rfl, hb⟩; replace BK619 := bkb BK619 hb; replace BK625 := bkb BK625 hb; replace BK631 := bkb BK631 hb; replace HB := bst HB hb; (try clear hb); (try clear hb2); (try clear hk); (try clear hi)) | (go_at_call 35; (with_reducible refine (bocageref02_Ahead.calls kj6 a1 t655 t656 _ A60.out).mono ?_); rintro e w78 ⟨rfl, hb⟩; replace BK619 := bkb BK619 hb; replace BK625 := bkb BK625 hb; replace BK631 := bkb BK631 hb; replace HB := bst HB hb; (try clear hb); (try clear hb2); (try clear hk); (try clear hi)) | (go_at_call 36; (with_reducible refine (bocageref02_Behind.calls a1 t657 t658 _ A61.out).mono ?_); rintro e w79 ⟨rfl, hb⟩; replace BK619 := bkb BK619 hb; replace BK625 := bkb BK625 hb; replace BK631 := bkb BK631 hb; replace HB := bst HB hb; (try clear hb); (try clear hb2); (try clear hk); (try clear hi)))
                    go_ret
                    exact endB HB
                  · replace c58 := Bool.eq_false_iff.mpr c58
                    subst c58
                    have H1 : (some false) = some r := by rw [if_neg (show ¬ (false = true) by decide)] at H; exact H
                    exact absurd ((Option.some.inj H1).trans HRT.out) Bool.false_ne_true
                · replace c56 := Bool.eq_false_iff.mpr c56
                  subst c56
                  have H1 : (some false) = some r := by rw [if_neg (show ¬ (false = true) by decide)] at H; exact H
                  exact absurd ((Option.some.inj H1).trans HRT.out) Bool.false_ne_true
              · rw [if_neg c54] at H
                exact absurd ((Option.some.inj H).trans HRT.out) Bool.false_ne_true
            · rw [if_neg c53] at H
              exact absurd ((Option.some.inj H).trans HRT.out) Bool.false_ne_true
          · replace c52 := Bool.eq_false_iff.mpr c52
            subst c52
            have H1 : (some false) = some r := by rw [if_neg (show ¬ (false = true) by decide)] at H; exact H
            exact absurd ((Option.some.inj H1).trans HRT.out) Bool.false_ne_true
        · replace c48 := Bool.eq_false_iff.mpr c48
          subst c48
          have H1 : ((bocagelaw03_alive.f kj6).bind fun t643 => (if t643 = true then (if t640 = 0 then (some (t641 == 0)) else (some false)) else (some false))) = some r := by rw [if_neg (show ¬ (false = true) by decide)] at H; exact H
          clear H
          have H := H1
          clear H1
          replace H := Option.bind_eq_some_iff.mp H
          obtain ⟨t643, A1410, H⟩ := H
          (try (set_option simprocs false in dsimp only at H))
          have A141 := Aside0.mk A1410
          clear A1410
          by_cases c142 : t643 = true
          · subst c142
            have H1 : (if t640 = 0 then (some (t641 == 0)) else (some false)) = some r := by rw [if_pos rfl] at H; exact H
            clear H
            have H := H1
            clear H1
            by_cases c143 : t640 = 0
            · rw [if_pos c143] at H
              have c143b0 : (t640 == 0) = true := beq_iff_eq.mpr c143
              have c143b1 : (t640 != 0) = false := bne_eq_false_iff_eq.mpr c143
              clear c143
              obtain rfl := Option.some.inj H
              have hnb144 := NB619_625.out
              have hnc144 := NB625_619.out
              have hnb145 := NB619_631.out
              have hnc145 := NB631_619.out
              have hcz146_0 : wc.cell? ⟨gb619, 0, none⟩ = some (.int .i64 a0_0) := (blk_cell BK619.out 0).trans rfl
              have hcz146_1 : wc.cell? ⟨gb619, 1, none⟩ = some (.int .i64 a0_1) := (blk_cell BK619.out 1).trans rfl
              have hcz146_2 : wc.cell? ⟨gb619, 2, none⟩ = some (.int .i64 a0_2) := (blk_cell BK619.out 2).trans rfl
              have hcz146_3 : wc.cell? ⟨gb619, 3, none⟩ = some (.int .i64 a0_3) := (blk_cell BK619.out 3).trans rfl
              have hfz146_0 := blk_frozen BK619.out 0
              have hfz146_1 := blk_frozen BK619.out 1
              have hfz146_2 := blk_frozen BK619.out 2
              have hfz146_3 := blk_frozen BK619.out 3
              go_wp2_with (first | ((with_reducible refine gate_callee (f := 31) rfl ?_); refine gol (some 81) Try.func31 #[.agg #[.int .i64 a0_0, .int .i64 a0_1, .int .i64 a0_2, .int .i64 a0_3]] ?_; (with_reducible refine (span_Ends.calls kj6 a0_0 a0_1 a0_2 a0_3 t640 t641 _ A46.out).mono ?_); rintro e w147 ⟨rfl, hb⟩; refine ⟨_, rfl, ?_⟩; replace BK619 := bkb BK619 hb; replace BK625 := bkb BK625 hb; replace BK631 := bkb BK631 hb; replace HB := bst HB hb; (try clear hb); (try clear hb2); (try clear hk); (try clear hi); obtain ⟨hcz148_0, hcz148_1, hcz148_2, hcz148_3⟩ := e4 BK619; obtain ⟨hfz148_0, hfz148_1, hfz148_2, hfz148_3⟩ := f4 BK619) | ((with_reducible refine gate_callee (f := 12) rfl ?_); refine gol (some 85) Try.func12 #[.agg #[.int .i64 a0_0, .int .i64 a0_1, .int .i64 a0_2, .int .i64 a0_3]] ?_; (with_reducible refine (bocageref03_Right.calls kj6 a0_0 a0_1 a0_2 a0_3 false _ A47.out).mono ?_); rintro e w149 ⟨rfl, hb⟩; refine ⟨_, rfl, ?_⟩; replace BK619 := bkb BK619 hb; replace BK625 := bkb BK625 hb; replace BK631 := bkb BK631 hb; replace HB := bst HB hb; (try clear hb); (try clear hb2); (try clear hk); (try clear hi)) | ((with_reducible refine gate_callee (f := 18) rfl ?_); refine gol (some 87) Try.func18 #[] ?_; (with_reducible refine (bocagelaw03_alive.calls kj6  true _ A141.out rfl).mono ?_); rintro e w150 ⟨rfl, hb⟩; refine ⟨_, rfl, ?_⟩; replace BK619 := bkb BK619 hb; replace BK625 := bkb BK625 hb; replace BK631 := bkb BK631 hb; replace HB := bst HB hb; (try clear hb); (try clear hb2); (try clear hk); (try clear hi)))
              go_ret
              exact endB HB
            · rw [if_neg c143] at H
              exact absurd ((Option.some.inj H).trans HRT.out) Bool.false_ne_true
          · replace c142 := Bool.eq_false_iff.mpr c142
            subst c142
            have H1 : (some false) = some r := by rw [if_neg (show ¬ (false = true) by decide)] at H; exact H
            exact absurd ((Option.some.inj H1).trans HRT.out) Bool.false_ne_true
end
end Go.Proofs.Ytkkbmjfhpngalaa.Print
