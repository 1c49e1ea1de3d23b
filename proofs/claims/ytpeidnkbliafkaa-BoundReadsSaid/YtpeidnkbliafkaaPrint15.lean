-- Laid by wip/print/bprint.py of this repo, over the kit's printer, with functions given by hand; not trusted: Lean checks it.
import Derived.Test.YtpeidnkbliafkaaHBnd2
import Derived.Test.YtpeidnkbliafkaaHBnd4
import Derived.Test.YtpeidnkbliafkaaPrint0
import Derived.Test.YtpeidnkbliafkaaPrint14
import Derived.Test.YtpeidnkbliafkaaPrint4
import Derived.Test.YtpeidnkbliafkaaPrint8
import Derived.Test.YtpeidnkbliafkaaSh
namespace Go.Proofs.Ytpeidnkbliafkaa.Print
open Go.RowKit Go.Proofs.YtpeidnkbliafkaaW.PrintWords Go.Proofs.YtpeidnkbliafkaaW.PrintLast Go.Proofs.YtpeidnkbliafkaaW.PrintMore
attribute [local go_sem] max2_int min2_int max_two min_two max_three min_three max_four min_four   -- for this text's walks alone
set_option linter.unusedVariables false
set_option linter.unusedSimpArgs false
/-! ### bocageref04_Read: function 13 -/
def bocageref04_Read.f (k : Nat) (a0 : ByteArray) : Option (Int × Int × Int × Int × Int × Int) := (bocageref04_read.f k a0 false).bind fun bt505 => (some (bt505.1, bt505.2.1, bt505.2.2.1, bt505.2.2.2.1, bt505.2.2.2.2.1, bt505.2.2.2.2.2))
theorem bocageref04_Read.mono : ∀ a0 k, LeO (bocageref04_Read.f k a0) (bocageref04_Read.f (k + 1) a0) := by
 intro a0 k
 unfold bocageref04_Read.f
 repeat' first
   | (with_reducible exact bocageref04_read.mono _ _ _)
   | (with_reducible exact LeO.refl _)
   | (with_reducible exact LeO.none _)
   | (with_reducible refine LeO.ite ?_ ?_)
   | (with_reducible refine LeO.bind ?_ (fun _ => ?_))
   | exact bocageref04_read.mono _ _ _
   | exact LeO.none _
   | refine LeO.ite ?_ ?_
   | refine LeO.bind ?_ (fun _ => ?_)
set_option maxHeartbeats 8000000 in
set_option maxRecDepth 100000 in
theorem bocageref04_Read.calls (k : Nat) (a0 : ByteArray) (r1 : Int) (r2 : Int) (r3 : Int) (r4 : Int) (r5 : Int) (r6 : Int) (w : World) (h : bocageref04_Read.f k a0 = some (r1, r2, r3, r4, r5, r6)) :
  Calls Try.prog 13 #[.string a0] w fun e w' => e = .returned (.tuple #[.agg #[.int .i64 r1, .int .i64 r2, .int .i64 r3, .int .i64 r4], .int .i64 r5, .int .i64 r6]) ∧ Below w.heap.size w w' := by
 have hu27 := Try.underlying27
 have HB := Aside0.mk (Below.refl w.heap.size w)
 have H : ((bocageref04_read.f k a0 false).bind fun bt505 => (some (bt505.1, bt505.2.1, bt505.2.2.1, bt505.2.2.2.1, bt505.2.2.2.2.1, bt505.2.2.2.2.2))) = some (r1, r2, r3, r4, r5, r6) := h
 clear h
 replace H := Option.bind_eq_some_iff.mp H
 obtain ⟨⟨t505, t506, t507, t508, t509, t510⟩, A20, H⟩ := H
 replace H : (some (t505, t506, t507, t508, t509, t510)) = some (r1, r2, r3, r4, r5, r6) := H
 have A2 := Aside0.mk A20
 clear A20
 simp only [Option.some.injEq, Prod.mk.injEq] at H
 obtain ⟨rfl, rfl, rfl, rfl, rfl, rfl⟩ := H
 go_enter Try.func13, Try.ntmps13
 go_wp2_with (first | ((with_reducible refine gate_dst (N := 2) rfl ?_); refine bxe (N := 2) (cs := #[.int .i64 0, .int .i64 0, .int .i64 0, .int .i64 0]) (t := 27) ?_; intro gb504 hg w3 hbox hb; have BK504 := Aside0.mk (hbox); have GW504 := lsz hg HB; have GE504 := lsz hg HB; replace HB := bst HB hb; clear hb hbox hg) | ((with_reducible refine gate_callee (f := 42) rfl ?_); refine gol (some 6) Try.func42 #[.string a0, .bool false] ?_; (with_reducible refine (bocageref04_read.calls k a0 false t505 t506 t507 t508 t509 t510 _ A2.out).mono ?_); rintro e w4 ⟨rfl, hb⟩; refine ⟨_, rfl, ?_⟩; replace BK504 := bkb BK504 hb; replace HB := bst HB hb; (try clear hb); (try clear hb2); (try clear hk); (try clear hi); obtain ⟨hcz5_0, hcz5_1, hcz5_2, hcz5_3⟩ := e4 BK504; obtain ⟨hfz5_0, hfz5_1, hfz5_2, hfz5_3⟩ := f4 BK504))
 refine bodyPost_ret (results_ctt rfl _ _ gb504 27 #[.int .i64 t505, .int .i64 t506, .int .i64 t507, .int .i64 t508] (0, 0) _ rfl (bkp BK504) Try.underlying27 rfl (by kernel_rfl)) rfl ?_
 exact endB HB
/-! ### bocageref04_Loose: function 15 -/
def bocageref04_Loose.f (k : Nat) (a0 : ByteArray) : Option (Int × Int × Int × Int × Int × Int) := (bocageref04_read.f k a0 true).bind fun bt512 => (some (bt512.1, bt512.2.1, bt512.2.2.1, bt512.2.2.2.1, bt512.2.2.2.2.1, bt512.2.2.2.2.2))
theorem bocageref04_Loose.mono : ∀ a0 k, LeO (bocageref04_Loose.f k a0) (bocageref04_Loose.f (k + 1) a0) := by
 intro a0 k
 unfold bocageref04_Loose.f
 repeat' first
   | (with_reducible exact bocageref04_read.mono _ _ _)
   | (with_reducible exact LeO.refl _)
   | (with_reducible exact LeO.none _)
   | (with_reducible refine LeO.ite ?_ ?_)
   | (with_reducible refine LeO.bind ?_ (fun _ => ?_))
   | exact bocageref04_read.mono _ _ _
   | exact LeO.none _
   | refine LeO.ite ?_ ?_
   | refine LeO.bind ?_ (fun _ => ?_)
set_option maxHeartbeats 8000000 in
set_option maxRecDepth 100000 in
theorem bocageref04_Loose.calls (k : Nat) (a0 : ByteArray) (r1 : Int) (r2 : Int) (r3 : Int) (r4 : Int) (r5 : Int) (r6 : Int) (w : World) (h : bocageref04_Loose.f k a0 = some (r1, r2, r3, r4, r5, r6)) :
  Calls Try.prog 15 #[.string a0] w fun e w' => e = .returned (.tuple #[.agg #[.int .i64 r1, .int .i64 r2, .int .i64 r3, .int .i64 r4], .int .i64 r5, .int .i64 r6]) ∧ Below w.heap.size w w' := by
 have hu27 := Try.underlying27
 have HB := Aside0.mk (Below.refl w.heap.size w)
 have H : ((bocageref04_read.f k a0 true).bind fun bt512 => (some (bt512.1, bt512.2.1, bt512.2.2.1, bt512.2.2.2.1, bt512.2.2.2.2.1, bt512.2.2.2.2.2))) = some (r1, r2, r3, r4, r5, r6) := h
 clear h
 replace H := Option.bind_eq_some_iff.mp H
 obtain ⟨⟨t512, t513, t514, t515, t516, t517⟩, A20, H⟩ := H
 replace H : (some (t512, t513, t514, t515, t516, t517)) = some (r1, r2, r3, r4, r5, r6) := H
 have A2 := Aside0.mk A20
 clear A20
 simp only [Option.some.injEq, Prod.mk.injEq] at H
 obtain ⟨rfl, rfl, rfl, rfl, rfl, rfl⟩ := H
 go_enter Try.func15, Try.ntmps15
 go_wp2_with (first | ((with_reducible refine gate_dst (N := 2) rfl ?_); refine bxe (N := 2) (cs := #[.int .i64 0, .int .i64 0, .int .i64 0, .int .i64 0]) (t := 27) ?_; intro gb511 hg w3 hbox hb; have BK511 := Aside0.mk (hbox); have GW511 := lsz hg HB; have GE511 := lsz hg HB; replace HB := bst HB hb; clear hb hbox hg) | ((with_reducible refine gate_callee (f := 42) rfl ?_); refine gol (some 6) Try.func42 #[.string a0, .bool true] ?_; (with_reducible refine (bocageref04_read.calls k a0 true t512 t513 t514 t515 t516 t517 _ A2.out).mono ?_); rintro e w4 ⟨rfl, hb⟩; refine ⟨_, rfl, ?_⟩; replace BK511 := bkb BK511 hb; replace HB := bst HB hb; (try clear hb); (try clear hb2); (try clear hk); (try clear hi); obtain ⟨hcz5_0, hcz5_1, hcz5_2, hcz5_3⟩ := e4 BK511; obtain ⟨hfz5_0, hfz5_1, hfz5_2, hfz5_3⟩ := f4 BK511))
 refine bodyPost_ret (results_ctt rfl _ _ gb511 27 #[.int .i64 t512, .int .i64 t513, .int .i64 t514, .int .i64 t515] (0, 0) _ rfl (bkp BK511) Try.underlying27 rfl (by kernel_rfl)) rfl ?_
 exact endB HB
/-! ### bocageref04_Parse: function 17 -/
def bocageref04_Parse.f (k : Nat) (a0 : ByteArray) : Option (Int × Int × Int × Int × Int) := (bocageref04_read.f k a0 false).bind fun bt543 => (if bt543.2.2.2.2.2 = 0 then ((bocageref04_Text.f k bt543.1 bt543.2.1 bt543.2.2.1 bt543.2.2.2.1).bind fun t550 => (if t550.toList = a0.toList then (some (bt543.1, bt543.2.1, bt543.2.2.1, bt543.2.2.2.1, bt543.2.2.2.2.2)) else (some (0, 0, 0, 0, 40)))) else (some (bt543.1, bt543.2.1, bt543.2.2.1, bt543.2.2.2.1, bt543.2.2.2.2.2)))
theorem bocageref04_Parse.mono : ∀ a0 k, LeO (bocageref04_Parse.f k a0) (bocageref04_Parse.f (k + 1) a0) := by
 intro a0 k
 unfold bocageref04_Parse.f
 repeat' first
   | (with_reducible exact bocageref04_Text.mono _ _ _ _ _)
   | (with_reducible exact bocageref04_read.mono _ _ _)
   | (with_reducible exact LeO.refl _)
   | (with_reducible exact LeO.none _)
   | (with_reducible refine LeO.ite ?_ ?_)
   | (with_reducible refine LeO.bind ?_ (fun _ => ?_))
   | exact bocageref04_Text.mono _ _ _ _ _
   | exact bocageref04_read.mono _ _ _
   | exact LeO.none _
   | refine LeO.ite ?_ ?_
   | refine LeO.bind ?_ (fun _ => ?_)
set_option maxHeartbeats 8000000 in
set_option maxRecDepth 100000 in
theorem bocageref04_Parse.calls (k : Nat) (a0 : ByteArray) (r1 : Int) (r2 : Int) (r3 : Int) (r4 : Int) (r5 : Int) (w : World) (h : bocageref04_Parse.f k a0 = some (r1, r2, r3, r4, r5)) :
  Calls Try.prog 17 #[.string a0] w fun e w' => e = .returned (.tuple #[.agg #[.int .i64 r1, .int .i64 r2, .int .i64 r3, .int .i64 r4], .int .i64 r5]) ∧ Below w.heap.size w w' := by
 have hu27 := Try.underlying27
 have HB := Aside0.mk (Below.refl w.heap.size w)
 have H : ((bocageref04_read.f k a0 false).bind fun bt543 => (if bt543.2.2.2.2.2 = 0 then ((bocageref04_Text.f k bt543.1 bt543.2.1 bt543.2.2.1 bt543.2.2.2.1).bind fun t550 => (if t550.toList = a0.toList then (some (bt543.1, bt543.2.1, bt543.2.2.1, bt543.2.2.2.1, bt543.2.2.2.2.2)) else (some (0, 0, 0, 0, 40)))) else (some (bt543.1, bt543.2.1, bt543.2.2.1, bt543.2.2.2.1, bt543.2.2.2.2.2)))) = some (r1, r2, r3, r4, r5) := h
 clear h
 replace H := Option.bind_eq_some_iff.mp H
 obtain ⟨⟨t543, t544, t545, t546, t547, t548⟩, A20, H⟩ := H
 replace H : (if t548 = 0 then ((bocageref04_Text.f k t543 t544 t545 t546).bind fun t550 => (if t550.toList = a0.toList then (some (t543, t544, t545, t546, t548)) else (some (0, 0, 0, 0, 40)))) else (some (t543, t544, t545, t546, t548))) = some (r1, r2, r3, r4, r5) := H
 have A2 := Aside0.mk A20
 clear A20
 by_cases c3 : t548 = 0
 ·rw [if_pos c3] at H
  have c3b0 : (t548 == 0) = true := beq_iff_eq.mpr c3
  have c3b1 : (t548 != 0) = false := bne_eq_false_iff_eq.mpr c3
  clear c3
  replace H := Option.bind_eq_some_iff.mp H
  obtain ⟨t550, A40, H⟩ := H
  replace H : (if t550.toList = a0.toList then (some (t543, t544, t545, t546, t548)) else (some (0, 0, 0, 0, 40))) = some (r1, r2, r3, r4, r5) := H
  have A4 := Aside0.mk A40
  clear A40
  by_cases c5 : t550.toList = a0.toList
  ·rw [if_pos c5] at H
   have c5b0 : (t550.toList == a0.toList) = true := beq_iff_eq.mpr c5
   have c5b1 : (t550.toList != a0.toList) = false := bne_eq_false_iff_eq.mpr c5
   clear c5
   simp only [Option.some.injEq, Prod.mk.injEq] at H
   obtain ⟨rfl, rfl, rfl, rfl, rfl⟩ := H
   go_enter Try.func17, Try.ntmps17
   go_wp2_with (first | ((with_reducible refine gate_dst (N := 2) rfl ?_); refine bxe (N := 2) (cs := #[.int .i64 0, .int .i64 0, .int .i64 0, .int .i64 0]) (t := 27) ?_; intro gb542 hg w6 hbox hb; have BK542 := Aside0.mk (hbox); have GW542 := lsz hg HB; have GE542 := lsz hg HB; replace HB := bst HB hb; clear hb hbox hg) | ((with_reducible refine gate_callee (f := 42) rfl ?_); refine gol (some 9) Try.func42 #[.string a0, .bool false] ?_; (with_reducible refine (bocageref04_read.calls k a0 false t543 t544 t545 t546 t547 t548 _ A2.out).mono ?_); rintro e w7 ⟨rfl, hb⟩; refine ⟨_, rfl, ?_⟩; replace BK542 := bkb BK542 hb; replace HB := bst HB hb; (try clear hb); (try clear hb2); (try clear hk); (try clear hi)) | ((with_reducible refine gate_dst (N := 4) rfl ?_); refine bxe (N := 4) (cs := #[.int .i64 0, .int .i64 0, .int .i64 0, .int .i64 0]) (t := 27) ?_; intro gb549 hg w8 hbox hb; have BK549 := Aside0.mk (hbox); have GW549 := lsz hg HB; have GE549 := lsz hg HB; replace HB := bst HB hb; have NB542_549 := nlt hg BK542; have NB549_542 := ngt hg BK542; replace BK542 := bkb BK542 hb; clear hb hbox hg; have hnb9 := NB549_542.out; have hnc9 := NB542_549.out; obtain ⟨hcz10_0, hcz10_1, hcz10_2, hcz10_3⟩ := e4 BK549; obtain ⟨hfz10_0, hfz10_1, hfz10_2, hfz10_3⟩ := f4 BK549) | (go_at_call 19; (with_reducible refine (bocageref04_Text.calls k t543 t544 t545 t546 t550 _ A4.out).mono ?_); rintro e w11 ⟨rfl, hb⟩; replace BK542 := Aside0.mk (blk_below (bkf BK542 NB542_549) hb); replace BK549 := Aside0.mk (blk_below (g := gb549) (o := .cells #[.int .i64 t543, .int .i64 t544, .int .i64 t545, .int .i64 t546] 27 (0, 0)) (bkp BK549) hb); replace HB := bst HB hb; (try clear hb); (try clear hb2); (try clear hk); (try clear hi); obtain ⟨hcz12_0, hcz12_1, hcz12_2, hcz12_3⟩ := e4 BK549; obtain ⟨hfz12_0, hfz12_1, hfz12_2, hfz12_3⟩ := f4 BK549; obtain ⟨hcz13_0, hcz13_1, hcz13_2, hcz13_3⟩ := e4 BK542; obtain ⟨hfz13_0, hfz13_1, hfz13_2, hfz13_3⟩ := f4 BK542))
   refine bodyPost_ret (results_ct rfl _ _ gb542 27 #[.int .i64 t543, .int .i64 t544, .int .i64 t545, .int .i64 t546] (0, 0) _ rfl (bkp BK542) Try.underlying27 rfl (by kernel_rfl)) rfl ?_
   exact endB HB
  ·rw [if_neg c5] at H
   have c5b0 : (t550.toList == a0.toList) = false := beq_eq_false_iff_ne.mpr c5
   have c5b1 : (t550.toList != a0.toList) = true := bne_iff_ne.mpr c5
   simp only [Option.some.injEq, Prod.mk.injEq] at H
   obtain ⟨rfl, rfl, rfl, rfl, rfl⟩ := H
   go_enter Try.func17, Try.ntmps17
   go_wp2_with (first | ((with_reducible refine gate_dst (N := 2) rfl ?_); refine bxe (N := 2) (cs := #[.int .i64 0, .int .i64 0, .int .i64 0, .int .i64 0]) (t := 27) ?_; intro gb542 hg w14 hbox hb; have BK542 := Aside0.mk (hbox); have GW542 := lsz hg HB; have GE542 := lsz hg HB; replace HB := bst HB hb; clear hb hbox hg) | ((with_reducible refine gate_callee (f := 42) rfl ?_); refine gol (some 9) Try.func42 #[.string a0, .bool false] ?_; (with_reducible refine (bocageref04_read.calls k a0 false t543 t544 t545 t546 t547 t548 _ A2.out).mono ?_); rintro e w15 ⟨rfl, hb⟩; refine ⟨_, rfl, ?_⟩; replace BK542 := bkb BK542 hb; replace HB := bst HB hb; (try clear hb); (try clear hb2); (try clear hk); (try clear hi)) | ((with_reducible refine gate_dst (N := 4) rfl ?_); refine bxe (N := 4) (cs := #[.int .i64 0, .int .i64 0, .int .i64 0, .int .i64 0]) (t := 27) ?_; intro gb549 hg w16 hbox hb; have BK549 := Aside0.mk (hbox); have GW549 := lsz hg HB; have GE549 := lsz hg HB; replace HB := bst HB hb; have NB542_549 := nlt hg BK542; have NB549_542 := ngt hg BK542; replace BK542 := bkb BK542 hb; clear hb hbox hg; have hnb17 := NB549_542.out; have hnc17 := NB542_549.out; obtain ⟨hcz18_0, hcz18_1, hcz18_2, hcz18_3⟩ := e4 BK549; obtain ⟨hfz18_0, hfz18_1, hfz18_2, hfz18_3⟩ := f4 BK549) | (go_at_call 19; (with_reducible refine (bocageref04_Text.calls k t543 t544 t545 t546 t550 _ A4.out).mono ?_); rintro e w19 ⟨rfl, hb⟩; replace BK542 := Aside0.mk (blk_below (bkf BK542 NB542_549) hb); replace BK549 := Aside0.mk (blk_below (g := gb549) (o := .cells #[.int .i64 t543, .int .i64 t544, .int .i64 t545, .int .i64 t546] 27 (0, 0)) (bkp BK549) hb); replace HB := bst HB hb; (try clear hb); (try clear hb2); (try clear hk); (try clear hi); obtain ⟨hcz20_0, hcz20_1, hcz20_2, hcz20_3⟩ := e4 BK542; obtain ⟨hfz20_0, hfz20_1, hfz20_2, hfz20_3⟩ := f4 BK542))
   refine bodyPost_ret (results_ct rfl _ _ gb542 27 #[.int .i64 0, .int .i64 0, .int .i64 0, .int .i64 0] (0, 0) _ rfl (bkp BK542) Try.underlying27 rfl (by kernel_rfl)) rfl ?_
   exact endB HB
 ·rw [if_neg c3] at H
  have c3b0 : (t548 == 0) = false := beq_eq_false_iff_ne.mpr c3
  have c3b1 : (t548 != 0) = true := bne_iff_ne.mpr c3
  simp only [Option.some.injEq, Prod.mk.injEq] at H
  obtain ⟨rfl, rfl, rfl, rfl, rfl⟩ := H
  go_enter Try.func17, Try.ntmps17
  go_wp2_with (first | ((with_reducible refine gate_dst (N := 2) rfl ?_); refine bxe (N := 2) (cs := #[.int .i64 0, .int .i64 0, .int .i64 0, .int .i64 0]) (t := 27) ?_; intro gb542 hg w21 hbox hb; have BK542 := Aside0.mk (hbox); have GW542 := lsz hg HB; have GE542 := lsz hg HB; replace HB := bst HB hb; clear hb hbox hg) | ((with_reducible refine gate_callee (f := 42) rfl ?_); refine gol (some 9) Try.func42 #[.string a0, .bool false] ?_; (with_reducible refine (bocageref04_read.calls k a0 false t543 t544 t545 t546 t547 t548 _ A2.out).mono ?_); rintro e w22 ⟨rfl, hb⟩; refine ⟨_, rfl, ?_⟩; replace BK542 := bkb BK542 hb; replace HB := bst HB hb; (try clear hb); (try clear hb2); (try clear hk); (try clear hi)) | ((with_reducible refine gate_dst (N := 4) rfl ?_); refine bxe (N := 4) (cs := #[.int .i64 0, .int .i64 0, .int .i64 0, .int .i64 0]) (t := 27) ?_; intro gb549 hg w23 hbox hb; have BK549 := Aside0.mk (hbox); have GW549 := lsz hg HB; have GE549 := lsz hg HB; replace HB := bst HB hb; have NB542_549 := nlt hg BK542; have NB549_542 := ngt hg BK542; replace BK542 := bkb BK542 hb; clear hb hbox hg; have hnb24 := NB549_542.out; have hnc24 := NB542_549.out; obtain ⟨hcz25_0, hcz25_1, hcz25_2, hcz25_3⟩ := e4 BK549; obtain ⟨hfz25_0, hfz25_1, hfz25_2, hfz25_3⟩ := f4 BK549; obtain ⟨hcz26_0, hcz26_1, hcz26_2, hcz26_3⟩ := e4 BK542; obtain ⟨hfz26_0, hfz26_1, hfz26_2, hfz26_3⟩ := f4 BK542))
  refine bodyPost_ret (results_ct rfl _ _ gb542 27 #[.int .i64 t543, .int .i64 t544, .int .i64 t545, .int .i64 t546] (0, 0) _ rfl (by (with_reducible repeat (first | refine blk_drewN ?_ _ | refine blk_drew ?_ | refine blk_alloc ?_ _)); refine blk_put (cs := #[.int .i64 t543, .int .i64 t544, .int .i64 t545, .int .i64 0]) ?_ 3 _ rfl; (with_reducible repeat (first | refine blk_drewN ?_ _ | refine blk_drew ?_ | refine blk_alloc ?_ _)); refine blk_put (cs := #[.int .i64 t543, .int .i64 t544, .int .i64 0, .int .i64 0]) ?_ 2 _ rfl; (with_reducible repeat (first | refine blk_drewN ?_ _ | refine blk_drew ?_ | refine blk_alloc ?_ _)); refine blk_put (cs := #[.int .i64 t543, .int .i64 0, .int .i64 0, .int .i64 0]) ?_ 1 _ rfl; (with_reducible repeat (first | refine blk_drewN ?_ _ | refine blk_drew ?_ | refine blk_alloc ?_ _)); refine blk_put (cs := #[.int .i64 0, .int .i64 0, .int .i64 0, .int .i64 0]) ?_ 0 _ rfl; (with_reducible repeat (first | refine blk_drewN ?_ _ | refine blk_drew ?_ | refine blk_alloc ?_ _)); refine blk_far ?_ NB542_549.out _; (with_reducible repeat (first | refine blk_drewN ?_ _ | refine blk_drew ?_ | refine blk_alloc ?_ _)); refine blk_far ?_ NB542_549.out _; (with_reducible repeat (first | refine blk_drewN ?_ _ | refine blk_drew ?_ | refine blk_alloc ?_ _)); refine blk_far ?_ NB542_549.out _; (with_reducible repeat (first | refine blk_drewN ?_ _ | refine blk_drew ?_ | refine blk_alloc ?_ _)); refine blk_far ?_ NB542_549.out _; (with_reducible repeat (first | refine blk_drewN ?_ _ | refine blk_drew ?_ | refine blk_alloc ?_ _)); exact BK542.out) Try.underlying27 rfl (by kernel_rfl)) rfl ?_
  exact endB HB
section
attribute [local go_sem high] eqA27
/-! ### bocagelaw04_BoundReads: function 4 -/
def bocagelaw04_BoundReads.f (k : Nat) (a0 : ByteArray) : Option (Bool) := if (a0.size : Int) > 5000 then ((bocagelaw04_alive.f k).bind fun t551 => (some t551)) else ((bound_Read.f k a0).bind fun bt552 => ((bocageref04_Read.f k a0).bind fun bt559 => ((bound_Loose.f k a0).bind fun bt566 => ((bocageref04_Loose.f k a0).bind fun bt573 => ((bound_Parse.f k a0).bind fun bt580 => ((bocageref04_Parse.f k a0).bind fun bt586 => ((bocagelaw04_alive.f k).bind fun t592 => (if t592 = true then (if ((bt552.1 == bt559.1 && (bt552.2.1 == bt559.2.1)) && ((bt552.2.2.1 == bt559.2.2.1 && (bt552.2.2.2.1 == bt559.2.2.2.1)))) = true then (if bt552.2.2.2.2.1 = bt559.2.2.2.2.1 then (if bt552.2.2.2.2.2 = bt559.2.2.2.2.2 then (if ((bt566.1 == bt573.1 && (bt566.2.1 == bt573.2.1)) && ((bt566.2.2.1 == bt573.2.2.1 && (bt566.2.2.2.1 == bt573.2.2.2.1)))) = true then (if bt566.2.2.2.2.1 = bt573.2.2.2.2.1 then (if bt566.2.2.2.2.2 = bt573.2.2.2.2.2 then (if ((bt580.1 == bt586.1 && (bt580.2.1 == bt586.2.1)) && ((bt580.2.2.1 == bt586.2.2.1 && (bt580.2.2.2.1 == bt586.2.2.2.1)))) = true then (some (bt580.2.2.2.2 == bt586.2.2.2.2)) else (some false)) else (some false)) else (some false)) else (some false)) else (some false)) else (some false)) else (some false)) else (some false)))))))))
theorem bocagelaw04_BoundReads.mono : ∀ a0 k, LeO (bocagelaw04_BoundReads.f k a0) (bocagelaw04_BoundReads.f (k + 1) a0) := by
 intro a0 k
 unfold bocagelaw04_BoundReads.f
 repeat' first
   | (with_reducible exact bocagelaw04_alive.mono _)
   | (with_reducible exact bocageref04_Loose.mono _ _)
   | (with_reducible exact bocageref04_Parse.mono _ _)
   | (with_reducible exact bocageref04_Read.mono _ _)
   | (with_reducible exact bound_Loose.mono _ _)
   | (with_reducible exact bound_Parse.mono _ _)
   | (with_reducible exact bound_Read.mono _ _)
   | (with_reducible exact LeO.refl _)
   | (with_reducible exact LeO.none _)
   | (with_reducible refine LeO.ite ?_ ?_)
   | (with_reducible refine LeO.bind ?_ (fun _ => ?_))
   | exact bocagelaw04_alive.mono _
   | exact bocageref04_Loose.mono _ _
   | exact bocageref04_Parse.mono _ _
   | exact bocageref04_Read.mono _ _
   | exact bound_Loose.mono _ _
   | exact bound_Parse.mono _ _
   | exact bound_Read.mono _ _
   | exact LeO.none _
   | refine LeO.ite ?_ ?_
   | refine LeO.bind ?_ (fun _ => ?_)
set_option maxHeartbeats 8000000 in
set_option maxRecDepth 100000 in
theorem bocagelaw04_BoundReads.calls (k : Nat) (a0 : ByteArray) (r : Bool) (w : World) (h : bocagelaw04_BoundReads.f k a0 = some r) (hr : r = true) :
  Calls Try.prog 4 #[.string a0] w fun e w' => e = .returned (.bool r) ∧ Below w.heap.size w w' := by
 have HRT := Aside0.mk hr
 clear hr
 have hu27 := Try.underlying27
 have HB := Aside0.mk (Below.refl w.heap.size w)
 have H : (if (a0.size : Int) > 5000 then ((bocagelaw04_alive.f k).bind fun t551 => (some t551)) else ((bound_Read.f k a0).bind fun bt552 => ((bocageref04_Read.f k a0).bind fun bt559 => ((bound_Loose.f k a0).bind fun bt566 => ((bocageref04_Loose.f k a0).bind fun bt573 => ((bound_Parse.f k a0).bind fun bt580 => ((bocageref04_Parse.f k a0).bind fun bt586 => ((bocagelaw04_alive.f k).bind fun t592 => (if t592 = true then (if ((bt552.1 == bt559.1 && (bt552.2.1 == bt559.2.1)) && ((bt552.2.2.1 == bt559.2.2.1 && (bt552.2.2.2.1 == bt559.2.2.2.1)))) = true then (if bt552.2.2.2.2.1 = bt559.2.2.2.2.1 then (if bt552.2.2.2.2.2 = bt559.2.2.2.2.2 then (if ((bt566.1 == bt573.1 && (bt566.2.1 == bt573.2.1)) && ((bt566.2.2.1 == bt573.2.2.1 && (bt566.2.2.2.1 == bt573.2.2.2.1)))) = true then (if bt566.2.2.2.2.1 = bt573.2.2.2.2.1 then (if bt566.2.2.2.2.2 = bt573.2.2.2.2.2 then (if ((bt580.1 == bt586.1 && (bt580.2.1 == bt586.2.1)) && ((bt580.2.2.1 == bt586.2.2.1 && (bt580.2.2.2.1 == bt586.2.2.2.1)))) = true then (some (bt580.2.2.2.2 == bt586.2.2.2.2)) else (some false)) else (some false)) else (some false)) else (some false)) else (some false)) else (some false)) else (some false)) else (some false)))))))))) = some r := h
 clear h
 by_cases c2 : (a0.size : Int) > 5000
 ·rw [if_pos c2] at H
  have c2b0 : decide (5000 < (a0.size : Int)) = true := decide_eq_true c2
  have c2b1 : decide (5000 < a0.size) = true := decide_eq_true (by omega)
  clear c2
  replace H := Option.bind_eq_some_iff.mp H
  obtain ⟨t551, A30, H⟩ := H
  replace H : (some t551) = some r := H
  have A3 := Aside0.mk A30
  clear A30
  obtain rfl := Option.some.inj H
  go_enter Try.func4, Try.ntmps4
  go_wp2_with (first | ((with_reducible refine gate_callee (f := 10) rfl ?_); refine gol (some 22) Try.func10 #[] ?_; (with_reducible refine (bocagelaw04_alive.calls k  t551 _ A3.out HRT.out).mono ?_); rintro e w4 ⟨rfl, hb⟩; refine ⟨_, rfl, ?_⟩; replace HB := bst HB hb; (try clear hb); (try clear hb2); (try clear hk); (try clear hi)))
  go_ret
  exact endB HB
 ·rw [if_neg c2] at H
  have c2b0 : decide (5000 < (a0.size : Int)) = false := decide_eq_false c2
  have c2b1 : decide (5000 < a0.size) = false := decide_eq_false (by omega)
  clear c2
  replace H := Option.bind_eq_some_iff.mp H
  obtain ⟨⟨t552, t553, t554, t555, t556, t557⟩, A50, H⟩ := H
  replace H : ((bocageref04_Read.f k a0).bind fun bt559 => ((bound_Loose.f k a0).bind fun bt566 => ((bocageref04_Loose.f k a0).bind fun bt573 => ((bound_Parse.f k a0).bind fun bt580 => ((bocageref04_Parse.f k a0).bind fun bt586 => ((bocagelaw04_alive.f k).bind fun t592 => (if t592 = true then (if ((t552 == bt559.1 && (t553 == bt559.2.1)) && ((t554 == bt559.2.2.1 && (t555 == bt559.2.2.2.1)))) = true then (if t556 = bt559.2.2.2.2.1 then (if t557 = bt559.2.2.2.2.2 then (if ((bt566.1 == bt573.1 && (bt566.2.1 == bt573.2.1)) && ((bt566.2.2.1 == bt573.2.2.1 && (bt566.2.2.2.1 == bt573.2.2.2.1)))) = true then (if bt566.2.2.2.2.1 = bt573.2.2.2.2.1 then (if bt566.2.2.2.2.2 = bt573.2.2.2.2.2 then (if ((bt580.1 == bt586.1 && (bt580.2.1 == bt586.2.1)) && ((bt580.2.2.1 == bt586.2.2.1 && (bt580.2.2.2.1 == bt586.2.2.2.1)))) = true then (some (bt580.2.2.2.2 == bt586.2.2.2.2)) else (some false)) else (some false)) else (some false)) else (some false)) else (some false)) else (some false)) else (some false)) else (some false)))))))) = some r := H
  have A5 := Aside0.mk A50
  clear A50
  replace H := Option.bind_eq_some_iff.mp H
  obtain ⟨⟨t559, t560, t561, t562, t563, t564⟩, A60, H⟩ := H
  replace H : ((bound_Loose.f k a0).bind fun bt566 => ((bocageref04_Loose.f k a0).bind fun bt573 => ((bound_Parse.f k a0).bind fun bt580 => ((bocageref04_Parse.f k a0).bind fun bt586 => ((bocagelaw04_alive.f k).bind fun t592 => (if t592 = true then (if ((t552 == t559 && (t553 == t560)) && ((t554 == t561 && (t555 == t562)))) = true then (if t556 = t563 then (if t557 = t564 then (if ((bt566.1 == bt573.1 && (bt566.2.1 == bt573.2.1)) && ((bt566.2.2.1 == bt573.2.2.1 && (bt566.2.2.2.1 == bt573.2.2.2.1)))) = true then (if bt566.2.2.2.2.1 = bt573.2.2.2.2.1 then (if bt566.2.2.2.2.2 = bt573.2.2.2.2.2 then (if ((bt580.1 == bt586.1 && (bt580.2.1 == bt586.2.1)) && ((bt580.2.2.1 == bt586.2.2.1 && (bt580.2.2.2.1 == bt586.2.2.2.1)))) = true then (some (bt580.2.2.2.2 == bt586.2.2.2.2)) else (some false)) else (some false)) else (some false)) else (some false)) else (some false)) else (some false)) else (some false)) else (some false))))))) = some r := H
  have A6 := Aside0.mk A60
  clear A60
  replace H := Option.bind_eq_some_iff.mp H
  obtain ⟨⟨t566, t567, t568, t569, t570, t571⟩, A70, H⟩ := H
  replace H : ((bocageref04_Loose.f k a0).bind fun bt573 => ((bound_Parse.f k a0).bind fun bt580 => ((bocageref04_Parse.f k a0).bind fun bt586 => ((bocagelaw04_alive.f k).bind fun t592 => (if t592 = true then (if ((t552 == t559 && (t553 == t560)) && ((t554 == t561 && (t555 == t562)))) = true then (if t556 = t563 then (if t557 = t564 then (if ((t566 == bt573.1 && (t567 == bt573.2.1)) && ((t568 == bt573.2.2.1 && (t569 == bt573.2.2.2.1)))) = true then (if t570 = bt573.2.2.2.2.1 then (if t571 = bt573.2.2.2.2.2 then (if ((bt580.1 == bt586.1 && (bt580.2.1 == bt586.2.1)) && ((bt580.2.2.1 == bt586.2.2.1 && (bt580.2.2.2.1 == bt586.2.2.2.1)))) = true then (some (bt580.2.2.2.2 == bt586.2.2.2.2)) else (some false)) else (some false)) else (some false)) else (some false)) else (some false)) else (some false)) else (some false)) else (some false)))))) = some r := H
  have A7 := Aside0.mk A70
  clear A70
  replace H := Option.bind_eq_some_iff.mp H
  obtain ⟨⟨t573, t574, t575, t576, t577, t578⟩, A80, H⟩ := H
  replace H : ((bound_Parse.f k a0).bind fun bt580 => ((bocageref04_Parse.f k a0).bind fun bt586 => ((bocagelaw04_alive.f k).bind fun t592 => (if t592 = true then (if ((t552 == t559 && (t553 == t560)) && ((t554 == t561 && (t555 == t562)))) = true then (if t556 = t563 then (if t557 = t564 then (if ((t566 == t573 && (t567 == t574)) && ((t568 == t575 && (t569 == t576)))) = true then (if t570 = t577 then (if t571 = t578 then (if ((bt580.1 == bt586.1 && (bt580.2.1 == bt586.2.1)) && ((bt580.2.2.1 == bt586.2.2.1 && (bt580.2.2.2.1 == bt586.2.2.2.1)))) = true then (some (bt580.2.2.2.2 == bt586.2.2.2.2)) else (some false)) else (some false)) else (some false)) else (some false)) else (some false)) else (some false)) else (some false)) else (some false))))) = some r := H
  have A8 := Aside0.mk A80
  clear A80
  replace H := Option.bind_eq_some_iff.mp H
  obtain ⟨⟨t580, t581, t582, t583, t584⟩, A90, H⟩ := H
  replace H : ((bocageref04_Parse.f k a0).bind fun bt586 => ((bocagelaw04_alive.f k).bind fun t592 => (if t592 = true then (if ((t552 == t559 && (t553 == t560)) && ((t554 == t561 && (t555 == t562)))) = true then (if t556 = t563 then (if t557 = t564 then (if ((t566 == t573 && (t567 == t574)) && ((t568 == t575 && (t569 == t576)))) = true then (if t570 = t577 then (if t571 = t578 then (if ((t580 == bt586.1 && (t581 == bt586.2.1)) && ((t582 == bt586.2.2.1 && (t583 == bt586.2.2.2.1)))) = true then (some (t584 == bt586.2.2.2.2)) else (some false)) else (some false)) else (some false)) else (some false)) else (some false)) else (some false)) else (some false)) else (some false)))) = some r := H
  have A9 := Aside0.mk A90
  clear A90
  replace H := Option.bind_eq_some_iff.mp H
  obtain ⟨⟨t586, t587, t588, t589, t590⟩, A100, H⟩ := H
  replace H : ((bocagelaw04_alive.f k).bind fun t592 => (if t592 = true then (if ((t552 == t559 && (t553 == t560)) && ((t554 == t561 && (t555 == t562)))) = true then (if t556 = t563 then (if t557 = t564 then (if ((t566 == t573 && (t567 == t574)) && ((t568 == t575 && (t569 == t576)))) = true then (if t570 = t577 then (if t571 = t578 then (if ((t580 == t586 && (t581 == t587)) && ((t582 == t588 && (t583 == t589)))) = true then (some (t584 == t590)) else (some false)) else (some false)) else (some false)) else (some false)) else (some false)) else (some false)) else (some false)) else (some false))) = some r := H
  have A10 := Aside0.mk A100
  clear A100
  replace H := Option.bind_eq_some_iff.mp H
  obtain ⟨t592, A110, H⟩ := H
  replace H : (if t592 = true then (if ((t552 == t559 && (t553 == t560)) && ((t554 == t561 && (t555 == t562)))) = true then (if t556 = t563 then (if t557 = t564 then (if ((t566 == t573 && (t567 == t574)) && ((t568 == t575 && (t569 == t576)))) = true then (if t570 = t577 then (if t571 = t578 then (if ((t580 == t586 && (t581 == t587)) && ((t582 == t588 && (t583 == t589)))) = true then (some (t584 == t590)) else (some false)) else (some false)) else (some false)) else (some false)) else (some false)) else (some false)) else (some false)) else (some false)) = some r := H
  have A11 := Aside0.mk A110
  clear A110
  by_cases c12 : t592 = true
  ·subst c12
   have H1 : (if ((t552 == t559 && (t553 == t560)) && ((t554 == t561 && (t555 == t562)))) = true then (if t556 = t563 then (if t557 = t564 then (if ((t566 == t573 && (t567 == t574)) && ((t568 == t575 && (t569 == t576)))) = true then (if t570 = t577 then (if t571 = t578 then (if ((t580 == t586 && (t581 == t587)) && ((t582 == t588 && (t583 == t589)))) = true then (some (t584 == t590)) else (some false)) else (some false)) else (some false)) else (some false)) else (some false)) else (some false)) else (some false)) = some r := by rw [if_pos rfl] at H; exact H
   clear H
   have H := H1
   clear H1
   by_cases c13 : ((t552 == t559 && (t553 == t560)) && ((t554 == t561 && (t555 == t562)))) = true
   ·rw [if_pos c13] at H
    have c13b0 : ((t552 == t559 && (t553 == t560)) && ((t554 == t561 && (t555 == t562)))) = true := c13
    clear c13
    by_cases c14 : t556 = t563
    ·rw [if_pos c14] at H
     have c14b0 : (t556 == t563) = true := beq_iff_eq.mpr c14
     have c14b1 : (t556 != t563) = false := bne_eq_false_iff_eq.mpr c14
     clear c14
     by_cases c15 : t557 = t564
     ·rw [if_pos c15] at H
      have c15b0 : (t557 == t564) = true := beq_iff_eq.mpr c15
      have c15b1 : (t557 != t564) = false := bne_eq_false_iff_eq.mpr c15
      clear c15
      by_cases c16 : ((t566 == t573 && (t567 == t574)) && ((t568 == t575 && (t569 == t576)))) = true
      ·rw [if_pos c16] at H
       have c16b0 : ((t566 == t573 && (t567 == t574)) && ((t568 == t575 && (t569 == t576)))) = true := c16
       clear c16
       by_cases c17 : t570 = t577
       ·rw [if_pos c17] at H
        have c17b0 : (t570 == t577) = true := beq_iff_eq.mpr c17
        have c17b1 : (t570 != t577) = false := bne_eq_false_iff_eq.mpr c17
        clear c17
        by_cases c18 : t571 = t578
        ·rw [if_pos c18] at H
         have c18b0 : (t571 == t578) = true := beq_iff_eq.mpr c18
         have c18b1 : (t571 != t578) = false := bne_eq_false_iff_eq.mpr c18
         clear c18
         by_cases c19 : ((t580 == t586 && (t581 == t587)) && ((t582 == t588 && (t583 == t589)))) = true
         ·rw [if_pos c19] at H
          have c19b0 : ((t580 == t586 && (t581 == t587)) && ((t582 == t588 && (t583 == t589)))) = true := c19
          clear c19
          obtain rfl := Option.some.inj H
          go_enter Try.func4, Try.ntmps4
          go_wp2_with (first | ((with_reducible refine gate_callee (f := 12) rfl ?_); refine gol (some 25) Try.func12 #[.string a0] ?_; (with_reducible refine (bound_Read.calls k a0 t552 t553 t554 t555 t556 t557 _ A5.out).mono ?_); rintro e w20 ⟨rfl, hb⟩; refine ⟨_, rfl, ?_⟩; replace HB := bst HB hb; (try clear hb); (try clear hb2); (try clear hk); (try clear hi)) | ((with_reducible refine gate_dst (N := 3) rfl ?_); refine bxe (N := 3) (cs := #[.int .i64 0, .int .i64 0, .int .i64 0, .int .i64 0]) (t := 27) ?_; intro gb558 hg w21 hbox hb; have BK558 := Aside0.mk (hbox); have GW558 := lsz hg HB; have GE558 := lsz hg HB; replace HB := bst HB hb; clear hb hbox hg; obtain ⟨hcz22_0, hcz22_1, hcz22_2, hcz22_3⟩ := e4 BK558; obtain ⟨hfz22_0, hfz22_1, hfz22_2, hfz22_3⟩ := f4 BK558) | ((with_reducible refine gate_callee (f := 13) rfl ?_); refine gol (some 31) Try.func13 #[.string a0] ?_; (with_reducible refine (bocageref04_Read.calls k a0 t559 t560 t561 t562 t563 t564 _ A6.out).mono ?_); rintro e w23 ⟨rfl, hb⟩; refine ⟨_, rfl, ?_⟩; replace BK558 := Aside0.mk (blk_below (g := gb558) (o := .cells #[.int .i64 t552, .int .i64 t553, .int .i64 t554, .int .i64 t555] 27 (0, 0)) (bkp BK558) hb); replace HB := bst HB hb; (try clear hb); (try clear hb2); (try clear hk); (try clear hi)) | ((with_reducible refine gate_dst (N := 6) rfl ?_); refine bxe (N := 6) (cs := #[.int .i64 0, .int .i64 0, .int .i64 0, .int .i64 0]) (t := 27) ?_; intro gb565 hg w24 hbox hb; have BK565 := Aside0.mk (hbox); have GW565 := lsz hg HB; have GE565 := lsz hg HB; replace HB := bst HB hb; have NB558_565 := nlt hg BK558; have NB565_558 := ngt hg BK558; replace BK558 := bkb BK558 hb; clear hb hbox hg; have hnb25 := NB565_558.out; have hnc25 := NB558_565.out; obtain ⟨hcz26_0, hcz26_1, hcz26_2, hcz26_3⟩ := e4 BK565; obtain ⟨hfz26_0, hfz26_1, hfz26_2, hfz26_3⟩ := f4 BK565) | ((with_reducible refine gate_callee (f := 14) rfl ?_); refine gol (some 37) Try.func14 #[.string a0] ?_; (with_reducible refine (bound_Loose.calls k a0 t566 t567 t568 t569 t570 t571 _ A7.out).mono ?_); rintro e w27 ⟨rfl, hb⟩; refine ⟨_, rfl, ?_⟩; replace BK558 := Aside0.mk (blk_below (bkf BK558 NB558_565) hb); replace BK565 := Aside0.mk (blk_below (g := gb565) (o := .cells #[.int .i64 t559, .int .i64 t560, .int .i64 t561, .int .i64 t562] 27 (0, 0)) (bkp BK565) hb); replace HB := bst HB hb; (try clear hb); (try clear hb2); (try clear hk); (try clear hi)) | ((with_reducible refine gate_dst (N := 9) rfl ?_); refine bxe (N := 9) (cs := #[.int .i64 0, .int .i64 0, .int .i64 0, .int .i64 0]) (t := 27) ?_; intro gb572 hg w28 hbox hb; have BK572 := Aside0.mk (hbox); have GW572 := lsz hg HB; have GE572 := lsz hg HB; replace HB := bst HB hb; have NB558_572 := nlt hg BK558; have NB572_558 := ngt hg BK558; replace BK558 := bkb BK558 hb; have NB565_572 := nlt hg BK565; have NB572_565 := ngt hg BK565; replace BK565 := bkb BK565 hb; clear hb hbox hg; have hnb29 := NB572_558.out; have hnc29 := NB558_572.out; have hnb30 := NB572_565.out; have hnc30 := NB565_572.out; obtain ⟨hcz31_0, hcz31_1, hcz31_2, hcz31_3⟩ := e4 BK572; obtain ⟨hfz31_0, hfz31_1, hfz31_2, hfz31_3⟩ := f4 BK572) | ((with_reducible refine gate_callee (f := 15) rfl ?_); refine gol (some 43) Try.func15 #[.string a0] ?_; (with_reducible refine (bocageref04_Loose.calls k a0 t573 t574 t575 t576 t577 t578 _ A8.out).mono ?_); rintro e w32 ⟨rfl, hb⟩; refine ⟨_, rfl, ?_⟩; replace BK558 := Aside0.mk (blk_below (bkf BK558 NB558_572) hb); replace BK565 := Aside0.mk (blk_below (bkf BK565 NB565_572) hb); replace BK572 := Aside0.mk (blk_below (g := gb572) (o := .cells #[.int .i64 t566, .int .i64 t567, .int .i64 t568, .int .i64 t569] 27 (0, 0)) (bkp BK572) hb); replace HB := bst HB hb; (try clear hb); (try clear hb2); (try clear hk); (try clear hi)) | ((with_reducible refine gate_dst (N := 12) rfl ?_); refine bxe (N := 12) (cs := #[.int .i64 0, .int .i64 0, .int .i64 0, .int .i64 0]) (t := 27) ?_; intro gb579 hg w33 hbox hb; have BK579 := Aside0.mk (hbox); have GW579 := lsz hg HB; have GE579 := lsz hg HB; replace HB := bst HB hb; have NB558_579 := nlt hg BK558; have NB579_558 := ngt hg BK558; replace BK558 := bkb BK558 hb; have NB565_579 := nlt hg BK565; have NB579_565 := ngt hg BK565; replace BK565 := bkb BK565 hb; have NB572_579 := nlt hg BK572; have NB579_572 := ngt hg BK572; replace BK572 := bkb BK572 hb; clear hb hbox hg; have hnb34 := NB579_558.out; have hnc34 := NB558_579.out; have hnb35 := NB579_565.out; have hnc35 := NB565_579.out; have hnb36 := NB579_572.out; have hnc36 := NB572_579.out; obtain ⟨hcz37_0, hcz37_1, hcz37_2, hcz37_3⟩ := e4 BK579; obtain ⟨hfz37_0, hfz37_1, hfz37_2, hfz37_3⟩ := f4 BK579) | ((with_reducible refine gate_callee (f := 16) rfl ?_); refine gol (some 49) Try.func16 #[.string a0] ?_; (with_reducible refine (bound_Parse.calls k a0 t580 t581 t582 t583 t584 _ A9.out).mono ?_); rintro e w38 ⟨rfl, hb⟩; refine ⟨_, rfl, ?_⟩; replace BK558 := Aside0.mk (blk_below (bkf BK558 NB558_579) hb); replace BK565 := Aside0.mk (blk_below (bkf BK565 NB565_579) hb); replace BK572 := Aside0.mk (blk_below (bkf BK572 NB572_579) hb); replace BK579 := Aside0.mk (blk_below (g := gb579) (o := .cells #[.int .i64 t573, .int .i64 t574, .int .i64 t575, .int .i64 t576] 27 (0, 0)) (bkp BK579) hb); replace HB := bst HB hb; (try clear hb); (try clear hb2); (try clear hk); (try clear hi)) | ((with_reducible refine gate_dst (N := 15) rfl ?_); refine bxe (N := 15) (cs := #[.int .i64 0, .int .i64 0, .int .i64 0, .int .i64 0]) (t := 27) ?_; intro gb585 hg w39 hbox hb; have BK585 := Aside0.mk (hbox); have GW585 := lsz hg HB; have GE585 := lsz hg HB; replace HB := bst HB hb; have NB558_585 := nlt hg BK558; have NB585_558 := ngt hg BK558; replace BK558 := bkb BK558 hb; have NB565_585 := nlt hg BK565; have NB585_565 := ngt hg BK565; replace BK565 := bkb BK565 hb; have NB572_585 := nlt hg BK572; have NB585_572 := ngt hg BK572; replace BK572 := bkb BK572 hb; have NB579_585 := nlt hg BK579; have NB585_579 := ngt hg BK579; replace BK579 := bkb BK579 hb; clear hb hbox hg; have hnb40 := NB585_558.out; have hnc40 := NB558_585.out; have hnb41 := NB585_565.out; have hnc41 := NB565_585.out; have hnb42 := NB585_572.out; have hnc42 := NB572_585.out; have hnb43 := NB585_579.out; have hnc43 := NB579_585.out; obtain ⟨hcz44_0, hcz44_1, hcz44_2, hcz44_3⟩ := e4 BK585; obtain ⟨hfz44_0, hfz44_1, hfz44_2, hfz44_3⟩ := f4 BK585) | ((with_reducible refine gate_callee (f := 17) rfl ?_); refine gol (some 54) Try.func17 #[.string a0] ?_; (with_reducible refine (bocageref04_Parse.calls k a0 t586 t587 t588 t589 t590 _ A10.out).mono ?_); rintro e w45 ⟨rfl, hb⟩; refine ⟨_, rfl, ?_⟩; replace BK558 := Aside0.mk (blk_below (bkf BK558 NB558_585) hb); replace BK565 := Aside0.mk (blk_below (bkf BK565 NB565_585) hb); replace BK572 := Aside0.mk (blk_below (bkf BK572 NB572_585) hb); replace BK579 := Aside0.mk (blk_below (bkf BK579 NB579_585) hb); replace BK585 := Aside0.mk (blk_below (g := gb585) (o := .cells #[.int .i64 t580, .int .i64 t581, .int .i64 t582, .int .i64 t583] 27 (0, 0)) (bkp BK585) hb); replace HB := bst HB hb; (try clear hb); (try clear hb2); (try clear hk); (try clear hi)) | ((with_reducible refine gate_dst (N := 17) rfl ?_); refine bxe (N := 17) (cs := #[.int .i64 0, .int .i64 0, .int .i64 0, .int .i64 0]) (t := 27) ?_; intro gb591 hg w46 hbox hb; have BK591 := Aside0.mk (hbox); have GW591 := lsz hg HB; have GE591 := lsz hg HB; replace HB := bst HB hb; have NB558_591 := nlt hg BK558; have NB591_558 := ngt hg BK558; replace BK558 := bkb BK558 hb; have NB565_591 := nlt hg BK565; have NB591_565 := ngt hg BK565; replace BK565 := bkb BK565 hb; have NB572_591 := nlt hg BK572; have NB591_572 := ngt hg BK572; replace BK572 := bkb BK572 hb; have NB579_591 := nlt hg BK579; have NB591_579 := ngt hg BK579; replace BK579 := bkb BK579 hb; have NB585_591 := nlt hg BK585; have NB591_585 := ngt hg BK585; replace BK585 := bkb BK585 hb; clear hb hbox hg; have hnb47 := NB591_558.out; have hnc47 := NB558_591.out; have hnb48 := NB591_565.out; have hnc48 := NB565_591.out; have hnb49 := NB591_572.out; have hnc49 := NB572_591.out; have hnb50 := NB591_579.out; have hnc50 := NB579_591.out; have hnb51 := NB591_585.out; have hnc51 := NB585_591.out; obtain ⟨hcz52_0, hcz52_1, hcz52_2, hcz52_3⟩ := e4 BK591; obtain ⟨hfz52_0, hfz52_1, hfz52_2, hfz52_3⟩ := f4 BK591) | ((with_reducible refine gate_callee (f := 10) rfl ?_); refine gol (some 57) Try.func10 #[] ?_; (with_reducible refine (bocagelaw04_alive.calls k  true _ A11.out rfl).mono ?_); rintro e w53 ⟨rfl, hb⟩; refine ⟨_, rfl, ?_⟩; replace BK558 := Aside0.mk (blk_below (bkf BK558 NB558_591) hb); replace BK565 := Aside0.mk (blk_below (bkf BK565 NB565_591) hb); replace BK572 := Aside0.mk (blk_below (bkf BK572 NB572_591) hb); replace BK579 := Aside0.mk (blk_below (bkf BK579 NB579_591) hb); replace BK585 := Aside0.mk (blk_below (bkf BK585 NB585_591) hb); replace BK591 := Aside0.mk (blk_below (g := gb591) (o := .cells #[.int .i64 t586, .int .i64 t587, .int .i64 t588, .int .i64 t589] 27 (0, 0)) (bkp BK591) hb); replace HB := bst HB hb; (try clear hb); (try clear hb2); (try clear hk); (try clear hi); obtain ⟨hcz54_0, hcz54_1, hcz54_2, hcz54_3⟩ := e4 BK558; obtain ⟨hfz54_0, hfz54_1, hfz54_2, hfz54_3⟩ := f4 BK558; obtain ⟨hcz55_0, hcz55_1, hcz55_2, hcz55_3⟩ := e4 BK565; obtain ⟨hfz55_0, hfz55_1, hfz55_2, hfz55_3⟩ := f4 BK565; obtain ⟨hcz56_0, hcz56_1, hcz56_2, hcz56_3⟩ := e4 BK572; obtain ⟨hfz56_0, hfz56_1, hfz56_2, hfz56_3⟩ := f4 BK572; obtain ⟨hcz57_0, hcz57_1, hcz57_2, hcz57_3⟩ := e4 BK579; obtain ⟨hfz57_0, hfz57_1, hfz57_2, hfz57_3⟩ := f4 BK579; obtain ⟨hcz58_0, hcz58_1, hcz58_2, hcz58_3⟩ := e4 BK585; obtain ⟨hfz58_0, hfz58_1, hfz58_2, hfz58_3⟩ := f4 BK585; obtain ⟨hcz59_0, hcz59_1, hcz59_2, hcz59_3⟩ := e4 BK591; obtain ⟨hfz59_0, hfz59_1, hfz59_2, hfz59_3⟩ := f4 BK591))
          go_ret
          exact endB HB
         ·rw [if_neg c19] at H
          exact absurd ((Option.some.inj H).trans HRT.out) Bool.false_ne_true
        ·rw [if_neg c18] at H
         exact absurd ((Option.some.inj H).trans HRT.out) Bool.false_ne_true
       ·rw [if_neg c17] at H
        exact absurd ((Option.some.inj H).trans HRT.out) Bool.false_ne_true
      ·rw [if_neg c16] at H
       exact absurd ((Option.some.inj H).trans HRT.out) Bool.false_ne_true
     ·rw [if_neg c15] at H
      exact absurd ((Option.some.inj H).trans HRT.out) Bool.false_ne_true
    ·rw [if_neg c14] at H
     exact absurd ((Option.some.inj H).trans HRT.out) Bool.false_ne_true
   ·rw [if_neg c13] at H
    exact absurd ((Option.some.inj H).trans HRT.out) Bool.false_ne_true
  ·replace c12 := Bool.eq_false_iff.mpr c12
   subst c12
   have H1 : (some false) = some r := by rw [if_neg (show ¬ (false = true) by decide)] at H; exact H
   exact absurd ((Option.some.inj H1).trans HRT.out) Bool.false_ne_true
end
end Go.Proofs.Ytpeidnkbliafkaa.Print
