-- Laid by wip/print/bprint.py of this repo, over the kit's printer, with functions given by hand; not trusted: Lean checks it.
import Derived.Test.YtkkbmjfhpngalaaPrint0
import Derived.Test.YtkkbmjfhpngalaaPrint1
import Derived.Test.YtkkbmjfhpngalaaPrint4
import Derived.Test.YtkkbmjfhpngalaaSh
namespace Go.Proofs.Ytkkbmjfhpngalaa.Print
open Go.RowKit Go.Proofs.YtkkbmjfhpngalaaW.PrintWords Go.Proofs.YtkkbmjfhpngalaaW.PrintLast Go.Proofs.YtkkbmjfhpngalaaW.PrintMore
attribute [local go_sem] max2_int min2_int max_two min_two max_three min_three max_four min_four   -- for this text's walks alone
set_option linter.unusedVariables false
set_option linter.unusedSimpArgs false
/-! ### bocageref02_Next: function 32 -/
def bocageref02_Next.f (k : Nat) (a0_0 : Int) (a0_1 : Int) : Option (Int × Bool) := (bocageref02_Canon.f k a0_0 a0_1).bind fun bt105 => (if bt105.1 > 0 then (some (0, false)) else (if bt105.1 < 0 then ((bocageref02_Least64.f).bind fun t107 => (some (t107, true))) else (some (bt105.2, true))))
theorem bocageref02_Next.mono : ∀ a0 a1 k, LeO (bocageref02_Next.f k a0 a1) (bocageref02_Next.f (k + 1) a0 a1) := by
  intro a0 a1 k
  unfold bocageref02_Next.f
  repeat' first
      | (with_reducible exact bocageref02_Canon.mono _ _ _)
      | (with_reducible exact LeO.refl _)
      | (with_reducible exact LeO.none _)
      | (with_reducible refine LeO.ite ?_ ?_)
      | (with_reducible refine LeO.bind ?_ (fun _ => ?_))
      | exact bocageref02_Canon.mono _ _ _
      | exact LeO.none _
      | refine LeO.ite ?_ ?_
      | refine LeO.bind ?_ (fun _ => ?_)
set_option maxHeartbeats 8000000 in
set_option maxRecDepth 100000 in
theorem bocageref02_Next.calls (k : Nat) (a0_0 : Int) (a0_1 : Int) (r1 : Int) (r2 : Bool) (w : World) (h : bocageref02_Next.f k a0_0 a0_1 = some (r1, r2)) :
    Calls Try.prog 32 #[.agg #[.int .i64 a0_0, .int .i64 a0_1]] w fun e w' => e = .returned (.tuple #[.int .i64 r1, .bool r2]) ∧ Below w.heap.size w w' := by
  have hu23 := Try.underlying23
  have HB := Aside0.mk (Below.refl w.heap.size w)
  have H : ((bocageref02_Canon.f k a0_0 a0_1).bind fun bt105 => (if bt105.1 > 0 then (some (0, false)) else (if bt105.1 < 0 then ((bocageref02_Least64.f).bind fun t107 => (some (t107, true))) else (some (bt105.2, true))))) = some (r1, r2) := h
  clear h
  replace H := Option.bind_eq_some_iff.mp H
  obtain ⟨⟨t105, t106⟩, A20, H⟩ := H
  (try (set_option simprocs false in dsimp only at H))
  have A2 := Aside0.mk A20
  clear A20
  by_cases c3 : t105 > 0
  · rw [if_pos c3] at H
    have c3b0 : decide (0 < t105) = true := decide_eq_true c3
    clear c3
    simp only [Option.some.injEq, Prod.mk.injEq] at H
    obtain ⟨rfl, rfl⟩ := H
    go_enter Try.func32, Try.ntmps32
    go_wp2_with (first | ((with_reducible refine gate_dst (N := 1) rfl ?_); refine bxe (N := 1) (cs := #[.int .i64 a0_0, .int .i64 a0_1]) (t := 23) ?_; intro gb104 hg w4 hbox hb; have BK104 := Aside0.mk (hbox); have GW104 := lsz hg HB; have GE104 := lsz hg HB; replace HB := bst HB hb; clear hb hbox hg; obtain ⟨hcz5_0, hcz5_1⟩ := e2 BK104; obtain ⟨hfz5_0, hfz5_1⟩ := f2 BK104) | ((with_reducible refine gate_callee (f := 48) rfl ?_); refine gol (some 5) Try.func48 #[.agg #[.int .i64 a0_0, .int .i64 a0_1]] ?_; (with_reducible refine (bocageref02_Canon.calls k a0_0 a0_1 t105 t106 _ A2.out).mono ?_); rintro e w6 ⟨rfl, hb⟩; refine ⟨_, rfl, ?_⟩; replace BK104 := bkb BK104 hb; replace HB := bst HB hb; (try clear hb); (try clear hb2); (try clear hk); (try clear hi); obtain ⟨hcz7_0, hcz7_1⟩ := e2 BK104; obtain ⟨hfz7_0, hfz7_1⟩ := f2 BK104))
    go_ret2
    exact endB HB
  · rw [if_neg c3] at H
    have c3b0 : decide (0 < t105) = false := decide_eq_false c3
    clear c3
    by_cases c8 : t105 < 0
    · rw [if_pos c8] at H
      have c8b0 : decide (t105 < 0) = true := decide_eq_true c8
      clear c8
      replace H := Option.bind_eq_some_iff.mp H
      obtain ⟨t107, A90, H⟩ := H
      (try (set_option simprocs false in dsimp only at H))
      have A9 := Aside0.mk A90
      clear A90
      simp only [Option.some.injEq, Prod.mk.injEq] at H
      obtain ⟨rfl, rfl⟩ := H
      go_enter Try.func32, Try.ntmps32
      go_wp2_with (first | ((with_reducible refine gate_dst (N := 1) rfl ?_); refine bxe (N := 1) (cs := #[.int .i64 a0_0, .int .i64 a0_1]) (t := 23) ?_; intro gb104 hg w10 hbox hb; have BK104 := Aside0.mk (hbox); have GW104 := lsz hg HB; have GE104 := lsz hg HB; replace HB := bst HB hb; clear hb hbox hg; obtain ⟨hcz11_0, hcz11_1⟩ := e2 BK104; obtain ⟨hfz11_0, hfz11_1⟩ := f2 BK104) | ((with_reducible refine gate_callee (f := 48) rfl ?_); refine gol (some 5) Try.func48 #[.agg #[.int .i64 a0_0, .int .i64 a0_1]] ?_; (with_reducible refine (bocageref02_Canon.calls k a0_0 a0_1 t105 t106 _ A2.out).mono ?_); rintro e w12 ⟨rfl, hb⟩; refine ⟨_, rfl, ?_⟩; replace BK104 := bkb BK104 hb; replace HB := bst HB hb; (try clear hb); (try clear hb2); (try clear hk); (try clear hi); obtain ⟨hcz13_0, hcz13_1⟩ := e2 BK104; obtain ⟨hfz13_0, hfz13_1⟩ := f2 BK104) | ((with_reducible refine gate_callee (f := 62) rfl ?_); refine gol (some 12) Try.func62 #[] ?_; (with_reducible refine (bocageref02_Least64.calls  t107 _ A9.out).mono ?_); rintro e w' ⟨rfl, ⟨nd, rfl⟩⟩; refine ⟨_, rfl, ?_⟩))
      go_ret2
      exact endB HB
    · rw [if_neg c8] at H
      have c8b0 : decide (t105 < 0) = false := decide_eq_false c8
      clear c8
      simp only [Option.some.injEq, Prod.mk.injEq] at H
      obtain ⟨rfl, rfl⟩ := H
      go_enter Try.func32, Try.ntmps32
      go_wp2_with (first | ((with_reducible refine gate_dst (N := 1) rfl ?_); refine bxe (N := 1) (cs := #[.int .i64 a0_0, .int .i64 a0_1]) (t := 23) ?_; intro gb104 hg w14 hbox hb; have BK104 := Aside0.mk (hbox); have GW104 := lsz hg HB; have GE104 := lsz hg HB; replace HB := bst HB hb; clear hb hbox hg; obtain ⟨hcz15_0, hcz15_1⟩ := e2 BK104; obtain ⟨hfz15_0, hfz15_1⟩ := f2 BK104) | ((with_reducible refine gate_callee (f := 48) rfl ?_); refine gol (some 5) Try.func48 #[.agg #[.int .i64 a0_0, .int .i64 a0_1]] ?_; (with_reducible refine (bocageref02_Canon.calls k a0_0 a0_1 t105 t106 _ A2.out).mono ?_); rintro e w16 ⟨rfl, hb⟩; refine ⟨_, rfl, ?_⟩; replace BK104 := bkb BK104 hb; replace HB := bst HB hb; (try clear hb); (try clear hb2); (try clear hk); (try clear hi); obtain ⟨hcz17_0, hcz17_1⟩ := e2 BK104; obtain ⟨hfz17_0, hfz17_1⟩ := f2 BK104))
      go_ret2
      exact endB HB
section
attribute [local go_sem high] eqA23
/-! ### bocageref03_Right: function 12 -/
def bocageref03_Right.f (k : Nat) (a0_0 : Int) (a0_1 : Int) (a0_2 : Int) (a0_3 : Int) : Option (Bool) := (bocageref02_Canon.f k a0_0 a0_1).bind fun bt115 => (if (bt115.1 == a0_0 && (bt115.2 == a0_1)) = true then ((bocageref02_Canon.f k a0_2 a0_3).bind fun bt117 => (if (bt117.1 == a0_2 && (bt117.2 == a0_3)) = true then ((bocageref02_Less.f k a0_0 a0_1 a0_2 a0_3).bind fun t119 => (some t119)) else (some false))) else (some false))
theorem bocageref03_Right.mono : ∀ a0 a1 a2 a3 k, LeO (bocageref03_Right.f k a0 a1 a2 a3) (bocageref03_Right.f (k + 1) a0 a1 a2 a3) := by
  intro a0 a1 a2 a3 k
  unfold bocageref03_Right.f
  repeat' first
      | (with_reducible exact bocageref02_Canon.mono _ _ _)
      | (with_reducible exact bocageref02_Less.mono _ _ _ _ _)
      | (with_reducible exact LeO.refl _)
      | (with_reducible exact LeO.none _)
      | (with_reducible refine LeO.ite ?_ ?_)
      | (with_reducible refine LeO.bind ?_ (fun _ => ?_))
      | exact bocageref02_Canon.mono _ _ _
      | exact bocageref02_Less.mono _ _ _ _ _
      | exact LeO.none _
      | refine LeO.ite ?_ ?_
      | refine LeO.bind ?_ (fun _ => ?_)
def bocageref03_Right.T1 : Bool × List (List Nat × List Nat) := (true, [([], []), ([0], [0]), ([1], [1]), ([], []), ([3], [3]), ([2, 4], [2, 4]), ([5, 2], [5]), ([6], [6]), ([7, 6], [6, 7]), ([8, 6, 6], [6, 8]), ([6], [6]), ([10, 6], [6, 10]), ([9, 11, 6], [6, 9, 11]), ([6, 12], [6, 12]), ([13, 9], [13]), ([14], [14]), ([15, 14], [14, 15]), ([14], [14]), ([17, 14], [14, 17]), ([16, 18, 14, 14], [14, 16, 18]), ([14, 19], [14, 19]), ([20, 19, 0, 1, 2, 3, 4, 5, 6, 7, 8, 9, 10, 11, 12, 13, 14, 15, 16, 17, 18, 19, 20], [20])])
def bocageref03_Right.B1 : List Nat := [0, 1, 3, 0, 8, 31, 63, 127, 255, 511, 127, 1151, 4095, 8191, 16383, 32767, 65535, 32767, 163839, 524287, 1048575, 2097151]
theorem bocageref03_Right.tab1 : rtab .any (opsOf Try.f12 1) = bocageref03_Right.T1 := by kernel_rfl
theorem bocageref03_Right.bits1 : waitsOk bocageref03_Right.T1.2 bocageref03_Right.B1 = true := by kernel_rfl
set_option maxHeartbeats 8000000 in
set_option maxRecDepth 100000 in
theorem bocageref03_Right.calls (k : Nat) (a0_0 : Int) (a0_1 : Int) (a0_2 : Int) (a0_3 : Int) (r : Bool) (w : World) (h : bocageref03_Right.f k a0_0 a0_1 a0_2 a0_3 = some r) :
    Calls Try.prog 12 #[.agg #[.int .i64 a0_0, .int .i64 a0_1, .int .i64 a0_2, .int .i64 a0_3]] w fun e w' => e = .returned (.bool r) ∧ Below w.heap.size w w' := by
  have hu25 := Try.underlying25
  have hu23 := Try.underlying23
  have HB := Aside0.mk (Below.refl w.heap.size w)
  have H : ((bocageref02_Canon.f k a0_0 a0_1).bind fun bt115 => (if (bt115.1 == a0_0 && (bt115.2 == a0_1)) = true then ((bocageref02_Canon.f k a0_2 a0_3).bind fun bt117 => (if (bt117.1 == a0_2 && (bt117.2 == a0_3)) = true then ((bocageref02_Less.f k a0_0 a0_1 a0_2 a0_3).bind fun t119 => (some t119)) else (some false))) else (some false))) = some r := h
  clear h
  replace H := Option.bind_eq_some_iff.mp H
  obtain ⟨⟨t115, t116⟩, A20, H⟩ := H
  (try (set_option simprocs false in dsimp only at H))
  have A2 := Aside0.mk A20
  clear A20
  by_cases c3 : (t115 == a0_0 && (t116 == a0_1)) = true
  · rw [if_pos c3] at H
    have c3b0 : (t115 == a0_0 && (t116 == a0_1)) = true := c3
    (try (have c3b1 : decide (t115 = a0_0 && (t116 == a0_1)) = true := by simpa using c3))
    (try (have c3b2 : (t115 == a0_0 && (t116 == a0_1)) = true := by simpa using c3))
    clear c3
    replace H := Option.bind_eq_some_iff.mp H
    obtain ⟨⟨t117, t118⟩, A40, H⟩ := H
    (try (set_option simprocs false in dsimp only at H))
    have A4 := Aside0.mk A40
    clear A40
    by_cases c5 : (t117 == a0_2 && (t118 == a0_3)) = true
    · rw [if_pos c5] at H
      have c5b0 : (t117 == a0_2 && (t118 == a0_3)) = true := c5
      (try (have c5b1 : decide (t117 = a0_2 && (t118 == a0_3)) = true := by simpa using c5))
      (try (have c5b2 : (t117 == a0_2 && (t118 == a0_3)) = true := by simpa using c5))
      clear c5
      replace H := Option.bind_eq_some_iff.mp H
      obtain ⟨t119, A60, H⟩ := H
      (try (set_option simprocs false in dsimp only at H))
      have A6 := Aside0.mk A60
      clear A60
      obtain rfl := Option.some.inj H
      go_enter Try.func12, Try.ntmps12
      try go_wp2_with (first | ((with_reducible refine gate_dst (N := 1) rfl ?_); refine bxe (N := 1) (cs := #[.int .i64 a0_0, .int .i64 a0_1, .int .i64 a0_2, .int .i64 a0_3]) (t := 25) ?_; intro gb114 hg w7 hbox hb; have BK114 := Aside0.mk (hbox); have GW114 := lsz hg HB; have GE114 := lsz hg HB; replace HB := bst HB hb; clear hb hbox hg))
      replace BK114 := Aside0.mk (blk_drew BK114.out)
      replace HB := Aside0.mk (below_drew1 HB.out)
      refine start_ (n := 22) (S := fun w' => w'.cell? ⟨gb114, 0, none⟩ = some (.int .i64 a0_0) ∧ w'.cell? ⟨gb114, 1, none⟩ = some (.int .i64 a0_1) ∧ w'.cell? ⟨gb114, 2, none⟩ = some (.int .i64 a0_2) ∧ w'.cell? ⟨gb114, 3, none⟩ = some (.int .i64 a0_3)) (ds := []) #[false, false, false, false, false, false, false, false, false, false, false, false, false, false, false, false, false, false, false, false, false, false] (by kernel_rfl) rfl rfl (e4 BK114) (fun hHeld => ?_); refine with_tabW bocageref03_Right.tab1 bocageref03_Right.bits1 (fun HT_ HW_ => ?_)
      generalize w7.drew = w8 at BK114 HB hHeld ⊢
      refine pu 0 (some 3) #[true, false, false, false, false, false, false, false, false, false, false, false, false, false, false, false, false, false, false, false, false, false] (any_of HT_.out (by kernel_rfl)) ?_
      refine pu 3 (some 6) #[true, false, false, true, false, false, false, false, false, false, false, false, false, false, false, false, false, false, false, false, false, false] (any_of HT_.out (by kernel_rfl)) ?_
      refine tk4 1 (some 4) #[true, true, false, true, false, false, false, false, false, false, false, false, false, false, false, false, false, false, false, false, false, false] (take_ofW HT_.out HW_.out (by kernel_rfl)) hHeld ?_
      refine tk4 4 (some 7) #[true, true, false, true, true, false, false, false, false, false, false, false, false, false, false, false, false, false, false, false, false, false] (take_ofW HT_.out HW_.out (by kernel_rfl)) hHeld ?_
      refine one_ (i := 2) (N := some 5) #[true, true, true, true, true, false, false, false, false, false, false, false, false, false, false, false, false, false, false, false, false, false] rfl rfl (one_of HT_.out (by kernel_rfl)) (by decide) (fun K hK => ?_)
      refine goes_ Try.func48 (by kernel_rfl) rfl #[.agg #[.int .i64 a0_0, .int .i64 a0_1]] (by rfl) rfl rfl (by (try simp only [List.map_toArray, List.map_cons, List.map_nil]); first | done | rfl | (simp only [List.length_drop, List.length_take]; rfl)) ?_
      with_reducible refine (bocageref02_Canon.calls k a0_0 a0_1 t115 t116 _ A2.out).mono ?_
      rintro e w9 ⟨rfl, hb⟩
      refine ⟨_, rfl, ?_⟩
      replace BK114 := bkb BK114 hb
      replace HB := bst HB hb
      (try clear hb)
      (try clear hb2)
      (try clear hk)
      (try clear hi)
      refine hK.out _ _ (e4 BK114) (fun hHeld => ?_)
      clear hK K
      refine nrp 5 ?_
      refine pu 5 (some 8) #[true, true, true, true, true, true, false, false, false, false, false, false, false, false, false, false, false, false, false, false, false, false] (any_of HT_.out (by kernel_rfl)) ?_
      refine pu 6 (some 9) #[true, true, true, true, true, true, true, false, false, false, false, false, false, false, false, false, false, false, false, false, false, false] (any_of HT_.out (by kernel_rfl)) ?_
      refine pu 7 (some 10) #[true, true, true, true, true, true, true, true, false, false, false, false, false, false, false, false, false, false, false, false, false, false] (any_of HT_.out (by kernel_rfl)) ?_
      refine pu 10 (some 13) #[true, true, true, true, true, true, true, true, false, false, true, false, false, false, false, false, false, false, false, false, false, false] (any_of HT_.out (by kernel_rfl)) ?_
      refine tk4 8 (some 11) #[true, true, true, true, true, true, true, true, true, false, true, false, false, false, false, false, false, false, false, false, false, false] (take_ofW HT_.out HW_.out (by kernel_rfl)) hHeld ?_
      refine tk4 11 (some 14) #[true, true, true, true, true, true, true, true, true, false, true, true, false, false, false, false, false, false, false, false, false, false] (take_ofW HT_.out HW_.out (by kernel_rfl)) hHeld ?_
      refine one_ (i := 9) (N := some 12) #[true, true, true, true, true, true, true, true, true, true, true, true, false, false, false, false, false, false, false, false, false, false] rfl rfl (one_of HT_.out (by kernel_rfl)) (by decide) (fun K hK => ?_)
      refine goes_ Try.func48 (by kernel_rfl) rfl #[.agg #[.int .i64 a0_2, .int .i64 a0_3]] (by rfl) rfl rfl (by (try simp only [List.map_toArray, List.map_cons, List.map_nil]); first | done | rfl | (simp only [List.length_drop, List.length_take]; rfl)) ?_
      with_reducible refine (bocageref02_Canon.calls k a0_2 a0_3 t117 t118 _ A4.out).mono ?_
      rintro e w10 ⟨rfl, hb⟩
      refine ⟨_, rfl, ?_⟩
      replace BK114 := bkb BK114 hb
      replace HB := bst HB hb
      (try clear hb)
      (try clear hb2)
      (try clear hk)
      (try clear hi)
      refine hK.out _ _ (e4 BK114) (fun hHeld => ?_)
      clear hK K
      refine nrp 12 ?_
      refine pu 12 (some 15) #[true, true, true, true, true, true, true, true, true, true, true, true, true, false, false, false, false, false, false, false, false, false] (any_of HT_.out (by kernel_rfl)) ?_
      refine pu 13 (some 16) #[true, true, true, true, true, true, true, true, true, true, true, true, true, true, false, false, false, false, false, false, false, false] (any_of HT_.out (by kernel_rfl)) ?_
      refine pu 14 (some 17) #[true, true, true, true, true, true, true, true, true, true, true, true, true, true, true, false, false, false, false, false, false, false] (any_of HT_.out (by kernel_rfl)) ?_
      refine pu 15 (some 18) #[true, true, true, true, true, true, true, true, true, true, true, true, true, true, true, true, false, false, false, false, false, false] (any_of HT_.out (by kernel_rfl)) ?_
      refine pu 17 (some 20) #[true, true, true, true, true, true, true, true, true, true, true, true, true, true, true, true, false, true, false, false, false, false] (any_of HT_.out (by kernel_rfl)) ?_
      refine tk4 16 (some 19) #[true, true, true, true, true, true, true, true, true, true, true, true, true, true, true, true, true, true, false, false, false, false] (take_ofW HT_.out HW_.out (by kernel_rfl)) hHeld ?_
      refine tk4 18 (some 21) #[true, true, true, true, true, true, true, true, true, true, true, true, true, true, true, true, true, true, true, false, false, false] (take_ofW HT_.out HW_.out (by kernel_rfl)) hHeld ?_
      refine one_ (i := 19) (N := some 22) #[true, true, true, true, true, true, true, true, true, true, true, true, true, true, true, true, true, true, true, true, false, false] rfl rfl (one_of HT_.out (by kernel_rfl)) (by decide) (fun K hK => ?_)
      refine goes_ Try.func49 (by kernel_rfl) rfl #[.agg #[.int .i64 a0_0, .int .i64 a0_1], .agg #[.int .i64 a0_2, .int .i64 a0_3]] (by rfl) rfl rfl (by (try simp only [List.map_toArray, List.map_cons, List.map_nil]); first | done | rfl | (simp only [List.length_drop, List.length_take]; rfl)) ?_
      with_reducible refine (bocageref02_Less.calls k a0_0 a0_1 a0_2 a0_3 t119 _ A6.out).mono ?_
      rintro e w11 ⟨rfl, hb⟩
      refine ⟨_, rfl, ?_⟩
      replace BK114 := bkb BK114 hb
      replace HB := bst HB hb
      (try clear hb)
      (try clear hb2)
      (try clear hk)
      (try clear hi)
      refine hK.out _ _ (e4 BK114) (fun hHeld => ?_)
      clear hK K
      refine nrp 22 ?_
      refine pu 20 (some 23) #[true, true, true, true, true, true, true, true, true, true, true, true, true, true, true, true, true, true, true, true, true, false] (any_of HT_.out (by kernel_rfl)) ?_
      refine pu 21 (some 2) #[true, true, true, true, true, true, true, true, true, true, true, true, true, true, true, true, true, true, true, true, true, true] (any_of HT_.out (by kernel_rfl)) ?_
      refine done_ (done_of HT_.out (by kernel_rfl)) ?_
      try go_wp2
      go_ret
      exact endB HB
    · rw [if_neg c5] at H
      have c5b0 : (t117 == a0_2 && (t118 == a0_3)) = false := by simpa using c5
      (try (have c5b1 : decide (t117 = a0_2 && (t118 == a0_3)) = false := by simpa using c5))
      (try (have c5b2 : (t117 == a0_2 && (t118 == a0_3)) = false := by simpa using c5))
      (try (have c5b3 : ¬ (t117 = a0_2 && (t118 == a0_3)) := by simpa using c5))
      clear c5
      obtain rfl := Option.some.inj H
      go_enter Try.func12, Try.ntmps12
      try go_wp2_with (first | ((with_reducible refine gate_dst (N := 1) rfl ?_); refine bxe (N := 1) (cs := #[.int .i64 a0_0, .int .i64 a0_1, .int .i64 a0_2, .int .i64 a0_3]) (t := 25) ?_; intro gb114 hg w12 hbox hb; have BK114 := Aside0.mk (hbox); have GW114 := lsz hg HB; have GE114 := lsz hg HB; replace HB := bst HB hb; clear hb hbox hg))
      replace BK114 := Aside0.mk (blk_drew BK114.out)
      replace HB := Aside0.mk (below_drew1 HB.out)
      refine start_ (n := 22) (S := fun w' => w'.cell? ⟨gb114, 0, none⟩ = some (.int .i64 a0_0) ∧ w'.cell? ⟨gb114, 1, none⟩ = some (.int .i64 a0_1) ∧ w'.cell? ⟨gb114, 2, none⟩ = some (.int .i64 a0_2) ∧ w'.cell? ⟨gb114, 3, none⟩ = some (.int .i64 a0_3)) (ds := []) #[false, false, false, false, false, false, false, false, false, false, false, false, false, false, false, false, false, false, false, false, false, false] (by kernel_rfl) rfl rfl (e4 BK114) (fun hHeld => ?_); refine with_tabW bocageref03_Right.tab1 bocageref03_Right.bits1 (fun HT_ HW_ => ?_)
      generalize w12.drew = w13 at BK114 HB hHeld ⊢
      refine pu 0 (some 3) #[true, false, false, false, false, false, false, false, false, false, false, false, false, false, false, false, false, false, false, false, false, false] (any_of HT_.out (by kernel_rfl)) ?_
      refine pu 3 (some 6) #[true, false, false, true, false, false, false, false, false, false, false, false, false, false, false, false, false, false, false, false, false, false] (any_of HT_.out (by kernel_rfl)) ?_
      refine tk4 1 (some 4) #[true, true, false, true, false, false, false, false, false, false, false, false, false, false, false, false, false, false, false, false, false, false] (take_ofW HT_.out HW_.out (by kernel_rfl)) hHeld ?_
      refine tk4 4 (some 7) #[true, true, false, true, true, false, false, false, false, false, false, false, false, false, false, false, false, false, false, false, false, false] (take_ofW HT_.out HW_.out (by kernel_rfl)) hHeld ?_
      refine one_ (i := 2) (N := some 5) #[true, true, true, true, true, false, false, false, false, false, false, false, false, false, false, false, false, false, false, false, false, false] rfl rfl (one_of HT_.out (by kernel_rfl)) (by decide) (fun K hK => ?_)
      refine goes_ Try.func48 (by kernel_rfl) rfl #[.agg #[.int .i64 a0_0, .int .i64 a0_1]] (by rfl) rfl rfl (by (try simp only [List.map_toArray, List.map_cons, List.map_nil]); first | done | rfl | (simp only [List.length_drop, List.length_take]; rfl)) ?_
      with_reducible refine (bocageref02_Canon.calls k a0_0 a0_1 t115 t116 _ A2.out).mono ?_
      rintro e w14 ⟨rfl, hb⟩
      refine ⟨_, rfl, ?_⟩
      replace BK114 := bkb BK114 hb
      replace HB := bst HB hb
      (try clear hb)
      (try clear hb2)
      (try clear hk)
      (try clear hi)
      refine hK.out _ _ (e4 BK114) (fun hHeld => ?_)
      clear hK K
      refine nrp 5 ?_
      refine pu 5 (some 8) #[true, true, true, true, true, true, false, false, false, false, false, false, false, false, false, false, false, false, false, false, false, false] (any_of HT_.out (by kernel_rfl)) ?_
      refine pu 6 (some 9) #[true, true, true, true, true, true, true, false, false, false, false, false, false, false, false, false, false, false, false, false, false, false] (any_of HT_.out (by kernel_rfl)) ?_
      refine pu 7 (some 10) #[true, true, true, true, true, true, true, true, false, false, false, false, false, false, false, false, false, false, false, false, false, false] (any_of HT_.out (by kernel_rfl)) ?_
      refine pu 10 (some 13) #[true, true, true, true, true, true, true, true, false, false, true, false, false, false, false, false, false, false, false, false, false, false] (any_of HT_.out (by kernel_rfl)) ?_
      refine tk4 8 (some 11) #[true, true, true, true, true, true, true, true, true, false, true, false, false, false, false, false, false, false, false, false, false, false] (take_ofW HT_.out HW_.out (by kernel_rfl)) hHeld ?_
      refine tk4 11 (some 14) #[true, true, true, true, true, true, true, true, true, false, true, true, false, false, false, false, false, false, false, false, false, false] (take_ofW HT_.out HW_.out (by kernel_rfl)) hHeld ?_
      refine one_ (i := 9) (N := some 12) #[true, true, true, true, true, true, true, true, true, true, true, true, false, false, false, false, false, false, false, false, false, false] rfl rfl (one_of HT_.out (by kernel_rfl)) (by decide) (fun K hK => ?_)
      refine goes_ Try.func48 (by kernel_rfl) rfl #[.agg #[.int .i64 a0_2, .int .i64 a0_3]] (by rfl) rfl rfl (by (try simp only [List.map_toArray, List.map_cons, List.map_nil]); first | done | rfl | (simp only [List.length_drop, List.length_take]; rfl)) ?_
      with_reducible refine (bocageref02_Canon.calls k a0_2 a0_3 t117 t118 _ A4.out).mono ?_
      rintro e w15 ⟨rfl, hb⟩
      refine ⟨_, rfl, ?_⟩
      replace BK114 := bkb BK114 hb
      replace HB := bst HB hb
      (try clear hb)
      (try clear hb2)
      (try clear hk)
      (try clear hi)
      refine hK.out _ _ (e4 BK114) (fun hHeld => ?_)
      clear hK K
      refine nrp 12 ?_
      refine pu 12 (some 15) #[true, true, true, true, true, true, true, true, true, true, true, true, true, false, false, false, false, false, false, false, false, false] (any_of HT_.out (by kernel_rfl)) ?_
      refine pu 13 (some 16) #[true, true, true, true, true, true, true, true, true, true, true, true, true, true, false, false, false, false, false, false, false, false] (any_of HT_.out (by kernel_rfl)) ?_
      refine pu 14 (some 17) #[true, true, true, true, true, true, true, true, true, true, true, true, true, true, true, false, false, false, false, false, false, false] (any_of HT_.out (by kernel_rfl)) ?_
      refine pv 15 (some 18) #[true, true, true, true, true, true, true, true, true, true, true, true, true, true, true, true, false, false, false, false, false, false] (any_of HT_.out (by kernel_rfl)) ?_
      refine pv 16 (some 19) #[true, true, true, true, true, true, true, true, true, true, true, true, true, true, true, true, true, false, false, false, false, false] (any_of HT_.out (by kernel_rfl)) ?_
      refine pv 17 (some 20) #[true, true, true, true, true, true, true, true, true, true, true, true, true, true, true, true, true, true, false, false, false, false] (any_of HT_.out (by kernel_rfl)) ?_
      refine pv 18 (some 21) #[true, true, true, true, true, true, true, true, true, true, true, true, true, true, true, true, true, true, true, false, false, false] (any_of HT_.out (by kernel_rfl)) ?_
      refine pv 19 (some 22) #[true, true, true, true, true, true, true, true, true, true, true, true, true, true, true, true, true, true, true, true, false, false] (any_of HT_.out (by kernel_rfl)) ?_
      refine pu 20 (some 23) #[true, true, true, true, true, true, true, true, true, true, true, true, true, true, true, true, true, true, true, true, true, false] (any_of HT_.out (by kernel_rfl)) ?_
      refine pu 21 (some 2) #[true, true, true, true, true, true, true, true, true, true, true, true, true, true, true, true, true, true, true, true, true, true] (any_of HT_.out (by kernel_rfl)) ?_
      refine done_ (done_of HT_.out (by kernel_rfl)) ?_
      try go_wp2
      go_ret
      exact endB HB
  · rw [if_neg c3] at H
    have c3b0 : (t115 == a0_0 && (t116 == a0_1)) = false := by simpa using c3
    (try (have c3b1 : decide (t115 = a0_0 && (t116 == a0_1)) = false := by simpa using c3))
    (try (have c3b2 : (t115 == a0_0 && (t116 == a0_1)) = false := by simpa using c3))
    (try (have c3b3 : ¬ (t115 = a0_0 && (t116 == a0_1)) := by simpa using c3))
    clear c3
    obtain rfl := Option.some.inj H
    go_enter Try.func12, Try.ntmps12
    try go_wp2_with (first | ((with_reducible refine gate_dst (N := 1) rfl ?_); refine bxe (N := 1) (cs := #[.int .i64 a0_0, .int .i64 a0_1, .int .i64 a0_2, .int .i64 a0_3]) (t := 25) ?_; intro gb114 hg w16 hbox hb; have BK114 := Aside0.mk (hbox); have GW114 := lsz hg HB; have GE114 := lsz hg HB; replace HB := bst HB hb; clear hb hbox hg))
    replace BK114 := Aside0.mk (blk_drew BK114.out)
    replace HB := Aside0.mk (below_drew1 HB.out)
    refine start_ (n := 22) (S := fun w' => w'.cell? ⟨gb114, 0, none⟩ = some (.int .i64 a0_0) ∧ w'.cell? ⟨gb114, 1, none⟩ = some (.int .i64 a0_1) ∧ w'.cell? ⟨gb114, 2, none⟩ = some (.int .i64 a0_2) ∧ w'.cell? ⟨gb114, 3, none⟩ = some (.int .i64 a0_3)) (ds := []) #[false, false, false, false, false, false, false, false, false, false, false, false, false, false, false, false, false, false, false, false, false, false] (by kernel_rfl) rfl rfl (e4 BK114) (fun hHeld => ?_); refine with_tabW bocageref03_Right.tab1 bocageref03_Right.bits1 (fun HT_ HW_ => ?_)
    generalize w16.drew = w17 at BK114 HB hHeld ⊢
    refine pu 0 (some 3) #[true, false, false, false, false, false, false, false, false, false, false, false, false, false, false, false, false, false, false, false, false, false] (any_of HT_.out (by kernel_rfl)) ?_
    refine pu 3 (some 6) #[true, false, false, true, false, false, false, false, false, false, false, false, false, false, false, false, false, false, false, false, false, false] (any_of HT_.out (by kernel_rfl)) ?_
    refine tk4 1 (some 4) #[true, true, false, true, false, false, false, false, false, false, false, false, false, false, false, false, false, false, false, false, false, false] (take_ofW HT_.out HW_.out (by kernel_rfl)) hHeld ?_
    refine tk4 4 (some 7) #[true, true, false, true, true, false, false, false, false, false, false, false, false, false, false, false, false, false, false, false, false, false] (take_ofW HT_.out HW_.out (by kernel_rfl)) hHeld ?_
    refine one_ (i := 2) (N := some 5) #[true, true, true, true, true, false, false, false, false, false, false, false, false, false, false, false, false, false, false, false, false, false] rfl rfl (one_of HT_.out (by kernel_rfl)) (by decide) (fun K hK => ?_)
    refine goes_ Try.func48 (by kernel_rfl) rfl #[.agg #[.int .i64 a0_0, .int .i64 a0_1]] (by rfl) rfl rfl (by (try simp only [List.map_toArray, List.map_cons, List.map_nil]); first | done | rfl | (simp only [List.length_drop, List.length_take]; rfl)) ?_
    with_reducible refine (bocageref02_Canon.calls k a0_0 a0_1 t115 t116 _ A2.out).mono ?_
    rintro e w18 ⟨rfl, hb⟩
    refine ⟨_, rfl, ?_⟩
    replace BK114 := bkb BK114 hb
    replace HB := bst HB hb
    (try clear hb)
    (try clear hb2)
    (try clear hk)
    (try clear hi)
    refine hK.out _ _ (e4 BK114) (fun hHeld => ?_)
    clear hK K
    refine nrp 5 ?_
    refine pu 5 (some 8) #[true, true, true, true, true, true, false, false, false, false, false, false, false, false, false, false, false, false, false, false, false, false] (any_of HT_.out (by kernel_rfl)) ?_
    refine pu 6 (some 9) #[true, true, true, true, true, true, true, false, false, false, false, false, false, false, false, false, false, false, false, false, false, false] (any_of HT_.out (by kernel_rfl)) ?_
    refine pv 7 (some 10) #[true, true, true, true, true, true, true, true, false, false, false, false, false, false, false, false, false, false, false, false, false, false] (any_of HT_.out (by kernel_rfl)) ?_
    refine pv 8 (some 11) #[true, true, true, true, true, true, true, true, true, false, false, false, false, false, false, false, false, false, false, false, false, false] (any_of HT_.out (by kernel_rfl)) ?_
    refine pv 9 (some 12) #[true, true, true, true, true, true, true, true, true, true, false, false, false, false, false, false, false, false, false, false, false, false] (any_of HT_.out (by kernel_rfl)) ?_
    refine pv 10 (some 13) #[true, true, true, true, true, true, true, true, true, true, true, false, false, false, false, false, false, false, false, false, false, false] (any_of HT_.out (by kernel_rfl)) ?_
    refine pv 11 (some 14) #[true, true, true, true, true, true, true, true, true, true, true, true, false, false, false, false, false, false, false, false, false, false] (any_of HT_.out (by kernel_rfl)) ?_
    refine pv 12 (some 15) #[true, true, true, true, true, true, true, true, true, true, true, true, true, false, false, false, false, false, false, false, false, false] (any_of HT_.out (by kernel_rfl)) ?_
    refine pu 13 (some 16) #[true, true, true, true, true, true, true, true, true, true, true, true, true, true, false, false, false, false, false, false, false, false] (any_of HT_.out (by kernel_rfl)) ?_
    refine pu 14 (some 17) #[true, true, true, true, true, true, true, true, true, true, true, true, true, true, true, false, false, false, false, false, false, false] (any_of HT_.out (by kernel_rfl)) ?_
    refine pv 15 (some 18) #[true, true, true, true, true, true, true, true, true, true, true, true, true, true, true, true, false, false, false, false, false, false] (any_of HT_.out (by kernel_rfl)) ?_
    refine pv 16 (some 19) #[true, true, true, true, true, true, true, true, true, true, true, true, true, true, true, true, true, false, false, false, false, false] (any_of HT_.out (by kernel_rfl)) ?_
    refine pv 17 (some 20) #[true, true, true, true, true, true, true, true, true, true, true, true, true, true, true, true, true, true, false, false, false, false] (any_of HT_.out (by kernel_rfl)) ?_
    refine pv 18 (some 21) #[true, true, true, true, true, true, true, true, true, true, true, true, true, true, true, true, true, true, true, false, false, false] (any_of HT_.out (by kernel_rfl)) ?_
    refine pv 19 (some 22) #[true, true, true, true, true, true, true, true, true, true, true, true, true, true, true, true, true, true, true, true, false, false] (any_of HT_.out (by kernel_rfl)) ?_
    refine pu 20 (some 23) #[true, true, true, true, true, true, true, true, true, true, true, true, true, true, true, true, true, true, true, true, true, false] (any_of HT_.out (by kernel_rfl)) ?_
    refine pu 21 (some 2) #[true, true, true, true, true, true, true, true, true, true, true, true, true, true, true, true, true, true, true, true, true, true] (any_of HT_.out (by kernel_rfl)) ?_
    refine done_ (done_of HT_.out (by kernel_rfl)) ?_
    try go_wp2
    go_ret
    exact endB HB
end
/-! ### bocageref02_Ahead: function 35 -/
def bocageref02_Ahead.f (k : Nat) (a0 : Int) : Option (Int × Int) := (bocageref02_Canon.f k 0 a0).bind fun bt121 => (some (bt121.1, bt121.2))
theorem bocageref02_Ahead.mono : ∀ a0 k, LeO (bocageref02_Ahead.f k a0) (bocageref02_Ahead.f (k + 1) a0) := by
  intro a0 k
  unfold bocageref02_Ahead.f
  repeat' first
      | (with_reducible exact bocageref02_Canon.mono _ _ _)
      | (with_reducible exact LeO.refl _)
      | (with_reducible exact LeO.none _)
      | (with_reducible refine LeO.ite ?_ ?_)
      | (with_reducible refine LeO.bind ?_ (fun _ => ?_))
      | exact bocageref02_Canon.mono _ _ _
      | exact LeO.none _
      | refine LeO.ite ?_ ?_
      | refine LeO.bind ?_ (fun _ => ?_)
set_option maxHeartbeats 8000000 in
set_option maxRecDepth 100000 in
theorem bocageref02_Ahead.calls (k : Nat) (a0 : Int) (r1 : Int) (r2 : Int) (w : World) (h : bocageref02_Ahead.f k a0 = some (r1, r2)) :
    Calls Try.prog 35 #[.int .i64 a0] w fun e w' => e = .returned (.agg #[.int .i64 r1, .int .i64 r2]) ∧ Below w.heap.size w w' := by
  have hu23 := Try.underlying23
  have HB := Aside0.mk (Below.refl w.heap.size w)
  have H : ((bocageref02_Canon.f k 0 a0).bind fun bt121 => (some (bt121.1, bt121.2))) = some (r1, r2) := h
  clear h
  replace H := Option.bind_eq_some_iff.mp H
  obtain ⟨⟨t121, t122⟩, A20, H⟩ := H
  (try (set_option simprocs false in dsimp only at H))
  have A2 := Aside0.mk A20
  clear A20
  simp only [Option.some.injEq, Prod.mk.injEq] at H
  obtain ⟨rfl, rfl⟩ := H
  go_enter Try.func35, Try.ntmps35
  go_wp2_with (first | ((with_reducible refine gate_dst (N := 2) rfl ?_); refine bxe (N := 2) (cs := #[.int .i64 0, .int .i64 0]) (t := 23) ?_; intro gb120 hg w3 hbox hb; have BK120 := Aside0.mk (hbox); have GW120 := lsz hg HB; have GE120 := lsz hg HB; replace HB := bst HB hb; clear hb hbox hg) | ((with_reducible refine gate_callee (f := 48) rfl ?_); refine gol (some 5) Try.func48 #[.agg #[.int .i64 0, .int .i64 a0]] ?_; (with_reducible refine (bocageref02_Canon.calls k 0 a0 t121 t122 _ A2.out).mono ?_); rintro e w4 ⟨rfl, hb⟩; refine ⟨_, rfl, ?_⟩; replace BK120 := bkb BK120 hb; replace HB := bst HB hb; (try clear hb); (try clear hb2); (try clear hk); (try clear hi); obtain ⟨hcz5_0, hcz5_1⟩ := e2 BK120; obtain ⟨hfz5_0, hfz5_1⟩ := f2 BK120))
  refine bodyPost_ret (results_cell_row rfl _ _ gb120 23 #[.int .i64 t121, .int .i64 t122] (0, 0) _ rfl (bkp BK120) Try.underlying23 rfl (by kernel_rfl)) rfl ?_
  exact endB HB
/-! ### bocageref02_Prev: function 33 -/
def bocageref02_Prev.f (k : Nat) (a0_0 : Int) (a0_1 : Int) : Option (Int × Bool) := (bocageref02_Canon.f k a0_0 a0_1).bind fun bt565 => (if bt565.1 < 0 then (some (0, false)) else (if bt565.1 > 0 then (some (9223372036854775807, true)) else (some (wrap64 (bt565.2 - 1), true))))
theorem bocageref02_Prev.mono : ∀ a0 a1 k, LeO (bocageref02_Prev.f k a0 a1) (bocageref02_Prev.f (k + 1) a0 a1) := by
  intro a0 a1 k
  unfold bocageref02_Prev.f
  repeat' first
      | (with_reducible exact bocageref02_Canon.mono _ _ _)
      | (with_reducible exact LeO.refl _)
      | (with_reducible exact LeO.none _)
      | (with_reducible refine LeO.ite ?_ ?_)
      | (with_reducible refine LeO.bind ?_ (fun _ => ?_))
      | exact bocageref02_Canon.mono _ _ _
      | exact LeO.none _
      | refine LeO.ite ?_ ?_
      | refine LeO.bind ?_ (fun _ => ?_)
set_option maxHeartbeats 8000000 in
set_option maxRecDepth 100000 in
theorem bocageref02_Prev.calls (k : Nat) (a0_0 : Int) (a0_1 : Int) (r1 : Int) (r2 : Bool) (w : World) (h : bocageref02_Prev.f k a0_0 a0_1 = some (r1, r2)) :
    Calls Try.prog 33 #[.agg #[.int .i64 a0_0, .int .i64 a0_1]] w fun e w' => e = .returned (.tuple #[.int .i64 r1, .bool r2]) ∧ Below w.heap.size w w' := by
  have hu23 := Try.underlying23
  have HB := Aside0.mk (Below.refl w.heap.size w)
  have H : ((bocageref02_Canon.f k a0_0 a0_1).bind fun bt565 => (if bt565.1 < 0 then (some (0, false)) else (if bt565.1 > 0 then (some (9223372036854775807, true)) else (some (wrap64 (bt565.2 - 1), true))))) = some (r1, r2) := h
  clear h
  replace H := Option.bind_eq_some_iff.mp H
  obtain ⟨⟨t565, t566⟩, A20, H⟩ := H
  (try (set_option simprocs false in dsimp only at H))
  have A2 := Aside0.mk A20
  clear A20
  by_cases c3 : t565 < 0
  · rw [if_pos c3] at H
    have c3b0 : decide (t565 < 0) = true := decide_eq_true c3
    clear c3
    simp only [Option.some.injEq, Prod.mk.injEq] at H
    obtain ⟨rfl, rfl⟩ := H
    go_enter Try.func33, Try.ntmps33
    go_wp2_with (first | ((with_reducible refine gate_dst (N := 1) rfl ?_); refine bxe (N := 1) (cs := #[.int .i64 a0_0, .int .i64 a0_1]) (t := 23) ?_; intro gb564 hg w4 hbox hb; have BK564 := Aside0.mk (hbox); have GW564 := lsz hg HB; have GE564 := lsz hg HB; replace HB := bst HB hb; clear hb hbox hg; obtain ⟨hcz5_0, hcz5_1⟩ := e2 BK564; obtain ⟨hfz5_0, hfz5_1⟩ := f2 BK564) | ((with_reducible refine gate_callee (f := 48) rfl ?_); refine gol (some 5) Try.func48 #[.agg #[.int .i64 a0_0, .int .i64 a0_1]] ?_; (with_reducible refine (bocageref02_Canon.calls k a0_0 a0_1 t565 t566 _ A2.out).mono ?_); rintro e w6 ⟨rfl, hb⟩; refine ⟨_, rfl, ?_⟩; replace BK564 := bkb BK564 hb; replace HB := bst HB hb; (try clear hb); (try clear hb2); (try clear hk); (try clear hi); obtain ⟨hcz7_0, hcz7_1⟩ := e2 BK564; obtain ⟨hfz7_0, hfz7_1⟩ := f2 BK564))
    go_ret2
    exact endB HB
  · rw [if_neg c3] at H
    have c3b0 : decide (t565 < 0) = false := decide_eq_false c3
    clear c3
    by_cases c8 : t565 > 0
    · rw [if_pos c8] at H
      have c8b0 : decide (0 < t565) = true := decide_eq_true c8
      clear c8
      simp only [Option.some.injEq, Prod.mk.injEq] at H
      obtain ⟨rfl, rfl⟩ := H
      go_enter Try.func33, Try.ntmps33
      go_wp2_with (first | ((with_reducible refine gate_dst (N := 1) rfl ?_); refine bxe (N := 1) (cs := #[.int .i64 a0_0, .int .i64 a0_1]) (t := 23) ?_; intro gb564 hg w9 hbox hb; have BK564 := Aside0.mk (hbox); have GW564 := lsz hg HB; have GE564 := lsz hg HB; replace HB := bst HB hb; clear hb hbox hg; obtain ⟨hcz10_0, hcz10_1⟩ := e2 BK564; obtain ⟨hfz10_0, hfz10_1⟩ := f2 BK564) | ((with_reducible refine gate_callee (f := 48) rfl ?_); refine gol (some 5) Try.func48 #[.agg #[.int .i64 a0_0, .int .i64 a0_1]] ?_; (with_reducible refine (bocageref02_Canon.calls k a0_0 a0_1 t565 t566 _ A2.out).mono ?_); rintro e w11 ⟨rfl, hb⟩; refine ⟨_, rfl, ?_⟩; replace BK564 := bkb BK564 hb; replace HB := bst HB hb; (try clear hb); (try clear hb2); (try clear hk); (try clear hi); obtain ⟨hcz12_0, hcz12_1⟩ := e2 BK564; obtain ⟨hfz12_0, hfz12_1⟩ := f2 BK564))
      go_ret2
      exact endB HB
    · rw [if_neg c8] at H
      have c8b0 : decide (0 < t565) = false := decide_eq_false c8
      clear c8
      simp only [Option.some.injEq, Prod.mk.injEq] at H
      obtain ⟨rfl, rfl⟩ := H
      go_enter Try.func33, Try.ntmps33
      go_wp2_with (first | ((with_reducible refine gate_dst (N := 1) rfl ?_); refine bxe (N := 1) (cs := #[.int .i64 a0_0, .int .i64 a0_1]) (t := 23) ?_; intro gb564 hg w13 hbox hb; have BK564 := Aside0.mk (hbox); have GW564 := lsz hg HB; have GE564 := lsz hg HB; replace HB := bst HB hb; clear hb hbox hg; obtain ⟨hcz14_0, hcz14_1⟩ := e2 BK564; obtain ⟨hfz14_0, hfz14_1⟩ := f2 BK564) | ((with_reducible refine gate_callee (f := 48) rfl ?_); refine gol (some 5) Try.func48 #[.agg #[.int .i64 a0_0, .int .i64 a0_1]] ?_; (with_reducible refine (bocageref02_Canon.calls k a0_0 a0_1 t565 t566 _ A2.out).mono ?_); rintro e w15 ⟨rfl, hb⟩; refine ⟨_, rfl, ?_⟩; replace BK564 := bkb BK564 hb; replace HB := bst HB hb; (try clear hb); (try clear hb2); (try clear hk); (try clear hi); obtain ⟨hcz16_0, hcz16_1⟩ := e2 BK564; obtain ⟨hfz16_0, hfz16_1⟩ := f2 BK564))
      go_ret2
      exact endB HB
/-! ### bocageref02_Behind: function 36 -/
def bocageref02_Behind.f (a0 : Int) : Option (Int × Int) := if a0 = 9223372036854775807 then (some (1, 0)) else (some (0, wrap64 (a0 + 1)))
set_option maxHeartbeats 8000000 in
set_option maxRecDepth 100000 in
theorem bocageref02_Behind.calls (a0 : Int) (r1 : Int) (r2 : Int) (w : World) (h : bocageref02_Behind.f a0 = some (r1, r2)) :
    Calls Try.prog 36 #[.int .i64 a0] w fun e w' => e = .returned (.agg #[.int .i64 r1, .int .i64 r2]) ∧ Below w.heap.size w w' := by
  have hu23 := Try.underlying23
  have HB := Aside0.mk (Below.refl w.heap.size w)
  have H : (if a0 = 9223372036854775807 then (some (1, 0)) else (some (0, wrap64 (a0 + 1)))) = some (r1, r2) := h
  clear h
  by_cases c2 : a0 = 9223372036854775807
  · rw [if_pos c2] at H
    have c2b0 : (a0 == 9223372036854775807) = true := beq_iff_eq.mpr c2
    have c2b1 : (a0 != 9223372036854775807) = false := bne_eq_false_iff_eq.mpr c2
    clear c2
    simp only [Option.some.injEq, Prod.mk.injEq] at H
    obtain ⟨rfl, rfl⟩ := H
    go_enter Try.func36, Try.ntmps36
    go_wp2_with (first | ((with_reducible refine gate_dst (N := 2) rfl ?_); refine bxe (N := 2) (cs := #[.int .i64 0, .int .i64 0]) (t := 23) ?_; intro gb618 hg w3 hbox hb; have BK618 := Aside0.mk (hbox); have GW618 := lsz hg HB; have GE618 := lsz hg HB; replace HB := bst HB hb; clear hb hbox hg; obtain ⟨hcz4_0, hcz4_1⟩ := e2 BK618; obtain ⟨hfz4_0, hfz4_1⟩ := f2 BK618))
    refine bodyPost_ret (results_cell_row rfl _ _ gb618 23 #[.int .i64 1, .int .i64 0] (0, 0) _ rfl (bkp BK618) Try.underlying23 rfl (by kernel_rfl)) rfl ?_
    exact endB HB
  · rw [if_neg c2] at H
    have c2b0 : (a0 == 9223372036854775807) = false := beq_eq_false_iff_ne.mpr c2
    have c2b1 : (a0 != 9223372036854775807) = true := bne_iff_ne.mpr c2
    simp only [Option.some.injEq, Prod.mk.injEq] at H
    obtain ⟨rfl, rfl⟩ := H
    go_enter Try.func36, Try.ntmps36
    go_wp2_with (first | ((with_reducible refine gate_dst (N := 2) rfl ?_); refine bxe (N := 2) (cs := #[.int .i64 0, .int .i64 0]) (t := 23) ?_; intro gb618 hg w5 hbox hb; have BK618 := Aside0.mk (hbox); have GW618 := lsz hg HB; have GE618 := lsz hg HB; replace HB := bst HB hb; clear hb hbox hg; obtain ⟨hcz6_0, hcz6_1⟩ := e2 BK618; obtain ⟨hfz6_0, hfz6_1⟩ := f2 BK618))
    refine bodyPost_ret (results_cell_row rfl _ _ gb618 23 #[.int .i64 0, .int .i64 (wrap64 (a0 + 1))] (0, 0) _ rfl (bkp BK618) Try.underlying23 rfl (by kernel_rfl)) rfl ?_
    exact endB HB
end Go.Proofs.Ytkkbmjfhpngalaa.Print
