-- Laid by wip/print/bprint.py of this repo, over the kit's printer, with functions given by hand; not trusted: Lean checks it.
import Derived.Test.YtkkbmjfhpngalaaPrint0
import Derived.Test.YtkkbmjfhpngalaaPrint4
import Derived.Test.YtkkbmjfhpngalaaSh
namespace Go.Proofs.Ytkkbmjfhpngalaa.Print
open Go.RowKit Go.Proofs.YtkkbmjfhpngalaaW.PrintWords Go.Proofs.YtkkbmjfhpngalaaW.PrintLast Go.Proofs.YtkkbmjfhpngalaaW.PrintMore
attribute [local go_sem] max2_int min2_int max_two min_two max_three min_three max_four min_four   -- for this text's walks alone
set_option linter.unusedVariables false
set_option linter.unusedSimpArgs false
/-! ### bocageref02_Low: function 16 -/
def bocageref02_Low.f (k : Nat) (a0_0 : Int) (a0_1 : Int) (a1_0 : Int) (a1_1 : Int) : Option (Int × Int) := (bocageref02_Less.f k a1_0 a1_1 a0_0 a0_1).bind fun t311 => (if t311 = true then ((bocageref02_Canon.f k a1_0 a1_1).bind fun bt312 => (some (bt312.1, bt312.2))) else ((bocageref02_Canon.f k a0_0 a0_1).bind fun bt314 => (some (bt314.1, bt314.2))))
theorem bocageref02_Low.mono : ∀ a0 a1 a2 a3 k, LeO (bocageref02_Low.f k a0 a1 a2 a3) (bocageref02_Low.f (k + 1) a0 a1 a2 a3) := by
  intro a0 a1 a2 a3 k
  unfold bocageref02_Low.f
  repeat' first
      | (with_reducible exact bocageref02_Canon.mono _ _ _)
      | (with_reducible exact bocageref02_Less.mono _ _ _ _ _)
      | (with_reducible exact LeO.refl _)
      | (with_reducible exact LeO.none _)
      | (with_reducible refine LeO.ite ?_ ?_)
      | (with_reducible refine LeO.bind ?_ (fun _ => ?_))
      | exact bocageref02_Canon.mono _ _ _
      | exact bocageref02_Less.mono _ _ _ _ _
      | exact LeO.none _
      | refine LeO.ite ?_ ?_
      | refine LeO.bind ?_ (fun _ => ?_)
set_option maxHeartbeats 8000000 in
set_option maxRecDepth 100000 in
theorem bocageref02_Low.calls (k : Nat) (a0_0 : Int) (a0_1 : Int) (a1_0 : Int) (a1_1 : Int) (r1 : Int) (r2 : Int) (w : World) (h : bocageref02_Low.f k a0_0 a0_1 a1_0 a1_1 = some (r1, r2)) :
    Calls Try.prog 16 #[.agg #[.int .i64 a0_0, .int .i64 a0_1], .agg #[.int .i64 a1_0, .int .i64 a1_1]] w fun e w' => e = .returned (.agg #[.int .i64 r1, .int .i64 r2]) ∧ Below w.heap.size w w' := by
  have hu23 := Try.underlying23
  have HB := Aside0.mk (Below.refl w.heap.size w)
  have H : ((bocageref02_Less.f k a1_0 a1_1 a0_0 a0_1).bind fun t311 => (if t311 = true then ((bocageref02_Canon.f k a1_0 a1_1).bind fun bt312 => (some (bt312.1, bt312.2))) else ((bocageref02_Canon.f k a0_0 a0_1).bind fun bt314 => (some (bt314.1, bt314.2))))) = some (r1, r2) := h
  clear h
  replace H := Option.bind_eq_some_iff.mp H
  obtain ⟨t311, A30, H⟩ := H
  (try (set_option simprocs false in dsimp only at H))
  have A3 := Aside0.mk A30
  clear A30
  by_cases c4 : t311 = true
  · subst c4
    have H1 : ((bocageref02_Canon.f k a1_0 a1_1).bind fun bt312 => (some (bt312.1, bt312.2))) = some (r1, r2) := by rw [if_pos rfl] at H; exact H
    clear H
    have H := H1
    clear H1
    replace H := Option.bind_eq_some_iff.mp H
    obtain ⟨⟨t312, t313⟩, A50, H⟩ := H
    (try (set_option simprocs false in dsimp only at H))
    have A5 := Aside0.mk A50
    clear A50
    simp only [Option.some.injEq, Prod.mk.injEq] at H
    obtain ⟨rfl, rfl⟩ := H
    go_enter Try.func16, Try.ntmps16
    go_wp2_with (first | ((with_reducible refine gate_dst (N := 2) rfl ?_); refine bxe (N := 2) (cs := #[.int .i64 a0_0, .int .i64 a0_1]) (t := 23) ?_; intro gb308 hg w6 hbox hb; have BK308 := Aside0.mk (hbox); have GW308 := lsz hg HB; have GE308 := lsz hg HB; replace HB := bst HB hb; clear hb hbox hg) | ((with_reducible refine gate_dst (N := 3) rfl ?_); refine bxe (N := 3) (cs := #[.int .i64 a1_0, .int .i64 a1_1]) (t := 23) ?_; intro gb309 hg w7 hbox hb; have BK309 := Aside0.mk (hbox); have GW309 := lsz hg HB; have GE309 := lsz hg HB; replace HB := bst HB hb; have NB308_309 := nlt hg BK308; have NB309_308 := ngt hg BK308; replace BK308 := bkb BK308 hb; clear hb hbox hg) | ((with_reducible refine gate_dst (N := 4) rfl ?_); refine bxe (N := 4) (cs := #[.int .i64 0, .int .i64 0]) (t := 23) ?_; intro gb310 hg w8 hbox hb; have BK310 := Aside0.mk (hbox); have GW310 := lsz hg HB; have GE310 := lsz hg HB; replace HB := bst HB hb; have NB308_310 := nlt hg BK308; have NB310_308 := ngt hg BK308; replace BK308 := bkb BK308 hb; have NB309_310 := nlt hg BK309; have NB310_309 := ngt hg BK309; replace BK309 := bkb BK309 hb; clear hb hbox hg; have hnb9 := NB309_308.out; have hnc9 := NB308_309.out; have hnb10 := NB309_310.out; have hnc10 := NB310_309.out; obtain ⟨hcz11_0, hcz11_1⟩ := e2 BK309; obtain ⟨hfz11_0, hfz11_1⟩ := f2 BK309; have hnb12 := NB308_310.out; have hnc12 := NB310_308.out; obtain ⟨hcz13_0, hcz13_1⟩ := e2 BK308; obtain ⟨hfz13_0, hfz13_1⟩ := f2 BK308) | ((with_reducible refine gate_callee (f := 49) rfl ?_); refine gol (some 7) Try.func49 #[.agg #[.int .i64 a1_0, .int .i64 a1_1], .agg #[.int .i64 a0_0, .int .i64 a0_1]] ?_; (with_reducible refine (bocageref02_Less.calls k a1_0 a1_1 a0_0 a0_1 true _ A3.out).mono ?_); rintro e w14 ⟨rfl, hb⟩; refine ⟨_, rfl, ?_⟩; replace BK308 := bkb BK308 hb; replace BK309 := bkb BK309 hb; replace BK310 := bkb BK310 hb; replace HB := bst HB hb; (try clear hb); (try clear hb2); (try clear hk); (try clear hi); obtain ⟨hcz15_0, hcz15_1⟩ := e2 BK309; obtain ⟨hfz15_0, hfz15_1⟩ := f2 BK309) | ((with_reducible refine gate_callee (f := 48) rfl ?_); refine gol (some 9) Try.func48 #[.agg #[.int .i64 a1_0, .int .i64 a1_1]] ?_; (with_reducible refine (bocageref02_Canon.calls k a1_0 a1_1 t312 t313 _ A5.out).mono ?_); rintro e w16 ⟨rfl, hb⟩; refine ⟨_, rfl, ?_⟩; replace BK308 := bkb BK308 hb; replace BK309 := bkb BK309 hb; replace BK310 := bkb BK310 hb; replace HB := bst HB hb; (try clear hb); (try clear hb2); (try clear hk); (try clear hi); obtain ⟨hcz17_0, hcz17_1⟩ := e2 BK310; obtain ⟨hfz17_0, hfz17_1⟩ := f2 BK310))
    refine bodyPost_ret (results_cell_row rfl _ _ gb310 23 #[.int .i64 t312, .int .i64 t313] (0, 0) _ rfl (bkp BK310) Try.underlying23 rfl (by kernel_rfl)) rfl ?_
    exact endB HB
  · replace c4 := Bool.eq_false_iff.mpr c4
    subst c4
    have H1 : ((bocageref02_Canon.f k a0_0 a0_1).bind fun bt314 => (some (bt314.1, bt314.2))) = some (r1, r2) := by rw [if_neg (show ¬ (false = true) by decide)] at H; exact H
    clear H
    have H := H1
    clear H1
    replace H := Option.bind_eq_some_iff.mp H
    obtain ⟨⟨t314, t315⟩, A180, H⟩ := H
    (try (set_option simprocs false in dsimp only at H))
    have A18 := Aside0.mk A180
    clear A180
    simp only [Option.some.injEq, Prod.mk.injEq] at H
    obtain ⟨rfl, rfl⟩ := H
    go_enter Try.func16, Try.ntmps16
    go_wp2_with (first | ((with_reducible refine gate_dst (N := 2) rfl ?_); refine bxe (N := 2) (cs := #[.int .i64 a0_0, .int .i64 a0_1]) (t := 23) ?_; intro gb308 hg w19 hbox hb; have BK308 := Aside0.mk (hbox); have GW308 := lsz hg HB; have GE308 := lsz hg HB; replace HB := bst HB hb; clear hb hbox hg) | ((with_reducible refine gate_dst (N := 3) rfl ?_); refine bxe (N := 3) (cs := #[.int .i64 a1_0, .int .i64 a1_1]) (t := 23) ?_; intro gb309 hg w20 hbox hb; have BK309 := Aside0.mk (hbox); have GW309 := lsz hg HB; have GE309 := lsz hg HB; replace HB := bst HB hb; have NB308_309 := nlt hg BK308; have NB309_308 := ngt hg BK308; replace BK308 := bkb BK308 hb; clear hb hbox hg) | ((with_reducible refine gate_dst (N := 4) rfl ?_); refine bxe (N := 4) (cs := #[.int .i64 0, .int .i64 0]) (t := 23) ?_; intro gb310 hg w21 hbox hb; have BK310 := Aside0.mk (hbox); have GW310 := lsz hg HB; have GE310 := lsz hg HB; replace HB := bst HB hb; have NB308_310 := nlt hg BK308; have NB310_308 := ngt hg BK308; replace BK308 := bkb BK308 hb; have NB309_310 := nlt hg BK309; have NB310_309 := ngt hg BK309; replace BK309 := bkb BK309 hb; clear hb hbox hg; have hnb22 := NB309_308.out; have hnc22 := NB308_309.out; have hnb23 := NB309_310.out; have hnc23 := NB310_309.out; obtain ⟨hcz24_0, hcz24_1⟩ := e2 BK309; obtain ⟨hfz24_0, hfz24_1⟩ := f2 BK309; have hnb25 := NB308_310.out; have hnc25 := NB310_308.out; obtain ⟨hcz26_0, hcz26_1⟩ := e2 BK308; obtain ⟨hfz26_0, hfz26_1⟩ := f2 BK308) | ((with_reducible refine gate_callee (f := 49) rfl ?_); refine gol (some 7) Try.func49 #[.agg #[.int .i64 a1_0, .int .i64 a1_1], .agg #[.int .i64 a0_0, .int .i64 a0_1]] ?_; (with_reducible refine (bocageref02_Less.calls k a1_0 a1_1 a0_0 a0_1 false _ A3.out).mono ?_); rintro e w27 ⟨rfl, hb⟩; refine ⟨_, rfl, ?_⟩; replace BK308 := bkb BK308 hb; replace BK309 := bkb BK309 hb; replace BK310 := bkb BK310 hb; replace HB := bst HB hb; (try clear hb); (try clear hb2); (try clear hk); (try clear hi); obtain ⟨hcz28_0, hcz28_1⟩ := e2 BK308; obtain ⟨hfz28_0, hfz28_1⟩ := f2 BK308) | ((with_reducible refine gate_callee (f := 48) rfl ?_); refine gol (some 11) Try.func48 #[.agg #[.int .i64 a0_0, .int .i64 a0_1]] ?_; (with_reducible refine (bocageref02_Canon.calls k a0_0 a0_1 t314 t315 _ A18.out).mono ?_); rintro e w29 ⟨rfl, hb⟩; refine ⟨_, rfl, ?_⟩; replace BK308 := bkb BK308 hb; replace BK309 := bkb BK309 hb; replace BK310 := bkb BK310 hb; replace HB := bst HB hb; (try clear hb); (try clear hb2); (try clear hk); (try clear hi); obtain ⟨hcz30_0, hcz30_1⟩ := e2 BK310; obtain ⟨hfz30_0, hfz30_1⟩ := f2 BK310))
    refine bodyPost_ret (results_cell_row rfl _ _ gb310 23 #[.int .i64 t314, .int .i64 t315] (0, 0) _ rfl (bkp BK310) Try.underlying23 rfl (by kernel_rfl)) rfl ?_
    exact endB HB
/-! ### bocageref02_High: function 17 -/
def bocageref02_High.f (k : Nat) (a0_0 : Int) (a0_1 : Int) (a1_0 : Int) (a1_1 : Int) : Option (Int × Int) := (bocageref02_Less.f k a0_0 a0_1 a1_0 a1_1).bind fun t319 => (if t319 = true then ((bocageref02_Canon.f k a1_0 a1_1).bind fun bt320 => (some (bt320.1, bt320.2))) else ((bocageref02_Canon.f k a0_0 a0_1).bind fun bt322 => (some (bt322.1, bt322.2))))
theorem bocageref02_High.mono : ∀ a0 a1 a2 a3 k, LeO (bocageref02_High.f k a0 a1 a2 a3) (bocageref02_High.f (k + 1) a0 a1 a2 a3) := by
  intro a0 a1 a2 a3 k
  unfold bocageref02_High.f
  repeat' first
      | (with_reducible exact bocageref02_Canon.mono _ _ _)
      | (with_reducible exact bocageref02_Less.mono _ _ _ _ _)
      | (with_reducible exact LeO.refl _)
      | (with_reducible exact LeO.none _)
      | (with_reducible refine LeO.ite ?_ ?_)
      | (with_reducible refine LeO.bind ?_ (fun _ => ?_))
      | exact bocageref02_Canon.mono _ _ _
      | exact bocageref02_Less.mono _ _ _ _ _
      | exact LeO.none _
      | refine LeO.ite ?_ ?_
      | refine LeO.bind ?_ (fun _ => ?_)
set_option maxHeartbeats 8000000 in
set_option maxRecDepth 100000 in
theorem bocageref02_High.calls (k : Nat) (a0_0 : Int) (a0_1 : Int) (a1_0 : Int) (a1_1 : Int) (r1 : Int) (r2 : Int) (w : World) (h : bocageref02_High.f k a0_0 a0_1 a1_0 a1_1 = some (r1, r2)) :
    Calls Try.prog 17 #[.agg #[.int .i64 a0_0, .int .i64 a0_1], .agg #[.int .i64 a1_0, .int .i64 a1_1]] w fun e w' => e = .returned (.agg #[.int .i64 r1, .int .i64 r2]) ∧ Below w.heap.size w w' := by
  have hu23 := Try.underlying23
  have HB := Aside0.mk (Below.refl w.heap.size w)
  have H : ((bocageref02_Less.f k a0_0 a0_1 a1_0 a1_1).bind fun t319 => (if t319 = true then ((bocageref02_Canon.f k a1_0 a1_1).bind fun bt320 => (some (bt320.1, bt320.2))) else ((bocageref02_Canon.f k a0_0 a0_1).bind fun bt322 => (some (bt322.1, bt322.2))))) = some (r1, r2) := h
  clear h
  replace H := Option.bind_eq_some_iff.mp H
  obtain ⟨t319, A30, H⟩ := H
  (try (set_option simprocs false in dsimp only at H))
  have A3 := Aside0.mk A30
  clear A30
  by_cases c4 : t319 = true
  · subst c4
    have H1 : ((bocageref02_Canon.f k a1_0 a1_1).bind fun bt320 => (some (bt320.1, bt320.2))) = some (r1, r2) := by rw [if_pos rfl] at H; exact H
    clear H
    have H := H1
    clear H1
    replace H := Option.bind_eq_some_iff.mp H
    obtain ⟨⟨t320, t321⟩, A50, H⟩ := H
    (try (set_option simprocs false in dsimp only at H))
    have A5 := Aside0.mk A50
    clear A50
    simp only [Option.some.injEq, Prod.mk.injEq] at H
    obtain ⟨rfl, rfl⟩ := H
    go_enter Try.func17, Try.ntmps17
    go_wp2_with (first | ((with_reducible refine gate_dst (N := 2) rfl ?_); refine bxe (N := 2) (cs := #[.int .i64 a0_0, .int .i64 a0_1]) (t := 23) ?_; intro gb316 hg w6 hbox hb; have BK316 := Aside0.mk (hbox); have GW316 := lsz hg HB; have GE316 := lsz hg HB; replace HB := bst HB hb; clear hb hbox hg) | ((with_reducible refine gate_dst (N := 3) rfl ?_); refine bxe (N := 3) (cs := #[.int .i64 a1_0, .int .i64 a1_1]) (t := 23) ?_; intro gb317 hg w7 hbox hb; have BK317 := Aside0.mk (hbox); have GW317 := lsz hg HB; have GE317 := lsz hg HB; replace HB := bst HB hb; have NB316_317 := nlt hg BK316; have NB317_316 := ngt hg BK316; replace BK316 := bkb BK316 hb; clear hb hbox hg) | ((with_reducible refine gate_dst (N := 4) rfl ?_); refine bxe (N := 4) (cs := #[.int .i64 0, .int .i64 0]) (t := 23) ?_; intro gb318 hg w8 hbox hb; have BK318 := Aside0.mk (hbox); have GW318 := lsz hg HB; have GE318 := lsz hg HB; replace HB := bst HB hb; have NB316_318 := nlt hg BK316; have NB318_316 := ngt hg BK316; replace BK316 := bkb BK316 hb; have NB317_318 := nlt hg BK317; have NB318_317 := ngt hg BK317; replace BK317 := bkb BK317 hb; clear hb hbox hg; have hnb9 := NB316_317.out; have hnc9 := NB317_316.out; have hnb10 := NB316_318.out; have hnc10 := NB318_316.out; obtain ⟨hcz11_0, hcz11_1⟩ := e2 BK316; obtain ⟨hfz11_0, hfz11_1⟩ := f2 BK316; have hnb12 := NB317_318.out; have hnc12 := NB318_317.out; obtain ⟨hcz13_0, hcz13_1⟩ := e2 BK317; obtain ⟨hfz13_0, hfz13_1⟩ := f2 BK317) | ((with_reducible refine gate_callee (f := 49) rfl ?_); refine gol (some 7) Try.func49 #[.agg #[.int .i64 a0_0, .int .i64 a0_1], .agg #[.int .i64 a1_0, .int .i64 a1_1]] ?_; (with_reducible refine (bocageref02_Less.calls k a0_0 a0_1 a1_0 a1_1 true _ A3.out).mono ?_); rintro e w14 ⟨rfl, hb⟩; refine ⟨_, rfl, ?_⟩; replace BK316 := bkb BK316 hb; replace BK317 := bkb BK317 hb; replace BK318 := bkb BK318 hb; replace HB := bst HB hb; (try clear hb); (try clear hb2); (try clear hk); (try clear hi); obtain ⟨hcz15_0, hcz15_1⟩ := e2 BK317; obtain ⟨hfz15_0, hfz15_1⟩ := f2 BK317) | ((with_reducible refine gate_callee (f := 48) rfl ?_); refine gol (some 9) Try.func48 #[.agg #[.int .i64 a1_0, .int .i64 a1_1]] ?_; (with_reducible refine (bocageref02_Canon.calls k a1_0 a1_1 t320 t321 _ A5.out).mono ?_); rintro e w16 ⟨rfl, hb⟩; refine ⟨_, rfl, ?_⟩; replace BK316 := bkb BK316 hb; replace BK317 := bkb BK317 hb; replace BK318 := bkb BK318 hb; replace HB := bst HB hb; (try clear hb); (try clear hb2); (try clear hk); (try clear hi); obtain ⟨hcz17_0, hcz17_1⟩ := e2 BK318; obtain ⟨hfz17_0, hfz17_1⟩ := f2 BK318))
    refine bodyPost_ret (results_cell_row rfl _ _ gb318 23 #[.int .i64 t320, .int .i64 t321] (0, 0) _ rfl (bkp BK318) Try.underlying23 rfl (by kernel_rfl)) rfl ?_
    exact endB HB
  · replace c4 := Bool.eq_false_iff.mpr c4
    subst c4
    have H1 : ((bocageref02_Canon.f k a0_0 a0_1).bind fun bt322 => (some (bt322.1, bt322.2))) = some (r1, r2) := by rw [if_neg (show ¬ (false = true) by decide)] at H; exact H
    clear H
    have H := H1
    clear H1
    replace H := Option.bind_eq_some_iff.mp H
    obtain ⟨⟨t322, t323⟩, A180, H⟩ := H
    (try (set_option simprocs false in dsimp only at H))
    have A18 := Aside0.mk A180
    clear A180
    simp only [Option.some.injEq, Prod.mk.injEq] at H
    obtain ⟨rfl, rfl⟩ := H
    go_enter Try.func17, Try.ntmps17
    go_wp2_with (first | ((with_reducible refine gate_dst (N := 2) rfl ?_); refine bxe (N := 2) (cs := #[.int .i64 a0_0, .int .i64 a0_1]) (t := 23) ?_; intro gb316 hg w19 hbox hb; have BK316 := Aside0.mk (hbox); have GW316 := lsz hg HB; have GE316 := lsz hg HB; replace HB := bst HB hb; clear hb hbox hg) | ((with_reducible refine gate_dst (N := 3) rfl ?_); refine bxe (N := 3) (cs := #[.int .i64 a1_0, .int .i64 a1_1]) (t := 23) ?_; intro gb317 hg w20 hbox hb; have BK317 := Aside0.mk (hbox); have GW317 := lsz hg HB; have GE317 := lsz hg HB; replace HB := bst HB hb; have NB316_317 := nlt hg BK316; have NB317_316 := ngt hg BK316; replace BK316 := bkb BK316 hb; clear hb hbox hg) | ((with_reducible refine gate_dst (N := 4) rfl ?_); refine bxe (N := 4) (cs := #[.int .i64 0, .int .i64 0]) (t := 23) ?_; intro gb318 hg w21 hbox hb; have BK318 := Aside0.mk (hbox); have GW318 := lsz hg HB; have GE318 := lsz hg HB; replace HB := bst HB hb; have NB316_318 := nlt hg BK316; have NB318_316 := ngt hg BK316; replace BK316 := bkb BK316 hb; have NB317_318 := nlt hg BK317; have NB318_317 := ngt hg BK317; replace BK317 := bkb BK317 hb; clear hb hbox hg; have hnb22 := NB316_317.out; have hnc22 := NB317_316.out; have hnb23 := NB316_318.out; have hnc23 := NB318_316.out; obtain ⟨hcz24_0, hcz24_1⟩ := e2 BK316; obtain ⟨hfz24_0, hfz24_1⟩ := f2 BK316; have hnb25 := NB317_318.out; have hnc25 := NB318_317.out; obtain ⟨hcz26_0, hcz26_1⟩ := e2 BK317; obtain ⟨hfz26_0, hfz26_1⟩ := f2 BK317) | ((with_reducible refine gate_callee (f := 49) rfl ?_); refine gol (some 7) Try.func49 #[.agg #[.int .i64 a0_0, .int .i64 a0_1], .agg #[.int .i64 a1_0, .int .i64 a1_1]] ?_; (with_reducible refine (bocageref02_Less.calls k a0_0 a0_1 a1_0 a1_1 false _ A3.out).mono ?_); rintro e w27 ⟨rfl, hb⟩; refine ⟨_, rfl, ?_⟩; replace BK316 := bkb BK316 hb; replace BK317 := bkb BK317 hb; replace BK318 := bkb BK318 hb; replace HB := bst HB hb; (try clear hb); (try clear hb2); (try clear hk); (try clear hi); obtain ⟨hcz28_0, hcz28_1⟩ := e2 BK316; obtain ⟨hfz28_0, hfz28_1⟩ := f2 BK316) | ((with_reducible refine gate_callee (f := 48) rfl ?_); refine gol (some 11) Try.func48 #[.agg #[.int .i64 a0_0, .int .i64 a0_1]] ?_; (with_reducible refine (bocageref02_Canon.calls k a0_0 a0_1 t322 t323 _ A18.out).mono ?_); rintro e w29 ⟨rfl, hb⟩; refine ⟨_, rfl, ?_⟩; replace BK316 := bkb BK316 hb; replace BK317 := bkb BK317 hb; replace BK318 := bkb BK318 hb; replace HB := bst HB hb; (try clear hb); (try clear hb2); (try clear hk); (try clear hi); obtain ⟨hcz30_0, hcz30_1⟩ := e2 BK318; obtain ⟨hfz30_0, hfz30_1⟩ := f2 BK318))
    refine bodyPost_ret (results_cell_row rfl _ _ gb318 23 #[.int .i64 t322, .int .i64 t323] (0, 0) _ rfl (bkp BK318) Try.underlying23 rfl (by kernel_rfl)) rfl ?_
    exact endB HB
/-! ### span_List: function 37 -/
end Go.Proofs.Ytkkbmjfhpngalaa.Print
