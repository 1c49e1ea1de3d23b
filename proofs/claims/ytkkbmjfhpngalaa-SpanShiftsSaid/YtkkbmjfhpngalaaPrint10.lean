-- Laid by wip/print/bprint.py of this repo, over the kit's printer, with functions given by hand; not trusted: Lean checks it.
import Derived.Test.YtkkbmjfhpngalaaPrint0
import Derived.Test.YtkkbmjfhpngalaaPrint4
import Derived.Test.YtkkbmjfhpngalaaPrint5
import Derived.Test.YtkkbmjfhpngalaaPrint9
import Derived.Test.YtkkbmjfhpngalaaSh
namespace Go.Proofs.Ytkkbmjfhpngalaa.Print
open Go.RowKit Go.Proofs.YtkkbmjfhpngalaaW.PrintWords Go.Proofs.YtkkbmjfhpngalaaW.PrintLast Go.Proofs.YtkkbmjfhpngalaaW.PrintMore
attribute [local go_sem] max2_int min2_int max_two min_two max_three min_three max_four min_four   -- for this text's walks alone
set_option linter.unusedVariables false
set_option linter.unusedSimpArgs false
/-! ### bocageref03_Of: function 25 -/
def bocageref03_Of.f (k : Nat) (a0_0 : Int) (a0_1 : Int) (a1_0 : Int) (a1_1 : Int) : Option (Int × Int × Int × Int × Int) := (bocageref02_Canon.f k a0_0 a0_1).bind fun bt558 => ((bocageref02_Canon.f k a1_0 a1_1).bind fun bt560 => ((bocageref03_Right.f k bt558.1 bt558.2 bt560.1 bt560.2).bind fun t563 => (if t563 = true then (some (bt558.1, bt558.2, bt560.1, bt560.2, 0)) else (some (0, 0, 0, 0, 30)))))
theorem bocageref03_Of.mono : ∀ a0 a1 a2 a3 k, LeO (bocageref03_Of.f k a0 a1 a2 a3) (bocageref03_Of.f (k + 1) a0 a1 a2 a3) := by
  intro a0 a1 a2 a3 k
  unfold bocageref03_Of.f
  repeat' first
      | (with_reducible exact bocageref02_Canon.mono _ _ _)
      | (with_reducible exact bocageref03_Right.mono _ _ _ _ _)
      | (with_reducible exact LeO.refl _)
      | (with_reducible exact LeO.none _)
      | (with_reducible refine LeO.ite ?_ ?_)
      | (with_reducible refine LeO.bind ?_ (fun _ => ?_))
      | exact bocageref02_Canon.mono _ _ _
      | exact bocageref03_Right.mono _ _ _ _ _
      | exact LeO.none _
      | refine LeO.ite ?_ ?_
      | refine LeO.bind ?_ (fun _ => ?_)
set_option maxHeartbeats 8000000 in
set_option maxRecDepth 100000 in
theorem bocageref03_Of.calls (k : Nat) (a0_0 : Int) (a0_1 : Int) (a1_0 : Int) (a1_1 : Int) (r1 : Int) (r2 : Int) (r3 : Int) (r4 : Int) (r5 : Int) (w : World) (h : bocageref03_Of.f k a0_0 a0_1 a1_0 a1_1 = some (r1, r2, r3, r4, r5)) :
    Calls Try.prog 25 #[.agg #[.int .i64 a0_0, .int .i64 a0_1], .agg #[.int .i64 a1_0, .int .i64 a1_1]] w fun e w' => e = .returned (.tuple #[.agg #[.int .i64 r1, .int .i64 r2, .int .i64 r3, .int .i64 r4], .int .i64 r5]) ∧ Below w.heap.size w w' := by
  have hu23 := Try.underlying23
  have hu25 := Try.underlying25
  have HB := Aside0.mk (Below.refl w.heap.size w)
  have H : ((bocageref02_Canon.f k a0_0 a0_1).bind fun bt558 => ((bocageref02_Canon.f k a1_0 a1_1).bind fun bt560 => ((bocageref03_Right.f k bt558.1 bt558.2 bt560.1 bt560.2).bind fun t563 => (if t563 = true then (some (bt558.1, bt558.2, bt560.1, bt560.2, 0)) else (some (0, 0, 0, 0, 30)))))) = some (r1, r2, r3, r4, r5) := h
  clear h
  replace H := Option.bind_eq_some_iff.mp H
  obtain ⟨⟨t558, t559⟩, A30, H⟩ := H
  (try (set_option simprocs false in dsimp only at H))
  have A3 := Aside0.mk A30
  clear A30
  replace H := Option.bind_eq_some_iff.mp H
  obtain ⟨⟨t560, t561⟩, A40, H⟩ := H
  (try (set_option simprocs false in dsimp only at H))
  have A4 := Aside0.mk A40
  clear A40
  replace H := Option.bind_eq_some_iff.mp H
  obtain ⟨t563, A50, H⟩ := H
  (try (set_option simprocs false in dsimp only at H))
  have A5 := Aside0.mk A50
  clear A50
  by_cases c6 : t563 = true
  · subst c6
    have H1 : (some (t558, t559, t560, t561, 0)) = some (r1, r2, r3, r4, r5) := by rw [if_pos rfl] at H; exact H
    clear H
    have H := H1
    clear H1
    simp only [Option.some.injEq, Prod.mk.injEq] at H
    obtain ⟨rfl, rfl, rfl, rfl, rfl⟩ := H
    go_enter Try.func25, Try.ntmps25
    try go_wp2_with (first | ((with_reducible refine gate_dst (N := 2) rfl ?_); refine bxe (N := 2) (cs := #[.int .i64 a0_0, .int .i64 a0_1]) (t := 23) ?_; intro gb555 hg w7 hbox hb; have BK555 := Aside0.mk (hbox); have GW555 := lsz hg HB; have GE555 := lsz hg HB; replace HB := bst HB hb; clear hb hbox hg) | ((with_reducible refine gate_dst (N := 3) rfl ?_); refine bxe (N := 3) (cs := #[.int .i64 a1_0, .int .i64 a1_1]) (t := 23) ?_; intro gb556 hg w8 hbox hb; have BK556 := Aside0.mk (hbox); have GW556 := lsz hg HB; have GE556 := lsz hg HB; replace HB := bst HB hb; have NB555_556 := nlt hg BK555; have NB556_555 := ngt hg BK555; replace BK555 := bkb BK555 hb; clear hb hbox hg) | ((with_reducible refine gate_dst (N := 4) rfl ?_); refine bxe (N := 4) (cs := #[.int .i64 0, .int .i64 0, .int .i64 0, .int .i64 0]) (t := 25) ?_; intro gb557 hg w9 hbox hb; have BK557 := Aside0.mk (hbox); have GW557 := lsz hg HB; have GE557 := lsz hg HB; replace HB := bst HB hb; have NB555_557 := nlt hg BK555; have NB557_555 := ngt hg BK555; replace BK555 := bkb BK555 hb; have NB556_557 := nlt hg BK556; have NB557_556 := ngt hg BK556; replace BK556 := bkb BK556 hb; clear hb hbox hg))
    replace BK555 := Aside0.mk (blk_drew BK555.out)
    replace BK556 := Aside0.mk (blk_drew BK556.out)
    replace BK557 := Aside0.mk (blk_drew BK557.out)
    replace HB := Aside0.mk (below_drew1 HB.out)
    refine start_ (n := 7) (S := fun w' => w'.cell? ⟨gb555, 0, none⟩ = some (.int .i64 a0_0) ∧ w'.cell? ⟨gb555, 1, none⟩ = some (.int .i64 a0_1) ∧ w'.cell? ⟨gb556, 0, none⟩ = some (.int .i64 a1_0) ∧ w'.cell? ⟨gb556, 1, none⟩ = some (.int .i64 a1_1)) (ds := []) #[false, false, false, false, false, false, false] (by kernel_rfl) rfl rfl (c2 BK555 (e2 BK556)) (fun hHeld => ?_)
    generalize w9.drew = w10 at BK555 BK556 BK557 HB hHeld ⊢
    refine tk4 0 (some 7) #[true, false, false, false, false, false, false] (by kernel_rfl) hHeld ?_
    refine tk4 2 (some 9) #[true, false, true, false, false, false, false] (by kernel_rfl) hHeld ?_
    refine join_ (σ := Nat) 1 #[true, true, true, true, true, true, false] (fun s_ => [(8, .agg #[.int .i64 t558, .int .i64 t559]), (10, .agg #[.int .i64 t560, .int .i64 t561]), (6, .pointer (some ⟨s_, 0, none⟩)), (11, .agg #[.int .i64 t558, .int .i64 t559, .int .i64 t560, .int .i64 t561])]) (fun s_ w' => (w'.cell? ⟨gb555, 0, none⟩ = some (.int .i64 a0_0) ∧ w'.cell? ⟨gb555, 1, none⟩ = some (.int .i64 a0_1) ∧ w'.cell? ⟨gb556, 0, none⟩ = some (.int .i64 a1_0) ∧ w'.cell? ⟨gb556, 1, none⟩ = some (.int .i64 a1_1)) ∧ (w'.heap[gb555]? = some (.cells #[.int .i64 a0_0, .int .i64 a0_1] 23 (0, 0))) ∧ (w'.heap[gb556]? = some (.cells #[.int .i64 a1_0, .int .i64 a1_1] 23 (0, 0))) ∧ (w'.heap[gb557]? = some (.cells #[.int .i64 0, .int .i64 0, .int .i64 0, .int .i64 0] 25 (0, 0))) ∧ (w'.heap[s_]? = some (.cells #[.int .i64 0, .int .i64 0, .int .i64 0, .int .i64 0] 25 (0, 0))) ∧ (w.heap.size ≤ s_) ∧ (w.heap.size ≤ s_) ∧ (gb555 ≠ s_) ∧ (s_ ≠ gb555) ∧ (gb556 ≠ s_) ∧ (s_ ≠ gb556) ∧ (gb557 ≠ s_) ∧ (s_ ≠ gb557) ∧ (Below w.heap.size w w')) ?_ ?_
    rotate_left
    · intro hCont
      refine two_ (i := 1) (j := 5) (Ni := some 8) (Nj := some 6) #[true, true, true, false, false, false, false] #[true, false, true, false, false, true, false] rfl rfl rfl rfl (by kernel_rfl) (by decide) (by decide) (fun K hK => ?_) (fun K hK => ?_)
      · skip
        refine goes_ Try.func48 (by kernel_rfl) rfl #[.agg #[.int .i64 a0_0, .int .i64 a0_1]] (by rfl) rfl rfl (by (try simp only [List.map_toArray, List.map_cons, List.map_nil]); first | done | rfl | (simp only [List.length_drop, List.length_take]; rfl)) ?_
        with_reducible refine (bocageref02_Canon.calls k a0_0 a0_1 t558 t559 _ A3.out).mono ?_
        rintro e w11 ⟨rfl, hb⟩
        refine ⟨_, rfl, ?_⟩
        replace BK555 := bkb BK555 hb
        replace BK556 := bkb BK556 hb
        replace BK557 := bkb BK557 hb
        replace HB := bst HB hb
        (try clear hb)
        (try clear hb2)
        (try clear hk)
        (try clear hi)
        refine hK.out _ _ (c2 BK555 (e2 BK556)) (fun hHeld => ?_)
        clear hK K
        refine nrp 8 ?_
        refine two_ (i := 3) (j := 5) (Ni := some 10) (Nj := some 6) #[true, true, true, true, false, false, false] #[true, true, true, false, false, true, false] rfl rfl rfl rfl (by kernel_rfl) (by decide) (by decide) (fun K hK => ?_) (fun K hK => ?_)
        · skip
          refine goes_ Try.func48 (by kernel_rfl) rfl #[.agg #[.int .i64 a1_0, .int .i64 a1_1]] (by rfl) rfl rfl (by (try simp only [List.map_toArray, List.map_cons, List.map_nil]); first | done | rfl | (simp only [List.length_drop, List.length_take]; rfl)) ?_
          with_reducible refine (bocageref02_Canon.calls k a1_0 a1_1 t560 t561 _ A4.out).mono ?_
          rintro e w12 ⟨rfl, hb⟩
          refine ⟨_, rfl, ?_⟩
          replace BK555 := bkb BK555 hb
          replace BK556 := bkb BK556 hb
          replace BK557 := bkb BK557 hb
          replace HB := bst HB hb
          (try clear hb)
          (try clear hb2)
          (try clear hk)
          (try clear hi)
          refine hK.out _ _ (c2 BK555 (e2 BK556)) (fun hHeld => ?_)
          clear hK K
          refine nrp 10 ?_
          refine pu 4 (some 11) #[true, true, true, true, true, false, false] (by kernel_rfl) ?_
          refine one_ (i := 5) (N := some 6) #[true, true, true, true, true, true, false] rfl rfl (by kernel_rfl) (by decide) (fun K hK => ?_)
          refine box_step ?hg (N := 6) ?hd (cs := #[.int .i64 0, .int .i64 0, .int .i64 0, .int .i64 0]) (t := 25) ?hr ?_; (case hd => rfl); (case hg => rfl); (case hr => first | (go_simp; done) | (go_simp; rfl))
          intro gb562 hg w13 hbox hb
          have BK562 := Aside0.mk (hbox)
          have GW562 := lsz hg HB
          have GE562 := lsz hg HB
          replace HB := bst HB hb
          have NB555_562 := nlt hg BK555
          have NB562_555 := ngt hg BK555
          replace BK555 := bkb BK555 hb
          have NB556_562 := nlt hg BK556
          have NB562_556 := ngt hg BK556
          replace BK556 := bkb BK556 hb
          have NB557_562 := nlt hg BK557
          have NB562_557 := ngt hg BK557
          replace BK557 := bkb BK557 hb
          clear hb hbox hg
          refine hK.out _ _ (c2 BK555 (e2 BK556)) (fun hHeld => ?_)
          clear hK K
          refine nrp 6 ?_
          exact nrm (hCont (gb562) _ ⟨hHeld, (bk BK555), (bk BK556), (bk BK557), (bk BK562), GW562.out, GE562.out, NB555_562.out, NB562_555.out, NB556_562.out, NB562_556.out, NB557_562.out, NB562_557.out, (bl HB)⟩)
        · skip
          refine box_step ?hg (N := 6) ?hd (cs := #[.int .i64 0, .int .i64 0, .int .i64 0, .int .i64 0]) (t := 25) ?hr ?_; (case hd => rfl); (case hg => rfl); (case hr => first | (go_simp; done) | (go_simp; rfl))
          intro gb562 hg w12 hbox hb
          have BK562 := Aside0.mk (hbox)
          have GW562 := lsz hg HB
          have GE562 := lsz hg HB
          replace HB := bst HB hb
          have NB555_562 := nlt hg BK555
          have NB562_555 := ngt hg BK555
          replace BK555 := bkb BK555 hb
          have NB556_562 := nlt hg BK556
          have NB562_556 := ngt hg BK556
          replace BK556 := bkb BK556 hb
          have NB557_562 := nlt hg BK557
          have NB562_557 := ngt hg BK557
          replace BK557 := bkb BK557 hb
          clear hb hbox hg
          refine hK.out _ _ (c2 BK555 (e2 BK556)) (fun hHeld => ?_)
          clear hK K
          refine nrp 6 ?_
          refine one_ (i := 3) (N := some 10) #[true, true, true, true, false, true, false] rfl rfl (by kernel_rfl) (by decide) (fun K hK => ?_)
          refine goes_ Try.func48 (by kernel_rfl) rfl #[.agg #[.int .i64 a1_0, .int .i64 a1_1]] (by rfl) rfl rfl (by (try simp only [List.map_toArray, List.map_cons, List.map_nil]); first | done | rfl | (simp only [List.length_drop, List.length_take]; rfl)) ?_
          with_reducible refine (bocageref02_Canon.calls k a1_0 a1_1 t560 t561 _ A4.out).mono ?_
          rintro e w13 ⟨rfl, hb⟩
          refine ⟨_, rfl, ?_⟩
          replace BK555 := bkb BK555 hb
          replace BK556 := bkb BK556 hb
          replace BK557 := bkb BK557 hb
          replace BK562 := bkb BK562 hb
          replace HB := bst HB hb
          (try clear hb)
          (try clear hb2)
          (try clear hk)
          (try clear hi)
          refine hK.out _ _ (c2 BK555 (e2 BK556)) (fun hHeld => ?_)
          clear hK K
          refine nrp 10 ?_
          refine pu 4 (some 11) #[true, true, true, true, true, true, false] (by kernel_rfl) ?_
          exact nrm (hCont (gb562) _ ⟨hHeld, (bk BK555), (bk BK556), (bk BK557), (bk BK562), GW562.out, GE562.out, NB555_562.out, NB562_555.out, NB556_562.out, NB562_556.out, NB557_562.out, NB562_557.out, (bl HB)⟩)
      · skip
        refine box_step ?hg (N := 6) ?hd (cs := #[.int .i64 0, .int .i64 0, .int .i64 0, .int .i64 0]) (t := 25) ?hr ?_; (case hd => rfl); (case hg => rfl); (case hr => first | (go_simp; done) | (go_simp; rfl))
        intro gb562 hg w11 hbox hb
        have BK562 := Aside0.mk (hbox)
        have GW562 := lsz hg HB
        have GE562 := lsz hg HB
        replace HB := bst HB hb
        have NB555_562 := nlt hg BK555
        have NB562_555 := ngt hg BK555
        replace BK555 := bkb BK555 hb
        have NB556_562 := nlt hg BK556
        have NB562_556 := ngt hg BK556
        replace BK556 := bkb BK556 hb
        have NB557_562 := nlt hg BK557
        have NB562_557 := ngt hg BK557
        replace BK557 := bkb BK557 hb
        clear hb hbox hg
        refine hK.out _ _ (c2 BK555 (e2 BK556)) (fun hHeld => ?_)
        clear hK K
        refine nrp 6 ?_
        refine one_ (i := 1) (N := some 8) #[true, true, true, false, false, true, false] rfl rfl (by kernel_rfl) (by decide) (fun K hK => ?_)
        refine goes_ Try.func48 (by kernel_rfl) rfl #[.agg #[.int .i64 a0_0, .int .i64 a0_1]] (by rfl) rfl rfl (by (try simp only [List.map_toArray, List.map_cons, List.map_nil]); first | done | rfl | (simp only [List.length_drop, List.length_take]; rfl)) ?_
        with_reducible refine (bocageref02_Canon.calls k a0_0 a0_1 t558 t559 _ A3.out).mono ?_
        rintro e w12 ⟨rfl, hb⟩
        refine ⟨_, rfl, ?_⟩
        replace BK555 := bkb BK555 hb
        replace BK556 := bkb BK556 hb
        replace BK557 := bkb BK557 hb
        replace BK562 := bkb BK562 hb
        replace HB := bst HB hb
        (try clear hb)
        (try clear hb2)
        (try clear hk)
        (try clear hi)
        refine hK.out _ _ (c2 BK555 (e2 BK556)) (fun hHeld => ?_)
        clear hK K
        refine nrp 8 ?_
        refine one_ (i := 3) (N := some 10) #[true, true, true, true, false, true, false] rfl rfl (by kernel_rfl) (by decide) (fun K hK => ?_)
        refine goes_ Try.func48 (by kernel_rfl) rfl #[.agg #[.int .i64 a1_0, .int .i64 a1_1]] (by rfl) rfl rfl (by (try simp only [List.map_toArray, List.map_cons, List.map_nil]); first | done | rfl | (simp only [List.length_drop, List.length_take]; rfl)) ?_
        with_reducible refine (bocageref02_Canon.calls k a1_0 a1_1 t560 t561 _ A4.out).mono ?_
        rintro e w13 ⟨rfl, hb⟩
        refine ⟨_, rfl, ?_⟩
        replace BK555 := bkb BK555 hb
        replace BK556 := bkb BK556 hb
        replace BK557 := bkb BK557 hb
        replace BK562 := bkb BK562 hb
        replace HB := bst HB hb
        (try clear hb)
        (try clear hb2)
        (try clear hk)
        (try clear hi)
        refine hK.out _ _ (c2 BK555 (e2 BK556)) (fun hHeld => ?_)
        clear hK K
        refine nrp 10 ?_
        refine pu 4 (some 11) #[true, true, true, true, true, true, false] (by kernel_rfl) ?_
        exact nrm (hCont (gb562) _ ⟨hHeld, (bk BK555), (bk BK556), (bk BK557), (bk BK562), GW562.out, GE562.out, NB555_562.out, NB562_555.out, NB556_562.out, NB562_556.out, NB557_562.out, NB562_557.out, (bl HB)⟩)
    rintro gb562 w14 ⟨hS_, h0_, h1_, h2_, h3_, h4_, h5_, h6_, h7_, h8_, h9_, h10_, h11_, h12_⟩
    replace BK555 : Aside0 (w14.heap[gb555]? = some (.cells #[.int .i64 a0_0, .int .i64 a0_1] 23 (0, 0))) := ⟨h0_⟩
    replace BK556 : Aside0 (w14.heap[gb556]? = some (.cells #[.int .i64 a1_0, .int .i64 a1_1] 23 (0, 0))) := ⟨h1_⟩
    replace BK557 : Aside0 (w14.heap[gb557]? = some (.cells #[.int .i64 0, .int .i64 0, .int .i64 0, .int .i64 0] 25 (0, 0))) := ⟨h2_⟩
    have BK562 : Aside0 (w14.heap[gb562]? = some (.cells #[.int .i64 0, .int .i64 0, .int .i64 0, .int .i64 0] 25 (0, 0))) := ⟨h3_⟩
    have GW562 : Aside0 (w.heap.size ≤ gb562) := ⟨h4_⟩
    have GE562 : Aside0 (w.heap.size ≤ gb562) := ⟨h5_⟩
    have NB555_562 : Aside0 (gb555 ≠ gb562) := ⟨h6_⟩
    have NB562_555 : Aside0 (gb562 ≠ gb555) := ⟨h7_⟩
    have NB556_562 : Aside0 (gb556 ≠ gb562) := ⟨h8_⟩
    have NB562_556 : Aside0 (gb562 ≠ gb556) := ⟨h9_⟩
    have NB557_562 : Aside0 (gb557 ≠ gb562) := ⟨h10_⟩
    have NB562_557 : Aside0 (gb562 ≠ gb557) := ⟨h11_⟩
    replace HB : Aside0 (Below w.heap.size w w14) := ⟨h12_⟩
    clear h0_ h1_ h2_ h3_ h4_ h5_ h6_ h7_ h8_ h9_ h10_ h11_ h12_
    have hHeld : w14.cell? ⟨gb555, 0, none⟩ = some (.int .i64 a0_0) ∧ w14.cell? ⟨gb555, 1, none⟩ = some (.int .i64 a0_1) ∧ w14.cell? ⟨gb556, 0, none⟩ = some (.int .i64 a1_0) ∧ w14.cell? ⟨gb556, 1, none⟩ = some (.int .i64 a1_1) := hS_
    refine nra ?_
    refine one_ (i := 6) (N := none) #[true, true, true, true, true, true, true] rfl rfl (by kernel_rfl) (by decide) (fun K hK => ?_)
    have hs15 : w14.cell? ⟨gb562, 0, none⟩ = some (.int .i64 0) := (blk_cell BK562.out 0).trans rfl
    have hfs15 := blk_frozen BK562.out 0
    have hns15_0 := NB555_562.out
    have hns15_1 := NB556_562.out
    have hns15_2 := NB557_562.out
    have hms15_0 := NB562_555.out
    have hms15_1 := NB562_556.out
    have hms15_2 := NB562_557.out
    have hs16 : w14.cell? ⟨gb562, 1, none⟩ = some (.int .i64 0) := (blk_cell BK562.out 1).trans rfl
    have hfs16 := blk_frozen BK562.out 1
    have hns16_0 := NB555_562.out
    have hns16_1 := NB556_562.out
    have hns16_2 := NB557_562.out
    have hms16_0 := NB562_555.out
    have hms16_1 := NB562_556.out
    have hms16_2 := NB562_557.out
    have hs17 : w14.cell? ⟨gb562, 2, none⟩ = some (.int .i64 0) := (blk_cell BK562.out 2).trans rfl
    have hfs17 := blk_frozen BK562.out 2
    have hns17_0 := NB555_562.out
    have hns17_1 := NB556_562.out
    have hns17_2 := NB557_562.out
    have hms17_0 := NB562_555.out
    have hms17_1 := NB562_556.out
    have hms17_2 := NB562_557.out
    have hs18 : w14.cell? ⟨gb562, 3, none⟩ = some (.int .i64 0) := (blk_cell BK562.out 3).trans rfl
    have hfs18 := blk_frozen BK562.out 3
    have hns18_0 := NB555_562.out
    have hns18_1 := NB556_562.out
    have hns18_2 := NB557_562.out
    have hms18_0 := NB562_555.out
    have hms18_1 := NB562_556.out
    have hms18_2 := NB562_557.out
    refine skip_ (w1 := ?_) (by rfl) rfl ?_ ?_
    rotate_left
    · go_simp
      rfl
    refine hK.out _ _ ⟨((cell_far (p := ⟨gb562, _, none⟩) NB555_562.out _).trans (((cell_far (p := ⟨gb562, _, none⟩) NB555_562.out _).trans (((cell_far (p := ⟨gb562, _, none⟩) NB555_562.out _).trans (((cell_far (p := ⟨gb562, _, none⟩) NB555_562.out _).trans (hHeld.1)))))))), ((cell_far (p := ⟨gb562, _, none⟩) NB555_562.out _).trans (((cell_far (p := ⟨gb562, _, none⟩) NB555_562.out _).trans (((cell_far (p := ⟨gb562, _, none⟩) NB555_562.out _).trans (((cell_far (p := ⟨gb562, _, none⟩) NB555_562.out _).trans (hHeld.2.1)))))))), ((cell_far (p := ⟨gb562, _, none⟩) NB556_562.out _).trans (((cell_far (p := ⟨gb562, _, none⟩) NB556_562.out _).trans (((cell_far (p := ⟨gb562, _, none⟩) NB556_562.out _).trans (((cell_far (p := ⟨gb562, _, none⟩) NB556_562.out _).trans (hHeld.2.2.1)))))))), ((cell_far (p := ⟨gb562, _, none⟩) NB556_562.out _).trans (((cell_far (p := ⟨gb562, _, none⟩) NB556_562.out _).trans (((cell_far (p := ⟨gb562, _, none⟩) NB556_562.out _).trans (((cell_far (p := ⟨gb562, _, none⟩) NB556_562.out _).trans (hHeld.2.2.2))))))))⟩ (fun hHeld => ?_)
    clear hK K
    refine done_ (by kernel_rfl) ?_
    have hnb19 := NB562_555.out
    have hnc19 := NB555_562.out
    have hnb20 := NB562_556.out
    have hnc20 := NB556_562.out
    have hnb21 := NB562_557.out
    have hnc21 := NB557_562.out
    have hcz22_0 : w14.cell? ⟨gb562, 0, none⟩ = some (.int .i64 0) := (blk_cell BK562.out 0).trans rfl
    have hcz22_1 : w14.cell? ⟨gb562, 1, none⟩ = some (.int .i64 0) := (blk_cell BK562.out 1).trans rfl
    have hcz22_2 : w14.cell? ⟨gb562, 2, none⟩ = some (.int .i64 0) := (blk_cell BK562.out 2).trans rfl
    have hcz22_3 : w14.cell? ⟨gb562, 3, none⟩ = some (.int .i64 0) := (blk_cell BK562.out 3).trans rfl
    have hfz22_0 := blk_frozen BK562.out 0
    have hfz22_1 := blk_frozen BK562.out 1
    have hfz22_2 := blk_frozen BK562.out 2
    have hfz22_3 := blk_frozen BK562.out 3
    try go_wp2_with (first | ((with_reducible refine gate_callee (f := 12) rfl ?_); refine gol (some 13) Try.func12 #[.agg #[.int .i64 t558, .int .i64 t559, .int .i64 t560, .int .i64 t561]] ?_; (with_reducible refine (bocageref03_Right.calls k t558 t559 t560 t561 true _ A5.out).mono ?_); rintro e w23 ⟨rfl, hb⟩; refine ⟨_, rfl, ?_⟩; replace BK555 := Aside0.mk (blk_below (bkf BK555 NB555_562) hb); replace BK556 := Aside0.mk (blk_below (bkf BK556 NB556_562) hb); replace BK557 := Aside0.mk (blk_below (bkf BK557 NB557_562) hb); replace BK562 := Aside0.mk (blk_below (g := gb562) (o := .cells #[.int .i64 t558, .int .i64 t559, .int .i64 t560, .int .i64 t561] 25 (0, 0)) (bkp BK562) hb); replace HB := bst HB hb; (try clear hb); (try clear hb2); (try clear hk); (try clear hi); obtain ⟨hcz24_0, hcz24_1, hcz24_2, hcz24_3⟩ := e4 BK562; obtain ⟨hfz24_0, hfz24_1, hfz24_2, hfz24_3⟩ := f4 BK562; have hnb25 := NB557_555.out; have hnc25 := NB555_557.out; have hnb26 := NB557_556.out; have hnc26 := NB556_557.out; obtain ⟨hcz27_0, hcz27_1, hcz27_2, hcz27_3⟩ := e4 BK557; obtain ⟨hfz27_0, hfz27_1, hfz27_2, hfz27_3⟩ := f4 BK557))
    refine bodyPost_ret (results_ct rfl _ _ gb557 25 #[.int .i64 t558, .int .i64 t559, .int .i64 t560, .int .i64 t561] (0, 0) _ rfl (bkp BK557) Try.underlying25 rfl (by kernel_rfl)) rfl ?_
    exact endB HB
  · replace c6 := Bool.eq_false_iff.mpr c6
    subst c6
    have H1 : (some (0, 0, 0, 0, 30)) = some (r1, r2, r3, r4, r5) := by rw [if_neg (show ¬ (false = true) by decide)] at H; exact H
    clear H
    have H := H1
    clear H1
    simp only [Option.some.injEq, Prod.mk.injEq] at H
    obtain ⟨rfl, rfl, rfl, rfl, rfl⟩ := H
    go_enter Try.func25, Try.ntmps25
    try go_wp2_with (first | ((with_reducible refine gate_dst (N := 2) rfl ?_); refine bxe (N := 2) (cs := #[.int .i64 a0_0, .int .i64 a0_1]) (t := 23) ?_; intro gb555 hg w28 hbox hb; have BK555 := Aside0.mk (hbox); have GW555 := lsz hg HB; have GE555 := lsz hg HB; replace HB := bst HB hb; clear hb hbox hg) | ((with_reducible refine gate_dst (N := 3) rfl ?_); refine bxe (N := 3) (cs := #[.int .i64 a1_0, .int .i64 a1_1]) (t := 23) ?_; intro gb556 hg w29 hbox hb; have BK556 := Aside0.mk (hbox); have GW556 := lsz hg HB; have GE556 := lsz hg HB; replace HB := bst HB hb; have NB555_556 := nlt hg BK555; have NB556_555 := ngt hg BK555; replace BK555 := bkb BK555 hb; clear hb hbox hg) | ((with_reducible refine gate_dst (N := 4) rfl ?_); refine bxe (N := 4) (cs := #[.int .i64 0, .int .i64 0, .int .i64 0, .int .i64 0]) (t := 25) ?_; intro gb557 hg w30 hbox hb; have BK557 := Aside0.mk (hbox); have GW557 := lsz hg HB; have GE557 := lsz hg HB; replace HB := bst HB hb; have NB555_557 := nlt hg BK555; have NB557_555 := ngt hg BK555; replace BK555 := bkb BK555 hb; have NB556_557 := nlt hg BK556; have NB557_556 := ngt hg BK556; replace BK556 := bkb BK556 hb; clear hb hbox hg))
    replace BK555 := Aside0.mk (blk_drew BK555.out)
    replace BK556 := Aside0.mk (blk_drew BK556.out)
    replace BK557 := Aside0.mk (blk_drew BK557.out)
    replace HB := Aside0.mk (below_drew1 HB.out)
    refine start_ (n := 7) (S := fun w' => w'.cell? ⟨gb555, 0, none⟩ = some (.int .i64 a0_0) ∧ w'.cell? ⟨gb555, 1, none⟩ = some (.int .i64 a0_1) ∧ w'.cell? ⟨gb556, 0, none⟩ = some (.int .i64 a1_0) ∧ w'.cell? ⟨gb556, 1, none⟩ = some (.int .i64 a1_1)) (ds := []) #[false, false, false, false, false, false, false] (by kernel_rfl) rfl rfl (c2 BK555 (e2 BK556)) (fun hHeld => ?_)
    generalize w30.drew = w31 at BK555 BK556 BK557 HB hHeld ⊢
    refine tk4 0 (some 7) #[true, false, false, false, false, false, false] (by kernel_rfl) hHeld ?_
    refine tk4 2 (some 9) #[true, false, true, false, false, false, false] (by kernel_rfl) hHeld ?_
    refine join_ (σ := Nat) 1 #[true, true, true, true, true, true, false] (fun s_ => [(8, .agg #[.int .i64 t558, .int .i64 t559]), (10, .agg #[.int .i64 t560, .int .i64 t561]), (6, .pointer (some ⟨s_, 0, none⟩)), (11, .agg #[.int .i64 t558, .int .i64 t559, .int .i64 t560, .int .i64 t561])]) (fun s_ w' => (w'.cell? ⟨gb555, 0, none⟩ = some (.int .i64 a0_0) ∧ w'.cell? ⟨gb555, 1, none⟩ = some (.int .i64 a0_1) ∧ w'.cell? ⟨gb556, 0, none⟩ = some (.int .i64 a1_0) ∧ w'.cell? ⟨gb556, 1, none⟩ = some (.int .i64 a1_1)) ∧ (w'.heap[gb555]? = some (.cells #[.int .i64 a0_0, .int .i64 a0_1] 23 (0, 0))) ∧ (w'.heap[gb556]? = some (.cells #[.int .i64 a1_0, .int .i64 a1_1] 23 (0, 0))) ∧ (w'.heap[gb557]? = some (.cells #[.int .i64 0, .int .i64 0, .int .i64 0, .int .i64 0] 25 (0, 0))) ∧ (w'.heap[s_]? = some (.cells #[.int .i64 0, .int .i64 0, .int .i64 0, .int .i64 0] 25 (0, 0))) ∧ (w.heap.size ≤ s_) ∧ (w.heap.size ≤ s_) ∧ (gb555 ≠ s_) ∧ (s_ ≠ gb555) ∧ (gb556 ≠ s_) ∧ (s_ ≠ gb556) ∧ (gb557 ≠ s_) ∧ (s_ ≠ gb557) ∧ (Below w.heap.size w w')) ?_ ?_
    rotate_left
    · intro hCont
      refine two_ (i := 1) (j := 5) (Ni := some 8) (Nj := some 6) #[true, true, true, false, false, false, false] #[true, false, true, false, false, true, false] rfl rfl rfl rfl (by kernel_rfl) (by decide) (by decide) (fun K hK => ?_) (fun K hK => ?_)
      · skip
        refine goes_ Try.func48 (by kernel_rfl) rfl #[.agg #[.int .i64 a0_0, .int .i64 a0_1]] (by rfl) rfl rfl (by (try simp only [List.map_toArray, List.map_cons, List.map_nil]); first | done | rfl | (simp only [List.length_drop, List.length_take]; rfl)) ?_
        with_reducible refine (bocageref02_Canon.calls k a0_0 a0_1 t558 t559 _ A3.out).mono ?_
        rintro e w32 ⟨rfl, hb⟩
        refine ⟨_, rfl, ?_⟩
        replace BK555 := bkb BK555 hb
        replace BK556 := bkb BK556 hb
        replace BK557 := bkb BK557 hb
        replace HB := bst HB hb
        (try clear hb)
        (try clear hb2)
        (try clear hk)
        (try clear hi)
        refine hK.out _ _ (c2 BK555 (e2 BK556)) (fun hHeld => ?_)
        clear hK K
        refine nrp 8 ?_
        refine two_ (i := 3) (j := 5) (Ni := some 10) (Nj := some 6) #[true, true, true, true, false, false, false] #[true, true, true, false, false, true, false] rfl rfl rfl rfl (by kernel_rfl) (by decide) (by decide) (fun K hK => ?_) (fun K hK => ?_)
        · skip
          refine goes_ Try.func48 (by kernel_rfl) rfl #[.agg #[.int .i64 a1_0, .int .i64 a1_1]] (by rfl) rfl rfl (by (try simp only [List.map_toArray, List.map_cons, List.map_nil]); first | done | rfl | (simp only [List.length_drop, List.length_take]; rfl)) ?_
          with_reducible refine (bocageref02_Canon.calls k a1_0 a1_1 t560 t561 _ A4.out).mono ?_
          rintro e w33 ⟨rfl, hb⟩
          refine ⟨_, rfl, ?_⟩
          replace BK555 := bkb BK555 hb
          replace BK556 := bkb BK556 hb
          replace BK557 := bkb BK557 hb
          replace HB := bst HB hb
          (try clear hb)
          (try clear hb2)
          (try clear hk)
          (try clear hi)
          refine hK.out _ _ (c2 BK555 (e2 BK556)) (fun hHeld => ?_)
          clear hK K
          refine nrp 10 ?_
          refine pu 4 (some 11) #[true, true, true, true, true, false, false] (by kernel_rfl) ?_
          refine one_ (i := 5) (N := some 6) #[true, true, true, true, true, true, false] rfl rfl (by kernel_rfl) (by decide) (fun K hK => ?_)
          refine box_step ?hg (N := 6) ?hd (cs := #[.int .i64 0, .int .i64 0, .int .i64 0, .int .i64 0]) (t := 25) ?hr ?_; (case hd => rfl); (case hg => rfl); (case hr => first | (go_simp; done) | (go_simp; rfl))
          intro gb562 hg w34 hbox hb
          have BK562 := Aside0.mk (hbox)
          have GW562 := lsz hg HB
          have GE562 := lsz hg HB
          replace HB := bst HB hb
          have NB555_562 := nlt hg BK555
          have NB562_555 := ngt hg BK555
          replace BK555 := bkb BK555 hb
          have NB556_562 := nlt hg BK556
          have NB562_556 := ngt hg BK556
          replace BK556 := bkb BK556 hb
          have NB557_562 := nlt hg BK557
          have NB562_557 := ngt hg BK557
          replace BK557 := bkb BK557 hb
          clear hb hbox hg
          refine hK.out _ _ (c2 BK555 (e2 BK556)) (fun hHeld => ?_)
          clear hK K
          refine nrp 6 ?_
          exact nrm (hCont (gb562) _ ⟨hHeld, (bk BK555), (bk BK556), (bk BK557), (bk BK562), GW562.out, GE562.out, NB555_562.out, NB562_555.out, NB556_562.out, NB562_556.out, NB557_562.out, NB562_557.out, (bl HB)⟩)
        · skip
          refine box_step ?hg (N := 6) ?hd (cs := #[.int .i64 0, .int .i64 0, .int .i64 0, .int .i64 0]) (t := 25) ?hr ?_; (case hd => rfl); (case hg => rfl); (case hr => first | (go_simp; done) | (go_simp; rfl))
          intro gb562 hg w33 hbox hb
          have BK562 := Aside0.mk (hbox)
          have GW562 := lsz hg HB
          have GE562 := lsz hg HB
          replace HB := bst HB hb
          have NB555_562 := nlt hg BK555
          have NB562_555 := ngt hg BK555
          replace BK555 := bkb BK555 hb
          have NB556_562 := nlt hg BK556
          have NB562_556 := ngt hg BK556
          replace BK556 := bkb BK556 hb
          have NB557_562 := nlt hg BK557
          have NB562_557 := ngt hg BK557
          replace BK557 := bkb BK557 hb
          clear hb hbox hg
          refine hK.out _ _ (c2 BK555 (e2 BK556)) (fun hHeld => ?_)
          clear hK K
          refine nrp 6 ?_
          refine one_ (i := 3) (N := some 10) #[true, true, true, true, false, true, false] rfl rfl (by kernel_rfl) (by decide) (fun K hK => ?_)
          refine goes_ Try.func48 (by kernel_rfl) rfl #[.agg #[.int .i64 a1_0, .int .i64 a1_1]] (by rfl) rfl rfl (by (try simp only [List.map_toArray, List.map_cons, List.map_nil]); first | done | rfl | (simp only [List.length_drop, List.length_take]; rfl)) ?_
          with_reducible refine (bocageref02_Canon.calls k a1_0 a1_1 t560 t561 _ A4.out).mono ?_
          rintro e w34 ⟨rfl, hb⟩
          refine ⟨_, rfl, ?_⟩
          replace BK555 := bkb BK555 hb
          replace BK556 := bkb BK556 hb
          replace BK557 := bkb BK557 hb
          replace BK562 := bkb BK562 hb
          replace HB := bst HB hb
          (try clear hb)
          (try clear hb2)
          (try clear hk)
          (try clear hi)
          refine hK.out _ _ (c2 BK555 (e2 BK556)) (fun hHeld => ?_)
          clear hK K
          refine nrp 10 ?_
          refine pu 4 (some 11) #[true, true, true, true, true, true, false] (by kernel_rfl) ?_
          exact nrm (hCont (gb562) _ ⟨hHeld, (bk BK555), (bk BK556), (bk BK557), (bk BK562), GW562.out, GE562.out, NB555_562.out, NB562_555.out, NB556_562.out, NB562_556.out, NB557_562.out, NB562_557.out, (bl HB)⟩)
      · skip
        refine box_step ?hg (N := 6) ?hd (cs := #[.int .i64 0, .int .i64 0, .int .i64 0, .int .i64 0]) (t := 25) ?hr ?_; (case hd => rfl); (case hg => rfl); (case hr => first | (go_simp; done) | (go_simp; rfl))
        intro gb562 hg w32 hbox hb
        have BK562 := Aside0.mk (hbox)
        have GW562 := lsz hg HB
        have GE562 := lsz hg HB
        replace HB := bst HB hb
        have NB555_562 := nlt hg BK555
        have NB562_555 := ngt hg BK555
        replace BK555 := bkb BK555 hb
        have NB556_562 := nlt hg BK556
        have NB562_556 := ngt hg BK556
        replace BK556 := bkb BK556 hb
        have NB557_562 := nlt hg BK557
        have NB562_557 := ngt hg BK557
        replace BK557 := bkb BK557 hb
        clear hb hbox hg
        refine hK.out _ _ (c2 BK555 (e2 BK556)) (fun hHeld => ?_)
        clear hK K
        refine nrp 6 ?_
        refine one_ (i := 1) (N := some 8) #[true, true, true, false, false, true, false] rfl rfl (by kernel_rfl) (by decide) (fun K hK => ?_)
        refine goes_ Try.func48 (by kernel_rfl) rfl #[.agg #[.int .i64 a0_0, .int .i64 a0_1]] (by rfl) rfl rfl (by (try simp only [List.map_toArray, List.map_cons, List.map_nil]); first | done | rfl | (simp only [List.length_drop, List.length_take]; rfl)) ?_
        with_reducible refine (bocageref02_Canon.calls k a0_0 a0_1 t558 t559 _ A3.out).mono ?_
        rintro e w33 ⟨rfl, hb⟩
        refine ⟨_, rfl, ?_⟩
        replace BK555 := bkb BK555 hb
        replace BK556 := bkb BK556 hb
        replace BK557 := bkb BK557 hb
        replace BK562 := bkb BK562 hb
        replace HB := bst HB hb
        (try clear hb)
        (try clear hb2)
        (try clear hk)
        (try clear hi)
        refine hK.out _ _ (c2 BK555 (e2 BK556)) (fun hHeld => ?_)
        clear hK K
        refine nrp 8 ?_
        refine one_ (i := 3) (N := some 10) #[true, true, true, true, false, true, false] rfl rfl (by kernel_rfl) (by decide) (fun K hK => ?_)
        refine goes_ Try.func48 (by kernel_rfl) rfl #[.agg #[.int .i64 a1_0, .int .i64 a1_1]] (by rfl) rfl rfl (by (try simp only [List.map_toArray, List.map_cons, List.map_nil]); first | done | rfl | (simp only [List.length_drop, List.length_take]; rfl)) ?_
        with_reducible refine (bocageref02_Canon.calls k a1_0 a1_1 t560 t561 _ A4.out).mono ?_
        rintro e w34 ⟨rfl, hb⟩
        refine ⟨_, rfl, ?_⟩
        replace BK555 := bkb BK555 hb
        replace BK556 := bkb BK556 hb
        replace BK557 := bkb BK557 hb
        replace BK562 := bkb BK562 hb
        replace HB := bst HB hb
        (try clear hb)
        (try clear hb2)
        (try clear hk)
        (try clear hi)
        refine hK.out _ _ (c2 BK555 (e2 BK556)) (fun hHeld => ?_)
        clear hK K
        refine nrp 10 ?_
        refine pu 4 (some 11) #[true, true, true, true, true, true, false] (by kernel_rfl) ?_
        exact nrm (hCont (gb562) _ ⟨hHeld, (bk BK555), (bk BK556), (bk BK557), (bk BK562), GW562.out, GE562.out, NB555_562.out, NB562_555.out, NB556_562.out, NB562_556.out, NB557_562.out, NB562_557.out, (bl HB)⟩)
    rintro gb562 w35 ⟨hS_, h0_, h1_, h2_, h3_, h4_, h5_, h6_, h7_, h8_, h9_, h10_, h11_, h12_⟩
    replace BK555 : Aside0 (w35.heap[gb555]? = some (.cells #[.int .i64 a0_0, .int .i64 a0_1] 23 (0, 0))) := ⟨h0_⟩
    replace BK556 : Aside0 (w35.heap[gb556]? = some (.cells #[.int .i64 a1_0, .int .i64 a1_1] 23 (0, 0))) := ⟨h1_⟩
    replace BK557 : Aside0 (w35.heap[gb557]? = some (.cells #[.int .i64 0, .int .i64 0, .int .i64 0, .int .i64 0] 25 (0, 0))) := ⟨h2_⟩
    have BK562 : Aside0 (w35.heap[gb562]? = some (.cells #[.int .i64 0, .int .i64 0, .int .i64 0, .int .i64 0] 25 (0, 0))) := ⟨h3_⟩
    have GW562 : Aside0 (w.heap.size ≤ gb562) := ⟨h4_⟩
    have GE562 : Aside0 (w.heap.size ≤ gb562) := ⟨h5_⟩
    have NB555_562 : Aside0 (gb555 ≠ gb562) := ⟨h6_⟩
    have NB562_555 : Aside0 (gb562 ≠ gb555) := ⟨h7_⟩
    have NB556_562 : Aside0 (gb556 ≠ gb562) := ⟨h8_⟩
    have NB562_556 : Aside0 (gb562 ≠ gb556) := ⟨h9_⟩
    have NB557_562 : Aside0 (gb557 ≠ gb562) := ⟨h10_⟩
    have NB562_557 : Aside0 (gb562 ≠ gb557) := ⟨h11_⟩
    replace HB : Aside0 (Below w.heap.size w w35) := ⟨h12_⟩
    clear h0_ h1_ h2_ h3_ h4_ h5_ h6_ h7_ h8_ h9_ h10_ h11_ h12_
    have hHeld : w35.cell? ⟨gb555, 0, none⟩ = some (.int .i64 a0_0) ∧ w35.cell? ⟨gb555, 1, none⟩ = some (.int .i64 a0_1) ∧ w35.cell? ⟨gb556, 0, none⟩ = some (.int .i64 a1_0) ∧ w35.cell? ⟨gb556, 1, none⟩ = some (.int .i64 a1_1) := hS_
    refine nra ?_
    refine one_ (i := 6) (N := none) #[true, true, true, true, true, true, true] rfl rfl (by kernel_rfl) (by decide) (fun K hK => ?_)
    have hs36 : w35.cell? ⟨gb562, 0, none⟩ = some (.int .i64 0) := (blk_cell BK562.out 0).trans rfl
    have hfs36 := blk_frozen BK562.out 0
    have hns36_0 := NB555_562.out
    have hns36_1 := NB556_562.out
    have hns36_2 := NB557_562.out
    have hms36_0 := NB562_555.out
    have hms36_1 := NB562_556.out
    have hms36_2 := NB562_557.out
    have hs37 : w35.cell? ⟨gb562, 1, none⟩ = some (.int .i64 0) := (blk_cell BK562.out 1).trans rfl
    have hfs37 := blk_frozen BK562.out 1
    have hns37_0 := NB555_562.out
    have hns37_1 := NB556_562.out
    have hns37_2 := NB557_562.out
    have hms37_0 := NB562_555.out
    have hms37_1 := NB562_556.out
    have hms37_2 := NB562_557.out
    have hs38 : w35.cell? ⟨gb562, 2, none⟩ = some (.int .i64 0) := (blk_cell BK562.out 2).trans rfl
    have hfs38 := blk_frozen BK562.out 2
    have hns38_0 := NB555_562.out
    have hns38_1 := NB556_562.out
    have hns38_2 := NB557_562.out
    have hms38_0 := NB562_555.out
    have hms38_1 := NB562_556.out
    have hms38_2 := NB562_557.out
    have hs39 : w35.cell? ⟨gb562, 3, none⟩ = some (.int .i64 0) := (blk_cell BK562.out 3).trans rfl
    have hfs39 := blk_frozen BK562.out 3
    have hns39_0 := NB555_562.out
    have hns39_1 := NB556_562.out
    have hns39_2 := NB557_562.out
    have hms39_0 := NB562_555.out
    have hms39_1 := NB562_556.out
    have hms39_2 := NB562_557.out
    refine skip_ (w1 := ?_) (by rfl) rfl ?_ ?_
    rotate_left
    · go_simp
      rfl
    refine hK.out _ _ ⟨((cell_far (p := ⟨gb562, _, none⟩) NB555_562.out _).trans (((cell_far (p := ⟨gb562, _, none⟩) NB555_562.out _).trans (((cell_far (p := ⟨gb562, _, none⟩) NB555_562.out _).trans (((cell_far (p := ⟨gb562, _, none⟩) NB555_562.out _).trans (hHeld.1)))))))), ((cell_far (p := ⟨gb562, _, none⟩) NB555_562.out _).trans (((cell_far (p := ⟨gb562, _, none⟩) NB555_562.out _).trans (((cell_far (p := ⟨gb562, _, none⟩) NB555_562.out _).trans (((cell_far (p := ⟨gb562, _, none⟩) NB555_562.out _).trans (hHeld.2.1)))))))), ((cell_far (p := ⟨gb562, _, none⟩) NB556_562.out _).trans (((cell_far (p := ⟨gb562, _, none⟩) NB556_562.out _).trans (((cell_far (p := ⟨gb562, _, none⟩) NB556_562.out _).trans (((cell_far (p := ⟨gb562, _, none⟩) NB556_562.out _).trans (hHeld.2.2.1)))))))), ((cell_far (p := ⟨gb562, _, none⟩) NB556_562.out _).trans (((cell_far (p := ⟨gb562, _, none⟩) NB556_562.out _).trans (((cell_far (p := ⟨gb562, _, none⟩) NB556_562.out _).trans (((cell_far (p := ⟨gb562, _, none⟩) NB556_562.out _).trans (hHeld.2.2.2))))))))⟩ (fun hHeld => ?_)
    clear hK K
    refine done_ (by kernel_rfl) ?_
    have hnb40 := NB562_555.out
    have hnc40 := NB555_562.out
    have hnb41 := NB562_556.out
    have hnc41 := NB556_562.out
    have hnb42 := NB562_557.out
    have hnc42 := NB557_562.out
    have hcz43_0 : w35.cell? ⟨gb562, 0, none⟩ = some (.int .i64 0) := (blk_cell BK562.out 0).trans rfl
    have hcz43_1 : w35.cell? ⟨gb562, 1, none⟩ = some (.int .i64 0) := (blk_cell BK562.out 1).trans rfl
    have hcz43_2 : w35.cell? ⟨gb562, 2, none⟩ = some (.int .i64 0) := (blk_cell BK562.out 2).trans rfl
    have hcz43_3 : w35.cell? ⟨gb562, 3, none⟩ = some (.int .i64 0) := (blk_cell BK562.out 3).trans rfl
    have hfz43_0 := blk_frozen BK562.out 0
    have hfz43_1 := blk_frozen BK562.out 1
    have hfz43_2 := blk_frozen BK562.out 2
    have hfz43_3 := blk_frozen BK562.out 3
    try go_wp2_with (first | ((with_reducible refine gate_callee (f := 12) rfl ?_); refine gol (some 13) Try.func12 #[.agg #[.int .i64 t558, .int .i64 t559, .int .i64 t560, .int .i64 t561]] ?_; (with_reducible refine (bocageref03_Right.calls k t558 t559 t560 t561 false _ A5.out).mono ?_); rintro e w44 ⟨rfl, hb⟩; refine ⟨_, rfl, ?_⟩; replace BK555 := Aside0.mk (blk_below (bkf BK555 NB555_562) hb); replace BK556 := Aside0.mk (blk_below (bkf BK556 NB556_562) hb); replace BK557 := Aside0.mk (blk_below (bkf BK557 NB557_562) hb); replace BK562 := Aside0.mk (blk_below (g := gb562) (o := .cells #[.int .i64 t558, .int .i64 t559, .int .i64 t560, .int .i64 t561] 25 (0, 0)) (bkp BK562) hb); replace HB := bst HB hb; (try clear hb); (try clear hb2); (try clear hk); (try clear hi); have hnb45 := NB557_555.out; have hnc45 := NB555_557.out; have hnb46 := NB557_556.out; have hnc46 := NB556_557.out; obtain ⟨hcz47_0, hcz47_1, hcz47_2, hcz47_3⟩ := e4 BK557; obtain ⟨hfz47_0, hfz47_1, hfz47_2, hfz47_3⟩ := f4 BK557))
    refine bodyPost_ret (results_ct rfl _ _ gb557 25 #[.int .i64 0, .int .i64 0, .int .i64 0, .int .i64 0] (0, 0) _ rfl (bkp BK557) Try.underlying25 rfl (by kernel_rfl)) rfl ?_
    exact endB HB
/-! ### bocageref01_Minus: function 58 -/
def bocageref01_Minus.f (a0_0 : Int) (l0_1 : List Int) : Option (Int × List Int) := some (wrap64 (-a0_0), l0_1)
set_option maxHeartbeats 8000000 in
set_option maxRecDepth 100000 in
theorem bocageref01_Minus.calls (a0_0 : Int) (P0_1_ : Nat → Prop) (A0_1 : Option Addr) (c0_1 : Nat) (l0_1 : List Int) (r1 : Int) (r2 : List Int) (w : World)
    (hs0_1 : Kd.V (Kd.int .i64) 3 w w.heap.size (fun k_ => P0_1_ k_) (.slice A0_1 l0_1.length c0_1) l0_1) (h : bocageref01_Minus.f a0_0 l0_1 = some (r1, r2)) :
    Calls Try.prog 58 #[.agg #[.int .i64 a0_0, .slice A0_1 l0_1.length c0_1]] w fun e w' => ∃ v1_ : Value, e = .returned (.agg #[.int .i64 r1, v1_]) ∧ Kd.V (Kd.int .i64) 3 w' w.heap.size (fun k_ => (P0_1_ k_ ∨ w.heap.size ≤ k_)) v1_ r2 ∧ Below w.heap.size w w' := by
  unfold bocageref01_Minus.f at h
  simp only [Option.some.injEq, Prod.mk.injEq] at h
  obtain ⟨rfl, rfl⟩ := h
  have HS := Aside0.mk hs0_1
  clear hs0_1
  go_enter Try.func58, Try.ntmps58
  go_wp2
  have hbel : Below w.heap.size w ((w.alloc (Obj.cells #[Value.int IntKind.i64 (wrap64 (-a0_0)), Value.slice A0_1 l0_1.length c0_1] 68)).alloc (Obj.cells #[Value.int IntKind.i64 (wrap64 (-a0_0)), Value.slice A0_1 l0_1.length c0_1] 68)) :=
    ((Below.refl _ w).alloc (Nat.le_refl _) _).alloc (by simp) _
  refine bodyPost_ret (results_cell_row rfl _ _ (w.heap.size + 1) 68 #[.int .i64 (wrap64 (-a0_0)), .slice A0_1 l0_1.length c0_1] (0, 0) _ rfl ?_ Try.underlying68 rfl (by kernel_rfl)) rfl ?_
  · have := blk_new (w.alloc (Obj.cells #[Value.int IntKind.i64 (wrap64 (-a0_0)), Value.slice A0_1 l0_1.length c0_1] 68)) (Obj.cells #[Value.int IntKind.i64 (wrap64 (-a0_0)), Value.slice A0_1 l0_1.length c0_1] 68)
    simpa using this
  · exact ⟨_, rfl, Kd.V_mono (Kd.V_step HS.out (fun k _ hk => hbel.block k hk)) (fun _ hk => .inl hk), hbel⟩
/-! ### bocageref03_Count: function 27 -/
mutual
def bocageref03_Count.j0 : Nat → Bool → Int → Int → Int → Int → Option (Int × Bool)
  | 0, _, _, _, _, _ => none
  | k + 1, x25, x587000, x587001, x587002, x587003 => if x25 = true then (some (0, false)) else ((bocageref02_Next.f k x587000 x587001).bind fun bt588 => ((bocageref02_Prev.f k x587002 x587003).bind fun bt590 => ((bocageref01_Of.f k bt590.1).bind fun bt592 => ((bocageref01_Of.f k bt588.1).bind fun bt596 => ((bocageref01_Minus.f bt596.1 bt596.2).bind fun bt600 => ((bocageref01_Plus.f k bt592.1 bt592.2 bt600.1 bt600.2).bind fun bt604 => ((bocageref01_Of.f k 1).bind fun bt609 => ((bocageref01_Plus.f k bt604.1 bt604.2 bt609.1 bt609.2).bind fun bt613 => (bocageref03_Count.l0 k 0 (wrap64 ((bt613.2.length : Int) - 1)) bt613.1 bt613.2)))))))))
def bocageref03_Count.l0 : Nat → Int → Int → Int → List Int → Option (Int × Bool)
  | 0, _, _, _, _ => none
  | k + 1, x9, x10, x609000, x609001 => if x10 ≥ 0 then (if 0 ≤ x10 then (if x10 < (x609001.length : Int) then (bocageref03_Count.l0 k (IntKind.u64.wrap ((IntKind.u64.wrap (x9 * 10)) + (IntKind.u64.wrap (rd x609001 x10)))) (wrap64 (x10 - 1)) x609000 x609001) else (none)) else (none)) else (some (x9, true))
end
def bocageref03_Count.f (k : Nat) (a0_0 : Int) (a0_1 : Int) (a0_2 : Int) (a0_3 : Int) : Option (Int × Bool) := (bocageref03_Right.f k a0_0 a0_1 a0_2 a0_3).bind fun t587 => (if t587 = true then (if a0_0 < 0 then (bocageref03_Count.j0 k (decide (a0_2 > 0)) a0_0 a0_1 a0_2 a0_3) else (bocageref03_Count.j0 k false a0_0 a0_1 a0_2 a0_3)) else (bocageref03_Count.j0 k true a0_0 a0_1 a0_2 a0_3))
theorem bocageref03_Count.mono_l : ∀ k, (∀ y0 y1 y2 y3 y4, LeO (bocageref03_Count.j0 k y0 y1 y2 y3 y4) (bocageref03_Count.j0 (k + 1) y0 y1 y2 y3 y4)) ∧ (∀ y0 y1 y2 y3, LeO (bocageref03_Count.l0 k y0 y1 y2 y3) (bocageref03_Count.l0 (k + 1) y0 y1 y2 y3))
  | 0 => ⟨fun _ _ _ _ _ r h => by simp [bocageref03_Count.j0] at h, fun _ _ _ _ r h => by simp [bocageref03_Count.l0] at h⟩
  | k + 1 => by
    obtain ⟨ih0, ih1⟩ := bocageref03_Count.mono_l k
    refine ⟨?_, ?_⟩
    · intro y0 y1 y2 y3 y4
      unfold bocageref03_Count.j0
      repeat' first
      | (with_reducible exact ih0 _ _ _ _ _)
      | (with_reducible exact ih1 _ _ _ _)
      | (with_reducible exact bocageref01_Of.mono _ _)
      | (with_reducible exact bocageref01_Plus.mono _ _ _ _ _)
      | (with_reducible exact bocageref02_Next.mono _ _ _)
      | (with_reducible exact bocageref02_Prev.mono _ _ _)
      | (with_reducible exact bocageref03_Right.mono _ _ _ _ _)
      | (with_reducible exact LeO.refl _)
      | (with_reducible exact LeO.none _)
      | (with_reducible refine LeO.ite ?_ ?_)
      | (with_reducible refine LeO.bind ?_ (fun _ => ?_))
      | exact ih0 _ _ _ _ _
      | exact ih1 _ _ _ _
      | exact bocageref01_Of.mono _ _
      | exact bocageref01_Plus.mono _ _ _ _ _
      | exact bocageref02_Next.mono _ _ _
      | exact bocageref02_Prev.mono _ _ _
      | exact bocageref03_Right.mono _ _ _ _ _
      | exact LeO.none _
      | refine LeO.ite ?_ ?_
      | refine LeO.bind ?_ (fun _ => ?_)
    · intro y0 y1 y2 y3
      unfold bocageref03_Count.l0
      repeat' first
      | (with_reducible exact ih0 _ _ _ _ _)
      | (with_reducible exact ih1 _ _ _ _)
      | (with_reducible exact bocageref01_Of.mono _ _)
      | (with_reducible exact bocageref01_Plus.mono _ _ _ _ _)
      | (with_reducible exact bocageref02_Next.mono _ _ _)
      | (with_reducible exact bocageref02_Prev.mono _ _ _)
      | (with_reducible exact bocageref03_Right.mono _ _ _ _ _)
      | (with_reducible exact LeO.refl _)
      | (with_reducible exact LeO.none _)
      | (with_reducible refine LeO.ite ?_ ?_)
      | (with_reducible refine LeO.bind ?_ (fun _ => ?_))
      | exact ih0 _ _ _ _ _
      | exact ih1 _ _ _ _
      | exact bocageref01_Of.mono _ _
      | exact bocageref01_Plus.mono _ _ _ _ _
      | exact bocageref02_Next.mono _ _ _
      | exact bocageref02_Prev.mono _ _ _
      | exact bocageref03_Right.mono _ _ _ _ _
      | exact LeO.none _
      | refine LeO.ite ?_ ?_
      | refine LeO.bind ?_ (fun _ => ?_)
theorem bocageref03_Count.mono : ∀ a0 a1 a2 a3 k, LeO (bocageref03_Count.f k a0 a1 a2 a3) (bocageref03_Count.f (k + 1) a0 a1 a2 a3) := by
  intro a0 a1 a2 a3 k
  obtain ⟨ih0, ih1⟩ := bocageref03_Count.mono_l k
  unfold bocageref03_Count.f
  repeat' first
      | (with_reducible exact ih0 _ _ _ _ _)
      | (with_reducible exact ih1 _ _ _ _)
      | (with_reducible exact bocageref01_Of.mono _ _)
      | (with_reducible exact bocageref01_Plus.mono _ _ _ _ _)
      | (with_reducible exact bocageref02_Next.mono _ _ _)
      | (with_reducible exact bocageref02_Prev.mono _ _ _)
      | (with_reducible exact bocageref03_Right.mono _ _ _ _ _)
      | (with_reducible exact LeO.refl _)
      | (with_reducible exact LeO.none _)
      | (with_reducible refine LeO.ite ?_ ?_)
      | (with_reducible refine LeO.bind ?_ (fun _ => ?_))
      | exact ih0 _ _ _ _ _
      | exact ih1 _ _ _ _
      | exact bocageref01_Of.mono _ _
      | exact bocageref01_Plus.mono _ _ _ _ _
      | exact bocageref02_Next.mono _ _ _
      | exact bocageref02_Prev.mono _ _ _
      | exact bocageref03_Right.mono _ _ _ _ _
      | exact LeO.none _
      | refine LeO.ite ?_ ?_
      | refine LeO.bind ?_ (fun _ => ?_)
set_option maxHeartbeats 8000000 in
set_option maxRecDepth 100000 in
theorem bocageref03_Count.calls (k : Nat) (a0_0 : Int) (a0_1 : Int) (a0_2 : Int) (a0_3 : Int) (r1 : Int) (r2 : Bool) (w : World) (h : bocageref03_Count.f k a0_0 a0_1 a0_2 a0_3 = some (r1, r2)) :
    Calls Try.prog 27 #[.agg #[.int .i64 a0_0, .int .i64 a0_1, .int .i64 a0_2, .int .i64 a0_3]] w fun e w' => e = .returned (.tuple #[.int .u64 r1, .bool r2]) ∧ Below w.heap.size w w' := by
  have hu25 := Try.underlying25
  have hu23 := Try.underlying23
  have hu68 := Try.underlying68
  have HB := Aside0.mk (Below.refl w.heap.size w)
  have H : ((bocageref03_Right.f k a0_0 a0_1 a0_2 a0_3).bind fun t587 => (if t587 = true then (if a0_0 < 0 then (bocageref03_Count.j0 k (decide (a0_2 > 0)) a0_0 a0_1 a0_2 a0_3) else (bocageref03_Count.j0 k false a0_0 a0_1 a0_2 a0_3)) else (bocageref03_Count.j0 k true a0_0 a0_1 a0_2 a0_3))) = some (r1, r2) := h
  clear h
  have HC2 := Aside0.mk H
  clear H
  go_enter Try.func27, Try.ntmps27
  go_upto_region 1 with (first | ((with_reducible refine gate_dst (N := 1) rfl ?_); refine bxe (N := 1) (cs := #[.int .i64 a0_0, .int .i64 a0_1, .int .i64 a0_2, .int .i64 a0_3]) (t := 25) ?_; intro gb586 hg w3 hbox hb; have BK586 := Aside0.mk (hbox); have GW586 := lsz hg HB; have GE586 := lsz hg HB; replace HB := bst HB hb; clear hb hbox hg))
  (try simp only [Act.put, List.setIfInBounds_toArray, List.set_cons_zero, List.set_cons_succ])
  go_cut [25] (fun v25 wc => ∃ (kq : Nat) (x25_1 : Bool), v25 = .bool x25_1 ∧ Aside0 (bocageref03_Count.j0 kq x25_1 a0_0 a0_1 a0_2 a0_3 = some (r1, r2)) ∧ Aside0 (kq ≤ k) ∧ Aside0 (wc.heap[gb586]? = some (.cells #[.int .i64 a0_0, .int .i64 a0_1, .int .i64 a0_2, .int .i64 a0_3] 25 (0, 0))) ∧ Aside0 (Below w.heap.size w wc))
  case first =>
    have H := HC2.out
    clear HC2
    replace H := Option.bind_eq_some_iff.mp H
    obtain ⟨t587, A40, H⟩ := H
    (try (set_option simprocs false in dsimp only at H))
    have A4 := Aside0.mk A40
    clear A40
    by_cases c5 : t587 = true
    · subst c5
      have H1 : (if a0_0 < 0 then (bocageref03_Count.j0 k (decide (a0_2 > 0)) a0_0 a0_1 a0_2 a0_3) else (bocageref03_Count.j0 k false a0_0 a0_1 a0_2 a0_3)) = some (r1, r2) := by rw [if_pos rfl] at H; exact H
      clear H
      have H := H1
      clear H1
      by_cases c6 : a0_0 < 0
      · rw [if_pos c6] at H
        have c6b0 : decide (a0_0 < 0) = true := decide_eq_true c6
        clear c6
        (first | rw [c6b0] | (simp only [i64_w, i32_w]; rw [c6b0]) | skip)
        have H' := Aside0.mk H
        clear H
        have hcz7_0 : w3.cell? ⟨gb586, 0, none⟩ = some (.int .i64 a0_0) := (blk_cell BK586.out 0).trans rfl
        have hcz7_1 : w3.cell? ⟨gb586, 1, none⟩ = some (.int .i64 a0_1) := (blk_cell BK586.out 1).trans rfl
        have hcz7_2 : w3.cell? ⟨gb586, 2, none⟩ = some (.int .i64 a0_2) := (blk_cell BK586.out 2).trans rfl
        have hcz7_3 : w3.cell? ⟨gb586, 3, none⟩ = some (.int .i64 a0_3) := (blk_cell BK586.out 3).trans rfl
        have hfz7_0 := blk_frozen BK586.out 0
        have hfz7_1 := blk_frozen BK586.out 1
        have hfz7_2 := blk_frozen BK586.out 2
        have hfz7_3 := blk_frozen BK586.out 3
        go_wp2_with (first | ((with_reducible refine gate_callee (f := 12) rfl ?_); refine gol (some 12) Try.func12 #[.agg #[.int .i64 a0_0, .int .i64 a0_1, .int .i64 a0_2, .int .i64 a0_3]] ?_; (with_reducible refine (bocageref03_Right.calls k a0_0 a0_1 a0_2 a0_3 true _ A4.out).mono ?_); rintro e w8 ⟨rfl, hb⟩; refine ⟨_, rfl, ?_⟩; replace BK586 := bkb BK586 hb; replace HB := bst HB hb; (try clear hb); (try clear hb2); (try clear hk); (try clear hi); obtain ⟨hcz9_0, hcz9_1, hcz9_2, hcz9_3⟩ := e4 BK586; obtain ⟨hfz9_0, hfz9_1, hfz9_2, hfz9_3⟩ := f4 BK586))
        go_meet
        case rel => exact ⟨_, (decide (a0_2 > 0)), (by first | rfl | (simp; done) | (simp [*]; done)), H', ⟨by first | omega | exact Nat.le_refl _⟩, ⟨bk BK586⟩, ⟨bl HB⟩⟩
      · rw [if_neg c6] at H
        have c6b0 : decide (a0_0 < 0) = false := decide_eq_false c6
        clear c6
        (first | rw [c6b0] | (simp only [i64_w, i32_w]; rw [c6b0]) | skip)
        have H' := Aside0.mk H
        clear H
        have hcz10_0 : w3.cell? ⟨gb586, 0, none⟩ = some (.int .i64 a0_0) := (blk_cell BK586.out 0).trans rfl
        have hcz10_1 : w3.cell? ⟨gb586, 1, none⟩ = some (.int .i64 a0_1) := (blk_cell BK586.out 1).trans rfl
        have hcz10_2 : w3.cell? ⟨gb586, 2, none⟩ = some (.int .i64 a0_2) := (blk_cell BK586.out 2).trans rfl
        have hcz10_3 : w3.cell? ⟨gb586, 3, none⟩ = some (.int .i64 a0_3) := (blk_cell BK586.out 3).trans rfl
        have hfz10_0 := blk_frozen BK586.out 0
        have hfz10_1 := blk_frozen BK586.out 1
        have hfz10_2 := blk_frozen BK586.out 2
        have hfz10_3 := blk_frozen BK586.out 3
        go_wp2_with (first | ((with_reducible refine gate_callee (f := 12) rfl ?_); refine gol (some 12) Try.func12 #[.agg #[.int .i64 a0_0, .int .i64 a0_1, .int .i64 a0_2, .int .i64 a0_3]] ?_; (with_reducible refine (bocageref03_Right.calls k a0_0 a0_1 a0_2 a0_3 true _ A4.out).mono ?_); rintro e w11 ⟨rfl, hb⟩; refine ⟨_, rfl, ?_⟩; replace BK586 := bkb BK586 hb; replace HB := bst HB hb; (try clear hb); (try clear hb2); (try clear hk); (try clear hi); obtain ⟨hcz12_0, hcz12_1, hcz12_2, hcz12_3⟩ := e4 BK586; obtain ⟨hfz12_0, hfz12_1, hfz12_2, hfz12_3⟩ := f4 BK586))
        go_meet
        case rel => exact ⟨_, (false), (by first | rfl | (simp; done) | (simp [*]; done)), H', ⟨by first | omega | exact Nat.le_refl _⟩, ⟨bk BK586⟩, ⟨bl HB⟩⟩
    · replace c5 := Bool.eq_false_iff.mpr c5
      subst c5
      have H1 : (bocageref03_Count.j0 k true a0_0 a0_1 a0_2 a0_3) = some (r1, r2) := by rw [if_neg (show ¬ (false = true) by decide)] at H; exact H
      clear H
      have H := H1
      clear H1
      have H' := Aside0.mk H
      clear H
      have hcz13_0 : w3.cell? ⟨gb586, 0, none⟩ = some (.int .i64 a0_0) := (blk_cell BK586.out 0).trans rfl
      have hcz13_1 : w3.cell? ⟨gb586, 1, none⟩ = some (.int .i64 a0_1) := (blk_cell BK586.out 1).trans rfl
      have hcz13_2 : w3.cell? ⟨gb586, 2, none⟩ = some (.int .i64 a0_2) := (blk_cell BK586.out 2).trans rfl
      have hcz13_3 : w3.cell? ⟨gb586, 3, none⟩ = some (.int .i64 a0_3) := (blk_cell BK586.out 3).trans rfl
      have hfz13_0 := blk_frozen BK586.out 0
      have hfz13_1 := blk_frozen BK586.out 1
      have hfz13_2 := blk_frozen BK586.out 2
      have hfz13_3 := blk_frozen BK586.out 3
      go_wp2_with (first | ((with_reducible refine gate_callee (f := 12) rfl ?_); refine gol (some 12) Try.func12 #[.agg #[.int .i64 a0_0, .int .i64 a0_1, .int .i64 a0_2, .int .i64 a0_3]] ?_; (with_reducible refine (bocageref03_Right.calls k a0_0 a0_1 a0_2 a0_3 false _ A4.out).mono ?_); rintro e w14 ⟨rfl, hb⟩; refine ⟨_, rfl, ?_⟩; replace BK586 := bkb BK586 hb; replace HB := bst HB hb; (try clear hb); (try clear hb2); (try clear hk); (try clear hi)))
      go_meet
      case rel => exact ⟨_, (true), (by first | rfl | (simp; done) | (simp [*]; done)), H', ⟨by first | omega | exact Nat.le_refl _⟩, ⟨bk BK586⟩, ⟨bl HB⟩⟩
  case rest =>
    clear HC2
    try clear c1
    try clear c2
    try clear p2
    try clear c5
    try clear c6
    try clear c6b0
    try clear c12
    try clear hcz10_0
    try clear hcz10_1
    try clear hcz10_2
    try clear hcz10_3
    try clear hcz12_0
    try clear hcz12_1
    try clear hcz12_2
    try clear hcz12_3
    try clear hcz13_0
    try clear hcz13_1
    try clear hcz13_2
    try clear hcz13_3
    try clear hcz7_0
    try clear hcz7_1
    try clear hcz7_2
    try clear hcz7_3
    try clear hcz9_0
    try clear hcz9_1
    try clear hcz9_2
    try clear hcz9_3
    try clear hfz10_0
    try clear hfz10_1
    try clear hfz10_2
    try clear hfz10_3
    try clear hfz12_0
    try clear hfz12_1
    try clear hfz12_2
    try clear hfz12_3
    try clear hfz13_0
    try clear hfz13_1
    try clear hfz13_2
    try clear hfz13_3
    try clear hfz7_0
    try clear hfz7_1
    try clear hfz7_2
    try clear hfz7_3
    try clear hfz9_0
    try clear hfz9_1
    try clear hfz9_2
    try clear hfz9_3
    obtain ⟨kq, x25_1, rfl, HA, HJ1, BK586, HB⟩ := hcut
    cases kq with
    | zero => exact absurd HA.out (by simp [bocageref03_Count.j0])
    | succ kj1 =>
      have H := HA.out
      clear HA
      simp only [bocageref03_Count.j0] at H
      by_cases c15 : x25_1 = true
      · subst c15
        have H1 : (some (0, false)) = some (r1, r2) := by rw [if_pos rfl] at H; exact H
        clear H
        have H := H1
        clear H1
        simp only [Option.some.injEq, Prod.mk.injEq] at H
        obtain ⟨rfl, rfl⟩ := H
        go_wp2
        go_ret2
        exact endB HB
      · replace c15 := Bool.eq_false_iff.mpr c15
        subst c15
        have H1 : ((bocageref02_Next.f kj1 a0_0 a0_1).bind fun bt588 => ((bocageref02_Prev.f kj1 a0_2 a0_3).bind fun bt590 => ((bocageref01_Of.f kj1 bt590.1).bind fun bt592 => ((bocageref01_Of.f kj1 bt588.1).bind fun bt596 => ((bocageref01_Minus.f bt596.1 bt596.2).bind fun bt600 => ((bocageref01_Plus.f kj1 bt592.1 bt592.2 bt600.1 bt600.2).bind fun bt604 => ((bocageref01_Of.f kj1 1).bind fun bt609 => ((bocageref01_Plus.f kj1 bt604.1 bt604.2 bt609.1 bt609.2).bind fun bt613 => (bocageref03_Count.l0 kj1 0 (wrap64 ((bt613.2.length : Int) - 1)) bt613.1 bt613.2))))))))) = some (r1, r2) := by rw [if_neg (show ¬ (false = true) by decide)] at H; exact H
        clear H
        have H := H1
        clear H1
        replace H := Option.bind_eq_some_iff.mp H
        obtain ⟨⟨t588, t589⟩, A160, H⟩ := H
        (try (set_option simprocs false in dsimp only at H))
        have A16 := Aside0.mk A160
        clear A160
        replace H := Option.bind_eq_some_iff.mp H
        obtain ⟨⟨t590, t591⟩, A170, H⟩ := H
        (try (set_option simprocs false in dsimp only at H))
        have A17 := Aside0.mk A170
        clear A170
        replace H := Option.bind_eq_some_iff.mp H
        obtain ⟨⟨t592, t593⟩, A180, H⟩ := H
        (try (set_option simprocs false in dsimp only at H))
        have A18 := Aside0.mk A180
        clear A180
        replace H := Option.bind_eq_some_iff.mp H
        obtain ⟨⟨t596, t597⟩, A190, H⟩ := H
        (try (set_option simprocs false in dsimp only at H))
        have A19 := Aside0.mk A190
        clear A190
        replace H := Option.bind_eq_some_iff.mp H
        obtain ⟨⟨t600, t601⟩, A200, H⟩ := H
        (try (set_option simprocs false in dsimp only at H))
        have A20 := Aside0.mk A200
        clear A200
        replace H := Option.bind_eq_some_iff.mp H
        obtain ⟨⟨t604, t605⟩, A210, H⟩ := H
        (try (set_option simprocs false in dsimp only at H))
        have A21 := Aside0.mk A210
        clear A210
        replace H := Option.bind_eq_some_iff.mp H
        obtain ⟨⟨t609, t610⟩, A220, H⟩ := H
        (try (set_option simprocs false in dsimp only at H))
        have A22 := Aside0.mk A220
        clear A220
        replace H := Option.bind_eq_some_iff.mp H
        obtain ⟨⟨t613, t614⟩, A230, H⟩ := H
        (try (set_option simprocs false in dsimp only at H))
        have A23 := Aside0.mk A230
        clear A230
        have H' := Aside0.mk H
        clear H
        have hcz24_0 : wc.cell? ⟨gb586, 0, none⟩ = some (.int .i64 a0_0) := (blk_cell BK586.out 0).trans rfl
        have hcz24_1 : wc.cell? ⟨gb586, 1, none⟩ = some (.int .i64 a0_1) := (blk_cell BK586.out 1).trans rfl
        have hcz24_2 : wc.cell? ⟨gb586, 2, none⟩ = some (.int .i64 a0_2) := (blk_cell BK586.out 2).trans rfl
        have hcz24_3 : wc.cell? ⟨gb586, 3, none⟩ = some (.int .i64 a0_3) := (blk_cell BK586.out 3).trans rfl
        have hfz24_0 := blk_frozen BK586.out 0
        have hfz24_1 := blk_frozen BK586.out 1
        have hfz24_2 := blk_frozen BK586.out 2
        have hfz24_3 := blk_frozen BK586.out 3
        try go_wp2_with (first | ((with_reducible refine gate_callee (f := 32) rfl ?_); refine gol (some 29) Try.func32 #[.agg #[.int .i64 a0_0, .int .i64 a0_1]] ?_; (with_reducible refine (bocageref02_Next.calls kj1 a0_0 a0_1 t588 t589 _ A16.out).mono ?_); rintro e w25 ⟨rfl, hb⟩; refine ⟨_, rfl, ?_⟩; replace BK586 := bkb BK586 hb; replace HB := bst HB hb; (try clear hb); (try clear hb2); (try clear hk); (try clear hi); obtain ⟨hcz26_0, hcz26_1, hcz26_2, hcz26_3⟩ := e4 BK586; obtain ⟨hfz26_0, hfz26_1, hfz26_2, hfz26_3⟩ := f4 BK586) | ((with_reducible refine gate_callee (f := 33) rfl ?_); refine gol (some 35) Try.func33 #[.agg #[.int .i64 a0_2, .int .i64 a0_3]] ?_; (with_reducible refine (bocageref02_Prev.calls kj1 a0_2 a0_3 t590 t591 _ A17.out).mono ?_); rintro e w27 ⟨rfl, hb⟩; refine ⟨_, rfl, ?_⟩; replace BK586 := bkb BK586 hb; replace HB := bst HB hb; (try clear hb); (try clear hb2); (try clear hk); (try clear hi)) | ((with_reducible refine gate_callee (f := 57) rfl ?_); refine gol (some 39) Try.func57 #[.int .i64 t590] ?_; (with_reducible refine (bocageref01_Of.calls kj1 t590 t592 t593 _ A18.out).mono ?_); rintro e w28 ⟨v594, rfl, ho0, hb⟩; refine ⟨_, rfl, ?_⟩; have HO595 := Aside0.mk (Kd.R_lower ho0 (below_size (bl HB))); replace BK586 := bkb BK586 hb; replace HB := bst HB hb; (try clear hb); (try clear hb2); (try clear hk); (try clear hi); (try clear ho0)) | ((with_reducible refine gate_callee (f := 57) rfl ?_); refine gol (some 41) Try.func57 #[.int .i64 t588] ?_; (with_reducible refine (bocageref01_Of.calls kj1 t588 t596 t597 _ A19.out).mono ?_); rintro e w29 ⟨v598, rfl, ho0, hb⟩; refine ⟨_, rfl, ?_⟩; have HO599 := Aside0.mk (Kd.R_lower (Kd.R_new' ho0 (Kd.R_lt (kr HO595))) (below_size (bl HB))); replace HO595 := Aside0.mk (Kd.R_elder' (kr HO595) (Kd.R_base ho0) hb); replace BK586 := bkb BK586 hb; replace HB := bst HB hb; (try clear hb); (try clear hb2); (try clear hk); (try clear hi); (try clear ho0); obtain ⟨Ao30, co30, eo30⟩ := Kd.R_slice HO599.out; subst eo30) | ((with_reducible refine gate_callee (f := 58) rfl ?_); refine gol (some 42) Try.func58 #[.agg #[.int .i64 t596, .slice Ao30 t597.length co30]] ?_; (with_reducible refine (bocageref01_Minus.calls t596 (fun k_ => some k_ = (.slice Ao30 t597.length co30 : Value).ownBlock) _ _ t597 t600 t601 _ ?side1 A20.out).mono ?_); (case side1 => exact Kd.R_V (Kd.R_tight rfl (Kd.R_types (HO599.out) BK586.out (by decide)))); rintro e w31 ⟨v602, rfl, ho0, hb⟩; refine ⟨_, rfl, ?_⟩; have HO603 := Aside0.mk (Kd.V_lower (Kd.V_mono (ok' := fun k_ => some k_ ≠ (v594 : Value).ownBlock ∧ k_ ≠ gb586) ho0 (fun k_ hk_ => ⟨Or.elim hk_ (fun hs_ => ((Kd.R_types (HO599.out) BK586.out (by decide)).1 k_ hs_.symm).1.2) (fun hn_ => (Kd.fresh' (Kd.R_lt (kr HO595)) k_ hn_)), Or.elim hk_ (fun hs_ => ((Kd.R_types (HO599.out) BK586.out (by decide)).1 k_ hs_.symm).2) (fun hn_ => (Kd.freshB (bk BK586) k_ hn_))⟩)) (below_size (bl HB))); replace HO595 := krb HO595 hb; replace HO599 := krb HO599 hb; replace BK586 := bkb BK586 hb; replace HB := bst HB hb; (try clear hb); (try clear hb2); (try clear hk); (try clear hi); (try clear ho0); obtain ⟨Ao32, co32, eo32⟩ := Kd.R_slice HO595.out; subst eo32; obtain ⟨Ao33, co33, eo33⟩ := Kd.V_slice HO603.out; subst eo33) | ((with_reducible refine gate_callee (f := 56) rfl ?_); refine gol (some 43) Try.func56 #[.agg #[.int .i64 t592, .slice Ao32 t593.length co32], .agg #[.int .i64 t600, .slice Ao33 t601.length co33]] ?_; (with_reducible refine (bocageref01_Plus.calls kj1 t592 (fun k_ => some k_ = (.slice Ao32 t593.length co32 : Value).ownBlock) _ _ t593 t600 (fun k_ => (some k_ ≠ (.slice Ao32 t593.length co32 : Value).ownBlock ∧ k_ ≠ gb586)) _ _ t601 t604 t605 _ ?side1 ?side2 A21.out).mono ?_); (case side1 => exact Kd.R_V (Kd.R_tight rfl (Kd.R_types (HO595.out) BK586.out (by decide)))); (case side2 => exact HO603.out); rintro e w34 ⟨v606, rfl, ho0, hb⟩; refine ⟨_, rfl, ?_⟩; replace HO599 := krb HO599 hb; replace HO603 := Aside0.mk (Kd.V_below (by (with_reducible repeat (first | apply Kd.V_alloc | apply Kd.V_drewN | apply Kd.V_drew)); exact HO603.out) hb); have HO607 := Aside0.mk (Kd.V_lower (Kd.V_mono (ok' := fun k_ => k_ ≠ gb586) ho0 (fun k_ hk_ => Or.elim hk_ (fun hs_ => Or.elim hs_ (fun hs_ => ((Kd.R_types (HO595.out) BK586.out (by decide)).1 k_ hs_.symm).2) (fun hs_ => hs_.2)) (fun hn_ => (Kd.freshB (bk BK586) k_ hn_)))) (below_size (bl HB))); replace HO595 := krb HO595 hb; replace BK586 := bkb BK586 hb; replace HB := bst HB hb; (try clear hb); (try clear hb2); (try clear hk); (try clear hi); (try clear ho0)) | ((with_reducible refine gate_dst (N := 8) rfl ?_); refine bxe (N := 8) (cs := #[.int .i64 0, .slice none 0 0]) (t := 68) ?_; intro gb608 hg w35 hbox hb; replace HO595 := krb HO595 hb; replace HO599 := krb HO599 hb; replace HO603 := Aside0.mk (Kd.V_below (Kd.V_elderB (by (with_reducible repeat (first | apply Kd.V_alloc | apply Kd.V_drewN | apply Kd.V_drew)); exact HO603.out) gb608 (Nat.le_of_eq hg.symm)) hb); replace HO607 := Aside0.mk (Kd.V_below (Kd.V_elderB (by (with_reducible repeat (first | apply Kd.V_alloc | apply Kd.V_drewN | apply Kd.V_drew)); exact HO607.out) gb608 (Nat.le_of_eq hg.symm)) hb); have BK608 := Aside0.mk (hbox); have GW608 := lsz hg HB; have GE608 := lsz hg HB; replace HB := bst HB hb; have NB586_608 := nlt hg BK586; have NB608_586 := ngt hg BK586; replace BK586 := bkb BK586 hb; clear hb hbox hg; have hnb36 := NB608_586.out; have hnc36 := NB586_608.out; obtain ⟨hcz37_0, hcz37_1⟩ := e2 BK608; obtain ⟨hfz37_0, hfz37_1⟩ := f2 BK608; obtain ⟨Ao38, co38, eo38⟩ := Kd.V_slice HO607.out; subst eo38))
        have n0_ : Aside0 (Kd.R (Kd.int .i64) 3 ((w35.setCell ⟨gb608, 0, none⟩ (.int .i64 t604)).setCell ⟨gb608, 1, none⟩ (.slice Ao38 t605.length co38)) w.heap.size (fun k_ => some k_ ≠ (.slice Ao30 t597.length co30 : Value).ownBlock) (.slice Ao32 t593.length co32) t593) := ⟨by (with_reducible repeat (first | apply Kd.R_alloc | apply Kd.R_drewN | apply Kd.R_drew)); exact Kd.R_mono (Kd.R_far (p := ⟨gb608, 1, none⟩) (Kd.R_far (p := ⟨gb608, 0, none⟩) (Kd.R_types HO595.out BK608.out (by decide)) (fun _ hk => hk.2) (.int .i64 t604)) (fun _ hk => hk.2) (.slice Ao38 t605.length co38)) (fun _ hk => hk.1.2)⟩
        have n1_ : Aside0 (Kd.R (Kd.int .i64) 3 ((w35.setCell ⟨gb608, 0, none⟩ (.int .i64 t604)).setCell ⟨gb608, 1, none⟩ (.slice Ao38 t605.length co38)) w.heap.size (fun k_ => some k_ ≠ (.slice Ao32 t593.length co32 : Value).ownBlock) (.slice Ao30 t597.length co30) t597) := ⟨by (with_reducible repeat (first | apply Kd.R_alloc | apply Kd.R_drewN | apply Kd.R_drew)); exact Kd.R_mono (Kd.R_far (p := ⟨gb608, 1, none⟩) (Kd.R_far (p := ⟨gb608, 0, none⟩) (Kd.R_types HO599.out BK608.out (by decide)) (fun _ hk => hk.2) (.int .i64 t604)) (fun _ hk => hk.2) (.slice Ao38 t605.length co38)) (fun _ hk => hk.1.2)⟩
        have n2_ : Aside0 (Kd.V (Kd.int .i64) 3 ((w35.setCell ⟨gb608, 0, none⟩ (.int .i64 t604)).setCell ⟨gb608, 1, none⟩ (.slice Ao38 t605.length co38)) w.heap.size (fun k_ => some k_ ≠ (.slice Ao32 t593.length co32 : Value).ownBlock ∧ k_ ≠ gb586 ∧ k_ ≠ gb608) (.slice Ao33 t601.length co33) t601) := ⟨by (with_reducible repeat (first | apply Kd.V_alloc | apply Kd.V_drewN | apply Kd.V_drew)); exact Kd.V_mono (Kd.V_far (p := ⟨gb608, 1, none⟩) (Kd.V_far (p := ⟨gb608, 0, none⟩) (Kd.V_mono HO603.out (fun k_ hk => (⟨hk, hk.2⟩ : _ ∧ k_ ≠ gb608))) (fun _ hk => hk.2) (.int .i64 t604)) (fun _ hk => hk.2) (.slice Ao38 t605.length co38)) (fun _ hk => ⟨hk.1.1.1, ⟨hk.1.1.2, hk.1.2⟩⟩)⟩
        have n3_ : Aside0 (Kd.V (Kd.int .i64) 3 ((w35.setCell ⟨gb608, 0, none⟩ (.int .i64 t604)).setCell ⟨gb608, 1, none⟩ (.slice Ao38 t605.length co38)) w.heap.size (fun k_ => k_ ≠ gb586 ∧ k_ ≠ gb608) (.slice Ao38 t605.length co38) t605) := ⟨by (with_reducible repeat (first | apply Kd.V_alloc | apply Kd.V_drewN | apply Kd.V_drew)); exact Kd.V_mono (Kd.V_far (p := ⟨gb608, 1, none⟩) (Kd.V_far (p := ⟨gb608, 0, none⟩) (Kd.V_mono HO607.out (fun k_ hk => (⟨hk, hk.2⟩ : _ ∧ k_ ≠ gb608))) (fun _ hk => hk.2) (.int .i64 t604)) (fun _ hk => hk.2) (.slice Ao38 t605.length co38)) (fun _ hk => ⟨hk.1.1, hk.1.2⟩)⟩
        have n4_ : Aside0 (((w35.setCell ⟨gb608, 0, none⟩ (.int .i64 t604)).setCell ⟨gb608, 1, none⟩ (.slice Ao38 t605.length co38)).heap[gb586]? = some (.cells #[.int .i64 a0_0, .int .i64 a0_1, .int .i64 a0_2, .int .i64 a0_3] 25 (0, 0))) := ⟨by (with_reducible repeat (first | refine blk_drewN ?_ _ | refine blk_drew ?_ | refine blk_alloc ?_ _)); refine blk_far ?_ NB586_608.out _; (with_reducible repeat (first | refine blk_drewN ?_ _ | refine blk_drew ?_ | refine blk_alloc ?_ _)); refine blk_far ?_ NB586_608.out _; (with_reducible repeat (first | refine blk_drewN ?_ _ | refine blk_drew ?_ | refine blk_alloc ?_ _)); exact BK586.out⟩
        have n5_ : Aside0 (((w35.setCell ⟨gb608, 0, none⟩ (.int .i64 t604)).setCell ⟨gb608, 1, none⟩ (.slice Ao38 t605.length co38)).heap[gb608]? = some (.cells #[.int .i64 t604, .slice Ao38 t605.length co38] 68 (0, 0))) := ⟨by (with_reducible repeat (first | refine blk_drewN ?_ _ | refine blk_drew ?_ | refine blk_alloc ?_ _)); refine blk_put (cs := #[.int .i64 t604, .slice none 0 0]) ?_ 1 _ rfl; (with_reducible repeat (first | refine blk_drewN ?_ _ | refine blk_drew ?_ | refine blk_alloc ?_ _)); refine blk_put (cs := #[.int .i64 0, .slice none 0 0]) ?_ 0 _ rfl; (with_reducible repeat (first | refine blk_drewN ?_ _ | refine blk_drew ?_ | refine blk_alloc ?_ _)); exact BK608.out⟩
        have n6_ : Aside0 (Below w.heap.size w ((w35.setCell ⟨gb608, 0, none⟩ (.int .i64 t604)).setCell ⟨gb608, 1, none⟩ (.slice Ao38 t605.length co38))) := ⟨bl HB⟩
        (try clear HO595)
        (try clear HO599)
        (try clear HO603)
        (try clear HO607)
        (try clear BK586)
        (try clear BK608)
        (try clear HB)
        generalize ((w35.setCell ⟨gb608, 0, none⟩ (.int .i64 t604)).setCell ⟨gb608, 1, none⟩ (.slice Ao38 t605.length co38)) = w39 at n0_ n1_ n2_ n3_ n4_ n5_ n6_ ⊢
        have HO595 := n0_
        have HO599 := n1_
        have HO603 := n2_
        have HO607 := n3_
        have BK586 := n4_
        have BK608 := n5_
        have HB := n6_
        clear n0_ n1_ n2_ n3_ n4_ n5_ n6_
        replace HO595 := Aside0.mk (Kd.R_drew HO595.out)
        replace HO599 := Aside0.mk (Kd.R_drew HO599.out)
        replace HO603 := Aside0.mk (Kd.V_drew HO603.out)
        replace HO607 := Aside0.mk (Kd.V_drew HO607.out)
        replace BK586 := Aside0.mk (blk_drew BK586.out)
        replace BK608 := Aside0.mk (blk_drew BK608.out)
        replace HB := Aside0.mk (below_drew1 HB.out)
        refine start_ (n := 4) (S := fun w' => w'.cell? ⟨gb608, 0, none⟩ = some (.int .i64 t604) ∧ w'.cell? ⟨gb608, 1, none⟩ = some (.slice Ao38 t605.length co38)) (ds := [3]) #[false, false, false, false] (by kernel_rfl) rfl rfl (e2 BK608) (fun hHeld => ?_)
        generalize w39.drew = w40 at HO595 HO599 HO603 HO607 BK586 BK608 HB hHeld ⊢
        refine tk2 0 (some 44) #[true, false, false, false] (by kernel_rfl) hHeld ?_
        refine one_ (i := 1) (N := some 45) #[true, true, false, false] rfl rfl (by kernel_rfl) (by decide) (fun K hK => ?_)
        refine goes_ Try.func57 (by kernel_rfl) rfl #[.int .i64 1] (by rfl) rfl rfl (by (try simp only [List.map_toArray, List.map_cons, List.map_nil]); first | done | rfl | (simp only [List.length_drop, List.length_take]; rfl)) ?_
        with_reducible refine (bocageref01_Of.calls kj1 1 t609 t610 _ A22.out).mono ?_
        rintro e w41 ⟨v611, rfl, ho0, hb⟩
        refine ⟨_, rfl, ?_⟩
        replace HO603 := Aside0.mk (Kd.V_elder' (by (with_reducible repeat (first | apply Kd.V_alloc | apply Kd.V_drewN | apply Kd.V_drew)); exact HO603.out) (Kd.R_base ho0) hb)
        replace HO607 := Aside0.mk (Kd.V_elder' (by (with_reducible repeat (first | apply Kd.V_alloc | apply Kd.V_drewN | apply Kd.V_drew)); exact HO607.out) (Kd.R_base ho0) hb)
        have HO612 := Aside0.mk (Kd.R_lower (Kd.R_new' (Kd.R_new' ho0 (Kd.R_lt (kr HO595))) (Kd.R_lt (kr HO599))) (below_size (bl HB)))
        replace HO595 := Aside0.mk (Kd.R_elder' (kr HO595) (Kd.R_base ho0) hb)
        replace HO599 := Aside0.mk (Kd.R_elder' (kr HO599) (Kd.R_base ho0) hb)
        replace BK586 := bkb BK586 hb
        replace BK608 := bkb BK608 hb
        replace HB := bst HB hb
        (try clear hb)
        (try clear hb2)
        (try clear hk)
        (try clear hi)
        (try clear ho0)
        obtain ⟨Ao42, co42, eo42⟩ := Kd.R_slice HO612.out
        (first | subst eo42 | (injection eo42 with f1_ f2_ f3_; have f4_ := f1_.symm; have f5_ := f3_.symm; clear f1_ f2_ f3_; subst f4_; subst f5_))
        refine hK.out _ _ (e2 BK608) (fun hHeld => ?_)
        clear hK K
        refine nrp 45 ?_
        refine one_ (i := 2) (N := some 46) #[true, true, true, false] rfl rfl (by kernel_rfl) (by decide) (fun K hK => ?_)
        refine goes_ Try.func56 (by kernel_rfl) rfl #[.agg #[.int .i64 t604, .slice Ao38 t605.length co38], .agg #[.int .i64 t609, .slice Ao42 t610.length co42]] (by rfl) rfl rfl (by (try simp only [List.map_toArray, List.map_cons, List.map_nil]); first | done | rfl | (simp only [List.length_drop, List.length_take]; rfl)) ?_
        with_reducible refine (bocageref01_Plus.calls kj1 t604 (fun k_ => ((k_ ≠ gb586 ∧ k_ ≠ gb608) ∧ some k_ ≠ (.slice Ao42 t610.length co42 : Value).ownBlock)) _ _ t605 t609 (fun k_ => some k_ = (.slice Ao42 t610.length co42 : Value).ownBlock) _ _ t610 t613 t614 _ ?side1 ?side2 A23.out).mono ?_
        (case side1 => exact HO607.out)
        (case side2 => exact Kd.R_V (Kd.R_tight rfl (Kd.R_types (Kd.R_types (HO612.out) BK586.out (by decide)) BK608.out (by decide))))
        rintro e w43 ⟨v615, rfl, ho0, hb⟩
        refine ⟨_, rfl, ?_⟩
        replace HO595 := krb HO595 hb
        replace HO599 := krb HO599 hb
        replace HO603 := Aside0.mk (Kd.V_below (by (with_reducible repeat (first | apply Kd.V_alloc | apply Kd.V_drewN | apply Kd.V_drew)); exact HO603.out) hb)
        replace HO607 := Aside0.mk (Kd.V_below (by (with_reducible repeat (first | apply Kd.V_alloc | apply Kd.V_drewN | apply Kd.V_drew)); exact HO607.out) hb)
        have HO616 := Aside0.mk (Kd.V_lower (Kd.V_mono (ok' := fun k_ => k_ ≠ gb586 ∧ k_ ≠ gb608) ho0 (fun k_ hk_ => ⟨Or.elim hk_ (fun hs_ => Or.elim hs_ (fun hs_ => hs_.1.1) (fun hs_ => ((Kd.R_types (Kd.R_types (HO612.out) BK586.out (by decide)) BK608.out (by decide)).1 k_ hs_.symm).1.2)) (fun hn_ => (Kd.freshB (bk BK586) k_ hn_)), Or.elim hk_ (fun hs_ => Or.elim hs_ (fun hs_ => hs_.1.2) (fun hs_ => ((Kd.R_types (Kd.R_types (HO612.out) BK586.out (by decide)) BK608.out (by decide)).1 k_ hs_.symm).2)) (fun hn_ => (Kd.freshB (bk BK608) k_ hn_))⟩)) (below_size (bl HB)))
        replace HO612 := krb HO612 hb
        replace BK586 := bkb BK586 hb
        replace BK608 := bkb BK608 hb
        replace HB := bst HB hb
        (try clear hb)
        (try clear hb2)
        (try clear hk)
        (try clear hi)
        (try clear ho0)
        obtain ⟨Ao45, co45, eo45⟩ := Kd.V_slice HO616.out
        (first | subst eo45 | (injection eo45 with f1_ f2_ f3_; have f4_ := f1_.symm; have f5_ := f3_.symm; clear f1_ f2_ f3_; subst f4_; subst f5_))
        refine hK.out _ _ (e2 BK608) (fun hHeld => ?_)
        clear hK K
        refine nrp 46 ?_
        refine last_ (i := 3) (N := none) #[true, true, true, true] rfl rfl (by kernel_rfl) (by decide) (fun K hK => ?_)
        have hs44 : w43.cell? ⟨gb608, 0, none⟩ = some (.int .i64 t604) := (blk_cell BK608.out 0).trans rfl
        have hfs44 := blk_frozen BK608.out 0
        have hns44_0 := NB586_608.out
        have hms44_0 := NB608_586.out
        have hs46 : w43.cell? ⟨gb608, 1, none⟩ = some (.slice Ao38 t605.length co38) := (blk_cell BK608.out 1).trans rfl
        have hfs46 := blk_frozen BK608.out 1
        have hns46_0 := NB586_608.out
        have hms46_0 := NB608_586.out
        refine skip_ (w1 := ?_) (by rfl) rfl ?_ ?_
        rotate_left
        · go_simp
          rfl
        refine hK.out _ _ ?_
        clear hK K
        refine done_ (by kernel_rfl) ?_
        have hcz47_0 : w43.cell? ⟨gb608, 0, none⟩ = some (.int .i64 t604) := (blk_cell BK608.out 0).trans rfl
        have hcz47_1 : w43.cell? ⟨gb608, 1, none⟩ = some (.slice Ao38 t605.length co38) := (blk_cell BK608.out 1).trans rfl
        have hfz47_0 := blk_frozen BK608.out 0
        have hfz47_1 := blk_frozen BK608.out 1
        try go_wp2
        go_loopg [9, 10] kj1 (fun kq v9 v10 w' => ∃ (x9_2 : Int) (x10_2 : Int), v9 = .int .u64 x9_2 ∧ v10 = .int .i64 x10_2 ∧ Aside0 (bocageref03_Count.l0 kq x9_2 x10_2 t613 t614 = some (r1, r2)) ∧ Aside0 (kq ≤ kj1) ∧ Aside0 (Kd.V (Kd.int .i64) 3 w' w.heap.size (fun k_ => k_ ≠ gb586 ∧ k_ ≠ gb608) (.slice Ao45 t614.length co45) t614) ∧ Aside0 (w'.heap[gb586]? = some (.cells #[.int .i64 a0_0, .int .i64 a0_1, .int .i64 a0_2, .int .i64 a0_3] 25 (0, 0))) ∧ Aside0 (w'.heap[gb608]? = some (.cells #[.int .i64 t613, (.slice Ao45 t614.length co45)] 68 (0, 0))) ∧ Aside0 (Below w.heap.size w w'))
        case atStart => exact ⟨(0), (wrap64 ((t614.length : Int) - 1)), (by first | rfl | (simp; done) | (simp [*]; done)), (by first | rfl | (simp; done) | (simp [*]; done)), H', ⟨Nat.le_refl _⟩, ⟨by (with_reducible repeat (first | apply Kd.V_alloc | apply Kd.V_drewN | apply Kd.V_drew)); exact Kd.V_mono (Kd.V_far (p := ⟨gb608, 1, none⟩) (Kd.V_far (p := ⟨gb608, 0, none⟩) (Kd.V_mono HO616.out (fun k_ hk => (⟨hk, hk.2⟩ : _ ∧ k_ ≠ gb608))) (fun _ hk => hk.2) (.int .i64 t613)) (fun _ hk => hk.2) (.slice Ao45 t614.length co45)) (fun _ hk => ⟨hk.1.1, hk.1.2⟩)⟩, ⟨by (with_reducible repeat (first | refine blk_drewN ?_ _ | refine blk_drew ?_ | refine blk_alloc ?_ _)); refine blk_far ?_ NB586_608.out _; (with_reducible repeat (first | refine blk_drewN ?_ _ | refine blk_drew ?_ | refine blk_alloc ?_ _)); refine blk_far ?_ NB586_608.out _; (with_reducible repeat (first | refine blk_drewN ?_ _ | refine blk_drew ?_ | refine blk_alloc ?_ _)); exact BK586.out⟩, ⟨by (with_reducible repeat (first | refine blk_drewN ?_ _ | refine blk_drew ?_ | refine blk_alloc ?_ _)); refine blk_put (cs := #[.int .i64 t613, .slice Ao38 t605.length co38]) ?_ 1 _ rfl; (with_reducible repeat (first | refine blk_drewN ?_ _ | refine blk_drew ?_ | refine blk_alloc ?_ _)); refine blk_put (cs := #[.int .i64 t604, .slice Ao38 t605.length co38]) ?_ 0 _ rfl; (with_reducible repeat (first | refine blk_drewN ?_ _ | refine blk_drew ?_ | refine blk_alloc ?_ _)); exact BK608.out⟩, ⟨bl HB⟩⟩
        case round =>
          clear H'
          try clear c1
          try clear c2
          try clear p2
          try clear c3
          try clear c5
          try clear c6
          try clear c6b0
          try clear p6
          try clear c12
          try clear c15
          try clear c27
          try clear c32
          try clear c33
          try clear c36
          try clear hcz10_0
          try clear hcz10_1
          try clear hcz10_2
          try clear hcz10_3
          try clear hcz12_0
          try clear hcz12_1
          try clear hcz12_2
          try clear hcz12_3
          try clear hcz13_0
          try clear hcz13_1
          try clear hcz13_2
          try clear hcz13_3
          try clear hcz24_0
          try clear hcz24_1
          try clear hcz24_2
          try clear hcz24_3
          try clear hcz26_0
          try clear hcz26_1
          try clear hcz26_2
          try clear hcz26_3
          try clear hcz37_0
          try clear hcz37_1
          try clear hcz47_0
          try clear hcz47_1
          try clear hcz7_0
          try clear hcz7_1
          try clear hcz7_2
          try clear hcz7_3
          try clear hcz9_0
          try clear hcz9_1
          try clear hcz9_2
          try clear hcz9_3
          try clear hfz10_0
          try clear hfz10_1
          try clear hfz10_2
          try clear hfz10_3
          try clear hfz12_0
          try clear hfz12_1
          try clear hfz12_2
          try clear hfz12_3
          try clear hfz13_0
          try clear hfz13_1
          try clear hfz13_2
          try clear hfz13_3
          try clear hfz24_0
          try clear hfz24_1
          try clear hfz24_2
          try clear hfz24_3
          try clear hfz26_0
          try clear hfz26_1
          try clear hfz26_2
          try clear hfz26_3
          try clear hfz37_0
          try clear hfz37_1
          try clear hfz47_0
          try clear hfz47_1
          try clear hfz7_0
          try clear hfz7_1
          try clear hfz7_2
          try clear hfz7_3
          try clear hfz9_0
          try clear hfz9_1
          try clear hfz9_2
          try clear hfz9_3
          try clear p2
          obtain ⟨x9_2, x10_2, rfl, rfl, HA, HK2, HO_609001, BK586, BK608, HB⟩ := hrel
          cases gk with
          | zero => exact absurd HA.out (by simp [bocageref03_Count.l0])
          | succ k2 =>
            have H := HA.out
            clear HA
            simp only [bocageref03_Count.l0] at H
            by_cases c48 : x10_2 ≥ 0
            · rw [if_pos c48] at H
              have c48b0 : decide (0 ≤ x10_2) = true := decide_eq_true c48
              clear c48
              by_cases c49 : 0 ≤ x10_2
              · rw [if_pos c49] at H
                have c49b0 : decide (0 ≤ x10_2) = true := decide_eq_true c49
                clear c49
                by_cases c50 : x10_2 < (t614.length : Int)
                · rw [if_pos c50] at H
                  have c50b0 : decide (x10_2 < (t614.length : Int)) = true := decide_eq_true c50
                  clear c50
                  have H' := Aside0.mk H
                  clear H
                  have hnb51 := NB608_586.out
                  have hnc51 := NB586_608.out
                  have hcz52_0 : wr.cell? ⟨gb608, 0, none⟩ = some (.int .i64 t613) := (blk_cell BK608.out 0).trans rfl
                  have hcz52_1 : wr.cell? ⟨gb608, 1, none⟩ = some (.slice Ao45 t614.length co45) := (blk_cell BK608.out 1).trans rfl
                  have hfz52_0 := blk_frozen BK608.out 0
                  have hfz52_1 := blk_frozen BK608.out 1
                  have p617 : 0 ≤ (x10_2 : Int) := of_decide_eq_true (by first | (with_reducible assumption) | assumption)
                  have q617 : x10_2 < (t614.length : Int) := of_decide_eq_true (by first | (with_reducible assumption) | assumption)
                  obtain ⟨ad617, e617, hx617_0⟩ := Kd.at_int (Kd.V_reads' HO_609001.out).2.2 x10_2 p617 q617
                  cases e617
                  replace p617 := eq_true p617
                  replace q617 := eq_true q617
                  go_wp2
                  go_roundg k2
                  case measure => have := HJ1.out; have := HK2.out; omega
                  case rel => exact ⟨(IntKind.u64.wrap ((IntKind.u64.wrap (x9_2 * 10)) + (IntKind.u64.wrap (rd t614 x10_2)))), (wrap64 (x10_2 - 1)), (by first | rfl | (simp; done) | (simp [*]; done)), (by first | rfl | (simp; done) | (simp [*]; done)), H', ⟨by have := HJ1.out; have := HK2.out; omega⟩, ⟨by (with_reducible repeat (first | apply Kd.V_alloc | apply Kd.V_drewN | apply Kd.V_drew)); exact HO_609001.out⟩, ⟨bk BK586⟩, ⟨bk BK608⟩, ⟨bl HB⟩⟩
                · rw [if_neg c50] at H
                  exact absurd H (by simp)
              · rw [if_neg c49] at H
                exact absurd H (by simp)
            · rw [if_neg c48] at H
              have c48b0 : decide (0 ≤ x10_2) = false := decide_eq_false c48
              clear c48
              simp only [Option.some.injEq, Prod.mk.injEq] at H
              obtain ⟨rfl, rfl⟩ := H
              go_wp2
              go_ret2
              exact endB HB
end Go.Proofs.Ytkkbmjfhpngalaa.Print
