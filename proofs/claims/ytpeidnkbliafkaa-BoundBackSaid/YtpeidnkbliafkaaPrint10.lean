-- Laid by wip/print/bprint.py of this repo, over the kit's printer, with functions given by hand; not trusted: Lean checks it.
import Derived.Test.YtpeidnkbliafkaaPrint0
import Derived.Test.YtpeidnkbliafkaaPrint2
import Derived.Test.YtpeidnkbliafkaaPrint4
import Derived.Test.YtpeidnkbliafkaaPrint5
import Derived.Test.YtpeidnkbliafkaaPrint7
import Derived.Test.YtpeidnkbliafkaaSh
namespace Go.Proofs.Ytpeidnkbliafkaa.Print
open Go.RowKit Go.Proofs.YtpeidnkbliafkaaW.PrintWords Go.Proofs.YtpeidnkbliafkaaW.PrintLast Go.Proofs.YtpeidnkbliafkaaW.PrintMore
attribute [local go_sem] max2_int min2_int max_two min_two max_three min_three max_four min_four   -- for this text's walks alone
set_option linter.unusedVariables false
set_option linter.unusedSimpArgs false
section
attribute [local go_sem high] eqA27
/-! ### bocagelaw04_BoundBack: function 8 -/
def bocagelaw04_BoundBack.f (k : Nat) (a0_0 : Int) (a0_1 : Int) (a0_2 : Int) (a0_3 : Int) : Option (Bool) := (bound_Low.f k a0_0 a0_1).bind fun bt295 => ((bound_High.f k a0_2 a0_3).bind fun bt297 => ((bound_Span.f k bt295.1 bt295.2 bt297.1 bt297.2).bind fun bt299 => ((bocageref03_Of.f k a0_0 a0_1 a0_2 a0_3).bind fun bt305 => ((bocagelaw04_alive.f k).bind fun t311 => (if t311 = true then (if ((bt299.1 == bt305.1 && (bt299.2.1 == bt305.2.1)) && ((bt299.2.2.1 == bt305.2.2.1 && (bt299.2.2.2.1 == bt305.2.2.2.1)))) = true then (some (bt299.2.2.2.2 == bt305.2.2.2.2)) else (some false)) else (some false))))))
theorem bocagelaw04_BoundBack.mono : ∀ a0 a1 a2 a3 k, LeO (bocagelaw04_BoundBack.f k a0 a1 a2 a3) (bocagelaw04_BoundBack.f (k + 1) a0 a1 a2 a3) := by
  intro a0 a1 a2 a3 k
  unfold bocagelaw04_BoundBack.f
  repeat' first
      | (with_reducible exact bocagelaw04_alive.mono _)
      | (with_reducible exact bocageref03_Of.mono _ _ _ _ _)
      | (with_reducible exact bound_High.mono _ _ _)
      | (with_reducible exact bound_Low.mono _ _ _)
      | (with_reducible exact bound_Span.mono _ _ _ _ _)
      | (with_reducible exact LeO.refl _)
      | (with_reducible exact LeO.none _)
      | (with_reducible refine LeO.ite ?_ ?_)
      | (with_reducible refine LeO.bind ?_ (fun _ => ?_))
      | exact bocagelaw04_alive.mono _
      | exact bocageref03_Of.mono _ _ _ _ _
      | exact bound_High.mono _ _ _
      | exact bound_Low.mono _ _ _
      | exact bound_Span.mono _ _ _ _ _
      | exact LeO.none _
      | refine LeO.ite ?_ ?_
      | refine LeO.bind ?_ (fun _ => ?_)
def bocagelaw04_BoundBack.T1 : Bool × List (List Nat × List Nat) := (true, [([], []), ([0], [0]), ([1], [1]), ([], []), ([3], [3]), ([4, 2], [4]), ([2, 5, 5], [2, 5]), ([6], [6]), ([7], [7]), ([7], [7]), ([], []), ([10, 8, 6, 0, 1, 2, 3, 4, 5, 6, 7, 8, 10], [8, 10]), ([9, 11, 0, 1, 2, 3, 4, 5, 6, 7, 8, 9, 10, 11], [9])])
def bocagelaw04_BoundBack.B1 : List Nat := [0, 1, 3, 0, 8, 31, 63, 127, 255, 255, 0, 1535, 4095]
theorem bocagelaw04_BoundBack.tab1 : rtab .any (opsOf Try.f8 1) = bocagelaw04_BoundBack.T1 := by kernel_rfl
theorem bocagelaw04_BoundBack.bits1 : waitsOk bocagelaw04_BoundBack.T1.2 bocagelaw04_BoundBack.B1 = true := by kernel_rfl
set_option maxHeartbeats 8000000 in
set_option maxRecDepth 100000 in
theorem bocagelaw04_BoundBack.calls (k : Nat) (a0_0 : Int) (a0_1 : Int) (a0_2 : Int) (a0_3 : Int) (r : Bool) (w : World) (h : bocagelaw04_BoundBack.f k a0_0 a0_1 a0_2 a0_3 = some r) (hr : r = true) :
    Calls Try.prog 8 #[.agg #[.int .i64 a0_0, .int .i64 a0_1, .int .i64 a0_2, .int .i64 a0_3]] w fun e w' => e = .returned (.bool r) ∧ Below w.heap.size w w' := by
  have HRT := Aside0.mk hr
  clear hr
  have hu27 := Try.underlying27
  have hu25 := Try.underlying25
  have HB := Aside0.mk (Below.refl w.heap.size w)
  have H : ((bound_Low.f k a0_0 a0_1).bind fun bt295 => ((bound_High.f k a0_2 a0_3).bind fun bt297 => ((bound_Span.f k bt295.1 bt295.2 bt297.1 bt297.2).bind fun bt299 => ((bocageref03_Of.f k a0_0 a0_1 a0_2 a0_3).bind fun bt305 => ((bocagelaw04_alive.f k).bind fun t311 => (if t311 = true then (if ((bt299.1 == bt305.1 && (bt299.2.1 == bt305.2.1)) && ((bt299.2.2.1 == bt305.2.2.1 && (bt299.2.2.2.1 == bt305.2.2.2.1)))) = true then (some (bt299.2.2.2.2 == bt305.2.2.2.2)) else (some false)) else (some false))))))) = some r := h
  clear h
  replace H := Option.bind_eq_some_iff.mp H
  obtain ⟨⟨t295, t296⟩, A20, H⟩ := H
  replace H : ((bound_High.f k a0_2 a0_3).bind fun bt297 => ((bound_Span.f k t295 t296 bt297.1 bt297.2).bind fun bt299 => ((bocageref03_Of.f k a0_0 a0_1 a0_2 a0_3).bind fun bt305 => ((bocagelaw04_alive.f k).bind fun t311 => (if t311 = true then (if ((bt299.1 == bt305.1 && (bt299.2.1 == bt305.2.1)) && ((bt299.2.2.1 == bt305.2.2.1 && (bt299.2.2.2.1 == bt305.2.2.2.1)))) = true then (some (bt299.2.2.2.2 == bt305.2.2.2.2)) else (some false)) else (some false)))))) = some r := H
  have A2 := Aside0.mk A20
  clear A20
  replace H := Option.bind_eq_some_iff.mp H
  obtain ⟨⟨t297, t298⟩, A30, H⟩ := H
  replace H : ((bound_Span.f k t295 t296 t297 t298).bind fun bt299 => ((bocageref03_Of.f k a0_0 a0_1 a0_2 a0_3).bind fun bt305 => ((bocagelaw04_alive.f k).bind fun t311 => (if t311 = true then (if ((bt299.1 == bt305.1 && (bt299.2.1 == bt305.2.1)) && ((bt299.2.2.1 == bt305.2.2.1 && (bt299.2.2.2.1 == bt305.2.2.2.1)))) = true then (some (bt299.2.2.2.2 == bt305.2.2.2.2)) else (some false)) else (some false))))) = some r := H
  have A3 := Aside0.mk A30
  clear A30
  replace H := Option.bind_eq_some_iff.mp H
  obtain ⟨⟨t299, t300, t301, t302, t303⟩, A40, H⟩ := H
  replace H : ((bocageref03_Of.f k a0_0 a0_1 a0_2 a0_3).bind fun bt305 => ((bocagelaw04_alive.f k).bind fun t311 => (if t311 = true then (if ((t299 == bt305.1 && (t300 == bt305.2.1)) && ((t301 == bt305.2.2.1 && (t302 == bt305.2.2.2.1)))) = true then (some (t303 == bt305.2.2.2.2)) else (some false)) else (some false)))) = some r := H
  have A4 := Aside0.mk A40
  clear A40
  replace H := Option.bind_eq_some_iff.mp H
  obtain ⟨⟨t305, t306, t307, t308, t309⟩, A50, H⟩ := H
  replace H : ((bocagelaw04_alive.f k).bind fun t311 => (if t311 = true then (if ((t299 == t305 && (t300 == t306)) && ((t301 == t307 && (t302 == t308)))) = true then (some (t303 == t309)) else (some false)) else (some false))) = some r := H
  have A5 := Aside0.mk A50
  clear A50
  replace H := Option.bind_eq_some_iff.mp H
  obtain ⟨t311, A60, H⟩ := H
  replace H : (if t311 = true then (if ((t299 == t305 && (t300 == t306)) && ((t301 == t307 && (t302 == t308)))) = true then (some (t303 == t309)) else (some false)) else (some false)) = some r := H
  have A6 := Aside0.mk A60
  clear A60
  by_cases c7 : t311 = true
  · subst c7
    have H1 : (if ((t299 == t305 && (t300 == t306)) && ((t301 == t307 && (t302 == t308)))) = true then (some (t303 == t309)) else (some false)) = some r := by rw [if_pos rfl] at H; exact H
    clear H
    have H := H1
    clear H1
    by_cases c8 : ((t299 == t305 && (t300 == t306)) && ((t301 == t307 && (t302 == t308)))) = true
    · rw [if_pos c8] at H
      have c8b0 : ((t299 == t305 && (t300 == t306)) && ((t301 == t307 && (t302 == t308)))) = true := c8
      clear c8
      obtain rfl := Option.some.inj H
      go_enter Try.func8, Try.ntmps8
      try go_wp2_with (first | ((with_reducible refine gate_dst (N := 1) rfl ?_); refine bxe (N := 1) (cs := #[.int .i64 a0_0, .int .i64 a0_1, .int .i64 a0_2, .int .i64 a0_3]) (t := 27) ?_; intro gb294 hg w9 hbox hb; have BK294 := Aside0.mk (hbox); have GW294 := lsz hg HB; have GE294 := lsz hg HB; replace HB := bst HB hb; clear hb hbox hg))
      replace BK294 := Aside0.mk (blk_drew BK294.out)
      replace HB := Aside0.mk (below_drew1 HB.out)
      refine start_ (n := 13) (S := fun w' => w'.cell? ⟨gb294, 0, none⟩ = some (.int .i64 a0_0) ∧ w'.cell? ⟨gb294, 1, none⟩ = some (.int .i64 a0_1) ∧ w'.cell? ⟨gb294, 2, none⟩ = some (.int .i64 a0_2) ∧ w'.cell? ⟨gb294, 3, none⟩ = some (.int .i64 a0_3)) (ds := []) #[false, false, false, false, false, false, false, false, false, false, false, false, false] (by kernel_rfl) rfl rfl (e4 BK294) (fun hHeld => ?_); refine with_tabW bocagelaw04_BoundBack.tab1 bocagelaw04_BoundBack.bits1 (fun HT_ HW_ => ?_)
      generalize w9.drew = w10 at BK294 HB hHeld ⊢
      refine pu 0 (some 8) #[true, false, false, false, false, false, false, false, false, false, false, false, false] (any_of HT_.out (by kernel_rfl)) ?_
      refine pu 3 (some 11) #[true, false, false, true, false, false, false, false, false, false, false, false, false] (any_of HT_.out (by kernel_rfl)) ?_
      refine tk4 1 (some 9) #[true, true, false, true, false, false, false, false, false, false, false, false, false] (take_ofW HT_.out HW_.out (by kernel_rfl)) hHeld ?_
      refine tk4 4 (some 12) #[true, true, false, true, true, false, false, false, false, false, false, false, false] (take_ofW HT_.out HW_.out (by kernel_rfl)) hHeld ?_
      refine join_ (σ := Nat) 2 #[true, true, true, true, true, true, true, true, true, true, true, false, false] (fun s_ => [(10, .agg #[.int .i64 t295, .int .i64 t296]), (13, .agg #[.int .i64 t297, .int .i64 t298]), (14, .tuple #[.agg #[.int .i64 t299, .int .i64 t300, .int .i64 t301, .int .i64 t302], .int .i64 t303]), (3, .pointer (some ⟨s_, 0, none⟩)), (7, .tuple #[.agg #[.int .i64 t299, .int .i64 t300, .int .i64 t301, .int .i64 t302], .int .i64 t303]), (15, .agg #[.int .i64 t299, .int .i64 t300, .int .i64 t301, .int .i64 t302]), (16, .int .i64 t303)]) (fun s_ w' => (w'.cell? ⟨gb294, 0, none⟩ = some (.int .i64 a0_0) ∧ w'.cell? ⟨gb294, 1, none⟩ = some (.int .i64 a0_1) ∧ w'.cell? ⟨gb294, 2, none⟩ = some (.int .i64 a0_2) ∧ w'.cell? ⟨gb294, 3, none⟩ = some (.int .i64 a0_3)) ∧ (w'.heap[gb294]? = some (.cells #[.int .i64 a0_0, .int .i64 a0_1, .int .i64 a0_2, .int .i64 a0_3] 27 (0, 0))) ∧ (w'.heap[s_]? = some (.cells #[.int .i64 0, .int .i64 0, .int .i64 0, .int .i64 0] 27 (0, 0))) ∧ (w.heap.size ≤ s_) ∧ (w.heap.size ≤ s_) ∧ (gb294 ≠ s_) ∧ (s_ ≠ gb294) ∧ (Below w.heap.size w w')) ?_ ?_
      rotate_left
      · intro hCont
        refine two_ (i := 2) (j := 10) (Ni := some 10) (Nj := some 3) #[true, true, true, true, true, false, false, false, false, false, false, false, false] #[true, true, false, true, true, false, false, false, false, false, true, false, false] rfl rfl rfl rfl (two_of HT_.out (by kernel_rfl)) (by decide) (by decide) (fun K hK => ?_) (fun K hK => ?_)
        · skip
          refine goes_ Try.func23 (by kernel_rfl) rfl #[.agg #[.int .i64 a0_0, .int .i64 a0_1]] (by rfl) rfl rfl (by (try simp only [List.map_toArray, List.map_cons, List.map_nil]); first | done | rfl | (simp only [List.length_drop, List.length_take]; rfl)) ?_
          with_reducible refine (bound_Low.calls k a0_0 a0_1 t295 t296 _ A2.out).mono ?_
          rintro e w11 ⟨rfl, hb⟩
          refine ⟨_, rfl, ?_⟩
          replace BK294 := bkb BK294 hb
          replace HB := bst HB hb
          (try clear hb)
          (try clear hb2)
          (try clear hk)
          (try clear hi)
          refine hK.out _ _ (e4 BK294) (fun hHeld => ?_)
          clear hK K
          refine nrp 10 ?_
          refine two_ (i := 5) (j := 10) (Ni := some 13) (Nj := some 3) #[true, true, true, true, true, true, false, false, false, false, false, false, false] #[true, true, true, true, true, false, false, false, false, false, true, false, false] rfl rfl rfl rfl (two_of HT_.out (by kernel_rfl)) (by decide) (by decide) (fun K hK => ?_) (fun K hK => ?_)
          · skip
            refine goes_ Try.func25 (by kernel_rfl) rfl #[.agg #[.int .i64 a0_2, .int .i64 a0_3]] (by rfl) rfl rfl (by (try simp only [List.map_toArray, List.map_cons, List.map_nil]); first | done | rfl | (simp only [List.length_drop, List.length_take]; rfl)) ?_
            with_reducible refine (bound_High.calls k a0_2 a0_3 t297 t298 _ A3.out).mono ?_
            rintro e w12 ⟨rfl, hb⟩
            refine ⟨_, rfl, ?_⟩
            replace BK294 := bkb BK294 hb
            replace HB := bst HB hb
            (try clear hb)
            (try clear hb2)
            (try clear hk)
            (try clear hi)
            refine hK.out _ _ (e4 BK294) (fun hHeld => ?_)
            clear hK K
            refine nrp 13 ?_
            refine two_ (i := 6) (j := 10) (Ni := some 14) (Nj := some 3) #[true, true, true, true, true, true, true, false, false, false, false, false, false] #[true, true, true, true, true, true, false, false, false, false, true, false, false] rfl rfl rfl rfl (two_of HT_.out (by kernel_rfl)) (by decide) (by decide) (fun K hK => ?_) (fun K hK => ?_)
            · skip
              refine goes_ Try.func9 (by kernel_rfl) rfl #[.agg #[.int .i64 t295, .int .i64 t296], .agg #[.int .i64 t297, .int .i64 t298]] (by rfl) rfl rfl (by (try simp only [List.map_toArray, List.map_cons, List.map_nil]); first | done | rfl | (simp only [List.length_drop, List.length_take]; rfl)) ?_
              with_reducible refine (bound_Span.calls k t295 t296 t297 t298 t299 t300 t301 t302 t303 _ A4.out).mono ?_
              rintro e w13 ⟨rfl, hb⟩
              refine ⟨_, rfl, ?_⟩
              replace BK294 := bkb BK294 hb
              replace HB := bst HB hb
              (try clear hb)
              (try clear hb2)
              (try clear hk)
              (try clear hi)
              refine hK.out _ _ (e4 BK294) (fun hHeld => ?_)
              clear hK K
              refine nrp 14 ?_
              refine pu 7 (some 7) #[true, true, true, true, true, true, true, true, false, false, false, false, false] (any_of HT_.out (by kernel_rfl)) ?_
              refine pu 8 (some 15) #[true, true, true, true, true, true, true, true, true, false, false, false, false] (any_of HT_.out (by kernel_rfl)) ?_
              refine pu 9 (some 16) #[true, true, true, true, true, true, true, true, true, true, false, false, false] (any_of HT_.out (by kernel_rfl)) ?_
              refine one_ (i := 10) (N := some 3) #[true, true, true, true, true, true, true, true, true, true, true, false, false] rfl rfl (one_of HT_.out (by kernel_rfl)) (by decide) (fun K hK => ?_)
              refine box_step ?hg (N := 3) ?hd (cs := #[.int .i64 0, .int .i64 0, .int .i64 0, .int .i64 0]) (t := 27) ?hr ?_; (case hd => rfl); (case hg => rfl); (case hr => first | (go_simp; done) | (go_simp; rfl))
              intro gb304 hg w14 hbox hb
              have BK304 := Aside0.mk (hbox)
              have GW304 := lsz hg HB
              have GE304 := lsz hg HB
              replace HB := bst HB hb
              have NB294_304 := nlt hg BK294
              have NB304_294 := ngt hg BK294
              replace BK294 := bkb BK294 hb
              clear hb hbox hg
              refine hK.out _ _ (e4 BK294) (fun hHeld => ?_)
              clear hK K
              refine nrp 3 ?_
              exact nrm (hCont (gb304) _ ⟨hHeld, (bk BK294), (bk BK304), GW304.out, GE304.out, NB294_304.out, NB304_294.out, (bl HB)⟩)
            · skip
              refine box_step ?hg (N := 3) ?hd (cs := #[.int .i64 0, .int .i64 0, .int .i64 0, .int .i64 0]) (t := 27) ?hr ?_; (case hd => rfl); (case hg => rfl); (case hr => first | (go_simp; done) | (go_simp; rfl))
              intro gb304 hg w13 hbox hb
              have BK304 := Aside0.mk (hbox)
              have GW304 := lsz hg HB
              have GE304 := lsz hg HB
              replace HB := bst HB hb
              have NB294_304 := nlt hg BK294
              have NB304_294 := ngt hg BK294
              replace BK294 := bkb BK294 hb
              clear hb hbox hg
              refine hK.out _ _ (e4 BK294) (fun hHeld => ?_)
              clear hK K
              refine nrp 3 ?_
              refine one_ (i := 6) (N := some 14) #[true, true, true, true, true, true, true, false, false, false, true, false, false] rfl rfl (one_of HT_.out (by kernel_rfl)) (by decide) (fun K hK => ?_)
              refine goes_ Try.func9 (by kernel_rfl) rfl #[.agg #[.int .i64 t295, .int .i64 t296], .agg #[.int .i64 t297, .int .i64 t298]] (by rfl) rfl rfl (by (try simp only [List.map_toArray, List.map_cons, List.map_nil]); first | done | rfl | (simp only [List.length_drop, List.length_take]; rfl)) ?_
              with_reducible refine (bound_Span.calls k t295 t296 t297 t298 t299 t300 t301 t302 t303 _ A4.out).mono ?_
              rintro e w14 ⟨rfl, hb⟩
              refine ⟨_, rfl, ?_⟩
              replace BK294 := bkb BK294 hb
              replace BK304 := bkb BK304 hb
              replace HB := bst HB hb
              (try clear hb)
              (try clear hb2)
              (try clear hk)
              (try clear hi)
              refine hK.out _ _ (e4 BK294) (fun hHeld => ?_)
              clear hK K
              refine nrp 14 ?_
              refine pu 7 (some 7) #[true, true, true, true, true, true, true, true, false, false, true, false, false] (any_of HT_.out (by kernel_rfl)) ?_
              refine pu 8 (some 15) #[true, true, true, true, true, true, true, true, true, false, true, false, false] (any_of HT_.out (by kernel_rfl)) ?_
              refine pu 9 (some 16) #[true, true, true, true, true, true, true, true, true, true, true, false, false] (any_of HT_.out (by kernel_rfl)) ?_
              exact nrm (hCont (gb304) _ ⟨hHeld, (bk BK294), (bk BK304), GW304.out, GE304.out, NB294_304.out, NB304_294.out, (bl HB)⟩)
          · skip
            refine box_step ?hg (N := 3) ?hd (cs := #[.int .i64 0, .int .i64 0, .int .i64 0, .int .i64 0]) (t := 27) ?hr ?_; (case hd => rfl); (case hg => rfl); (case hr => first | (go_simp; done) | (go_simp; rfl))
            intro gb304 hg w12 hbox hb
            have BK304 := Aside0.mk (hbox)
            have GW304 := lsz hg HB
            have GE304 := lsz hg HB
            replace HB := bst HB hb
            have NB294_304 := nlt hg BK294
            have NB304_294 := ngt hg BK294
            replace BK294 := bkb BK294 hb
            clear hb hbox hg
            refine hK.out _ _ (e4 BK294) (fun hHeld => ?_)
            clear hK K
            refine nrp 3 ?_
            refine one_ (i := 5) (N := some 13) #[true, true, true, true, true, true, false, false, false, false, true, false, false] rfl rfl (one_of HT_.out (by kernel_rfl)) (by decide) (fun K hK => ?_)
            refine goes_ Try.func25 (by kernel_rfl) rfl #[.agg #[.int .i64 a0_2, .int .i64 a0_3]] (by rfl) rfl rfl (by (try simp only [List.map_toArray, List.map_cons, List.map_nil]); first | done | rfl | (simp only [List.length_drop, List.length_take]; rfl)) ?_
            with_reducible refine (bound_High.calls k a0_2 a0_3 t297 t298 _ A3.out).mono ?_
            rintro e w13 ⟨rfl, hb⟩
            refine ⟨_, rfl, ?_⟩
            replace BK294 := bkb BK294 hb
            replace BK304 := bkb BK304 hb
            replace HB := bst HB hb
            (try clear hb)
            (try clear hb2)
            (try clear hk)
            (try clear hi)
            refine hK.out _ _ (e4 BK294) (fun hHeld => ?_)
            clear hK K
            refine nrp 13 ?_
            refine one_ (i := 6) (N := some 14) #[true, true, true, true, true, true, true, false, false, false, true, false, false] rfl rfl (one_of HT_.out (by kernel_rfl)) (by decide) (fun K hK => ?_)
            refine goes_ Try.func9 (by kernel_rfl) rfl #[.agg #[.int .i64 t295, .int .i64 t296], .agg #[.int .i64 t297, .int .i64 t298]] (by rfl) rfl rfl (by (try simp only [List.map_toArray, List.map_cons, List.map_nil]); first | done | rfl | (simp only [List.length_drop, List.length_take]; rfl)) ?_
            with_reducible refine (bound_Span.calls k t295 t296 t297 t298 t299 t300 t301 t302 t303 _ A4.out).mono ?_
            rintro e w14 ⟨rfl, hb⟩
            refine ⟨_, rfl, ?_⟩
            replace BK294 := bkb BK294 hb
            replace BK304 := bkb BK304 hb
            replace HB := bst HB hb
            (try clear hb)
            (try clear hb2)
            (try clear hk)
            (try clear hi)
            refine hK.out _ _ (e4 BK294) (fun hHeld => ?_)
            clear hK K
            refine nrp 14 ?_
            refine pu 7 (some 7) #[true, true, true, true, true, true, true, true, false, false, true, false, false] (any_of HT_.out (by kernel_rfl)) ?_
            refine pu 8 (some 15) #[true, true, true, true, true, true, true, true, true, false, true, false, false] (any_of HT_.out (by kernel_rfl)) ?_
            refine pu 9 (some 16) #[true, true, true, true, true, true, true, true, true, true, true, false, false] (any_of HT_.out (by kernel_rfl)) ?_
            exact nrm (hCont (gb304) _ ⟨hHeld, (bk BK294), (bk BK304), GW304.out, GE304.out, NB294_304.out, NB304_294.out, (bl HB)⟩)
        · skip
          refine box_step ?hg (N := 3) ?hd (cs := #[.int .i64 0, .int .i64 0, .int .i64 0, .int .i64 0]) (t := 27) ?hr ?_; (case hd => rfl); (case hg => rfl); (case hr => first | (go_simp; done) | (go_simp; rfl))
          intro gb304 hg w11 hbox hb
          have BK304 := Aside0.mk (hbox)
          have GW304 := lsz hg HB
          have GE304 := lsz hg HB
          replace HB := bst HB hb
          have NB294_304 := nlt hg BK294
          have NB304_294 := ngt hg BK294
          replace BK294 := bkb BK294 hb
          clear hb hbox hg
          refine hK.out _ _ (e4 BK294) (fun hHeld => ?_)
          clear hK K
          refine nrp 3 ?_
          refine one_ (i := 2) (N := some 10) #[true, true, true, true, true, false, false, false, false, false, true, false, false] rfl rfl (one_of HT_.out (by kernel_rfl)) (by decide) (fun K hK => ?_)
          refine goes_ Try.func23 (by kernel_rfl) rfl #[.agg #[.int .i64 a0_0, .int .i64 a0_1]] (by rfl) rfl rfl (by (try simp only [List.map_toArray, List.map_cons, List.map_nil]); first | done | rfl | (simp only [List.length_drop, List.length_take]; rfl)) ?_
          with_reducible refine (bound_Low.calls k a0_0 a0_1 t295 t296 _ A2.out).mono ?_
          rintro e w12 ⟨rfl, hb⟩
          refine ⟨_, rfl, ?_⟩
          replace BK294 := bkb BK294 hb
          replace BK304 := bkb BK304 hb
          replace HB := bst HB hb
          (try clear hb)
          (try clear hb2)
          (try clear hk)
          (try clear hi)
          refine hK.out _ _ (e4 BK294) (fun hHeld => ?_)
          clear hK K
          refine nrp 10 ?_
          refine one_ (i := 5) (N := some 13) #[true, true, true, true, true, true, false, false, false, false, true, false, false] rfl rfl (one_of HT_.out (by kernel_rfl)) (by decide) (fun K hK => ?_)
          refine goes_ Try.func25 (by kernel_rfl) rfl #[.agg #[.int .i64 a0_2, .int .i64 a0_3]] (by rfl) rfl rfl (by (try simp only [List.map_toArray, List.map_cons, List.map_nil]); first | done | rfl | (simp only [List.length_drop, List.length_take]; rfl)) ?_
          with_reducible refine (bound_High.calls k a0_2 a0_3 t297 t298 _ A3.out).mono ?_
          rintro e w13 ⟨rfl, hb⟩
          refine ⟨_, rfl, ?_⟩
          replace BK294 := bkb BK294 hb
          replace BK304 := bkb BK304 hb
          replace HB := bst HB hb
          (try clear hb)
          (try clear hb2)
          (try clear hk)
          (try clear hi)
          refine hK.out _ _ (e4 BK294) (fun hHeld => ?_)
          clear hK K
          refine nrp 13 ?_
          refine one_ (i := 6) (N := some 14) #[true, true, true, true, true, true, true, false, false, false, true, false, false] rfl rfl (one_of HT_.out (by kernel_rfl)) (by decide) (fun K hK => ?_)
          refine goes_ Try.func9 (by kernel_rfl) rfl #[.agg #[.int .i64 t295, .int .i64 t296], .agg #[.int .i64 t297, .int .i64 t298]] (by rfl) rfl rfl (by (try simp only [List.map_toArray, List.map_cons, List.map_nil]); first | done | rfl | (simp only [List.length_drop, List.length_take]; rfl)) ?_
          with_reducible refine (bound_Span.calls k t295 t296 t297 t298 t299 t300 t301 t302 t303 _ A4.out).mono ?_
          rintro e w14 ⟨rfl, hb⟩
          refine ⟨_, rfl, ?_⟩
          replace BK294 := bkb BK294 hb
          replace BK304 := bkb BK304 hb
          replace HB := bst HB hb
          (try clear hb)
          (try clear hb2)
          (try clear hk)
          (try clear hi)
          refine hK.out _ _ (e4 BK294) (fun hHeld => ?_)
          clear hK K
          refine nrp 14 ?_
          refine pu 7 (some 7) #[true, true, true, true, true, true, true, true, false, false, true, false, false] (any_of HT_.out (by kernel_rfl)) ?_
          refine pu 8 (some 15) #[true, true, true, true, true, true, true, true, true, false, true, false, false] (any_of HT_.out (by kernel_rfl)) ?_
          refine pu 9 (some 16) #[true, true, true, true, true, true, true, true, true, true, true, false, false] (any_of HT_.out (by kernel_rfl)) ?_
          exact nrm (hCont (gb304) _ ⟨hHeld, (bk BK294), (bk BK304), GW304.out, GE304.out, NB294_304.out, NB304_294.out, (bl HB)⟩)
      rintro gb304 w15 ⟨hS_, h0_, h1_, h2_, h3_, h4_, h5_, h6_⟩
      replace BK294 : Aside0 (w15.heap[gb294]? = some (.cells #[.int .i64 a0_0, .int .i64 a0_1, .int .i64 a0_2, .int .i64 a0_3] 27 (0, 0))) := ⟨h0_⟩
      have BK304 : Aside0 (w15.heap[gb304]? = some (.cells #[.int .i64 0, .int .i64 0, .int .i64 0, .int .i64 0] 27 (0, 0))) := ⟨h1_⟩
      have GW304 : Aside0 (w.heap.size ≤ gb304) := ⟨h2_⟩
      have GE304 : Aside0 (w.heap.size ≤ gb304) := ⟨h3_⟩
      have NB294_304 : Aside0 (gb294 ≠ gb304) := ⟨h4_⟩
      have NB304_294 : Aside0 (gb304 ≠ gb294) := ⟨h5_⟩
      replace HB : Aside0 (Below w.heap.size w w15) := ⟨h6_⟩
      clear h0_ h1_ h2_ h3_ h4_ h5_ h6_
      have hHeld : w15.cell? ⟨gb294, 0, none⟩ = some (.int .i64 a0_0) ∧ w15.cell? ⟨gb294, 1, none⟩ = some (.int .i64 a0_1) ∧ w15.cell? ⟨gb294, 2, none⟩ = some (.int .i64 a0_2) ∧ w15.cell? ⟨gb294, 3, none⟩ = some (.int .i64 a0_3) := hS_
      refine nra ?_
      refine one_ (i := 11) (N := none) #[true, true, true, true, true, true, true, true, true, true, true, true, false] rfl rfl (one_of HT_.out (by kernel_rfl)) (by decide) (fun K hK => ?_)
      have hs16 : w15.cell? ⟨gb304, 0, none⟩ = some (.int .i64 0) := (blk_cell BK304.out 0).trans rfl
      have hfs16 := blk_frozen BK304.out 0
      have hns16_0 := NB294_304.out
      have hms16_0 := NB304_294.out
      have hs17 : w15.cell? ⟨gb304, 1, none⟩ = some (.int .i64 0) := (blk_cell BK304.out 1).trans rfl
      have hfs17 := blk_frozen BK304.out 1
      have hns17_0 := NB294_304.out
      have hms17_0 := NB304_294.out
      have hs18 : w15.cell? ⟨gb304, 2, none⟩ = some (.int .i64 0) := (blk_cell BK304.out 2).trans rfl
      have hfs18 := blk_frozen BK304.out 2
      have hns18_0 := NB294_304.out
      have hms18_0 := NB304_294.out
      have hs19 : w15.cell? ⟨gb304, 3, none⟩ = some (.int .i64 0) := (blk_cell BK304.out 3).trans rfl
      have hfs19 := blk_frozen BK304.out 3
      have hns19_0 := NB294_304.out
      have hms19_0 := NB304_294.out
      refine skip_ (w1 := ?_) (by rfl) rfl ?_ ?_
      rotate_left
      · go_simp
        rfl
      refine hK.out _ _ ⟨((cell_far (p := ⟨gb304, _, none⟩) NB294_304.out _).trans (((cell_far (p := ⟨gb304, _, none⟩) NB294_304.out _).trans (((cell_far (p := ⟨gb304, _, none⟩) NB294_304.out _).trans (((cell_far (p := ⟨gb304, _, none⟩) NB294_304.out _).trans (hHeld.1)))))))), ((cell_far (p := ⟨gb304, _, none⟩) NB294_304.out _).trans (((cell_far (p := ⟨gb304, _, none⟩) NB294_304.out _).trans (((cell_far (p := ⟨gb304, _, none⟩) NB294_304.out _).trans (((cell_far (p := ⟨gb304, _, none⟩) NB294_304.out _).trans (hHeld.2.1)))))))), ((cell_far (p := ⟨gb304, _, none⟩) NB294_304.out _).trans (((cell_far (p := ⟨gb304, _, none⟩) NB294_304.out _).trans (((cell_far (p := ⟨gb304, _, none⟩) NB294_304.out _).trans (((cell_far (p := ⟨gb304, _, none⟩) NB294_304.out _).trans (hHeld.2.2.1)))))))), ((cell_far (p := ⟨gb304, _, none⟩) NB294_304.out _).trans (((cell_far (p := ⟨gb304, _, none⟩) NB294_304.out _).trans (((cell_far (p := ⟨gb304, _, none⟩) NB294_304.out _).trans (((cell_far (p := ⟨gb304, _, none⟩) NB294_304.out _).trans (hHeld.2.2.2))))))))⟩ (fun hHeld => ?_)
      clear hK K
      refine pu 12 (some 4) #[true, true, true, true, true, true, true, true, true, true, true, true, true] (any_of HT_.out (by kernel_rfl)) ?_
      refine done_ (done_of HT_.out (by kernel_rfl)) ?_
      have hnb20 := NB294_304.out
      have hnc20 := NB304_294.out
      have hcz21_0 : w15.cell? ⟨gb294, 0, none⟩ = some (.int .i64 a0_0) := (blk_cell BK294.out 0).trans rfl
      have hcz21_1 : w15.cell? ⟨gb294, 1, none⟩ = some (.int .i64 a0_1) := (blk_cell BK294.out 1).trans rfl
      have hcz21_2 : w15.cell? ⟨gb294, 2, none⟩ = some (.int .i64 a0_2) := (blk_cell BK294.out 2).trans rfl
      have hcz21_3 : w15.cell? ⟨gb294, 3, none⟩ = some (.int .i64 a0_3) := (blk_cell BK294.out 3).trans rfl
      have hfz21_0 := blk_frozen BK294.out 0
      have hfz21_1 := blk_frozen BK294.out 1
      have hfz21_2 := blk_frozen BK294.out 2
      have hfz21_3 := blk_frozen BK294.out 3
      try go_wp2_with (first | ((with_reducible refine gate_callee (f := 27) rfl ?_); refine gol (some 22) Try.func27 #[.agg #[.int .i64 a0_0, .int .i64 a0_1], .agg #[.int .i64 a0_2, .int .i64 a0_3]] ?_; (with_reducible refine (bocageref03_Of.calls k a0_0 a0_1 a0_2 a0_3 t305 t306 t307 t308 t309 _ A5.out).mono ?_); rintro e w22 ⟨rfl, hb⟩; refine ⟨_, rfl, ?_⟩; replace BK294 := Aside0.mk (blk_below (bkf BK294 NB294_304) hb); replace BK304 := Aside0.mk (blk_below (g := gb304) (o := .cells #[.int .i64 t299, .int .i64 t300, .int .i64 t301, .int .i64 t302] 27 (0, 0)) (bkp BK304) hb); replace HB := bst HB hb; (try clear hb); (try clear hb2); (try clear hk); (try clear hi)) | ((with_reducible refine gate_dst (N := 5) rfl ?_); refine bxe (N := 5) (cs := #[.int .i64 0, .int .i64 0, .int .i64 0, .int .i64 0]) (t := 27) ?_; intro gb310 hg w23 hbox hb; have BK310 := Aside0.mk (hbox); have GW310 := lsz hg HB; have GE310 := lsz hg HB; replace HB := bst HB hb; have NB294_310 := nlt hg BK294; have NB310_294 := ngt hg BK294; replace BK294 := bkb BK294 hb; have NB304_310 := nlt hg BK304; have NB310_304 := ngt hg BK304; replace BK304 := bkb BK304 hb; clear hb hbox hg; have hnb24 := NB310_294.out; have hnc24 := NB294_310.out; have hnb25 := NB310_304.out; have hnc25 := NB304_310.out; obtain ⟨hcz26_0, hcz26_1, hcz26_2, hcz26_3⟩ := e4 BK310; obtain ⟨hfz26_0, hfz26_1, hfz26_2, hfz26_3⟩ := f4 BK310) | ((with_reducible refine gate_callee (f := 10) rfl ?_); refine gol (some 25) Try.func10 #[] ?_; (with_reducible refine (bocagelaw04_alive.calls k  true _ A6.out rfl).mono ?_); rintro e w27 ⟨rfl, hb⟩; refine ⟨_, rfl, ?_⟩; replace BK294 := Aside0.mk (blk_below (bkf BK294 NB294_310) hb); replace BK304 := Aside0.mk (blk_below (bkf BK304 NB304_310) hb); replace BK310 := Aside0.mk (blk_below (g := gb310) (o := .cells #[.int .i64 t305, .int .i64 t306, .int .i64 t307, .int .i64 t308] 27 (0, 0)) (bkp BK310) hb); replace HB := bst HB hb; (try clear hb); (try clear hb2); (try clear hk); (try clear hi); obtain ⟨hcz28_0, hcz28_1, hcz28_2, hcz28_3⟩ := e4 BK304; obtain ⟨hfz28_0, hfz28_1, hfz28_2, hfz28_3⟩ := f4 BK304; obtain ⟨hcz29_0, hcz29_1, hcz29_2, hcz29_3⟩ := e4 BK310; obtain ⟨hfz29_0, hfz29_1, hfz29_2, hfz29_3⟩ := f4 BK310))
      go_ret
      exact endB HB
    · rw [if_neg c8] at H
      exact absurd ((Option.some.inj H).trans HRT.out) Bool.false_ne_true
  · replace c7 := Bool.eq_false_iff.mpr c7
    subst c7
    have H1 : (some false) = some r := by rw [if_neg (show ¬ (false = true) by decide)] at H; exact H
    exact absurd ((Option.some.inj H1).trans HRT.out) Bool.false_ne_true
end
end Go.Proofs.Ytpeidnkbliafkaa.Print
