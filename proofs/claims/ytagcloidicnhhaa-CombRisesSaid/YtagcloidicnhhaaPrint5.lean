-- Laid by wip/print/bprint.py of this repo, over the kit's printer, with functions given by hand; not trusted: Lean checks it.
import Derived.Test.YtagcloidicnhhaaPrint0
import Derived.Test.YtagcloidicnhhaaPrint3
import Derived.Test.YtagcloidicnhhaaPrint4
namespace Go.Proofs.Ytagcloidicnhhaa.Print
open Go.RowKit Go.Proofs.YtagcloidicnhhaaW.PrintWords Go.Proofs.YtagcloidicnhhaaW.PrintLast Go.Proofs.YtagcloidicnhhaaW.PrintMore
attribute [local go_sem] max2_int min2_int max_two min_two max_three min_three max_four min_four   -- for this text's walks alone
set_option linter.unusedVariables false
set_option linter.unusedSimpArgs false

/-! ### bocageref01_Is: function 25 -/
def bocageref01_Is.f (k : Nat) (a0_0 : Int) (l0_1 : List Int) : Option (Bool) := (bocageref01_ends.f a0_0).bind fun t152 => ((bocageref01_more.f k l0_1 t152).bind fun t155 => (some (!t155)))
theorem bocageref01_Is.mono : ∀ a0 a1 k, LeO (bocageref01_Is.f k a0 a1) (bocageref01_Is.f (k + 1) a0 a1) := by
  intro a0 a1 k
  unfold bocageref01_Is.f
  repeat' first
      | (with_reducible exact bocageref01_more.mono _ _ _)
      | (with_reducible exact LeO.refl _)
      | (with_reducible exact LeO.none _)
      | (with_reducible refine LeO.ite ?_ ?_)
      | (with_reducible refine LeO.bind ?_ (fun _ => ?_))
      | exact bocageref01_more.mono _ _ _
      | exact LeO.none _
      | refine LeO.ite ?_ ?_
      | refine LeO.bind ?_ (fun _ => ?_)
def bocageref01_Is.T1 : Bool × List (List Nat × List Nat) := (true, [([], []), ([0], [0]), ([], []), ([2], [2]), ([3], [3]), ([1, 4, 4], [1, 4]), ([5], [5]), ([6, 5, 0, 1, 2, 3, 4, 5, 6], [6])])
def bocageref01_Is.B1 : List Nat := [0, 1, 0, 4, 12, 31, 63, 127]
theorem bocageref01_Is.tab1 : rtab .any (opsOf Try.f25 1) = bocageref01_Is.T1 := by kernel_rfl
theorem bocageref01_Is.bits1 : waitsOk bocageref01_Is.T1.2 bocageref01_Is.B1 = true := by kernel_rfl
set_option maxHeartbeats 8000000 in
set_option maxRecDepth 100000 in
theorem bocageref01_Is.calls (k : Nat) (a0_0 : Int) (A0_1 : Option Addr) (c0_1 : Nat) (l0_1 : List Int) (r : Bool) (w : World) (hr0_1 : Kd.C (Kd.int .i64) w A0_1 l0_1.length l0_1) (hc0_1 : l0_1.length ≤ c0_1) (h : bocageref01_Is.f k a0_0 l0_1 = some r) :
    Calls Try.prog 25 #[.agg #[.int .i64 a0_0, .slice A0_1 l0_1.length c0_1]] w fun e w' => e = .returned (.bool r) ∧ Below w.heap.size w w' := by
  have hu39 := Try.underlying39
  have HR0_1 := Aside0.mk hr0_1
  have HC0_1 := Aside0.mk hc0_1
  clear hr0_1 hc0_1
  have HB := Aside0.mk (Below.refl w.heap.size w)
  have H : ((bocageref01_ends.f a0_0).bind fun t152 => ((bocageref01_more.f k l0_1 t152).bind fun t155 => (some (!t155)))) = some r := h
  clear h
  replace H := Option.bind_eq_some_iff.mp H
  obtain ⟨t152, A20, H⟩ := H
  replace H : ((bocageref01_more.f k l0_1 t152).bind fun t155 => (some (!t155))) = some r := H
  have A2 := Aside0.mk A20
  clear A20
  replace H := Option.bind_eq_some_iff.mp H
  obtain ⟨t155, A30, H⟩ := H
  replace H : (some (!t155)) = some r := H
  have A3 := Aside0.mk A30
  clear A30
  obtain rfl := Option.some.inj H
  go_enter Try.func25, Try.ntmps25
  try go_wp2_with (first | ((with_reducible refine gate_dst (N := 1) rfl ?_); refine box_event ?hg (N := 1) ?hd (cs := #[.int .i64 a0_0, .slice A0_1 l0_1.length c0_1]) (t := 39) ?hr ?_; (case hd => rfl); (case hg => rfl); (case hr => first | (go_simp; done) | (go_simp; rfl)); intro gb151 hg w4 hbox hb; have n0_ := Aside0.mk (below_step (by repeat (first | (with_reducible first | exact HB.out | apply below_alloc | apply pw_below_drewN | apply below_drew1) | exact HB.out)) hb); have n1_ := Aside0.mk (hbox); have n2_ := Aside0.mk ((by rw [hg]; exact (below_size (by repeat (first | (with_reducible first | exact HB.out | apply below_alloc | apply pw_below_drewN | apply below_drew1) | exact HB.out))) : w.heap.size ≤ gb151)); have n3_ := Aside0.mk ((by rw [hg]; exact (below_size (by repeat (first | (with_reducible first | exact HB.out | apply below_alloc | apply pw_below_drewN | apply below_drew1) | exact HB.out))) : w.heap.size ≤ gb151)); clear HB; have HB := n0_; have BK151 := n1_; have GW151 := n2_; have GE151 := n3_; clear n0_ n1_ n2_ n3_; clear hb hbox hg))
  have n0_ := Aside0.mk (blk_drew BK151.out)
  have n1_ := Aside0.mk (below_drew1 HB.out)
  clear BK151
  clear HB
  have BK151 := n0_
  have HB := n1_
  clear n0_ n1_
  refine start_ (n := 8) (S := fun w' => w'.cell? ⟨gb151, 0, none⟩ = some (.int .i64 a0_0) ∧ w'.cell? ⟨gb151, 1, none⟩ = some (.slice A0_1 l0_1.length c0_1)) (ds := []) #[false, false, false, false, false, false, false, false] (by kernel_rfl) rfl rfl ⟨(blk_cell BK151.out 0).trans rfl, (blk_cell BK151.out 1).trans rfl⟩ (fun hHeld => ?_); refine with_tabW bocageref01_Is.tab1 bocageref01_Is.bits1 (fun HT_ HW_ => ?_)
  generalize w4.drew = w5 at BK151 HB hHeld ⊢
  refine pure_ (i := 0) (N := some 3) (v := ?_) (a' := ?_) #[true, false, false, false, false, false, false, false] rfl rfl (any_of HT_.out (by kernel_rfl)) (fun _ _ _ h => h) (Or.inl ⟨by rfl, ?_⟩) ?_ ?_
  rotate_left
  · intro w'
    go_simp
    with_reducible rfl
  rotate_left
  · simp only [Act.put, List.setIfInBounds_toArray, List.set_cons_zero, List.set_cons_succ, i64_w, i32_w]
    rfl
  refine pure_ (i := 2) (N := some 5) (v := ?_) (a' := ?_) #[true, false, true, false, false, false, false, false] rfl rfl (any_of HT_.out (by kernel_rfl)) (fun _ _ _ h => h) (Or.inl ⟨by rfl, ?_⟩) ?_ ?_
  rotate_left
  · intro w'
    go_simp
    with_reducible rfl
  rotate_left
  · simp only [Act.put, List.setIfInBounds_toArray, List.set_cons_zero, List.set_cons_succ, i64_w, i32_w]
    rfl
  refine take_ (i := 1) (N := some 4) (v := ?_) (a' := ?_) #[true, true, true, false, false, false, false, false] rfl rfl (take_ofW HT_.out HW_.out (by kernel_rfl)) (fun _ _ _ h => h) (Or.inl ⟨by rfl, ?_⟩) hHeld ?_ ?_
  rotate_left
  · rintro w' ⟨s0, s1⟩
    go_simp
    with_reducible rfl
  rotate_left
  · simp only [Act.put, List.setIfInBounds_toArray, List.set_cons_zero, List.set_cons_succ, i64_w, i32_w]
    rfl
  refine take_ (i := 3) (N := some 6) (v := ?_) (a' := ?_) #[true, true, true, true, false, false, false, false] rfl rfl (take_ofW HT_.out HW_.out (by kernel_rfl)) (fun _ _ _ h => h) (Or.inl ⟨by rfl, ?_⟩) hHeld ?_ ?_
  rotate_left
  · rintro w' ⟨s0, s1⟩
    go_simp
    with_reducible rfl
  rotate_left
  · simp only [Act.put, List.setIfInBounds_toArray, List.set_cons_zero, List.set_cons_succ, i64_w, i32_w]
    rfl
  refine one_ (i := 4) (N := some 7) #[true, true, true, true, true, false, false, false] rfl rfl (one_of HT_.out (by kernel_rfl)) (by decide) (fun K hK => ?_)
  refine goes_ Try.func32 (by kernel_rfl) rfl #[.int .i64 a0_0] (by rfl) rfl rfl (by (try simp only [List.map_toArray, List.map_cons, List.map_nil]); first | done | rfl | (simp only [List.length_drop, List.length_take]; rfl)) ?_
  with_reducible refine (bocageref01_ends.calls a0_0 t152 _ A2.out).mono ?_
  rintro e w6 ⟨v153, rfl, ho0, hb⟩
  refine ⟨_, rfl, ?_⟩
  have n0_ := Aside0.mk (Kd.R_lower ho0 (below_size (by repeat (first | (with_reducible first | exact HB.out | apply below_alloc | apply pw_below_drewN | apply below_drew1 | refine below_set ?_ GE151.out) | exact HB.out))))
  have n1_ := Aside0.mk (blk_below (g := gb151) (o := .cells #[.int .i64 a0_0, .slice A0_1 l0_1.length c0_1] 39 (0, 0)) (by (with_reducible repeat (first | refine blk_drewN ?_ _ | refine blk_drew ?_ | refine blk_alloc ?_ _)); exact BK151.out) hb)
  have n2_ := Aside0.mk (below_step (by repeat (first | (with_reducible first | exact HB.out | apply below_alloc | apply pw_below_drewN | apply below_drew1 | refine below_set ?_ GE151.out) | exact HB.out)) hb)
  clear BK151
  clear HB
  have HO154 := n0_
  have BK151 := n1_
  have HB := n2_
  clear n0_ n1_ n2_
  (try clear hb)
  (try clear hb2)
  (try clear hk)
  (try clear hi)
  (try clear ho0)
  obtain ⟨Ao7, co7, eo7⟩ := Kd.R_slice HO154.out
  (first | subst eo7 | (injection eo7 with f1_ f2_ f3_; have f4_ := f1_.symm; have f5_ := f3_.symm; clear f1_ f2_ f3_; subst f4_; subst f5_))
  refine hK.out _ _ ⟨(blk_cell BK151.out 0).trans rfl, (blk_cell BK151.out 1).trans rfl⟩ (fun hHeld => ?_)
  clear hK K
  refine norm_ (a' := ?_) ?_ ?_
  rotate_left
  · show Act.put _ (some 7) _ = _
    simp only [Act.put, List.setIfInBounds_toArray, List.set_cons_zero, List.set_cons_succ, i64_w, i32_w]
    rfl
  refine one_ (i := 5) (N := some 8) #[true, true, true, true, true, true, false, false] rfl rfl (one_of HT_.out (by kernel_rfl)) (by decide) (fun K hK => ?_)
  refine goes_ Try.func31 (by kernel_rfl) rfl #[.slice A0_1 l0_1.length c0_1, .slice Ao7 t152.length co7] (by rfl) rfl rfl (by (try simp only [List.map_toArray, List.map_cons, List.map_nil]); first | done | rfl | (simp only [List.length_drop, List.length_take]; rfl)) ?_
  with_reducible refine (bocageref01_more.calls k _ _ l0_1 _ _ t152 t155 _ ?side1 ?side2 ?side3 ?side4 A3.out).mono ?_
  (case side1 => repeat (first | exact (Kd.C_below HR0_1.out HB.out) | (with_reducible refine Kd.C_alloc ?_ _) | (with_reducible refine Kd.C_drewN ?_ _) | (with_reducible refine Kd.C_drew ?_)))
  (case side2 => exact HC0_1.out)
  (case side3 => repeat (first | exact (Kd.R_reads' HO154.out).2.2 | (with_reducible refine Kd.C_alloc ?_ _) | (with_reducible refine Kd.C_drewN ?_ _) | (with_reducible refine Kd.C_drew ?_)))
  (case side4 => exact (Kd.R_reads' HO154.out).2.1)
  rintro e w' ⟨rfl, ⟨nd, rfl⟩⟩
  refine ⟨_, rfl, ?_⟩
  refine hK.out _ _ ⟨(blk_cell BK151.out 0).trans rfl, (blk_cell BK151.out 1).trans rfl⟩ (fun hHeld => ?_)
  clear hK K
  refine norm_ (a' := ?_) ?_ ?_
  rotate_left
  · show Act.put _ (some 8) _ = _
    simp only [Act.put, List.setIfInBounds_toArray, List.set_cons_zero, List.set_cons_succ, i64_w, i32_w]
    rfl
  refine pure_ (i := 6) (N := some 9) (v := ?_) (a' := ?_) #[true, true, true, true, true, true, true, false] rfl rfl (any_of HT_.out (by kernel_rfl)) (fun _ _ _ h => h) (Or.inl ⟨by rfl, ?_⟩) ?_ ?_
  rotate_left
  · intro w'
    go_simp
    with_reducible rfl
  rotate_left
  · simp only [Act.put, List.setIfInBounds_toArray, List.set_cons_zero, List.set_cons_succ, i64_w, i32_w]
    rfl
  refine pure_ (i := 7) (N := some 2) (v := ?_) (a' := ?_) #[true, true, true, true, true, true, true, true] rfl rfl (any_of HT_.out (by kernel_rfl)) (fun _ _ _ h => h) (Or.inl ⟨by rfl, ?_⟩) ?_ ?_
  rotate_left
  · intro w'
    go_simp
    with_reducible rfl
  rotate_left
  · simp only [Act.put, List.setIfInBounds_toArray, List.set_cons_zero, List.set_cons_succ, i64_w, i32_w]
    rfl
  refine done_ (done_of HT_.out (by kernel_rfl)) ?_
  try go_wp2
  go_ret
  exact ⟨by first | rfl | (simp [errW_none, errW_some] <;> rfl) | (simp [*, errW_none, errW_some] <;> rfl), by repeat (first | (with_reducible first | exact HB.out | apply below_alloc | apply pw_below_drewN | apply below_drew1 | refine below_set ?_ GE151.out) | exact HB.out)⟩

/-! ### bocageref01_End: function 29 -/
def bocageref01_End.l0 : Nat → Int → List Int → Int → Int → Option Int
  | 0, _, _, _, _ => none
  | k + 1, s, d, i, n => if i ≥ 0 then (if i < (d.length : Int) then bocageref01_End.l0 k s d (wrap64 (i - 1)) (wrap64 (wrap64 (n * 10) + wrap64 (s * rd d i))) else none) else some n
def bocageref01_End.f (k : Nat) (a0_0 : Int) (l0_1 : List Int) : Option Int :=
  (bocageref01_Is.f k a0_0 l0_1).bind fun t => if t = true then bocageref01_End.l0 k a0_0 l0_1 (wrap64 ((l0_1.length : Int) - 1)) 0 else (bocageref01_ends.f a0_0).bind fun y => bocageref01_End.l0 k a0_0 y (wrap64 ((y.length : Int) - 1)) 0
theorem bocageref01_End.mono_l : ∀ k s d i n, LeO (bocageref01_End.l0 k s d i n) (bocageref01_End.l0 (k + 1) s d i n)
  | 0, _, _, _, _ => fun r h => by simp [bocageref01_End.l0] at h
  | k + 1, s, d, i, n => by
    intro r h
    rw [bocageref01_End.l0] at h ⊢
    split
    · rename_i h1
      rw [if_pos h1] at h
      split
      · rename_i h2
        rw [if_pos h2] at h
        exact bocageref01_End.mono_l k _ _ _ _ r h
      · rename_i h2
        rw [if_neg h2] at h
        exact h
    · rename_i h1
      rw [if_neg h1] at h
      exact h
theorem bocageref01_End.mono : ∀ a0 a1 k, LeO (bocageref01_End.f k a0 a1) (bocageref01_End.f (k + 1) a0 a1) := by
  intro a0 a1 k r h
  unfold bocageref01_End.f at h ⊢
  obtain ⟨t, h1, h⟩ := Option.bind_eq_some_iff.1 h
  rw [bocageref01_Is.mono _ _ _ _ h1]
  simp only [Option.bind_some]
  split
  · rename_i ht
    rw [if_pos ht] at h
    exact bocageref01_End.mono_l _ _ _ _ _ r h
  · rename_i ht
    rw [if_neg ht] at h
    obtain ⟨y, h1, h⟩ := Option.bind_eq_some_iff.1 h
    rw [h1]
    exact bocageref01_End.mono_l _ _ _ _ _ r h

set_option maxHeartbeats 8000000 in
set_option maxRecDepth 100000 in
theorem bocageref01_End.calls (k : Nat) (a0_0 : Int) (A0_1 : Option Addr) (c0_1 : Nat) (l0_1 : List Int) (r : Int) (w : World) (hr0_1 : Kd.C (Kd.int .i64) w A0_1 l0_1.length l0_1) (hc0_1 : l0_1.length ≤ c0_1) (h : bocageref01_End.f k a0_0 l0_1 = some r) :
    Calls Try.prog 29 #[.agg #[.int .i64 a0_0, .slice A0_1 l0_1.length c0_1]] w fun e w' => e = .returned (.int .i64 r) ∧ Below w.heap.size w w' := by
  unfold bocageref01_End.f at h
  obtain ⟨t, hIs, h1⟩ := Option.bind_eq_some_iff.1 h
  clear h
  have AIs := Aside0.mk hIs
  have AH := Aside0.mk h1
  have HR := Aside0.mk hr0_1
  have HC := Aside0.mk hc0_1
  clear h1 hIs hr0_1 hc0_1
  have hB0 := Below.refl w.heap.size w
  obtain ⟨O, hO⟩ : ∃ O : Obj, O = .cells #[.int .i64 a0_0, .slice A0_1 l0_1.length c0_1] 39 := ⟨_, rfl⟩
  have HO := Aside0.mk hO
  have hbx : Below w.heap.size w (w.alloc O) := (Below.refl w.heap.size w).alloc (Nat.le_refl _) _
  have hbk := heap_alloc_new w O
  have hbs : (w.alloc O).heap.size = w.heap.size + 1 := by simp
  have HS := Aside0.mk hbs
  rw [hO] at hbx hbk
  clear hO hbs
  have HBK := Aside0.mk hbk
  clear hbk
  go_enter Try.func29, Try.ntmps29
  go_upto_if 10 with (go_at_call 25; refine (bocageref01_Is.calls k a0_0 A0_1 c0_1 l0_1 t _ (Kd.C_below HR.out hbx) HC.out AIs.out).mono ?_; rintro e w1 ⟨rfl, hb1⟩)
  have hk1 : w1.heap[w.heap.size]? = some (.cells #[.int .i64 a0_0, .slice A0_1 l0_1.length c0_1] 39 (0, 0)) := by
    rw [hb1.block _ (by simp)]; exact HBK.out
  have hbel1 : Below w.heap.size w w1 := hbx.trans (hb1.mono (by simp))
  go_cut [3] (fun v3 wc => ∃ (A : Option Addr) (c : Nat) (l : List Int), v3 = .slice A l.length c ∧ Aside0 (Kd.C (Kd.int .i64) wc A l.length l) ∧ Aside0 (bocageref01_End.l0 k a0_0 l (wrap64 ((l.length : Int) - 1)) 0 = some r) ∧ Below w.heap.size w wc ∧ wc.heap[w.heap.size]? = some (.cells #[.int .i64 a0_0, .slice A0_1 l0_1.length c0_1] 39 (0, 0)))
  case first =>
    have hc0 : w1.cell? ⟨w.heap.size, 0, none⟩ = some (.int .i64 a0_0) := by simp [World.cell?, hk1]
    cases t with
    | true =>
      go_wp2
      go_meet
      case rel => exact ⟨A0_1, c0_1, l0_1, rfl, ⟨Kd.C_below HR.out hbel1⟩, ⟨by simpa using AH.out⟩, hbel1, hk1⟩
    | false =>
      obtain ⟨y, hy, hl⟩ : ∃ y, Aside0 (bocageref01_ends.f a0_0 = some y) ∧ Aside0 (bocageref01_End.l0 k a0_0 y (wrap64 ((y.length : Int) - 1)) 0 = some r) := by
        have := AH.out
        simp only [Bool.false_eq_true, if_false] at this
        obtain ⟨y, h1, h2⟩ := Option.bind_eq_some_iff.1 this
        exact ⟨y, ⟨h1⟩, ⟨h2⟩⟩
      go_wp2_with (go_at_call 32; refine (bocageref01_ends.calls a0_0 y _ hy.out).mono ?_; rintro e w2 ⟨v, rfl, hR, hb2⟩)
      obtain ⟨A, c, rfl, hCl, hC⟩ := Kd.R_reads hR
      go_meet
      case rel => exact ⟨A, c, y, rfl, ⟨hC⟩, hl, hbel1.trans (hb2.mono (by have := hbel1.size; omega)), (hb2.block _ (lt_of_block hk1)).trans hk1⟩
  case rest =>
    obtain ⟨A, c, l, rfl, hC, hl0, hbel, hk⟩ := hcut
    clear hk1 hbel1 hb1 AH AIs HR HC HBK HS hbx HO
    go_wp2_with fail
    go_loopg [4, 5] k (fun kq v4 v5 w' => ∃ (n i : Int), v4 = .int .i64 n ∧ v5 = .int .i64 i ∧ Aside0 (bocageref01_End.l0 kq a0_0 l i n = some r) ∧ Drawn0 wc w')
    case atStart => exact ⟨0, wrap64 ((l.length : Int) - 1), rfl, (by first | rfl | (simp; done) | (simp [*]; done)), hl0, Drawn0.refl _⟩
    case round =>
      clear hl0
      obtain ⟨n, i, rfl, rfl, HA, ⟨m, rfl⟩⟩ := hrel
      cases gk with
      | zero => exact absurd HA.out (by simp [bocageref01_End.l0])
      | succ k1 =>
        have H := HA.out
        clear HA
        simp only [bocageref01_End.l0] at H
        by_cases c3 : i ≥ 0
        · rw [if_pos c3] at H
          have c3b0 : decide (0 ≤ i) = true := decide_eq_true c3
          by_cases c4 : i < (l.length : Int)
          · rw [if_pos c4] at H
            have H' := Aside0.mk H
            clear H
            obtain ⟨ad, rfl, hx⟩ := Kd.at_int hC.out i c3 c4
            have hs0 : wc.cell? ⟨w.heap.size, 0, none⟩ = some (.int .i64 a0_0) := by simp [World.cell?, hk]
            clear hC
            have c3' := eq_true c3
            have c4' := eq_true c4
            go_wp2
            go_quiet (fail)
            go_wp2
            go_roundg k1
            case rel => exact ⟨_, _, rfl, rfl, H', ⟨_, rfl⟩⟩
            case measure => omega
          · rw [if_neg c4] at H
            cases H
        · rw [if_neg c3] at H
          have c3b0 : decide (0 ≤ i) = false := decide_eq_false c3
          obtain rfl := Option.some.inj H
          go_wp2
          go_ret
          exact ⟨rfl, hbel.trans ⟨rfl, rfl, rfl, by simp, fun _ _ => rfl⟩⟩

/-! ### bocageref13_Do: function 15 -/
def bocageref13_Do.g (k : Nat) (a0 a1 a2 : Int) (a b d : Int × List Int) : Option Int :=
  if a0 = 1 then (bocageref01_Plus.f k a.1 a.2 b.1 b.2).bind fun p => bocageref01_End.f k p.1 p.2
  else if a0 = 2 then bocageref01_End.f k d.1 d.2
  else if a0 = 3 then (if d.1 > 0 then some a2 else some a1)
  else if a0 = 4 then (if d.1 < 0 then some a2 else some a1)
  else if a0 = 5 then some a2 else some a1
def bocageref13_Do.f (k : Nat) (a0 a1 a2 : Int) : Option Int :=
  (bocageref01_Of.f k a1).bind fun a => (bocageref01_Of.f k a2).bind fun b => (bocageref01_Minus.f b.1 b.2).bind fun m => (bocageref01_Plus.f k a.1 a.2 m.1 m.2).bind fun d => bocageref13_Do.g k a0 a1 a2 a b d
theorem bocageref13_Do.g_mono : ∀ a0 a1 a2 a b d k, LeO (bocageref13_Do.g k a0 a1 a2 a b d) (bocageref13_Do.g (k + 1) a0 a1 a2 a b d) := by
  intro a0 a1 a2 a b d k
  unfold bocageref13_Do.g
  refine LeO.ite (LeO.bind (bocageref01_Plus.mono _ _ _ _ _) (fun _ => bocageref01_End.mono _ _ _)) (LeO.ite (bocageref01_End.mono _ _ _) (LeO.refl _))
theorem bocageref13_Do.mono : ∀ a0 a1 a2 k, LeO (bocageref13_Do.f k a0 a1 a2) (bocageref13_Do.f (k + 1) a0 a1 a2) := by
  intro a0 a1 a2 k
  unfold bocageref13_Do.f
  exact LeO.bind (bocageref01_Of.mono _ _) (fun _ => LeO.bind (bocageref01_Of.mono _ _) (fun _ => LeO.bind (LeO.refl _) (fun _ => LeO.bind (bocageref01_Plus.mono _ _ _ _ _) (fun _ => bocageref13_Do.g_mono _ _ _ _ _ _ _))))

set_option maxHeartbeats 8000000 in
set_option maxRecDepth 100000 in
theorem bocageref13_Do.calls (k : Nat) (a0 a1 a2 r : Int) (w : World) (h : bocageref13_Do.f k a0 a1 a2 = some r) :
    Calls Try.prog 15 #[.int .i64 a0, .int .i64 a1, .int .i64 a2] w fun e w' => e = .returned (.int .i64 r) ∧ Below w.heap.size w w' := by
  unfold bocageref13_Do.f at h
  obtain ⟨⟨s1, d1⟩, e1, h⟩ := Option.bind_eq_some_iff.1 h
  obtain ⟨⟨s2, d2⟩, e2, h⟩ := Option.bind_eq_some_iff.1 h
  obtain ⟨⟨s3, d3⟩, e3, h⟩ := Option.bind_eq_some_iff.1 h
  obtain ⟨⟨s4, d4⟩, e4, h⟩ := Option.bind_eq_some_iff.1 h
  have E1 := Aside0.mk e1
  have E2 := Aside0.mk e2
  have E3 := Aside0.mk e3
  have E4 := Aside0.mk e4
  have HG := Aside0.mk h
  clear e1 e2 e3 e4 h
  go_enter Try.func15, Try.ntmps15
  go_wp2_with fail
  refine (bocageref01_Of.calls k a1 s1 d1 _ E1.out).mono ?_
  rintro e w1 ⟨v1, rfl, hR1, hb1⟩
  obtain ⟨A1, c1, rfl⟩ := Kd.R_slice hR1
  have HR1 := Aside0.mk hR1
  have HB1 := Aside0.mk hb1
  clear hR1 hb1
  go_wp2_with fail
  refine (bocageref01_Of.calls k a2 s2 d2 _ E2.out).mono ?_
  rintro e w2 ⟨v2, rfl, hR2, hb2⟩
  obtain ⟨A2, c2, rfl⟩ := Kd.R_slice hR2
  have HR2 := Aside0.mk hR2
  have HB2 := Aside0.mk hb2
  clear hR2 hb2
  go_upto_region 3 with fail
  have hlt1 : w.heap.size ≤ w1.heap.size := HB1.out.size
  have hsz2 := HB2.out.size
  have hlt2 : w1.heap.size < w2.heap.size := by simp at hsz2; omega
  obtain ⟨W, hW⟩ : ∃ W, W = w2.alloc (Obj.cells #[Value.int IntKind.i64 s2, Value.slice A2 d2.length c2] 39) := ⟨_, rfl⟩
  rw [← hW]
  have g2b : W.heap[w2.heap.size]? = some (.cells #[.int .i64 s2, .slice A2 d2.length c2] 39 (0, 0)) := by rw [hW]; exact blk_new _ _
  have g1b : W.heap[w1.heap.size]? = some (.cells #[.int .i64 s1, .slice A1 d1.length c1] 39 (0, 0)) := by rw [hW]; exact blk_alloc (blk_below (blk_new w1 _) HB2.out) _
  have hbel : Below w.heap.size w W := by rw [hW]; exact ((HB1.out.alloc hlt1 _).trans (HB2.out.mono (by simp; omega))).alloc (by omega) _
  have hV1 : Kd.V (Kd.int .i64) 3 W W.heap.size (fun k => k < W.heap.size) (.slice A1 d1.length c1) d1 := Kd.V_mono (Kd.V_bound (ok := fun _ => True) (by rw [hW]; exact Kd.V_alloc (Kd.V_below (Kd.V_alloc (Kd.R_V HR1.out) _) HB2.out) _)) (fun _ h => h.2)
  have hV2 : Kd.V (Kd.int .i64) 3 W W.heap.size (fun k => k < W.heap.size) (.slice A2 d2.length c2) d2 := Kd.V_mono (Kd.V_bound (ok := fun _ => True) (by rw [hW]; exact Kd.V_alloc (Kd.R_V HR2.out) _)) (fun _ h => h.2)
  have V1 := Aside0.mk hV1
  have V2 := Aside0.mk hV2
  have G1 := Aside0.mk g1b
  have G2 := Aside0.mk g2b
  have HBEL := Aside0.mk hbel
  have hsW : w2.heap.size < W.heap.size := by rw [hW]; simp
  clear hW hbel hV1 hV2 hsz2 HR1 HR2 HB1 HB2 E1 E2
  generalize hg1 : w1.heap.size = g1 at *
  generalize hg2 : w2.heap.size = g2 at *
  clear hg1 hg2 w1 w2
  go_cut [9] (fun v9 wc => ∃ (g3 : Nat) (vd : Value), v9 = .pointer (some ⟨g3, 0, none⟩) ∧ Aside0 (wc.heap[g3]? = some (.cells #[.int .i64 s4, vd] 39 (0, 0))) ∧ Aside0 (Kd.V (Kd.int .i64) 3 wc wc.heap.size (fun k_ => (fun _ => True) k_) vd d4) ∧ Aside0 (wc.heap[g1]? = some (.cells #[.int .i64 s1, .slice A1 d1.length c1] 39 (0, 0))) ∧ Aside0 (wc.heap[g2]? = some (.cells #[.int .i64 s2, .slice A2 d2.length c2] 39 (0, 0))) ∧ Aside0 (Kd.V (Kd.int .i64) 3 wc wc.heap.size (fun k_ => (fun _ => True) k_) (.slice A1 d1.length c1) d1) ∧ Aside0 (Kd.V (Kd.int .i64) 3 wc wc.heap.size (fun k_ => (fun _ => True) k_) (.slice A2 d2.length c2) d2) ∧ Below w.heap.size w wc)
  case first =>
    have c10 := (blk_cell g1b 0).trans rfl
    have c11 := (blk_cell g1b 1).trans rfl
    have c20 := (blk_cell g2b 0).trans rfl
    have c21 := (blk_cell g2b 1).trans rfl
    have hl1 := blk_lt g1b
    clear g1b g2b
    go_region_held3 (fun w' => w'.cell? ⟨g1, 0, none⟩ = some (.int .i64 s1) ∧ w'.cell? ⟨g1, 1, none⟩ = some (.slice A1 d1.length c1) ∧ w'.cell? ⟨g2, 0, none⟩ = some (.int .i64 s2) ∧ w'.cell? ⟨g2, 1, none⟩ = some (.slice A2 d2.length c2))
      (first | exact ⟨c10, c11, c20, c21⟩ | (exact ⟨(blk_cell (blk_far (blk_far G1''.out (by simp; omega) _) (by simp; omega) _) 0).trans rfl, (blk_cell (blk_far (blk_far G1''.out (by simp; omega) _) (by simp; omega) _) 1).trans rfl, (blk_cell (blk_far (blk_far G2''.out (by simp; omega) _) (by simp; omega) _) 0).trans rfl, (blk_cell (blk_far (blk_far G2''.out (by simp; omega) _) (by simp; omega) _) 1).trans rfl⟩) | (exact ⟨(blk_cell (blk_alloc G1''.out _) 0).trans rfl, (blk_cell (blk_alloc G1''.out _) 1).trans rfl, (blk_cell (blk_alloc G2''.out _) 0).trans rfl, (blk_cell (blk_alloc G2''.out _) 1).trans rfl⟩) | go_keep)
      ((first | (go_at_call 24; (with_reducible refine (bocageref01_Minus.calls s2 (fun k => k < W.heap.size) A2 c2 d2 s3 d3 (W.drew) (Kd.V_map V2.out (fun _ hf => Kd.F_drew hf)) E3.out).mono ?_); rintro e w3 ⟨v3, rfl, hV3, hb3⟩; obtain ⟨A3, c3, rfl⟩ := Kd.V_slice hV3; have VV3 := Aside0.mk (Kd.V_mono (ok' := fun k => k < w3.heap.size) (Kd.V_bound hV3) (fun _ h => h.2)); have G1' := Aside0.mk (blk_below (blk_drew G1.out) hb3); have G2' := Aside0.mk (blk_below (blk_drew G2.out) hb3); have V1' := Aside0.mk (Kd.V_below (Kd.V_map (base' := 0) (ok' := fun k => k < W.heap.size) V1.out (fun _ hf => Kd.F_drew hf)) hb3); have V2' := Aside0.mk (Kd.V_below (Kd.V_map (base' := 0) (ok' := fun k => k < W.heap.size) V2.out (fun _ hf => Kd.F_drew hf)) hb3); have BEL' := Aside0.mk ((below_drew HBEL.out).trans (hb3.mono (by simp; omega))); have hWl : W.heap.size ≤ w3.heap.size := (by have := hb3.size; simp at this; omega); have c10 := (blk_cell G1'.out 0).trans rfl; have c11 := (blk_cell G1'.out 1).trans rfl; have c20 := (blk_cell G2'.out 0).trans rfl; have c21 := (blk_cell G2'.out 1).trans rfl; have l3 := blk_lt G1'.out; have l4 := blk_lt G2'.out; clear hV3 hb3) | (go_at_call 24; (with_reducible refine (bocageref01_Minus.calls s2 (fun k => k < W.heap.size) A2 c2 d2 s3 d3 ((W.alloc (Obj.cells #[Value.int IntKind.i64 0, Value.slice none 0 0] 39)).drew) (Kd.V_map V2.out (fun _ hf => Kd.F_drew (Kd.F_alloc hf _))) E3.out).mono ?_); rintro e w3 ⟨v3, rfl, hV3, hb3⟩; obtain ⟨A3, c3, rfl⟩ := Kd.V_slice hV3; have VV3z := Aside0.mk (Kd.V_mono (ok' := fun k => k ≠ W.heap.size) hV3 (fun k hk => by have : k < W.heap.size ∨ W.heap.size + 1 ≤ k := (by simpa using hk); show k ≠ W.heap.size; omega)); have G1' := Aside0.mk (blk_below (blk_drew (blk_alloc G1.out _)) hb3); have G2' := Aside0.mk (blk_below (blk_drew (blk_alloc G2.out _)) hb3); have V1' := Aside0.mk (Kd.V_below (Kd.V_map (base' := 0) (ok' := fun k => k < W.heap.size) V1.out (fun _ hf => Kd.F_drew (Kd.F_alloc hf _))) hb3); have V2' := Aside0.mk (Kd.V_below (Kd.V_map (base' := 0) (ok' := fun k => k < W.heap.size) V2.out (fun _ hf => Kd.F_drew (Kd.F_alloc hf _))) hb3); have BEL' := Aside0.mk ((below_drew (HBEL.out.alloc (by have := HBEL.out.size; omega) _)).trans (hb3.mono (by simp; omega))); have hWl : W.heap.size ≤ w3.heap.size := (by have := hb3.size; simp at this; omega); have ZB := Aside0.mk (blk_below (blk_drew (blk_new W (Obj.cells #[Value.int IntKind.i64 0, Value.slice none 0 0] 39))) hb3); have hzlt := blk_lt ZB.out; have c10 := (blk_cell G1'.out 0).trans rfl; have c11 := (blk_cell G1'.out 1).trans rfl; have c20 := (blk_cell G2'.out 0).trans rfl; have c21 := (blk_cell G2'.out 1).trans rfl; have l3 := blk_lt G1'.out; have l4 := blk_lt G2'.out; clear hV3 hb3) | (go_at_call 26; (with_reducible refine (bocageref01_Plus.calls k s1 (fun k => k ≠ W.heap.size) A1 c1 d1 s3 (fun k => k ≠ W.heap.size) A3 c3 d3 s4 d4 (w3) (Kd.V_map V1'.out (fun _ hf => Kd.F_mono (hf) (fun k hk => by have : k < W.heap.size := hk; show k ≠ W.heap.size; omega))) (Kd.V_map VV3z.out (fun _ hf => Kd.F_mono (hf) (fun k hk => hk))) E4.out).mono ?_); rintro e w4 ⟨v4, rfl, hV4, hb4⟩; obtain ⟨A4, c4, rfl⟩ := Kd.V_slice hV4; have VV4 := Aside0.mk (Kd.V_mono (ok' := fun k => k ≠ W.heap.size) hV4 (fun k hk => by rcases hk with (h | h) | h; exact h; exact h; (have := hWl; (try have := hzlt); (try simp at h); show k ≠ W.heap.size; omega))); have G1'' := Aside0.mk (blk_below (G1'.out) hb4); have G2'' := Aside0.mk (blk_below (G2'.out) hb4); have V1'' := Aside0.mk (Kd.V_below (Kd.V_map (base' := 0) (ok' := fun k => k < W.heap.size) V1'.out (fun _ hf => hf)) hb4); have V2'' := Aside0.mk (Kd.V_below (Kd.V_map (base' := 0) (ok' := fun k => k < W.heap.size) V2'.out (fun _ hf => hf)) hb4); have BEL'' := Aside0.mk (BEL'.out.trans (hb4.mono (by have := BEL'.out.size; omega))); have ZB2 := Aside0.mk (blk_below (ZB.out) hb4); have z0 := (blk_cell ZB2.out 0).trans rfl; have z1 := (blk_cell ZB2.out 1).trans rfl; have zf0 := blk_frozen ZB2.out 0; have zf1 := blk_frozen ZB2.out 1; have c10 := (blk_cell G1''.out 0).trans rfl; have c11 := (blk_cell G1''.out 1).trans rfl; have c20 := (blk_cell G2''.out 0).trans rfl; have c21 := (blk_cell G2''.out 1).trans rfl; clear hV4 hb4) | (go_at_call 26; (with_reducible refine (bocageref01_Plus.calls k s1 (fun _ => True) A1 c1 d1 s3 (fun _ => True) A3 c3 d3 s4 d4 (w3) (Kd.V_map V1'.out (fun _ hf => Kd.F_mono (hf) (fun k hk => trivial))) (Kd.V_map VV3.out (fun _ hf => Kd.F_mono (hf) (fun k hk => trivial))) E4.out).mono ?_); rintro e w4 ⟨v4, rfl, hV4, hb4⟩; obtain ⟨A4, c4, rfl⟩ := Kd.V_slice hV4; have VV4 := Aside0.mk (Kd.V_mono (ok' := fun _ => True) hV4 (fun _ _ => trivial)); have G1'' := Aside0.mk (blk_below (G1'.out) hb4); have G2'' := Aside0.mk (blk_below (G2'.out) hb4); have V1'' := Aside0.mk (Kd.V_below (Kd.V_map (base' := 0) (ok' := fun k => k < W.heap.size) V1'.out (fun _ hf => hf)) hb4); have V2'' := Aside0.mk (Kd.V_below (Kd.V_map (base' := 0) (ok' := fun k => k < W.heap.size) V2'.out (fun _ hf => hf)) hb4); have BEL'' := Aside0.mk (BEL'.out.trans (hb4.mono (by have := BEL'.out.size; omega))); have c10 := (blk_cell G1''.out 0).trans rfl; have c11 := (blk_cell G1''.out 1).trans rfl; have c20 := (blk_cell G2''.out 0).trans rfl; have c21 := (blk_cell G2''.out 1).trans rfl; clear hV4 hb4) | (go_at_call 26; (with_reducible refine (bocageref01_Plus.calls k s1 (fun k => k ≠ w3.heap.size) A1 c1 d1 s3 (fun k => k ≠ w3.heap.size) A3 c3 d3 s4 d4 (w3.alloc (Obj.cells #[Value.int IntKind.i64 0, Value.slice none 0 0] 39)) (Kd.V_map V1'.out (fun _ hf => Kd.F_mono (Kd.F_alloc hf _) (fun k hk => by have : k < W.heap.size := hk; show k ≠ w3.heap.size; omega))) (Kd.V_map VV3.out (fun _ hf => Kd.F_mono (Kd.F_alloc hf _) (fun k hk => by have : k < w3.heap.size := hk; show k ≠ w3.heap.size; omega))) E4.out).mono ?_); rintro e w4 ⟨v4, rfl, hV4, hb4⟩; obtain ⟨A4, c4, rfl⟩ := Kd.V_slice hV4; have VV4 := Aside0.mk (Kd.V_mono (ok' := fun k => k ≠ w3.heap.size) hV4 (fun k hk => by rcases hk with (h | h) | h; exact h; exact h; (have := hWl; (try have := hzlt); (try simp at h); show k ≠ w3.heap.size; omega))); have G1'' := Aside0.mk (blk_below (blk_alloc G1'.out _) hb4); have G2'' := Aside0.mk (blk_below (blk_alloc G2'.out _) hb4); have V1'' := Aside0.mk (Kd.V_below (Kd.V_map (base' := 0) (ok' := fun k => k < W.heap.size) V1'.out (fun _ hf => Kd.F_alloc hf _)) hb4); have V2'' := Aside0.mk (Kd.V_below (Kd.V_map (base' := 0) (ok' := fun k => k < W.heap.size) V2'.out (fun _ hf => Kd.F_alloc hf _)) hb4); have BEL'' := Aside0.mk ((BEL'.out.alloc BEL'.out.size (Obj.cells #[Value.int IntKind.i64 0, Value.slice none 0 0] 39)).trans (hb4.mono (by have := BEL'.out.size; simp; omega))); have ZB2 := Aside0.mk (blk_below (blk_new w3 (Obj.cells #[Value.int IntKind.i64 0, Value.slice none 0 0] 39)) hb4); have z0 := (blk_cell ZB2.out 0).trans rfl; have z1 := (blk_cell ZB2.out 1).trans rfl; have zf0 := blk_frozen ZB2.out 0; have zf1 := blk_frozen ZB2.out 1; have c10 := (blk_cell G1''.out 0).trans rfl; have c11 := (blk_cell G1''.out 1).trans rfl; have c20 := (blk_cell G2''.out 0).trans rfl; have c21 := (blk_cell G2''.out 1).trans rfl; clear hV4 hb4)))
    all_goals go_wp2_with fail
    all_goals go_meet
    · exact ⟨w4.heap.size, _, rfl, ⟨blk_new _ _⟩, ⟨Kd.V_map VV4.out (fun _ hf => Kd.F_mono (Kd.F_alloc hf _) (fun _ _ => trivial))⟩, ⟨blk_alloc G1''.out _⟩, ⟨blk_alloc G2''.out _⟩, ⟨Kd.V_map V1''.out (fun _ hf => Kd.F_mono (Kd.F_alloc hf _) (fun _ _ => trivial))⟩, ⟨Kd.V_map V2''.out (fun _ hf => Kd.F_mono (Kd.F_alloc hf _) (fun _ _ => trivial))⟩, BEL''.out.alloc BEL''.out.size _⟩
    · exact ⟨w3.heap.size, _, rfl, ⟨blk_put (blk_put ZB2.out 0 _ rfl) 1 _ rfl⟩, ⟨Kd.V_map VV4.out (fun _ hf => Kd.F_mono (Kd.F_far (Kd.F_far hf (p := ⟨w3.heap.size, 0, none⟩) (fun k hk => hk) _) (p := ⟨w3.heap.size, 1, none⟩) (fun k hk => hk) _) (fun _ _ => trivial))⟩, ⟨blk_far (blk_far G1''.out (by simp; omega) _) (by simp; omega) _⟩, ⟨blk_far (blk_far G2''.out (by simp; omega) _) (by simp; omega) _⟩, ⟨Kd.V_map V1''.out (fun _ hf => Kd.F_mono (Kd.F_far (Kd.F_far hf (p := ⟨w3.heap.size, 0, none⟩) (fun k hk => by have : k < W.heap.size := hk; show k ≠ w3.heap.size; omega) _) (p := ⟨w3.heap.size, 1, none⟩) (fun k hk => by have : k < W.heap.size := hk; show k ≠ w3.heap.size; omega) _) (fun _ _ => trivial))⟩, ⟨Kd.V_map V2''.out (fun _ hf => Kd.F_mono (Kd.F_far (Kd.F_far hf (p := ⟨w3.heap.size, 0, none⟩) (fun k hk => by have : k < W.heap.size := hk; show k ≠ w3.heap.size; omega) _) (p := ⟨w3.heap.size, 1, none⟩) (fun k hk => by have : k < W.heap.size := hk; show k ≠ w3.heap.size; omega) _) (fun _ _ => trivial))⟩, (BEL''.out.setCell (by have := BEL'.out.size; have := HBEL.out.size; show w.heap.size ≤ w3.heap.size; omega) _).setCell (by have := BEL'.out.size; have := HBEL.out.size; show w.heap.size ≤ w3.heap.size; omega) _⟩
    · exact ⟨W.heap.size, _, rfl, ⟨blk_put (blk_put ZB2.out 0 _ rfl) 1 _ rfl⟩, ⟨Kd.V_map VV4.out (fun _ hf => Kd.F_mono (Kd.F_far (Kd.F_far hf (p := ⟨W.heap.size, 0, none⟩) (fun k hk => hk) _) (p := ⟨W.heap.size, 1, none⟩) (fun k hk => hk) _) (fun _ _ => trivial))⟩, ⟨blk_far (blk_far G1''.out (by simp; omega) _) (by simp; omega) _⟩, ⟨blk_far (blk_far G2''.out (by simp; omega) _) (by simp; omega) _⟩, ⟨Kd.V_map V1''.out (fun _ hf => Kd.F_mono (Kd.F_far (Kd.F_far hf (p := ⟨W.heap.size, 0, none⟩) (fun k hk => by have : k < W.heap.size := hk; show k ≠ W.heap.size; omega) _) (p := ⟨W.heap.size, 1, none⟩) (fun k hk => by have : k < W.heap.size := hk; show k ≠ W.heap.size; omega) _) (fun _ _ => trivial))⟩, ⟨Kd.V_map V2''.out (fun _ hf => Kd.F_mono (Kd.F_far (Kd.F_far hf (p := ⟨W.heap.size, 0, none⟩) (fun k hk => by have : k < W.heap.size := hk; show k ≠ W.heap.size; omega) _) (p := ⟨W.heap.size, 1, none⟩) (fun k hk => by have : k < W.heap.size := hk; show k ≠ W.heap.size; omega) _) (fun _ _ => trivial))⟩, (BEL''.out.setCell (by have := BEL'.out.size; have := HBEL.out.size; show w.heap.size ≤ W.heap.size; omega) _).setCell (by have := BEL'.out.size; have := HBEL.out.size; show w.heap.size ≤ W.heap.size; omega) _⟩
  case rest =>
    obtain ⟨g3, vd, rfl, G3, V4, G1', G2', V1', V2', hbel⟩ := hcut
    have HBEL' := Aside0.mk hbel
    clear hbel V1 V2 G1 G2 g1b g2b
    have c10 := (blk_cell G1'.out 0).trans rfl
    have c11 := (blk_cell G1'.out 1).trans rfl
    have c20 := (blk_cell G2'.out 0).trans rfl
    have c21 := (blk_cell G2'.out 1).trans rfl
    have c30 := (blk_cell G3.out 0).trans rfl
    have c31 := (blk_cell G3.out 1).trans rfl
    obtain ⟨A4, c4, rfl⟩ := Kd.V_slice V4.out
    by_cases h1 : a0 = 1
    · subst h1
      have hg := HG.out
      unfold bocageref13_Do.g at hg
      rw [if_pos rfl] at hg
      obtain ⟨⟨s5, d5⟩, e5, e6⟩ := Option.bind_eq_some_iff.1 hg
      have E5 := Aside0.mk e5
      have E6 := Aside0.mk e6
      clear hg e5 e6
      go_wp2_with (first | (go_at_call 26; (with_reducible refine (bocageref01_Plus.calls k s1 (fun _ => True) A1 c1 d1 s2 (fun _ => True) A2 c2 d2 s5 d5 wc V1'.out V2'.out E5.out).mono ?_); rintro e w5 ⟨v5, rfl, hV5, hb5⟩; obtain ⟨A5, c5, rfl⟩ := Kd.V_slice hV5; have V5 := Aside0.mk hV5; have B5 := Aside0.mk hb5; clear hV5 hb5) | (go_at_call 29; (with_reducible refine (bocageref01_End.calls k s5 A5 c5 d5 r _ (Kd.V_reads' V5.out).2.2 (Kd.V_reads' V5.out).2.1 E6.out).mono ?_); rintro e w6 ⟨rfl, hb6⟩))
      go_ret
      exact ⟨rfl, HBEL'.out.trans ((B5.out.trans (hb6.mono B5.out.size)).mono HBEL'.out.size)⟩
    · have h1b : (a0 == 1) = false := beq_eq_false_iff_ne.mpr h1
      by_cases h2 : a0 = 2
      · subst h2
        have hg := HG.out
        unfold bocageref13_Do.g at hg
        rw [if_neg h1, if_pos rfl] at hg
        have E6 := Aside0.mk hg
        clear hg
        go_wp2_with (go_at_call 29; (with_reducible refine (bocageref01_End.calls k s4 A4 c4 d4 r _ (Kd.V_reads' V4.out).2.2 (Kd.V_reads' V4.out).2.1 E6.out).mono ?_); rintro e w6 ⟨rfl, hb6⟩)
        go_ret
        exact ⟨rfl, HBEL'.out.trans (hb6.mono HBEL'.out.size)⟩
      · have h2b : (a0 == 2) = false := beq_eq_false_iff_ne.mpr h2
        have hg := HG.out
        unfold bocageref13_Do.g at hg
        rw [if_neg h1, if_neg h2] at hg
        by_cases h3 : a0 = 3
        · subst h3
          rw [if_pos rfl] at hg
          by_cases hs : s4 > 0
          · rw [if_pos hs] at hg
            obtain rfl := Option.some.inj hg
            clear hg
            have hs' : decide (0 < s4) = true := decide_eq_true hs
            go_wp2
            go_ret
            exact ⟨rfl, HBEL'.out⟩
          · rw [if_neg hs] at hg
            obtain rfl := Option.some.inj hg
            clear hg
            have hs' : decide (0 < s4) = false := decide_eq_false hs
            go_wp2
            go_ret
            exact ⟨rfl, HBEL'.out⟩
        · have h3b : (a0 == 3) = false := beq_eq_false_iff_ne.mpr h3
          rw [if_neg h3] at hg
          by_cases h4 : a0 = 4
          · subst h4
            rw [if_pos rfl] at hg
            by_cases hs : s4 < 0
            · rw [if_pos hs] at hg
              obtain rfl := Option.some.inj hg
              clear hg
              have hs' : decide (s4 < 0) = true := decide_eq_true hs
              go_wp2
              go_ret
              exact ⟨rfl, HBEL'.out⟩
            · rw [if_neg hs] at hg
              obtain rfl := Option.some.inj hg
              clear hg
              have hs' : decide (s4 < 0) = false := decide_eq_false hs
              go_wp2
              go_ret
              exact ⟨rfl, HBEL'.out⟩
          · have h4b : (a0 == 4) = false := beq_eq_false_iff_ne.mpr h4
            rw [if_neg h4] at hg
            by_cases h5 : a0 = 5
            · subst h5
              rw [if_pos rfl] at hg
              obtain rfl := Option.some.inj hg
              clear hg
              go_wp2
              go_ret
              exact ⟨rfl, HBEL'.out⟩
            · have h5b : (a0 == 5) = false := beq_eq_false_iff_ne.mpr h5
              rw [if_neg h5] at hg
              obtain rfl := Option.some.inj hg
              clear hg
              go_wp2
              go_ret
              exact ⟨rfl, HBEL'.out⟩

/-! ### bocageref13_Same: function 17 -/
def bocageref13_Same.f (a0 : Int) : Option (Int × Bool) := if a0 = 3 then (some (9223372036854775807, true)) else (if a0 = 4 then (some ((-9223372036854775808), true)) else (if a0 = 1 then (some (0, true)) else (some (0, (a0 == 2)))))
set_option maxHeartbeats 8000000 in
set_option maxRecDepth 100000 in
theorem bocageref13_Same.calls (a0 : Int) (r1 : Int) (r2 : Bool) (w : World) (h : bocageref13_Same.f a0 = some (r1, r2)) :
    Calls Try.prog 17 #[.int .i64 a0] w fun e w' => e = .returned (.tuple #[.int .i64 r1, .bool r2]) ∧ Drawn0 w w' := by
  have H : (if a0 = 3 then (some (9223372036854775807, true)) else (if a0 = 4 then (some ((-9223372036854775808), true)) else (if a0 = 1 then (some (0, true)) else (some (0, (a0 == 2)))))) = some (r1, r2) := h
  clear h
  by_cases c2 : a0 = 3
  · rw [if_pos c2] at H
    have c2b0 : (a0 == 3) = true := beq_iff_eq.mpr c2
    have c2b1 : (a0 != 3) = false := bne_eq_false_iff_eq.mpr c2
    clear c2
    simp only [Option.some.injEq, Prod.mk.injEq] at H
    obtain ⟨rfl, rfl⟩ := H
    go_enter Try.func17, Try.ntmps17
    go_wp2
    go_ret2
    exact ⟨by first | rfl | (simp; done) | (simp [*]; done), by repeat (first | exact Drawn0.refl _ | apply Drawn0.step)⟩
  · rw [if_neg c2] at H
    have c2b0 : (a0 == 3) = false := beq_eq_false_iff_ne.mpr c2
    have c2b1 : (a0 != 3) = true := bne_iff_ne.mpr c2
    by_cases c3 : a0 = 4
    · rw [if_pos c3] at H
      have c3b0 : (a0 == 4) = true := beq_iff_eq.mpr c3
      have c3b1 : (a0 != 4) = false := bne_eq_false_iff_eq.mpr c3
      clear c3
      simp only [Option.some.injEq, Prod.mk.injEq] at H
      obtain ⟨rfl, rfl⟩ := H
      go_enter Try.func17, Try.ntmps17
      go_wp2
      go_ret2
      exact ⟨by first | rfl | (simp; done) | (simp [*]; done), by repeat (first | exact Drawn0.refl _ | apply Drawn0.step)⟩
    · rw [if_neg c3] at H
      have c3b0 : (a0 == 4) = false := beq_eq_false_iff_ne.mpr c3
      have c3b1 : (a0 != 4) = true := bne_iff_ne.mpr c3
      by_cases c4 : a0 = 1
      · rw [if_pos c4] at H
        have c4b0 : (a0 == 1) = true := beq_iff_eq.mpr c4
        have c4b1 : (a0 != 1) = false := bne_eq_false_iff_eq.mpr c4
        clear c4
        simp only [Option.some.injEq, Prod.mk.injEq] at H
        obtain ⟨rfl, rfl⟩ := H
        go_enter Try.func17, Try.ntmps17
        go_wp2
        go_ret2
        exact ⟨by first | rfl | (simp; done) | (simp [*]; done), by repeat (first | exact Drawn0.refl _ | apply Drawn0.step)⟩
      · rw [if_neg c4] at H
        have c4b0 : (a0 == 1) = false := beq_eq_false_iff_ne.mpr c4
        have c4b1 : (a0 != 1) = true := bne_iff_ne.mpr c4
        simp only [Option.some.injEq, Prod.mk.injEq] at H
        obtain ⟨rfl, rfl⟩ := H
        go_enter Try.func17, Try.ntmps17
        go_wp2
        go_ret2
        exact ⟨by first | rfl | (simp; done) | (simp [*]; done), by repeat (first | exact Drawn0.refl _ | apply Drawn0.step)⟩

/-! ### bocageref13_First: function 19 -/
def bocageref13_First.f (k : Nat) (a0 : Int) (a1 : Int) : Option (Int) := if a0 = 2 then ((bocageref01_Of.f k a1).bind fun bt156 => ((bocageref01_Minus.f bt156.1 bt156.2).bind fun bt160 => ((bocageref01_End.f k bt160.1 bt160.2).bind fun t164 => (some t164)))) else (some a1)
theorem bocageref13_First.mono : ∀ a0 a1 k, LeO (bocageref13_First.f k a0 a1) (bocageref13_First.f (k + 1) a0 a1) := by
  intro a0 a1 k
  unfold bocageref13_First.f
  repeat' first
      | (with_reducible exact bocageref01_End.mono _ _ _)
      | (with_reducible exact bocageref01_Of.mono _ _)
      | (with_reducible exact LeO.refl _)
      | (with_reducible exact LeO.none _)
      | (with_reducible refine LeO.ite ?_ ?_)
      | (with_reducible refine LeO.bind ?_ (fun _ => ?_))
      | exact bocageref01_End.mono _ _ _
      | exact bocageref01_Of.mono _ _
      | exact LeO.none _
      | refine LeO.ite ?_ ?_
      | refine LeO.bind ?_ (fun _ => ?_)
set_option maxHeartbeats 8000000 in
set_option maxRecDepth 100000 in
theorem bocageref13_First.calls (k : Nat) (a0 : Int) (a1 : Int) (r : Int) (w : World) (h : bocageref13_First.f k a0 a1 = some r) :
    Calls Try.prog 19 #[.int .i64 a0, .int .i64 a1] w fun e w' => e = .returned (.int .i64 r) ∧ Below w.heap.size w w' := by
  have HB := Aside0.mk (Below.refl w.heap.size w)
  have H : (if a0 = 2 then ((bocageref01_Of.f k a1).bind fun bt156 => ((bocageref01_Minus.f bt156.1 bt156.2).bind fun bt160 => ((bocageref01_End.f k bt160.1 bt160.2).bind fun t164 => (some t164)))) else (some a1)) = some r := h
  clear h
  by_cases c3 : a0 = 2
  · rw [if_pos c3] at H
    have c3b0 : (a0 == 2) = true := beq_iff_eq.mpr c3
    have c3b1 : (a0 != 2) = false := bne_eq_false_iff_eq.mpr c3
    clear c3
    replace H := Option.bind_eq_some_iff.mp H
    obtain ⟨⟨t156, t157⟩, A40, H⟩ := H
    replace H : ((bocageref01_Minus.f t156 t157).bind fun bt160 => ((bocageref01_End.f k bt160.1 bt160.2).bind fun t164 => (some t164))) = some r := H
    have A4 := Aside0.mk A40
    clear A40
    replace H := Option.bind_eq_some_iff.mp H
    obtain ⟨⟨t160, t161⟩, A50, H⟩ := H
    replace H : ((bocageref01_End.f k t160 t161).bind fun t164 => (some t164)) = some r := H
    have A5 := Aside0.mk A50
    clear A50
    replace H := Option.bind_eq_some_iff.mp H
    obtain ⟨t164, A60, H⟩ := H
    replace H : (some t164) = some r := H
    have A6 := Aside0.mk A60
    clear A60
    obtain rfl := Option.some.inj H
    go_enter Try.func19, Try.ntmps19
    go_wp2_with (first | ((with_reducible refine gate_callee (f := 23) rfl ?_); refine goesL_ (some 8) rfl rfl Try.func23 (by kernel_rfl) rfl #[.int .i64 a1] rfl (by (try simp only [List.map_toArray, List.map_cons, List.map_nil]); first | done | rfl | (simp only [List.length_drop, List.length_take]; rfl)) ?_; (with_reducible refine (bocageref01_Of.calls k a1 t156 t157 _ A4.out).mono ?_); rintro e w7 ⟨v158, rfl, ho0, hb⟩; refine ⟨_, rfl, ?_⟩; have n0_ := Aside0.mk (Kd.R_lower ho0 (below_size (by repeat (first | (with_reducible first | exact HB.out | apply below_alloc | apply pw_below_drewN | apply below_drew1) | exact HB.out)))); have n1_ := Aside0.mk (below_step (by repeat (first | (with_reducible first | exact HB.out | apply below_alloc | apply pw_below_drewN | apply below_drew1) | exact HB.out)) hb); clear HB; have HO159 := n0_; have HB := n1_; clear n0_ n1_; (try clear hb); (try clear hb2); (try clear hk); (try clear hi); (try clear ho0); obtain ⟨Ao8, co8, eo8⟩ := Kd.R_slice HO159.out; subst eo8) | ((with_reducible refine gate_callee (f := 24) rfl ?_); refine goesL_ (some 9) rfl rfl Try.func24 (by kernel_rfl) rfl #[.agg #[.int .i64 t156, .slice Ao8 t157.length co8]] rfl (by (try simp only [List.map_toArray, List.map_cons, List.map_nil]); first | done | rfl | (simp only [List.length_drop, List.length_take]; rfl)) ?_; (with_reducible refine (bocageref01_Minus.calls t156 (fun k_ => some k_ = (.slice Ao8 t157.length co8 : Value).ownBlock) _ _ t157 t160 t161 _ ?side1 A5.out).mono ?_); (case side1 => exact Kd.R_V (Kd.R_tight rfl (HO159.out))); rintro e w9 ⟨v162, rfl, ho0, hb⟩; refine ⟨_, rfl, ?_⟩; have n0_ := Aside0.mk (Kd.R_below (by (with_reducible repeat (first | apply Kd.R_alloc | apply Kd.R_drewN | apply Kd.R_drew)); exact HO159.out) hb); have n1_ := Aside0.mk (Kd.V_lower (Kd.V_mono (ok' := fun k_ => True) ho0 (fun k_ hk_ => trivial)) (below_size (by repeat (first | (with_reducible first | exact HB.out | apply below_alloc | apply pw_below_drewN | apply below_drew1) | exact HB.out)))); have n2_ := Aside0.mk (below_step (by repeat (first | (with_reducible first | exact HB.out | apply below_alloc | apply pw_below_drewN | apply below_drew1) | exact HB.out)) hb); clear HO159; clear HB; have HO159 := n0_; have HO163 := n1_; have HB := n2_; clear n0_ n1_ n2_; (try clear hb); (try clear hb2); (try clear hk); (try clear hi); (try clear ho0); obtain ⟨Ao10, co10, eo10⟩ := Kd.V_slice HO163.out; subst eo10) | ((with_reducible refine gate_callee (f := 29) rfl ?_); refine goesL_ (some 10) rfl rfl Try.func29 (by kernel_rfl) rfl #[.agg #[.int .i64 t160, .slice Ao10 t161.length co10]] rfl (by (try simp only [List.map_toArray, List.map_cons, List.map_nil]); first | done | rfl | (simp only [List.length_drop, List.length_take]; rfl)) ?_; (with_reducible refine (bocageref01_End.calls k t160 _ _ t161 t164 _ ?side1 ?side2 A6.out).mono ?_); (case side1 => repeat (first | exact (Kd.V_reads' HO163.out).2.2 | (with_reducible refine Kd.C_alloc ?_ _) | (with_reducible refine Kd.C_drewN ?_ _) | (with_reducible refine Kd.C_drew ?_))); (case side2 => exact (Kd.V_reads' HO163.out).2.1); rintro e w11 ⟨rfl, hb⟩; refine ⟨_, rfl, ?_⟩; have n0_ := Aside0.mk (Kd.R_below (by (with_reducible repeat (first | apply Kd.R_alloc | apply Kd.R_drewN | apply Kd.R_drew)); exact HO159.out) hb); have n1_ := Aside0.mk (Kd.V_below (by (with_reducible repeat (first | apply Kd.V_alloc | apply Kd.V_drewN | apply Kd.V_drew)); exact HO163.out) hb); have n2_ := Aside0.mk (below_step (by repeat (first | (with_reducible first | exact HB.out | apply below_alloc | apply pw_below_drewN | apply below_drew1) | exact HB.out)) hb); clear HO159; clear HO163; clear HB; have HO159 := n0_; have HO163 := n1_; have HB := n2_; clear n0_ n1_ n2_; (try clear hb); (try clear hb2); (try clear hk); (try clear hi)))
    go_ret
    exact ⟨by first | rfl | (simp [errW_none, errW_some] <;> rfl) | (simp [*, errW_none, errW_some] <;> rfl), by repeat (first | (with_reducible first | exact HB.out | apply below_alloc | apply pw_below_drewN | apply below_drew1) | exact HB.out)⟩
  · rw [if_neg c3] at H
    have c3b0 : (a0 == 2) = false := beq_eq_false_iff_ne.mpr c3
    have c3b1 : (a0 != 2) = true := bne_iff_ne.mpr c3
    obtain rfl := Option.some.inj H
    go_enter Try.func19, Try.ntmps19
    go_wp2
    go_ret
    exact ⟨by first | rfl | (simp [errW_none, errW_some] <;> rfl) | (simp [*, errW_none, errW_some] <;> rfl), by repeat (first | (with_reducible first | exact HB.out | apply below_alloc | apply pw_below_drewN | apply below_drew1) | exact HB.out)⟩

/-! ### comb_Commutes: function 22 -/
def comb_Commutes.f (a0 : Int) : Option (Bool) := if a0 = 3 then (some true) else (some (a0 == 4))
set_option maxHeartbeats 8000000 in
set_option maxRecDepth 100000 in
theorem comb_Commutes.calls (a0 : Int) (r : Bool) (w : World) (h : comb_Commutes.f a0 = some r) :
    Calls Try.prog 22 #[.int .i64 a0] w fun e w' => e = .returned (.bool r) ∧ Drawn0 w w' := by
  have H : (if a0 = 3 then (some true) else (some (a0 == 4))) = some r := h
  clear h
  by_cases c2 : a0 = 3
  · rw [if_pos c2] at H
    have c2b0 : (a0 == 3) = true := beq_iff_eq.mpr c2
    have c2b1 : (a0 != 3) = false := bne_eq_false_iff_eq.mpr c2
    clear c2
    obtain rfl := Option.some.inj H
    go_enter Try.func22, Try.ntmps22
    go_wp2
    go_ret
    exact ⟨by first | rfl | (simp; done) | (simp [*]; done), by repeat (first | exact Drawn0.refl _ | apply Drawn0.step)⟩
  · rw [if_neg c2] at H
    have c2b0 : (a0 == 3) = false := beq_eq_false_iff_ne.mpr c2
    have c2b1 : (a0 != 3) = true := bne_iff_ne.mpr c2
    obtain rfl := Option.some.inj H
    go_enter Try.func22, Try.ntmps22
    go_wp2
    go_ret
    exact ⟨by first | rfl | (simp; done) | (simp [*]; done), by repeat (first | exact Drawn0.refl _ | apply Drawn0.step)⟩

end Go.Proofs.Ytagcloidicnhhaa.Print
