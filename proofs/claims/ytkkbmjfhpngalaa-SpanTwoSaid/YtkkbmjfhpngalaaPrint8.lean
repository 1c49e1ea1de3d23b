-- Laid by wip/print/bprint.py of this repo, over the kit's printer, with functions given by hand; not trusted: Lean checks it.
import Derived.Test.YtkkbmjfhpngalaaPrint0
import Derived.Test.YtkkbmjfhpngalaaPrint5
import Derived.Test.YtkkbmjfhpngalaaPrint7
import Derived.Test.YtkkbmjfhpngalaaSh
namespace Go.Proofs.Ytkkbmjfhpngalaa.Print
open Go.RowKit Go.Proofs.YtkkbmjfhpngalaaW.PrintWords Go.Proofs.YtkkbmjfhpngalaaW.PrintLast Go.Proofs.YtkkbmjfhpngalaaW.PrintMore
attribute [local go_sem] max2_int min2_int max_two min_two max_three min_three max_four min_four   -- for this text's walks alone
set_option linter.unusedVariables false
set_option linter.unusedSimpArgs false
/-! ### bocageref03_Minus: function 14 -/
def bocageref03_Minus.l0 : Nat → List (S25) → List (S25) → List (S23) → List (S25) → Int → Option ((List (S25)))
  | 0, _, _, _, _, _ => none
  | k + 1, x0, x1, x6, x7, x8 => if (wrap64 (x8 + 1)) < (x6.length : Int) then (if 0 ≤ x8 then (if x8 < (x6.length : Int) then ((bocageref02_Next.f k ((rd_T23 x6 x8).f0) ((rd_T23 x6 x8).f1)).bind fun bt198 => ((bocageref03_Any.f k x0 bt198.1).bind fun t200 => (if t200 = true then ((bocageref03_Any.f k x1 bt198.1).bind fun t201 => (if t201 = true then (bocageref03_Minus.l0 k x0 x1 x6 x7 (wrap64 (x8 + 1))) else (if 0 ≤ (wrap64 (x8 + 1)) then (if x7.length < 4398046511104 then (bocageref03_Minus.l0 k x0 x1 x6 (x7 ++ [(⟨(⟨(rd_T23 x6 x8).f0, (rd_T23 x6 x8).f1⟩ : S23), (⟨(rd_T23 x6 (wrap64 (x8 + 1))).f0, (rd_T23 x6 (wrap64 (x8 + 1))).f1⟩ : S23)⟩ : S25)]) (wrap64 (x8 + 1))) else (none)) else (none)))) else (bocageref03_Minus.l0 k x0 x1 x6 x7 (wrap64 (x8 + 1)))))) else (none)) else (none)) else ((bocageref03_List.f k x7).bind fun t194 => (some t194))
def bocageref03_Minus.f (k : Nat) (l0 : List (S25)) (l1 : List (S25)) : Option ((List (S25))) := (some (([] : List (S25)) : List (S25))).bind fun y182 => (if y182.length + l0.length < 4398046511104 then ((some (y182 ++ l0 : List (S25))).bind fun y185 => (if y185.length + l1.length < 4398046511104 then ((bocageref03_Cuts.f k (y185 ++ l1)).bind fun t191 => (bocageref03_Minus.l0 k l0 l1 t191 ([] : List (S25)) 0)) else (none))) else (none))
theorem bocageref03_Minus.mono_l : ∀ k, (∀ y0 y1 y2 y3 y4, LeO (bocageref03_Minus.l0 k y0 y1 y2 y3 y4) (bocageref03_Minus.l0 (k + 1) y0 y1 y2 y3 y4))
  | 0 => fun _ _ _ _ _ r h => by simp [bocageref03_Minus.l0] at h
  | k + 1 => by
    have ih0 := bocageref03_Minus.mono_l k
    · intro y0 y1 y2 y3 y4
      unfold bocageref03_Minus.l0
      repeat' first
      | (with_reducible exact ih0 _ _ _ _ _)
      | (with_reducible exact bocageref02_Next.mono _ _ _)
      | (with_reducible exact bocageref03_Any.mono _ _ _)
      | (with_reducible exact bocageref03_Cuts.mono _ _)
      | (with_reducible exact bocageref03_List.mono _ _)
      | (with_reducible exact LeO.refl _)
      | (with_reducible exact LeO.none _)
      | (with_reducible refine LeO.ite ?_ ?_)
      | (with_reducible refine LeO.bind ?_ (fun _ => ?_))
      | exact ih0 _ _ _ _ _
      | exact bocageref02_Next.mono _ _ _
      | exact bocageref03_Any.mono _ _ _
      | exact bocageref03_Cuts.mono _ _
      | exact bocageref03_List.mono _ _
      | exact LeO.none _
      | refine LeO.ite ?_ ?_
      | refine LeO.bind ?_ (fun _ => ?_)
theorem bocageref03_Minus.mono : ∀ a0 a1 k, LeO (bocageref03_Minus.f k a0 a1) (bocageref03_Minus.f (k + 1) a0 a1) := by
  intro a0 a1 k
  have ih0 := bocageref03_Minus.mono_l k
  unfold bocageref03_Minus.f
  repeat' first
      | (with_reducible exact ih0 _ _ _ _ _)
      | (with_reducible exact bocageref02_Next.mono _ _ _)
      | (with_reducible exact bocageref03_Any.mono _ _ _)
      | (with_reducible exact bocageref03_Cuts.mono _ _)
      | (with_reducible exact bocageref03_List.mono _ _)
      | (with_reducible exact LeO.refl _)
      | (with_reducible exact LeO.none _)
      | (with_reducible refine LeO.ite ?_ ?_)
      | (with_reducible refine LeO.bind ?_ (fun _ => ?_))
      | exact ih0 _ _ _ _ _
      | exact bocageref02_Next.mono _ _ _
      | exact bocageref03_Any.mono _ _ _
      | exact bocageref03_Cuts.mono _ _
      | exact bocageref03_List.mono _ _
      | exact LeO.none _
      | refine LeO.ite ?_ ?_
      | refine LeO.bind ?_ (fun _ => ?_)
def bocageref03_Minus.T9 : Bool × List (List Nat × List Nat) := (true, [([], []), ([], []), ([], []), ([1, 2], [1, 2]), ([3], [3]), ([], []), ([], []), ([6], [6]), ([5, 7], [5, 7]), ([8], [8]), ([4, 9], [4, 9]), ([10], [10]), ([0, 11], [0, 11]), ([12, 12, 0, 1, 2, 3, 4, 5, 6, 7, 8, 9, 10, 11, 12], [0, 12])])
def bocageref03_Minus.B9 : List Nat := [0, 0, 0, 6, 14, 0, 0, 64, 224, 480, 1022, 2046, 4095, 8191]
theorem bocageref03_Minus.tab9 : rtab .any (opsOf Try.f14 9) = bocageref03_Minus.T9 := by kernel_rfl
theorem bocageref03_Minus.bits9 : waitsOk bocageref03_Minus.T9.2 bocageref03_Minus.B9 = true := by kernel_rfl
set_option maxHeartbeats 8000000 in
set_option maxRecDepth 100000 in
theorem bocageref03_Minus.calls (k : Nat) (A0 : Option Addr) (c0 : Nat) (l0 : List (S25)) (A1 : Option Addr) (c1 : Nat) (l1 : List (S25)) (r : List (S25)) (w : World) (hr0 : Kd.C k25 w A0 l0.length l0) (hc0 : l0.length ≤ c0) (hr1 : Kd.C k25 w A1 l1.length l1) (hc1 : l1.length ≤ c1) (h : bocageref03_Minus.f k l0 l1 = some r) :
    Calls Try.prog 14 #[.slice A0 l0.length c0, .slice A1 l1.length c1] w fun e w' => ∃ v0_ : Value, e = .returned (v0_) ∧ Kd.R k25 25 w' w.heap.size (fun _ => True) v0_ r ∧ Below w.heap.size w w' := by
  have hu23 := Try.underlying23
  have hu25 := Try.underlying25
  have HR0 := Aside0.mk hr0
  have HC0 := Aside0.mk hc0
  clear hr0 hc0
  have HR1 := Aside0.mk hr1
  have HC1 := Aside0.mk hc1
  clear hr1 hc1
  have HB := Aside0.mk (Below.refl w.heap.size w)
  have H : ((some (([] : List (S25)) : List (S25))).bind fun y182 => (if y182.length + l0.length < 4398046511104 then ((some (y182 ++ l0 : List (S25))).bind fun y185 => (if y185.length + l1.length < 4398046511104 then ((bocageref03_Cuts.f k (y185 ++ l1)).bind fun t191 => (bocageref03_Minus.l0 k l0 l1 t191 ([] : List (S25)) 0)) else (none))) else (none))) = some r := h
  clear h
  obtain ⟨y182, hy182⟩ : ∃ y_ : List (S25), y_ = (([] : List (S25))) := ⟨_, rfl⟩
  replace H : (if y182.length + l0.length < 4398046511104 then ((some (y182 ++ l0 : List (S25))).bind fun y185 => (if y185.length + l1.length < 4398046511104 then ((bocageref03_Cuts.f k (y185 ++ l1)).bind fun t191 => (bocageref03_Minus.l0 k l0 l1 t191 ([] : List (S25)) 0)) else (none))) else (none)) = some r := by first | (rw [hy182]; with_reducible exact H) | (have H2_ := (Option.bind_some _ _).symm.trans H; rw [hy182]; with_reducible exact H2_) | (have H2_ := (Option.bind_some _ _).symm.trans H; with_reducible exact H2_) | with_reducible exact H | (rw [hy182]; exact H) | exact H
  have Ny182 := Aside0.mk hy182
  clear hy182
  by_cases c3 : y182.length + l0.length < 4398046511104
  · rw [if_pos c3] at H
    have LMc3 := Aside0.mk c3
    clear c3
    obtain ⟨y185, hy185⟩ : ∃ y_ : List (S25), y_ = (y182 ++ l0) := ⟨_, rfl⟩
    replace H : (if y185.length + l1.length < 4398046511104 then ((bocageref03_Cuts.f k (y185 ++ l1)).bind fun t191 => (bocageref03_Minus.l0 k l0 l1 t191 ([] : List (S25)) 0)) else (none)) = some r := by first | (rw [hy185]; with_reducible exact H) | (have H2_ := (Option.bind_some _ _).symm.trans H; rw [hy185]; with_reducible exact H2_) | (have H2_ := (Option.bind_some _ _).symm.trans H; with_reducible exact H2_) | with_reducible exact H | (rw [hy185]; exact H) | exact H
    have Ny185 := Aside0.mk hy185
    clear hy185
    by_cases c4 : y185.length + l1.length < 4398046511104
    · rw [if_pos c4] at H
      have LMc4 := Aside0.mk c4
      clear c4
      obtain ⟨y188, hy188⟩ : ∃ y_ : List (S25), y_ = (y185 ++ l1) := ⟨_, rfl⟩
      replace H : ((bocageref03_Cuts.f k y188).bind fun t191 => (bocageref03_Minus.l0 k l0 l1 t191 ([] : List (S25)) 0)) = some r := by first | (rw [hy188]; with_reducible exact H) | (have H2_ := (Option.bind_some _ _).symm.trans H; rw [hy188]; with_reducible exact H2_) | (have H2_ := (Option.bind_some _ _).symm.trans H; with_reducible exact H2_) | with_reducible exact H | (rw [hy188]; exact H) | exact H
      have Ny188 := Aside0.mk hy188
      clear hy188
      replace H := Option.bind_eq_some_iff.mp H
      obtain ⟨t191, A50, H⟩ := H
      (try (set_option simprocs false in dsimp only at H))
      have A5 := Aside0.mk A50
      clear A50
      have H' := Aside0.mk H
      clear H
      go_enter Try.func14, Try.ntmps14
      go_wp2_with (first | ((with_reducible refine gate_dst (N := 11) rfl ?_); refine Kd.R_lit k25 _ 25 ?hg (N := 11) ?hd (xs := ([] : List (S25))) (inner := []) (ok := fun _ => True) (okp := fun _ => True) ?hr ?hp (fun _ hk => hk) trivial (Below.refl _ _) (Nat.le_refl _) (by simp) ?_; (case hd => rfl); (case hg => rfl); (case hr => first | (go_simp; done) | (go_simp; rfl)); (case hp => exact (Reps.none _ _)); intro v183 w6 ho7 hb hg_ hnew_; clear hg_ hnew_; (first | rw [← Ny182.out] at ho7 | (simp only [Int.reduceToNat] at ho7; rw [← Ny182.out] at ho7)); have HO184 := Aside0.mk (Kd.R_lower ho7 (below_size (bl HB))); replace HB := bst HB hb; clear hb ho7) | ((with_reducible refine gate_builtin (b := .append) (xs := #[.tmp 11, .tmp 12]) rfl ?_); at_builtin; refine Kd.R_append_rows k25 (w0 := w) w.heap.size rfl (.tmp 11) (.tmp 12) 26 25 (.agg #[(.int .i64 0), (.int .i64 0), (.int .i64 0), (.int .i64 0)]) 32 rfl Try.underlying26 info25 rfl (by decide) (by omega) v183 y182 l0 _ _ _ (fun _ => True) (fun _ => False) rfl rfl ?aO ?aR (fun _ _ h => h) (fun _ h => h.elim) ?aF ?aB ?aS ?aL ?_; (case aR => repeat (first | exact (Kd.C_below HR0.out HB.out) | (with_reducible refine Kd.C_alloc ?_ _) | (with_reducible refine Kd.C_drewN ?_ _) | (with_reducible refine Kd.C_drew ?_))); (case aB => exact (bl HB)); (case aF => exact (fun _ _ => trivial)); (case aO => exact (kr HO184)); (case aS => exact (below_size (bl HB))); (case aL => have := LMc3.out; omega); intro v186 w8 ho hb hg hat; rw [← Ny185.out] at ho; replace HB := Aside0.mk (hb); have HO187 := Aside0.mk (ho); clear HO184; clear ho hb hg hat) | ((with_reducible refine gate_builtin (b := .append) (xs := #[.tmp 14, .tmp 15]) rfl ?_); at_builtin; refine Kd.R_append_rows k25 (w0 := w) w.heap.size rfl (.tmp 14) (.tmp 15) 26 25 (.agg #[(.int .i64 0), (.int .i64 0), (.int .i64 0), (.int .i64 0)]) 32 rfl Try.underlying26 info25 rfl (by decide) (by omega) v186 y185 l1 _ _ _ (fun _ => True) (fun _ => False) rfl rfl ?aO ?aR (fun _ _ h => h) (fun _ h => h.elim) ?aF ?aB ?aS ?aL ?_; (case aR => repeat (first | exact (Kd.C_below HR1.out HB.out) | (with_reducible refine Kd.C_alloc ?_ _) | (with_reducible refine Kd.C_drewN ?_ _) | (with_reducible refine Kd.C_drew ?_))); (case aB => exact (bl HB)); (case aF => exact (fun _ _ => trivial)); (case aO => exact (kr HO187)); (case aS => exact (below_size (bl HB))); (case aL => have := LMc4.out; omega); intro v189 w9 ho hb hg hat; rw [← Ny188.out] at ho; replace HB := Aside0.mk (hb); have HO190 := Aside0.mk (ho); clear HO187; clear ho hb hg hat; obtain ⟨Ao10, co10, eo10⟩ := Kd.R_slice HO190.out; subst eo10) | ((with_reducible refine gate_callee (f := 50) rfl ?_); refine gol (some 17) Try.func50 #[.slice Ao10 y188.length co10] ?_; (with_reducible refine (bocageref03_Cuts.calls k _ _ y188 t191 _ ?side1 ?side2 A5.out).mono ?_); (case side1 => repeat (first | exact (Kd.R_reads' HO190.out).2.2 | (with_reducible refine Kd.C_alloc ?_ _) | (with_reducible refine Kd.C_drewN ?_ _) | (with_reducible refine Kd.C_drew ?_))); (case side2 => exact (Kd.R_reads' HO190.out).2.1); rintro e w11 ⟨v192, rfl, ho0, hb⟩; refine ⟨_, rfl, ?_⟩; replace HO190 := krb HO190 hb; have HO193 := Aside0.mk (Kd.R_lower ho0 (below_size (bl HB))); replace HB := bst HB hb; (try clear hb); (try clear hb2); (try clear hk); (try clear hi); (try clear ho0)))
      go_loopg [7, 8] k (fun kq v7 v8 w' => ∃ (x7_1 : List (S25)) (x8_1 : Int), v8 = .int .i64 x8_1 ∧ Aside0 (bocageref03_Minus.l0 kq l0 l1 t191 x7_1 x8_1 = some r) ∧ Aside0 (kq ≤ k) ∧ Aside0 (Kd.R k23 23 w' w.heap.size (fun _ => True) v192 t191) ∧ Aside0 (Kd.R k25 25 w' w.heap.size (fun _ => True) v7 x7_1) ∧ Aside0 (Below w.heap.size w w'))
      case atStart => exact ⟨(([] : List (S25))), (0), (by first | rfl | (simp; done) | (simp [*]; done)), H', ⟨Nat.le_refl _⟩, ⟨kr HO193⟩, ⟨by first | exact Kd.R_nil _ _ _ _ _ | exact Kd.N_nil _ _ _ _ _ | exact Kd.V_nil _ _ _ _ _ | exact Kd.Q_nil _ _ _ _ _ | exact Kd.S_nil _ _ _ _ _⟩, ⟨bl HB⟩⟩
      case round =>
        clear H'
        try clear c1
        try clear p2
        try clear c3
        try clear c4
        try clear c5
        obtain ⟨x7_1, x8_1, rfl, HA, HK1, HO_6, HO_7, HB⟩ := hrel
        cases gk with
        | zero => exact absurd HA.out (by simp [bocageref03_Minus.l0])
        | succ k1 =>
          have H := HA.out
          clear HA
          simp only [bocageref03_Minus.l0] at H
          by_cases c12 : (wrap64 (x8_1 + 1)) < (t191.length : Int)
          · rw [if_pos c12] at H
            have c12b0 : decide ((wrap64 (x8_1 + 1)) < (t191.length : Int)) = true := decide_eq_true c12
            clear c12
            by_cases c13 : 0 ≤ x8_1
            · rw [if_pos c13] at H
              have c13b0 : decide (0 ≤ x8_1) = true := decide_eq_true c13
              clear c13
              by_cases c14 : x8_1 < (t191.length : Int)
              · rw [if_pos c14] at H
                have c14b0 : decide (x8_1 < (t191.length : Int)) = true := decide_eq_true c14
                clear c14
                replace H := Option.bind_eq_some_iff.mp H
                obtain ⟨⟨t198, t199⟩, A150, H⟩ := H
                (try (set_option simprocs false in dsimp only at H))
                have A15 := Aside0.mk A150
                clear A150
                replace H := Option.bind_eq_some_iff.mp H
                obtain ⟨t200, A160, H⟩ := H
                (try (set_option simprocs false in dsimp only at H))
                have A16 := Aside0.mk A160
                clear A160
                by_cases c17 : t200 = true
                · subst c17
                  have H1 : ((bocageref03_Any.f k1 l1 t198).bind fun t201 => (if t201 = true then (bocageref03_Minus.l0 k1 l0 l1 t191 x7_1 (wrap64 (x8_1 + 1))) else (if 0 ≤ (wrap64 (x8_1 + 1)) then (if x7_1.length < 4398046511104 then (bocageref03_Minus.l0 k1 l0 l1 t191 (x7_1 ++ [(⟨(⟨(rd_T23 t191 x8_1).f0, (rd_T23 t191 x8_1).f1⟩ : S23), (⟨(rd_T23 t191 (wrap64 (x8_1 + 1))).f0, (rd_T23 t191 (wrap64 (x8_1 + 1))).f1⟩ : S23)⟩ : S25)]) (wrap64 (x8_1 + 1))) else (none)) else (none)))) = some r := by rw [if_pos rfl] at H; exact H
                  clear H
                  have H := H1
                  clear H1
                  replace H := Option.bind_eq_some_iff.mp H
                  obtain ⟨t201, A180, H⟩ := H
                  (try (set_option simprocs false in dsimp only at H))
                  have A18 := Aside0.mk A180
                  clear A180
                  by_cases c19 : t201 = true
                  · subst c19
                    have H1 : (bocageref03_Minus.l0 k1 l0 l1 t191 x7_1 (wrap64 (x8_1 + 1))) = some r := by rw [if_pos rfl] at H; exact H
                    clear H
                    have H := H1
                    clear H1
                    have H' := Aside0.mk H
                    clear H
                    obtain ⟨Ao20, co20, eo20⟩ := Kd.R_slice HO_6.out
                    subst eo20
                    have p197 : 0 ≤ (x8_1 : Int) := of_decide_eq_true (by first | (with_reducible assumption) | assumption)
                    have q197 : x8_1 < (t191.length : Int) := of_decide_eq_true (by first | (with_reducible assumption) | assumption)
                    obtain ⟨ad197, e197, hx197_0, hx197_1⟩ := at_T23 (Kd.R_reads' HO_6.out).2.2 x8_1 p197 q197
                    cases e197
                    replace p197 := eq_true p197
                    replace q197 := eq_true q197
                    go_wp2_with (first | ((with_reducible refine gate_callee (f := 32) rfl ?_); refine gol (some 30) Try.func32 #[.agg #[.int .i64 ((rd_T23 t191 x8_1).f0), .int .i64 ((rd_T23 t191 x8_1).f1)]] ?_; (with_reducible refine (bocageref02_Next.calls k1 ((rd_T23 t191 x8_1).f0) ((rd_T23 t191 x8_1).f1) t198 t199 _ A15.out).mono ?_); rintro e w21 ⟨rfl, hb⟩; refine ⟨_, rfl, ?_⟩; replace HO_6 := krb HO_6 hb; replace HO_7 := krb HO_7 hb; replace HB := bst HB hb; (try clear hb); (try clear hb2); (try clear hk); (try clear hi)) | ((with_reducible refine gate_callee (f := 42) rfl ?_); refine gol (some 35) Try.func42 #[.slice A0 l0.length c0, .int .i64 t198] ?_; (with_reducible refine (bocageref03_Any.calls k1 _ _ l0 t198 true _ ?side1 ?side2 A16.out).mono ?_); (case side1 => repeat (first | exact (Kd.C_below HR0.out HB.out) | (with_reducible refine Kd.C_alloc ?_ _) | (with_reducible refine Kd.C_drewN ?_ _) | (with_reducible refine Kd.C_drew ?_))); (case side2 => exact HC0.out); rintro e w22 ⟨rfl, hb⟩; refine ⟨_, rfl, ?_⟩; replace HO_6 := krb HO_6 hb; replace HO_7 := krb HO_7 hb; replace HB := bst HB hb; (try clear hb); (try clear hb2); (try clear hk); (try clear hi)) | (go_at_call 42; (with_reducible refine (bocageref03_Any.calls k1 _ _ l1 t198 true _ ?side1 ?side2 A18.out).mono ?_); (case side1 => repeat (first | exact (Kd.C_below HR1.out HB.out) | (with_reducible refine Kd.C_alloc ?_ _) | (with_reducible refine Kd.C_drewN ?_ _) | (with_reducible refine Kd.C_drew ?_))); (case side2 => exact HC1.out); rintro e w23 ⟨rfl, hb⟩; replace HO_6 := krb HO_6 hb; replace HO_7 := krb HO_7 hb; replace HB := bst HB hb; (try clear hb); (try clear hb2); (try clear hk); (try clear hi)))
                    go_roundg k1
                    case measure => have := HK1.out; omega
                    case rel => exact ⟨(x7_1), (wrap64 (x8_1 + 1)), (by first | rfl | (simp; done) | (simp [*]; done)), H', ⟨by have := HK1.out; omega⟩, ⟨kr HO_6⟩, ⟨kr HO_7⟩, ⟨bl HB⟩⟩
                  · replace c19 := Bool.eq_false_iff.mpr c19
                    subst c19
                    have H1 : (if 0 ≤ (wrap64 (x8_1 + 1)) then (if x7_1.length < 4398046511104 then (bocageref03_Minus.l0 k1 l0 l1 t191 (x7_1 ++ [(⟨(⟨(rd_T23 t191 x8_1).f0, (rd_T23 t191 x8_1).f1⟩ : S23), (⟨(rd_T23 t191 (wrap64 (x8_1 + 1))).f0, (rd_T23 t191 (wrap64 (x8_1 + 1))).f1⟩ : S23)⟩ : S25)]) (wrap64 (x8_1 + 1))) else (none)) else (none)) = some r := by rw [if_neg (show ¬ (false = true) by decide)] at H; exact H
                    clear H
                    have H := H1
                    clear H1
                    obtain ⟨ji24, hji24⟩ : ∃ j_ : Int, (wrap64 (x8_1 + 1)) = j_ := ⟨_, rfl⟩
                    replace H : (if 0 ≤ (ji24) then (if x7_1.length < 4398046511104 then (bocageref03_Minus.l0 k1 l0 l1 t191 (x7_1 ++ [(⟨(⟨(rd_T23 t191 x8_1).f0, (rd_T23 t191 x8_1).f1⟩ : S23), (⟨(rd_T23 t191 (ji24)).f0, (rd_T23 t191 (ji24)).f1⟩ : S23)⟩ : S25)]) ji24) else (none)) else (none)) = some r := by first | (rw [hji24] at H; exact H) | (simp only [hji24] at H ⊢; exact H)
                    (try rw [hji24] at c12b0)
                    (try rw [hji24] at A15)
                    (try rw [hji24] at A16)
                    (try rw [hji24] at A18)
                    have hji24w : (IntKind.i64.wrap (x8_1 + 1)) = ji24 := (i64_w _).trans hji24
                    by_cases c25 : 0 ≤ (ji24)
                    · rw [if_pos c25] at H
                      have c25b0 : decide (0 ≤ (ji24)) = true := decide_eq_true c25
                      clear c25
                      by_cases c26 : x7_1.length < 4398046511104
                      · rw [if_pos c26] at H
                        have LMc26 := Aside0.mk c26
                        clear c26
                        obtain ⟨y204, hy204⟩ : ∃ y_ : List (S25), y_ = (x7_1 ++ [(⟨(⟨(rd_T23 t191 x8_1).f0, (rd_T23 t191 x8_1).f1⟩ : S23), (⟨(rd_T23 t191 (ji24)).f0, (rd_T23 t191 (ji24)).f1⟩ : S23)⟩ : S25)]) := ⟨_, rfl⟩
                        replace H : (bocageref03_Minus.l0 k1 l0 l1 t191 y204 ji24) = some r := by first | (rw [hy204]; with_reducible exact H) | (have H2_ := (Option.bind_some _ _).symm.trans H; rw [hy204]; with_reducible exact H2_) | (have H2_ := (Option.bind_some _ _).symm.trans H; with_reducible exact H2_) | with_reducible exact H | (rw [hy204]; exact H) | exact H
                        have Ny204 := Aside0.mk hy204
                        clear hy204
                        have H' := Aside0.mk H
                        clear H
                        obtain ⟨Ao27, co27, eo27⟩ := Kd.R_slice HO_6.out
                        subst eo27
                        have p197 : 0 ≤ (x8_1 : Int) := of_decide_eq_true (by first | (with_reducible assumption) | assumption)
                        have q197 : x8_1 < (t191.length : Int) := of_decide_eq_true (by first | (with_reducible assumption) | assumption)
                        obtain ⟨ad197, e197, hx197_0, hx197_1⟩ := at_T23 (Kd.R_reads' HO_6.out).2.2 x8_1 p197 q197
                        cases e197
                        replace p197 := eq_true p197
                        replace q197 := eq_true q197
                        try go_wp2_with (first | ((with_reducible refine gate_callee (f := 32) rfl ?_); refine gol (some 30) Try.func32 #[.agg #[.int .i64 ((rd_T23 t191 x8_1).f0), .int .i64 ((rd_T23 t191 x8_1).f1)]] ?_; (with_reducible refine (bocageref02_Next.calls k1 ((rd_T23 t191 x8_1).f0) ((rd_T23 t191 x8_1).f1) t198 t199 _ A15.out).mono ?_); rintro e w28 ⟨rfl, hb⟩; refine ⟨_, rfl, ?_⟩; replace HO_6 := krb HO_6 hb; replace HO_7 := krb HO_7 hb; replace HB := bst HB hb; (try clear hb); (try clear hb2); (try clear hk); (try clear hi)) | ((with_reducible refine gate_callee (f := 42) rfl ?_); refine gol (some 35) Try.func42 #[.slice A0 l0.length c0, .int .i64 t198] ?_; (with_reducible refine (bocageref03_Any.calls k1 _ _ l0 t198 true _ ?side1 ?side2 A16.out).mono ?_); (case side1 => repeat (first | exact (Kd.C_below HR0.out HB.out) | (with_reducible refine Kd.C_alloc ?_ _) | (with_reducible refine Kd.C_drewN ?_ _) | (with_reducible refine Kd.C_drew ?_))); (case side2 => exact HC0.out); rintro e w29 ⟨rfl, hb⟩; refine ⟨_, rfl, ?_⟩; replace HO_6 := krb HO_6 hb; replace HO_7 := krb HO_7 hb; replace HB := bst HB hb; (try clear hb); (try clear hb2); (try clear hk); (try clear hi)) | (go_at_call 42; (with_reducible refine (bocageref03_Any.calls k1 _ _ l1 t198 false _ ?side1 ?side2 A18.out).mono ?_); (case side1 => repeat (first | exact (Kd.C_below HR1.out HB.out) | (with_reducible refine Kd.C_alloc ?_ _) | (with_reducible refine Kd.C_drewN ?_ _) | (with_reducible refine Kd.C_drew ?_))); (case side2 => exact HC1.out); rintro e w30 ⟨rfl, hb⟩; replace HO_6 := krb HO_6 hb; replace HO_7 := krb HO_7 hb; replace HB := bst HB hb; (try clear hb); (try clear hb2); (try clear hk); (try clear hi)))
                        replace HO_6 := Aside0.mk (Kd.R_drew HO_6.out)
                        replace HO_7 := Aside0.mk (Kd.R_drew HO_7.out)
                        replace HB := Aside0.mk (below_drew1 HB.out)
                        have p202 : 0 ≤ (x8_1 : Int) := of_decide_eq_true (by first | (with_reducible assumption) | assumption)
                        have q202 : x8_1 < (t191.length : Int) := of_decide_eq_true (by first | (with_reducible assumption) | assumption)
                        obtain ⟨ad202, e202, hx202_0, hx202_1⟩ := at_T23 (Kd.R_reads' HO_6.out).2.2 x8_1 p202 q202
                        obtain rfl : ad197 = ad202 := (by injection e202)
                        replace p202 := eq_true p202
                        replace q202 := eq_true q202
                        have p203 : 0 ≤ ((ji24) : Int) := of_decide_eq_true (by first | (with_reducible assumption) | assumption)
                        have q203 : (ji24) < (t191.length : Int) := of_decide_eq_true (by first | (with_reducible assumption) | assumption)
                        obtain ⟨ad203, e203, hx203_0, hx203_1⟩ := at_T23 (Kd.R_reads' HO_6.out).2.2 (ji24) p203 q203
                        obtain rfl : ad197 = ad203 := (by injection e203)
                        replace p203 := eq_true p203
                        replace q203 := eq_true q203
                        refine start_ (n := 14) (S := fun w' => w'.cell? (ad197.add ((x8_1).toNat * 2)) = some (.int .i64 ((rd_T23 t191 x8_1).f0)) ∧ w'.cell? ⟨(ad197.add ((x8_1).toNat * 2)).block, (ad197.add ((x8_1).toNat * 2)).off + 1, none⟩ = some (.int .i64 ((rd_T23 t191 x8_1).f1)) ∧ w'.cell? (ad197.add (((ji24)).toNat * 2)) = some (.int .i64 ((rd_T23 t191 (ji24)).f0)) ∧ w'.cell? ⟨(ad197.add (((ji24)).toNat * 2)).block, (ad197.add (((ji24)).toNat * 2)).off + 1, none⟩ = some (.int .i64 ((rd_T23 t191 (ji24)).f1))) (ds := [11, 12]) #[false, false, false, false, false, false, false, false, false, false, false, false, false, false] (by kernel_rfl) rfl rfl ⟨hx202_0, hx202_1, hx203_0, hx203_1⟩ (fun hHeld => ?_); refine with_tabW bocageref03_Minus.tab9 bocageref03_Minus.bits9 (fun HT_ HW_ => ?_)
                        generalize w30.drew = w31 at HO_6 HO_7 HB hx202_0 hx202_1 hx203_0 hx203_1 hHeld ⊢
                        refine pu 0 (some 42) #[true, false, false, false, false, false, false, false, false, false, false, false, false, false] (any_of HT_.out (by kernel_rfl)) ?_
                        refine pu 1 (some 43) #[true, true, false, false, false, false, false, false, false, false, false, false, false, false] (any_of HT_.out (by kernel_rfl)) ?_
                        refine pu 2 (some 44) #[true, true, true, false, false, false, false, false, false, false, false, false, false, false] (any_of HT_.out (by kernel_rfl)) ?_
                        refine pu 3 (some 45) #[true, true, true, true, false, false, false, false, false, false, false, false, false, false] (any_of HT_.out (by kernel_rfl)) ?_
                        refine pu 5 (some 47) #[true, true, true, true, false, true, false, false, false, false, false, false, false, false] (any_of HT_.out (by kernel_rfl)) ?_
                        refine pu 6 (some 48) #[true, true, true, true, false, true, true, false, false, false, false, false, false, false] (any_of HT_.out (by kernel_rfl)) ?_
                        refine pu 7 (some 49) #[true, true, true, true, false, true, true, true, false, false, false, false, false, false] (any_of HT_.out (by kernel_rfl)) ?_
                        refine pu 8 (some 50) #[true, true, true, true, false, true, true, true, true, false, false, false, false, false] (any_of HT_.out (by kernel_rfl)) ?_
                        refine tk4 4 (some 46) #[true, true, true, true, true, true, true, true, true, false, false, false, false, false] (take_ofW HT_.out HW_.out (by kernel_rfl)) hHeld ?_
                        refine tk4 9 (some 51) #[true, true, true, true, true, true, true, true, true, true, false, false, false, false] (take_ofW HT_.out HW_.out (by kernel_rfl)) hHeld ?_
                        refine pu 10 (some 52) #[true, true, true, true, true, true, true, true, true, true, true, false, false, false] (any_of HT_.out (by kernel_rfl)) ?_
                        refine last_ (i := 11) (N := some 53) #[true, true, true, true, true, true, true, true, true, true, true, true, false, false] rfl rfl (one_of HT_.out (by kernel_rfl)) (by decide) (fun K hK => ?_)
                        refine value_ (w1 := ?_) (v := ?_) (by rfl) rfl ?_ ?_
                        rotate_left 2
                        · go_simp
                          constructor
                          · rfl
                          · rfl
                        refine hK.out _ _ ?_
                        clear hK K
                        refine nrp 53 ?_
                        refine last_ (i := 12) (N := some 54) #[true, true, true, true, true, true, true, true, true, true, true, true, true, false] rfl rfl (one_of HT_.out (by kernel_rfl)) (by decide) (fun K hK => ?_)
                        refine Kd.R_append_step k25 (w0 := w) w.heap.size (by rfl) (.tmp 42) (.tmp 53) 26 25 (.agg #[(.int .i64 0), (.int .i64 0), (.int .i64 0), (.int .i64 0)]) 32 rfl Try.underlying26 info25 rfl (by decide) (by omega) u7 x7_1 (⟨(⟨(rd_T23 t191 x8_1).f0, (rd_T23 t191 x8_1).f1⟩ : S23), (⟨(rd_T23 t191 (ji24)).f0, (rd_T23 t191 (ji24)).f1⟩ : S23)⟩ : S25) [.int .i64 ((rd_T23 t191 x8_1).f0), .int .i64 ((rd_T23 t191 x8_1).f1), .int .i64 ((rd_T23 t191 (ji24)).f0), .int .i64 ((rd_T23 t191 (ji24)).f1)] (fun _ => True) (fun _ => False) rfl rfl ?aP (fun _ hk => hk.elim) ?aF ?aO ?aB ?aS ?aL ?_
                        (case aP => exact k25_mkM _ _ _ (⟨(⟨(rd_T23 t191 x8_1).f0, (rd_T23 t191 x8_1).f1⟩ : S23), (⟨(rd_T23 t191 (ji24)).f0, (rd_T23 t191 (ji24)).f1⟩ : S23)⟩ : S25))
                        (case aB => exact (bl HB))
                        (case aF => exact (fun _ _ => trivial))
                        (case aO => exact (kr HO_7))
                        (case aS => exact (below_size (bl HB)))
                        (case aL => have := LMc26.out; omega)
                        intro v205 w32 ho hb hg hat
                        rw [← Ny204.out] at ho
                        replace HO_6 := Aside0.mk (Kd.R_over' (kr HO_6) (Kd.R_typed (kr HO_7)) (by decide) hg)
                        replace HB := Aside0.mk (hb)
                        have HO206 := Aside0.mk (ho)
                        clear HO_7
                        clear ho hb hg hat
                        refine hK.out _ _ ?_
                        clear hK K
                        refine nrp 54 ?_
                        refine pu 13 (some 7) #[true, true, true, true, true, true, true, true, true, true, true, true, true, true] (any_of HT_.out (by kernel_rfl)) ?_
                        refine done_ (done_of HT_.out (by kernel_rfl)) ?_
                        try go_wp2
                        go_roundg k1
                        case measure => have := HK1.out; omega
                        case rel => exact ⟨(y204), (ji24), (by first | rfl | (simp; done) | (simp only [← hji24] <;> (first | rfl | simp)) | (simp [*]; done)), H', ⟨by have := HK1.out; omega⟩, ⟨kr HO_6⟩, ⟨kr HO206⟩, ⟨bl HB⟩⟩
                      · rw [if_neg c26] at H
                        exact absurd H (by simp)
                    · rw [if_neg c25] at H
                      exact absurd H (by simp)
                · replace c17 := Bool.eq_false_iff.mpr c17
                  subst c17
                  have H1 : (bocageref03_Minus.l0 k1 l0 l1 t191 x7_1 (wrap64 (x8_1 + 1))) = some r := by rw [if_neg (show ¬ (false = true) by decide)] at H; exact H
                  clear H
                  have H := H1
                  clear H1
                  have H' := Aside0.mk H
                  clear H
                  obtain ⟨Ao33, co33, eo33⟩ := Kd.R_slice HO_6.out
                  subst eo33
                  have p197 : 0 ≤ (x8_1 : Int) := of_decide_eq_true (by first | (with_reducible assumption) | assumption)
                  have q197 : x8_1 < (t191.length : Int) := of_decide_eq_true (by first | (with_reducible assumption) | assumption)
                  obtain ⟨ad197, e197, hx197_0, hx197_1⟩ := at_T23 (Kd.R_reads' HO_6.out).2.2 x8_1 p197 q197
                  cases e197
                  replace p197 := eq_true p197
                  replace q197 := eq_true q197
                  go_wp2_with (first | ((with_reducible refine gate_callee (f := 32) rfl ?_); refine gol (some 30) Try.func32 #[.agg #[.int .i64 ((rd_T23 t191 x8_1).f0), .int .i64 ((rd_T23 t191 x8_1).f1)]] ?_; (with_reducible refine (bocageref02_Next.calls k1 ((rd_T23 t191 x8_1).f0) ((rd_T23 t191 x8_1).f1) t198 t199 _ A15.out).mono ?_); rintro e w34 ⟨rfl, hb⟩; refine ⟨_, rfl, ?_⟩; replace HO_6 := krb HO_6 hb; replace HO_7 := krb HO_7 hb; replace HB := bst HB hb; (try clear hb); (try clear hb2); (try clear hk); (try clear hi)) | ((with_reducible refine gate_callee (f := 42) rfl ?_); refine gol (some 35) Try.func42 #[.slice A0 l0.length c0, .int .i64 t198] ?_; (with_reducible refine (bocageref03_Any.calls k1 _ _ l0 t198 false _ ?side1 ?side2 A16.out).mono ?_); (case side1 => repeat (first | exact (Kd.C_below HR0.out HB.out) | (with_reducible refine Kd.C_alloc ?_ _) | (with_reducible refine Kd.C_drewN ?_ _) | (with_reducible refine Kd.C_drew ?_))); (case side2 => exact HC0.out); rintro e w35 ⟨rfl, hb⟩; refine ⟨_, rfl, ?_⟩; replace HO_6 := krb HO_6 hb; replace HO_7 := krb HO_7 hb; replace HB := bst HB hb; (try clear hb); (try clear hb2); (try clear hk); (try clear hi)))
                  go_roundg k1
                  case measure => have := HK1.out; omega
                  case rel => exact ⟨(x7_1), (wrap64 (x8_1 + 1)), (by first | rfl | (simp; done) | (simp [*]; done)), H', ⟨by have := HK1.out; omega⟩, ⟨kr HO_6⟩, ⟨kr HO_7⟩, ⟨bl HB⟩⟩
              · rw [if_neg c14] at H
                exact absurd H (by simp)
            · rw [if_neg c13] at H
              exact absurd H (by simp)
          · rw [if_neg c12] at H
            have c12b0 : decide ((wrap64 (x8_1 + 1)) < (t191.length : Int)) = false := decide_eq_false c12
            clear c12
            replace H := Option.bind_eq_some_iff.mp H
            obtain ⟨t194, A360, H⟩ := H
            (try (set_option simprocs false in dsimp only at H))
            have A36 := Aside0.mk A360
            clear A360
            obtain rfl := Option.some.inj H
            obtain ⟨Ao37, co37, eo37⟩ := Kd.R_slice HO_6.out
            subst eo37
            obtain ⟨Ao38, co38, eo38⟩ := Kd.R_slice HO_7.out
            subst eo38
            go_wp2_with (first | ((with_reducible refine gate_callee (f := 15) rfl ?_); refine gol (some 56) Try.func15 #[.slice Ao38 x7_1.length co38] ?_; (with_reducible refine (bocageref03_List.calls k1 _ _ x7_1 t194 _ ?side1 ?side2 A36.out).mono ?_); (case side1 => repeat (first | exact (Kd.R_reads' HO_7.out).2.2 | (with_reducible refine Kd.C_alloc ?_ _) | (with_reducible refine Kd.C_drewN ?_ _) | (with_reducible refine Kd.C_drew ?_))); (case side2 => exact (Kd.R_reads' HO_7.out).2.1); rintro e w39 ⟨v195, rfl, ho0, hb⟩; refine ⟨_, rfl, ?_⟩; replace HO_6 := krb HO_6 hb; have HO196 := Aside0.mk (Kd.R_lower (Kd.R_new' ho0 (Kd.R_lt (kr HO_7))) (below_size (bl HB))); replace HO_7 := Aside0.mk (Kd.R_elder' (kr HO_7) (Kd.R_base ho0) hb); replace HB := bst HB hb; (try clear hb); (try clear hb2); (try clear hk); (try clear hi); (try clear ho0)))
            go_ret
            exact ⟨_, by first | rfl | (simp [errW_none, errW_some] <;> rfl) | (simp [*, errW_none, errW_some] <;> rfl), by (with_reducible repeat (first | apply Kd.R_alloc | apply Kd.R_drewN | apply Kd.R_drew)); exact Kd.R_mono HO196.out (fun _ hk => trivial), by repeat (first | (with_reducible first | exact HB.out | apply below_alloc | apply pw_below_drewN | apply below_drew1) | exact HB.out)⟩
    · rw [if_neg c4] at H
      exact absurd H (by simp)
  · rw [if_neg c3] at H
    exact absurd H (by simp)
/-! ### bocageref03_Meet: function 9 -/
def bocageref03_Meet.f (k : Nat) (l0 : List (S25)) (l1 : List (S25)) : Option ((List (S25))) := (bocageref03_Minus.f k l0 l1).bind fun t207 => ((bocageref03_Minus.f k l0 t207).bind fun t210 => (some t210))
theorem bocageref03_Meet.mono : ∀ a0 a1 k, LeO (bocageref03_Meet.f k a0 a1) (bocageref03_Meet.f (k + 1) a0 a1) := by
  intro a0 a1 k
  unfold bocageref03_Meet.f
  repeat' first
      | (with_reducible exact bocageref03_Minus.mono _ _ _)
      | (with_reducible exact LeO.refl _)
      | (with_reducible exact LeO.none _)
      | (with_reducible refine LeO.ite ?_ ?_)
      | (with_reducible refine LeO.bind ?_ (fun _ => ?_))
      | exact bocageref03_Minus.mono _ _ _
      | exact LeO.none _
      | refine LeO.ite ?_ ?_
      | refine LeO.bind ?_ (fun _ => ?_)
set_option maxHeartbeats 8000000 in
set_option maxRecDepth 100000 in
theorem bocageref03_Meet.calls (k : Nat) (A0 : Option Addr) (c0 : Nat) (l0 : List (S25)) (A1 : Option Addr) (c1 : Nat) (l1 : List (S25)) (r : List (S25)) (w : World) (hr0 : Kd.C k25 w A0 l0.length l0) (hc0 : l0.length ≤ c0) (hr1 : Kd.C k25 w A1 l1.length l1) (hc1 : l1.length ≤ c1) (h : bocageref03_Meet.f k l0 l1 = some r) :
    Calls Try.prog 9 #[.slice A0 l0.length c0, .slice A1 l1.length c1] w fun e w' => ∃ v0_ : Value, e = .returned (v0_) ∧ Kd.R k25 25 w' w.heap.size (fun _ => True) v0_ r ∧ Below w.heap.size w w' := by
  have HR0 := Aside0.mk hr0
  have HC0 := Aside0.mk hc0
  clear hr0 hc0
  have HR1 := Aside0.mk hr1
  have HC1 := Aside0.mk hc1
  clear hr1 hc1
  have HB := Aside0.mk (Below.refl w.heap.size w)
  have H : ((bocageref03_Minus.f k l0 l1).bind fun t207 => ((bocageref03_Minus.f k l0 t207).bind fun t210 => (some t210))) = some r := h
  clear h
  replace H := Option.bind_eq_some_iff.mp H
  obtain ⟨t207, A30, H⟩ := H
  (try (set_option simprocs false in dsimp only at H))
  have A3 := Aside0.mk A30
  clear A30
  replace H := Option.bind_eq_some_iff.mp H
  obtain ⟨t210, A40, H⟩ := H
  (try (set_option simprocs false in dsimp only at H))
  have A4 := Aside0.mk A40
  clear A40
  obtain rfl := Option.some.inj H
  go_enter Try.func9, Try.ntmps9
  go_wp2_with (first | ((with_reducible refine gate_callee (f := 14) rfl ?_); refine gol (some 8) Try.func14 #[.slice A0 l0.length c0, .slice A1 l1.length c1] ?_; (with_reducible refine (bocageref03_Minus.calls k _ _ l0 _ _ l1 t207 _ ?side1 ?side2 ?side3 ?side4 A3.out).mono ?_); (case side1 => repeat (first | exact HR0.out | (with_reducible refine Kd.C_alloc ?_ _) | (with_reducible refine Kd.C_drewN ?_ _) | (with_reducible refine Kd.C_drew ?_))); (case side2 => exact HC0.out); (case side3 => repeat (first | exact HR1.out | (with_reducible refine Kd.C_alloc ?_ _) | (with_reducible refine Kd.C_drewN ?_ _) | (with_reducible refine Kd.C_drew ?_))); (case side4 => exact HC1.out); rintro e w5 ⟨v208, rfl, ho0, hb⟩; refine ⟨_, rfl, ?_⟩; have HO209 := Aside0.mk (Kd.R_lower ho0 (below_size (bl HB))); replace HB := bst HB hb; (try clear hb); (try clear hb2); (try clear hk); (try clear hi); (try clear ho0); obtain ⟨Ao6, co6, eo6⟩ := Kd.R_slice HO209.out; subst eo6) | ((with_reducible refine gate_callee (f := 14) rfl ?_); refine gol (some 9) Try.func14 #[.slice A0 l0.length c0, .slice Ao6 t207.length co6] ?_; (with_reducible refine (bocageref03_Minus.calls k _ _ l0 _ _ t207 t210 _ ?side1 ?side2 ?side3 ?side4 A4.out).mono ?_); (case side1 => repeat (first | exact (Kd.C_below HR0.out HB.out) | (with_reducible refine Kd.C_alloc ?_ _) | (with_reducible refine Kd.C_drewN ?_ _) | (with_reducible refine Kd.C_drew ?_))); (case side2 => exact HC0.out); (case side3 => repeat (first | exact (Kd.R_reads' HO209.out).2.2 | (with_reducible refine Kd.C_alloc ?_ _) | (with_reducible refine Kd.C_drewN ?_ _) | (with_reducible refine Kd.C_drew ?_))); (case side4 => exact (Kd.R_reads' HO209.out).2.1); rintro e w7 ⟨v211, rfl, ho0, hb⟩; refine ⟨_, rfl, ?_⟩; have HO212 := Aside0.mk (Kd.R_lower (Kd.R_new' ho0 (Kd.R_lt (kr HO209))) (below_size (bl HB))); replace HO209 := Aside0.mk (Kd.R_elder' (kr HO209) (Kd.R_base ho0) hb); replace HB := bst HB hb; (try clear hb); (try clear hb2); (try clear hk); (try clear hi); (try clear ho0)))
  go_ret
  exact ⟨_, by first | rfl | (simp [errW_none, errW_some] <;> rfl) | (simp [*, errW_none, errW_some] <;> rfl), by (with_reducible repeat (first | apply Kd.R_alloc | apply Kd.R_drewN | apply Kd.R_drew)); exact Kd.R_mono HO212.out (fun _ hk => trivial), by repeat (first | (with_reducible first | exact HB.out | apply below_alloc | apply pw_below_drewN | apply below_drew1) | exact HB.out)⟩
/-! ### bocageref03_One: function 10 -/
def bocageref03_One.f (a0_0 : Int) (a0_1 : Int) (a0_2 : Int) (a0_3 : Int) : Option ((List (S25))) := some (([(⟨(⟨a0_0, a0_1⟩ : S23), (⟨a0_2, a0_3⟩ : S23)⟩ : S25)] : List (S25)))
set_option maxHeartbeats 8000000 in
set_option maxRecDepth 100000 in
theorem bocageref03_One.calls (a0_0 : Int) (a0_1 : Int) (a0_2 : Int) (a0_3 : Int) (r : List (S25)) (w : World) (h : bocageref03_One.f a0_0 a0_1 a0_2 a0_3 = some r) :
    Calls Try.prog 10 #[.agg #[.int .i64 a0_0, .int .i64 a0_1, .int .i64 a0_2, .int .i64 a0_3]] w fun e w' => ∃ v0_ : Value, e = .returned (v0_) ∧ Kd.R k25 25 w' w.heap.size (fun _ => True) v0_ r ∧ Below w.heap.size w w' := by
  have hu25 := Try.underlying25
  have HB := Aside0.mk (Below.refl w.heap.size w)
  have H : (some (([(⟨(⟨a0_0, a0_1⟩ : S23), (⟨a0_2, a0_3⟩ : S23)⟩ : S25)] : List (S25)))) = some r := h
  clear h
  obtain ⟨y214, hy214⟩ : ∃ y_ : List (S25), y_ = (([(⟨(⟨a0_0, a0_1⟩ : S23), (⟨a0_2, a0_3⟩ : S23)⟩ : S25)] : List (S25))) := ⟨_, rfl⟩
  replace H : (some y214) = some r := by first | (rw [hy214]; with_reducible exact H) | (have H2_ := (Option.bind_some _ _).symm.trans H; rw [hy214]; with_reducible exact H2_) | (have H2_ := (Option.bind_some _ _).symm.trans H; with_reducible exact H2_) | with_reducible exact H | (rw [hy214]; exact H) | exact H
  have Ny214 := Aside0.mk hy214
  clear hy214
  obtain rfl := Option.some.inj H
  go_enter Try.func10, Try.ntmps10
  go_wp2_with (first | ((with_reducible refine gate_dst (N := 1) rfl ?_); refine bxe (N := 1) (cs := #[.int .i64 a0_0, .int .i64 a0_1, .int .i64 a0_2, .int .i64 a0_3]) (t := 25) ?_; intro gb213 hg w2 hbox hb; have BK213 := Aside0.mk (hbox); have GW213 := lsz hg HB; have GE213 := lsz hg HB; replace HB := bst HB hb; clear hb hbox hg; obtain ⟨hcz3_0, hcz3_1, hcz3_2, hcz3_3⟩ := e4 BK213; obtain ⟨hfz3_0, hfz3_1, hfz3_2, hfz3_3⟩ := f4 BK213) | ((with_reducible refine gate_dst (N := 4) rfl ?_); refine Kd.R_lit k25 _ 25 ?hg (N := 4) ?hd (xs := ([(⟨(⟨a0_0, a0_1⟩ : S23), (⟨a0_2, a0_3⟩ : S23)⟩ : S25)] : List (S25))) (inner := [.int .i64 a0_0, .int .i64 a0_1, .int .i64 a0_2, .int .i64 a0_3]) (ok := fun _ => True) (okp := fun _ => True) ?hr ?hp (fun _ hk => hk) trivial (Below.refl _ _) (Nat.le_refl _) (by simp) ?_; (case hd => rfl); (case hg => rfl); (case hr => first | (go_simp; done) | (go_simp; rfl)); (case hp => exact (Reps.c4 (show Kd.M k25 _ _ _ (⟨(⟨a0_0, a0_1⟩ : S23), (⟨a0_2, a0_3⟩ : S23)⟩ : S25) [.int .i64 a0_0, .int .i64 a0_1, .int .i64 a0_2, .int .i64 a0_3] from (k25_mkM _ _ _ (⟨(⟨a0_0, a0_1⟩ : S23), (⟨a0_2, a0_3⟩ : S23)⟩ : S25) )) (Reps.none _ _))); intro v215 w4 ho5 hb hg_ hnew_; clear hg_ hnew_; (first | rw [← Ny214.out] at ho5 | (simp only [Int.reduceToNat] at ho5; rw [← Ny214.out] at ho5)); have HO216 := Aside0.mk (Kd.R_lower (Kd.R_newB ho5 (bk BK213)) (below_size (bl HB))); replace BK213 := bkb BK213 hb; replace HB := bst HB hb; clear hb ho5))
  go_ret
  exact ⟨_, by first | rfl | (simp [errW_none, errW_some] <;> rfl) | (simp [*, errW_none, errW_some] <;> rfl), by (with_reducible repeat (first | apply Kd.R_alloc | apply Kd.R_drewN | apply Kd.R_drew)); exact Kd.R_mono HO216.out (fun _ hk => trivial), by repeat (first | (with_reducible first | exact HB.out | apply below_alloc | apply pw_below_drewN | apply below_drew1 | refine below_set ?_ GE213.out) | exact HB.out)⟩
end Go.Proofs.Ytkkbmjfhpngalaa.Print
