-- Laid by wip/print/bprint.py of this repo, over the kit's printer, with functions given by hand; not trusted: Lean checks it.
import Derived.Test.YtpeidnkbliafkaaHBnd2
import Derived.Test.YtpeidnkbliafkaaHBnd4
import Derived.Test.YtpeidnkbliafkaaPrint0
import Derived.Test.YtpeidnkbliafkaaPrint9
import Derived.Test.YtpeidnkbliafkaaSh
namespace Go.Proofs.Ytpeidnkbliafkaa.Print
open Go.RowKit Go.Proofs.YtpeidnkbliafkaaW.PrintWords Go.Proofs.YtpeidnkbliafkaaW.PrintLast Go.Proofs.YtpeidnkbliafkaaW.PrintMore
attribute [local go_sem] max2_int min2_int max_two min_two max_three min_three max_four min_four   -- for this text's walks alone
set_option linter.unusedVariables false
set_option linter.unusedSimpArgs false
/-! ### bocageref04_is: function 56 -/
def bocageref04_is.f (a0 : ByteArray) (a1 : Int) (a2 : ByteArray) : Option (Bool) := if (wrap64 ((a0.size : Int) - a1)) ≥ (a2.size : Int) then (if 0 ≤ a1 then (if a1 ≤ (wrap64 (a1 + (a2.size : Int))) then (if (wrap64 (a1 + (a2.size : Int))) ≤ (a0.size : Int) then (some ((a0.extract (a1 : Int).toNat ((wrap64 (a1 + (a2.size : Int))) : Int).toNat).toList == a2.toList)) else (none)) else (none)) else (none)) else (some false)
set_option maxHeartbeats 8000000 in
set_option maxRecDepth 100000 in
theorem bocageref04_is.calls (a0 : ByteArray) (a1 : Int) (a2 : ByteArray) (r : Bool) (w : World) (h : bocageref04_is.f a0 a1 a2 = some r) :
  Calls Try.prog 56 #[.string a0, .int .i64 a1, .string a2] w fun e w' => e = .returned (.bool r) ∧ Drawn0 w w' := by
 have H : (if (wrap64 ((a0.size : Int) - a1)) ≥ (a2.size : Int) then (if 0 ≤ a1 then (if a1 ≤ (wrap64 (a1 + (a2.size : Int))) then (if (wrap64 (a1 + (a2.size : Int))) ≤ (a0.size : Int) then (some ((a0.extract (a1 : Int).toNat ((wrap64 (a1 + (a2.size : Int))) : Int).toNat).toList == a2.toList)) else (none)) else (none)) else (none)) else (some false)) = some r := h
 clear h
 by_cases c4 : (wrap64 ((a0.size : Int) - a1)) ≥ (a2.size : Int)
 ·rw [if_pos c4] at H
  have c4b0 : decide ((a2.size : Int) ≤ (wrap64 ((a0.size : Int) - a1))) = true := decide_eq_true c4
  clear c4
  by_cases c5 : 0 ≤ a1
  ·rw [if_pos c5] at H
   have c5b0 := eq_true c5
   have c5b1 : decide (0 ≤ a1) = true := decide_eq_true c5
   clear c5
   by_cases c6 : a1 ≤ (wrap64 (a1 + (a2.size : Int)))
   ·rw [if_pos c6] at H
    have c6b0 := eq_true c6
    have c6b1 : decide (a1 ≤ (wrap64 (a1 + (a2.size : Int)))) = true := decide_eq_true c6
    by_cases c7 : (wrap64 (a1 + (a2.size : Int))) ≤ (a0.size : Int)
    ·rw [if_pos c7] at H
     have c7b0 := eq_true c7
     have c7b1 : decide ((wrap64 (a1 + (a2.size : Int))) ≤ (a0.size : Int)) = true := decide_eq_true c7
     obtain rfl := Option.some.inj H
     go_enter Try.func56, Try.ntmps56
     go_wp2
     go_ret
     exact ⟨by first | rfl | (simp; done) | (simp [*]; done), by repeat (first | exact Drawn0.refl _ | apply Drawn0.step)⟩
    ·rw [if_neg c7] at H
     exact absurd H (by simp)
   ·rw [if_neg c6] at H
    exact absurd H (by simp)
  ·rw [if_neg c5] at H
   exact absurd H (by simp)
 ·rw [if_neg c4] at H
  have c4b0 : decide ((a2.size : Int) ≤ (wrap64 ((a0.size : Int) - a1))) = false := decide_eq_false c4
  clear c4
  obtain rfl := Option.some.inj H
  go_enter Try.func56, Try.ntmps56
  go_wp2
  go_ret
  exact ⟨by first | rfl | (simp; done) | (simp [*]; done), by repeat (first | exact Drawn0.refl _ | apply Drawn0.step)⟩
/-! ### bocageref04_blanks: function 57 -/
def bocageref04_blanks.l0 : Nat → ByteArray → Int → Bool → Option (Int)
 | 0, _, _, _ => none
 | k + 1, x0, x1, x2 => if x2 = true then ((bocageref04_is.f x0 x1 (⟨#[32]⟩ : ByteArray)).bind fun t423 => (if t423 = true then (bocageref04_blanks.l0 k x0 (wrap64 (x1 + 1)) x2) else (some x1))) else (some x1)
def bocageref04_blanks.f (k : Nat) (a0 : ByteArray) (a1 : Int) (a2 : Bool) : Option (Int) := bocageref04_blanks.l0 k a0 a1 a2
theorem bocageref04_blanks.mono_l : ∀ k, (∀ y0 y1 y2, LeO (bocageref04_blanks.l0 k y0 y1 y2) (bocageref04_blanks.l0 (k + 1) y0 y1 y2))
 | 0 => fun _ _ _ r h => by simp [bocageref04_blanks.l0] at h
 | k + 1 => by
  have ih0 := bocageref04_blanks.mono_l k
  ·intro y0 y1 y2
   unfold bocageref04_blanks.l0
   repeat' first
   | (with_reducible exact ih0 _ _ _)
   | (with_reducible exact LeO.refl _)
   | (with_reducible exact LeO.none _)
   | (with_reducible refine LeO.ite ?_ ?_)
   | (with_reducible refine LeO.bind ?_ (fun _ => ?_))
   | exact ih0 _ _ _
   | exact LeO.none _
   | refine LeO.ite ?_ ?_
   | refine LeO.bind ?_ (fun _ => ?_)
theorem bocageref04_blanks.mono : ∀ a0 a1 a2 k, LeO (bocageref04_blanks.f k a0 a1 a2) (bocageref04_blanks.f (k + 1) a0 a1 a2) := by
 intro a0 a1 a2 k
 have ih0 := bocageref04_blanks.mono_l k
 unfold bocageref04_blanks.f
 repeat' first
   | (with_reducible exact ih0 _ _ _)
   | (with_reducible exact LeO.refl _)
   | (with_reducible exact LeO.none _)
   | (with_reducible refine LeO.ite ?_ ?_)
   | (with_reducible refine LeO.bind ?_ (fun _ => ?_))
   | exact ih0 _ _ _
   | exact LeO.none _
   | refine LeO.ite ?_ ?_
   | refine LeO.bind ?_ (fun _ => ?_)
set_option maxHeartbeats 8000000 in
set_option maxRecDepth 100000 in
theorem bocageref04_blanks.calls (k : Nat) (a0 : ByteArray) (a1 : Int) (a2 : Bool) (r : Int) (w : World) (h : bocageref04_blanks.f k a0 a1 a2 = some r) :
  Calls Try.prog 57 #[.string a0, .int .i64 a1, .bool a2] w fun e w' => e = .returned (.int .i64 r) ∧ Drawn0 w w' := by
 have H : (bocageref04_blanks.l0 k a0 a1 a2) = some r := h
 clear h
 have H' := Aside0.mk H
 clear H
 go_enter Try.func57, Try.ntmps57
 go_wp2
 go_loopg [1] k (fun kq v1 w' => ∃ (x1_1 : Int), v1 = .int .i64 x1_1 ∧ Aside0 (bocageref04_blanks.l0 kq a0 x1_1 a2 = some r) ∧ Aside0 (kq ≤ k) ∧ Drawn0 w w')
 case atStart => exact ⟨(a1), (by first | rfl | (simp; done) | (simp [*]; done)), H', ⟨Nat.le_refl _⟩, by repeat (first | exact Drawn0.refl _ | apply Drawn0.step)⟩
 case round =>
  clear H'
  obtain ⟨x1_1, rfl, HA, HK1, ⟨m1, rfl⟩⟩ := hrel
  cases gk with
  | zero => exact absurd HA.out (by simp [bocageref04_blanks.l0])
  | succ k1 =>
   have H := HA.out
   clear HA
   simp only [bocageref04_blanks.l0] at H
   by_cases c4 : a2 = true
   ·subst c4
    have H1 : ((bocageref04_is.f a0 x1_1 (⟨#[32]⟩ : ByteArray)).bind fun t423 => (if t423 = true then (bocageref04_blanks.l0 k1 a0 (wrap64 (x1_1 + 1)) true) else (some x1_1))) = some r := by rw [if_pos rfl] at H; exact H
    clear H
    have H := H1
    clear H1
    replace H := Option.bind_eq_some_iff.mp H
    obtain ⟨t423, A50, H⟩ := H
    replace H : (if t423 = true then (bocageref04_blanks.l0 k1 a0 (wrap64 (x1_1 + 1)) true) else (some x1_1)) = some r := H
    have A5 := Aside0.mk A50
    clear A50
    by_cases c6 : t423 = true
    ·subst c6
     have H1 : (bocageref04_blanks.l0 k1 a0 (wrap64 (x1_1 + 1)) true) = some r := by rw [if_pos rfl] at H; exact H
     clear H
     have H := H1
     clear H1
     have H' := Aside0.mk H
     clear H
     go_wp2_with (first | (go_at_call 56; (with_reducible refine (bocageref04_is.calls a0 x1_1 (⟨#[32]⟩ : ByteArray) true _ A5.out).mono ?_); rintro e w' ⟨rfl, ⟨nd, rfl⟩⟩))
     go_roundg k1
     case measure => have := HK1.out; omega
     case rel => exact ⟨(wrap64 (x1_1 + 1)), (by first | rfl | (simp; done) | (simp [*]; done)), H', ⟨by have := HK1.out; omega⟩, by repeat (first | exact Drawn0.refl _ | apply Drawn0.step)⟩
    ·replace c6 := Bool.eq_false_iff.mpr c6
     subst c6
     have H1 : (some x1_1) = some r := by rw [if_neg (show ¬ (false = true) by decide)] at H; exact H
     clear H
     have H := H1
     clear H1
     obtain rfl := Option.some.inj H
     go_wp2_with (first | (go_at_call 56; (with_reducible refine (bocageref04_is.calls a0 x1_1 (⟨#[32]⟩ : ByteArray) false _ A5.out).mono ?_); rintro e w' ⟨rfl, ⟨nd, rfl⟩⟩))
     go_ret
     exact ⟨by first | rfl | (simp; done) | (simp [*]; done), by repeat (first | exact Drawn0.refl _ | apply Drawn0.step)⟩
   ·replace c4 := Bool.eq_false_iff.mpr c4
    subst c4
    have H1 : (some x1_1) = some r := by rw [if_neg (show ¬ (false = true) by decide)] at H; exact H
    clear H
    have H := H1
    clear H1
    obtain rfl := Option.some.inj H
    go_wp2
    go_ret
    exact ⟨by first | rfl | (simp; done) | (simp [*]; done), by repeat (first | exact Drawn0.refl _ | apply Drawn0.step)⟩
/-! ### bocageref04_end: function 58 -/
def bocageref04_end.f (k : Nat) (a0 : ByteArray) (a1 : Int) (a2 : ByteArray) (a3 : Bool) : Option (Int × Int × Int) := (bocageref04_is.f a0 a1 a2).bind fun t465 => (if t465 = true then (some (0, 0, wrap64 (a1 + 4))) else (if a3 = true then (if 0 ≤ a1 then (if a1 ≤ (a0.size : Int) then ((bocageref01_Read.f k (a0.extract (a1 : Int).toNat a0.size)).bind fun bt466 => (if bt466.2 = 0 then (some (0, 0, (-1))) else (some (1, bt466.1, wrap64 (a1 + bt466.2))))) else (none)) else (none)) else (if 0 ≤ a1 then (if a1 ≤ (a0.size : Int) then ((bocageref02_Read.f k (a0.extract (a1 : Int).toNat a0.size)).bind fun bt468 => (if bt468.2.2 = 0 then (some (0, 0, (-1))) else (if bt468.1 = 0 then (some (1, bt468.2.1, wrap64 (a1 + bt468.2.2))) else (some (0, 0, (-1)))))) else (none)) else (none))))
theorem bocageref04_end.mono : ∀ a0 a1 a2 a3 k, LeO (bocageref04_end.f k a0 a1 a2 a3) (bocageref04_end.f (k + 1) a0 a1 a2 a3) := by
 intro a0 a1 a2 a3 k
 unfold bocageref04_end.f
 repeat' first
   | (with_reducible exact bocageref01_Read.mono _ _)
   | (with_reducible exact bocageref02_Read.mono _ _)
   | (with_reducible exact LeO.refl _)
   | (with_reducible exact LeO.none _)
   | (with_reducible refine LeO.ite ?_ ?_)
   | (with_reducible refine LeO.bind ?_ (fun _ => ?_))
   | exact bocageref01_Read.mono _ _
   | exact bocageref02_Read.mono _ _
   | exact LeO.none _
   | refine LeO.ite ?_ ?_
   | refine LeO.bind ?_ (fun _ => ?_)
set_option maxHeartbeats 8000000 in
set_option maxRecDepth 100000 in
theorem bocageref04_end.calls (k : Nat) (a0 : ByteArray) (a1 : Int) (a2 : ByteArray) (a3 : Bool) (r1 : Int) (r2 : Int) (r3 : Int) (w : World) (h : bocageref04_end.f k a0 a1 a2 a3 = some (r1, r2, r3)) :
  Calls Try.prog 58 #[.string a0, .int .i64 a1, .string a2, .bool a3] w fun e w' => e = .returned (.tuple #[.agg #[.int .i64 r1, .int .i64 r2], .int .i64 r3]) ∧ Below w.heap.size w w' := by
 have hu23 := Try.underlying23
 have hu25 := Try.underlying25
 have HB := Aside0.mk (Below.refl w.heap.size w)
 have H : ((bocageref04_is.f a0 a1 a2).bind fun t465 => (if t465 = true then (some (0, 0, wrap64 (a1 + 4))) else (if a3 = true then (if 0 ≤ a1 then (if a1 ≤ (a0.size : Int) then ((bocageref01_Read.f k (a0.extract (a1 : Int).toNat a0.size)).bind fun bt466 => (if bt466.2 = 0 then (some (0, 0, (-1))) else (some (1, bt466.1, wrap64 (a1 + bt466.2))))) else (none)) else (none)) else (if 0 ≤ a1 then (if a1 ≤ (a0.size : Int) then ((bocageref02_Read.f k (a0.extract (a1 : Int).toNat a0.size)).bind fun bt468 => (if bt468.2.2 = 0 then (some (0, 0, (-1))) else (if bt468.1 = 0 then (some (1, bt468.2.1, wrap64 (a1 + bt468.2.2))) else (some (0, 0, (-1)))))) else (none)) else (none))))) = some (r1, r2, r3) := h
 clear h
 replace H := Option.bind_eq_some_iff.mp H
 obtain ⟨t465, A50, H⟩ := H
 replace H : (if t465 = true then (some (0, 0, wrap64 (a1 + 4))) else (if a3 = true then (if 0 ≤ a1 then (if a1 ≤ (a0.size : Int) then ((bocageref01_Read.f k (a0.extract (a1 : Int).toNat a0.size)).bind fun bt466 => (if bt466.2 = 0 then (some (0, 0, (-1))) else (some (1, bt466.1, wrap64 (a1 + bt466.2))))) else (none)) else (none)) else (if 0 ≤ a1 then (if a1 ≤ (a0.size : Int) then ((bocageref02_Read.f k (a0.extract (a1 : Int).toNat a0.size)).bind fun bt468 => (if bt468.2.2 = 0 then (some (0, 0, (-1))) else (if bt468.1 = 0 then (some (1, bt468.2.1, wrap64 (a1 + bt468.2.2))) else (some (0, 0, (-1)))))) else (none)) else (none)))) = some (r1, r2, r3) := H
 have A5 := Aside0.mk A50
 clear A50
 by_cases c6 : t465 = true
 ·subst c6
  have H1 : (some (0, 0, wrap64 (a1 + 4))) = some (r1, r2, r3) := by rw [if_pos rfl] at H; exact H
  clear H
  have H := H1
  clear H1
  simp only [Option.some.injEq, Prod.mk.injEq] at H
  obtain ⟨rfl, rfl, rfl⟩ := H
  go_enter Try.func58, Try.ntmps58
  go_wp2_with (first | ((with_reducible refine gate_dst (N := 8) rfl ?_); refine bxe (N := 8) (cs := #[.int .i64 0, .int .i64 0]) (t := 23) ?_; intro gb464 hg w7 hbox hb; have BK464 := Aside0.mk (hbox); have GW464 := lsz hg HB; have GE464 := lsz hg HB; replace HB := bst HB hb; clear hb hbox hg) | ((with_reducible refine gate_callee (f := 56) rfl ?_); refine gol (some 17) Try.func56 #[.string a0, .int .i64 a1, .string a2] ?_; (with_reducible refine (bocageref04_is.calls a0 a1 a2 true _ A5.out).mono ?_); rintro e w' ⟨rfl, ⟨nd, rfl⟩⟩; refine ⟨_, rfl, ?_⟩; (try (rw [drewN_self w7]; generalize hq_ : World.drewN w7 _ = w7; have n0_ : Aside0 (w7.heap[gb464]? = some (.cells #[.int .i64 0, .int .i64 0] 23 (0, 0))) := ⟨by rw [← hq_]; exact (bk BK464)⟩; have n1_ : Aside0 (Below w.heap.size w w7) := ⟨by rw [← hq_]; exact (bl HB)⟩; clear BK464 HB hq_; have BK464 := n0_; have HB := n1_; clear n0_ n1_)); obtain ⟨hcz8_0, hcz8_1⟩ := e2 BK464; obtain ⟨hfz8_0, hfz8_1⟩ := f2 BK464))
  refine bodyPost_ret (results_ct rfl _ _ gb464 23 #[.int .i64 0, .int .i64 0] (0, 0) _ rfl (bkp BK464) Try.underlying23 rfl (by kernel_rfl)) rfl ?_
  exact endB HB
 ·replace c6 := Bool.eq_false_iff.mpr c6
  subst c6
  have H1 : (if a3 = true then (if 0 ≤ a1 then (if a1 ≤ (a0.size : Int) then ((bocageref01_Read.f k (a0.extract (a1 : Int).toNat a0.size)).bind fun bt466 => (if bt466.2 = 0 then (some (0, 0, (-1))) else (some (1, bt466.1, wrap64 (a1 + bt466.2))))) else (none)) else (none)) else (if 0 ≤ a1 then (if a1 ≤ (a0.size : Int) then ((bocageref02_Read.f k (a0.extract (a1 : Int).toNat a0.size)).bind fun bt468 => (if bt468.2.2 = 0 then (some (0, 0, (-1))) else (if bt468.1 = 0 then (some (1, bt468.2.1, wrap64 (a1 + bt468.2.2))) else (some (0, 0, (-1)))))) else (none)) else (none))) = some (r1, r2, r3) := by rw [if_neg (show ¬ (false = true) by decide)] at H; exact H
  clear H
  have H := H1
  clear H1
  by_cases c9 : a3 = true
  ·subst c9
   have H1 : (if 0 ≤ a1 then (if a1 ≤ (a0.size : Int) then ((bocageref01_Read.f k (a0.extract (a1 : Int).toNat a0.size)).bind fun bt466 => (if bt466.2 = 0 then (some (0, 0, (-1))) else (some (1, bt466.1, wrap64 (a1 + bt466.2))))) else (none)) else (none)) = some (r1, r2, r3) := by rw [if_pos rfl] at H; exact H
   clear H
   have H := H1
   clear H1
   by_cases c10 : 0 ≤ a1
   ·rw [if_pos c10] at H
    have c10b0 := eq_true c10
    have c10b1 : decide (0 ≤ a1) = true := decide_eq_true c10
    clear c10
    by_cases c11 : a1 ≤ (a0.size : Int)
    ·rw [if_pos c11] at H
     have c11b0 := eq_true c11
     have c11b1 : decide (a1 ≤ (a0.size : Int)) = true := decide_eq_true c11
     clear c11
     replace H := Option.bind_eq_some_iff.mp H
     obtain ⟨⟨t466, t467⟩, A120, H⟩ := H
     replace H : (if t467 = 0 then (some (0, 0, (-1))) else (some (1, t466, wrap64 (a1 + t467)))) = some (r1, r2, r3) := H
     have A12 := Aside0.mk A120
     clear A120
     by_cases c13 : t467 = 0
     ·rw [if_pos c13] at H
      have c13b0 : (t467 == 0) = true := beq_iff_eq.mpr c13
      have c13b1 : (t467 != 0) = false := bne_eq_false_iff_eq.mpr c13
      clear c13
      simp only [Option.some.injEq, Prod.mk.injEq] at H
      obtain ⟨rfl, rfl, rfl⟩ := H
      go_enter Try.func58, Try.ntmps58
      go_wp2_with (first | ((with_reducible refine gate_dst (N := 8) rfl ?_); refine bxe (N := 8) (cs := #[.int .i64 0, .int .i64 0]) (t := 23) ?_; intro gb464 hg w14 hbox hb; have BK464 := Aside0.mk (hbox); have GW464 := lsz hg HB; have GE464 := lsz hg HB; replace HB := bst HB hb; clear hb hbox hg) | ((with_reducible refine gate_callee (f := 56) rfl ?_); refine gol (some 17) Try.func56 #[.string a0, .int .i64 a1, .string a2] ?_; (with_reducible refine (bocageref04_is.calls a0 a1 a2 false _ A5.out).mono ?_); rintro e w' ⟨rfl, ⟨nd, rfl⟩⟩; refine ⟨_, rfl, ?_⟩; (try (rw [drewN_self w14]; generalize hq_ : World.drewN w14 _ = w14; have n0_ : Aside0 (w14.heap[gb464]? = some (.cells #[.int .i64 0, .int .i64 0] 23 (0, 0))) := ⟨by rw [← hq_]; exact (bk BK464)⟩; have n1_ : Aside0 (Below w.heap.size w w14) := ⟨by rw [← hq_]; exact (bl HB)⟩; clear BK464 HB hq_; have BK464 := n0_; have HB := n1_; clear n0_ n1_))) | ((with_reducible refine gate_callee (f := 66) rfl ?_); refine gol (some 26) Try.func66 #[.string (a0.extract (a1 : Int).toNat a0.size)] ?_; (with_reducible refine (bocageref01_Read.calls k (a0.extract (a1 : Int).toNat a0.size) t466 t467 _ A12.out).mono ?_); rintro e w15 ⟨rfl, hb⟩; refine ⟨_, rfl, ?_⟩; replace BK464 := bkb BK464 hb; replace HB := bst HB hb; (try clear hb); (try clear hb2); (try clear hk); (try clear hi); obtain ⟨hcz16_0, hcz16_1⟩ := e2 BK464; obtain ⟨hfz16_0, hfz16_1⟩ := f2 BK464))
      refine bodyPost_ret (results_ct rfl _ _ gb464 23 #[.int .i64 0, .int .i64 0] (0, 0) _ rfl (bkp BK464) Try.underlying23 rfl (by kernel_rfl)) rfl ?_
      exact endB HB
     ·rw [if_neg c13] at H
      have c13b0 : (t467 == 0) = false := beq_eq_false_iff_ne.mpr c13
      have c13b1 : (t467 != 0) = true := bne_iff_ne.mpr c13
      simp only [Option.some.injEq, Prod.mk.injEq] at H
      obtain ⟨rfl, rfl, rfl⟩ := H
      go_enter Try.func58, Try.ntmps58
      go_wp2_with (first | ((with_reducible refine gate_dst (N := 8) rfl ?_); refine bxe (N := 8) (cs := #[.int .i64 0, .int .i64 0]) (t := 23) ?_; intro gb464 hg w17 hbox hb; have BK464 := Aside0.mk (hbox); have GW464 := lsz hg HB; have GE464 := lsz hg HB; replace HB := bst HB hb; clear hb hbox hg) | ((with_reducible refine gate_callee (f := 56) rfl ?_); refine gol (some 17) Try.func56 #[.string a0, .int .i64 a1, .string a2] ?_; (with_reducible refine (bocageref04_is.calls a0 a1 a2 false _ A5.out).mono ?_); rintro e w' ⟨rfl, ⟨nd, rfl⟩⟩; refine ⟨_, rfl, ?_⟩; (try (rw [drewN_self w17]; generalize hq_ : World.drewN w17 _ = w17; have n0_ : Aside0 (w17.heap[gb464]? = some (.cells #[.int .i64 0, .int .i64 0] 23 (0, 0))) := ⟨by rw [← hq_]; exact (bk BK464)⟩; have n1_ : Aside0 (Below w.heap.size w w17) := ⟨by rw [← hq_]; exact (bl HB)⟩; clear BK464 HB hq_; have BK464 := n0_; have HB := n1_; clear n0_ n1_))) | ((with_reducible refine gate_callee (f := 66) rfl ?_); refine gol (some 26) Try.func66 #[.string (a0.extract (a1 : Int).toNat a0.size)] ?_; (with_reducible refine (bocageref01_Read.calls k (a0.extract (a1 : Int).toNat a0.size) t466 t467 _ A12.out).mono ?_); rintro e w18 ⟨rfl, hb⟩; refine ⟨_, rfl, ?_⟩; replace BK464 := bkb BK464 hb; replace HB := bst HB hb; (try clear hb); (try clear hb2); (try clear hk); (try clear hi); obtain ⟨hcz19_0, hcz19_1⟩ := e2 BK464; obtain ⟨hfz19_0, hfz19_1⟩ := f2 BK464))
      refine bodyPost_ret (results_ct rfl _ _ gb464 23 #[.int .i64 1, .int .i64 t466] (0, 0) _ rfl (bkp BK464) Try.underlying23 rfl (by kernel_rfl)) rfl ?_
      exact endB HB
    ·rw [if_neg c11] at H
     exact absurd H (by simp)
   ·rw [if_neg c10] at H
    exact absurd H (by simp)
  ·replace c9 := Bool.eq_false_iff.mpr c9
   subst c9
   have H1 : (if 0 ≤ a1 then (if a1 ≤ (a0.size : Int) then ((bocageref02_Read.f k (a0.extract (a1 : Int).toNat a0.size)).bind fun bt468 => (if bt468.2.2 = 0 then (some (0, 0, (-1))) else (if bt468.1 = 0 then (some (1, bt468.2.1, wrap64 (a1 + bt468.2.2))) else (some (0, 0, (-1)))))) else (none)) else (none)) = some (r1, r2, r3) := by rw [if_neg (show ¬ (false = true) by decide)] at H; exact H
   clear H
   have H := H1
   clear H1
   by_cases c20 : 0 ≤ a1
   ·rw [if_pos c20] at H
    have c20b0 := eq_true c20
    have c20b1 : decide (0 ≤ a1) = true := decide_eq_true c20
    clear c20
    by_cases c21 : a1 ≤ (a0.size : Int)
    ·rw [if_pos c21] at H
     have c21b0 := eq_true c21
     have c21b1 : decide (a1 ≤ (a0.size : Int)) = true := decide_eq_true c21
     clear c21
     replace H := Option.bind_eq_some_iff.mp H
     obtain ⟨⟨t468, t469, t470⟩, A220, H⟩ := H
     replace H : (if t470 = 0 then (some (0, 0, (-1))) else (if t468 = 0 then (some (1, t469, wrap64 (a1 + t470))) else (some (0, 0, (-1))))) = some (r1, r2, r3) := H
     have A22 := Aside0.mk A220
     clear A220
     by_cases c23 : t470 = 0
     ·rw [if_pos c23] at H
      have c23b0 : (t470 == 0) = true := beq_iff_eq.mpr c23
      have c23b1 : (t470 != 0) = false := bne_eq_false_iff_eq.mpr c23
      clear c23
      simp only [Option.some.injEq, Prod.mk.injEq] at H
      obtain ⟨rfl, rfl, rfl⟩ := H
      go_enter Try.func58, Try.ntmps58
      go_wp2_with (first | ((with_reducible refine gate_dst (N := 8) rfl ?_); refine bxe (N := 8) (cs := #[.int .i64 0, .int .i64 0]) (t := 23) ?_; intro gb464 hg w24 hbox hb; have BK464 := Aside0.mk (hbox); have GW464 := lsz hg HB; have GE464 := lsz hg HB; replace HB := bst HB hb; clear hb hbox hg) | ((with_reducible refine gate_callee (f := 56) rfl ?_); refine gol (some 17) Try.func56 #[.string a0, .int .i64 a1, .string a2] ?_; (with_reducible refine (bocageref04_is.calls a0 a1 a2 false _ A5.out).mono ?_); rintro e w' ⟨rfl, ⟨nd, rfl⟩⟩; refine ⟨_, rfl, ?_⟩; (try (rw [drewN_self w24]; generalize hq_ : World.drewN w24 _ = w24; have n0_ : Aside0 (w24.heap[gb464]? = some (.cells #[.int .i64 0, .int .i64 0] 23 (0, 0))) := ⟨by rw [← hq_]; exact (bk BK464)⟩; have n1_ : Aside0 (Below w.heap.size w w24) := ⟨by rw [← hq_]; exact (bl HB)⟩; clear BK464 HB hq_; have BK464 := n0_; have HB := n1_; clear n0_ n1_))) | ((with_reducible refine gate_callee (f := 67) rfl ?_); refine gol (some 41) Try.func67 #[.string (a0.extract (a1 : Int).toNat a0.size)] ?_; (with_reducible refine (bocageref02_Read.calls k (a0.extract (a1 : Int).toNat a0.size) t468 t469 t470 _ A22.out).mono ?_); rintro e w25 ⟨rfl, hb⟩; refine ⟨_, rfl, ?_⟩; replace BK464 := bkb BK464 hb; replace HB := bst HB hb; (try clear hb); (try clear hb2); (try clear hk); (try clear hi)) | ((with_reducible refine gate_dst (N := 12) rfl ?_); refine bxe (N := 12) (cs := #[.int .i64 0, .int .i64 0]) (t := 25) ?_; intro gb471 hg w26 hbox hb; have BK471 := Aside0.mk (hbox); have GW471 := lsz hg HB; have GE471 := lsz hg HB; replace HB := bst HB hb; have NB464_471 := nlt hg BK464; have NB471_464 := ngt hg BK464; replace BK464 := bkb BK464 hb; clear hb hbox hg; have hnb27 := NB471_464.out; have hnc27 := NB464_471.out; obtain ⟨hcz28_0, hcz28_1⟩ := e2 BK471; obtain ⟨hfz28_0, hfz28_1⟩ := f2 BK471; obtain ⟨hcz29_0, hcz29_1⟩ := e2 BK464; obtain ⟨hfz29_0, hfz29_1⟩ := f2 BK464))
      refine bodyPost_ret (results_ct rfl _ _ gb464 23 #[.int .i64 0, .int .i64 0] (0, 0) _ rfl (by (with_reducible repeat (first | refine blk_drewN ?_ _ | refine blk_drew ?_ | refine blk_alloc ?_ _)); refine blk_put (cs := #[.int .i64 0, .int .i64 0]) ?_ 1 _ rfl; (with_reducible repeat (first | refine blk_drewN ?_ _ | refine blk_drew ?_ | refine blk_alloc ?_ _)); refine blk_put (cs := #[.int .i64 0, .int .i64 0]) ?_ 0 _ rfl; (with_reducible repeat (first | refine blk_drewN ?_ _ | refine blk_drew ?_ | refine blk_alloc ?_ _)); refine blk_far ?_ NB464_471.out _; (with_reducible repeat (first | refine blk_drewN ?_ _ | refine blk_drew ?_ | refine blk_alloc ?_ _)); refine blk_far ?_ NB464_471.out _; (with_reducible repeat (first | refine blk_drewN ?_ _ | refine blk_drew ?_ | refine blk_alloc ?_ _)); exact BK464.out) Try.underlying23 rfl (by kernel_rfl)) rfl ?_
      exact endB HB
     ·rw [if_neg c23] at H
      have c23b0 : (t470 == 0) = false := beq_eq_false_iff_ne.mpr c23
      have c23b1 : (t470 != 0) = true := bne_iff_ne.mpr c23
      by_cases c30 : t468 = 0
      ·rw [if_pos c30] at H
       have c30b0 : (t468 == 0) = true := beq_iff_eq.mpr c30
       have c30b1 : (t468 != 0) = false := bne_eq_false_iff_eq.mpr c30
       clear c30
       simp only [Option.some.injEq, Prod.mk.injEq] at H
       obtain ⟨rfl, rfl, rfl⟩ := H
       go_enter Try.func58, Try.ntmps58
       go_wp2_with (first | ((with_reducible refine gate_dst (N := 8) rfl ?_); refine bxe (N := 8) (cs := #[.int .i64 0, .int .i64 0]) (t := 23) ?_; intro gb464 hg w31 hbox hb; have BK464 := Aside0.mk (hbox); have GW464 := lsz hg HB; have GE464 := lsz hg HB; replace HB := bst HB hb; clear hb hbox hg) | ((with_reducible refine gate_callee (f := 56) rfl ?_); refine gol (some 17) Try.func56 #[.string a0, .int .i64 a1, .string a2] ?_; (with_reducible refine (bocageref04_is.calls a0 a1 a2 false _ A5.out).mono ?_); rintro e w' ⟨rfl, ⟨nd, rfl⟩⟩; refine ⟨_, rfl, ?_⟩; (try (rw [drewN_self w31]; generalize hq_ : World.drewN w31 _ = w31; have n0_ : Aside0 (w31.heap[gb464]? = some (.cells #[.int .i64 0, .int .i64 0] 23 (0, 0))) := ⟨by rw [← hq_]; exact (bk BK464)⟩; have n1_ : Aside0 (Below w.heap.size w w31) := ⟨by rw [← hq_]; exact (bl HB)⟩; clear BK464 HB hq_; have BK464 := n0_; have HB := n1_; clear n0_ n1_))) | ((with_reducible refine gate_callee (f := 67) rfl ?_); refine gol (some 41) Try.func67 #[.string (a0.extract (a1 : Int).toNat a0.size)] ?_; (with_reducible refine (bocageref02_Read.calls k (a0.extract (a1 : Int).toNat a0.size) t468 t469 t470 _ A22.out).mono ?_); rintro e w32 ⟨rfl, hb⟩; refine ⟨_, rfl, ?_⟩; replace BK464 := bkb BK464 hb; replace HB := bst HB hb; (try clear hb); (try clear hb2); (try clear hk); (try clear hi)) | ((with_reducible refine gate_dst (N := 12) rfl ?_); refine bxe (N := 12) (cs := #[.int .i64 0, .int .i64 0]) (t := 25) ?_; intro gb471 hg w33 hbox hb; have BK471 := Aside0.mk (hbox); have GW471 := lsz hg HB; have GE471 := lsz hg HB; replace HB := bst HB hb; have NB464_471 := nlt hg BK464; have NB471_464 := ngt hg BK464; replace BK464 := bkb BK464 hb; clear hb hbox hg; have hnb34 := NB471_464.out; have hnc34 := NB464_471.out; obtain ⟨hcz35_0, hcz35_1⟩ := e2 BK471; obtain ⟨hfz35_0, hfz35_1⟩ := f2 BK471; obtain ⟨hcz36_0, hcz36_1⟩ := e2 BK464; obtain ⟨hfz36_0, hfz36_1⟩ := f2 BK464))
       refine bodyPost_ret (results_ct rfl _ _ gb464 23 #[.int .i64 1, .int .i64 t469] (0, 0) _ rfl (by (with_reducible repeat (first | refine blk_drewN ?_ _ | refine blk_drew ?_ | refine blk_alloc ?_ _)); refine blk_put (cs := #[.int .i64 1, .int .i64 0]) ?_ 1 _ rfl; (with_reducible repeat (first | refine blk_drewN ?_ _ | refine blk_drew ?_ | refine blk_alloc ?_ _)); refine blk_put (cs := #[.int .i64 0, .int .i64 0]) ?_ 0 _ rfl; (with_reducible repeat (first | refine blk_drewN ?_ _ | refine blk_drew ?_ | refine blk_alloc ?_ _)); refine blk_far ?_ NB464_471.out _; (with_reducible repeat (first | refine blk_drewN ?_ _ | refine blk_drew ?_ | refine blk_alloc ?_ _)); refine blk_far ?_ NB464_471.out _; (with_reducible repeat (first | refine blk_drewN ?_ _ | refine blk_drew ?_ | refine blk_alloc ?_ _)); exact BK464.out) Try.underlying23 rfl (by kernel_rfl)) rfl ?_
       exact endB HB
      ·rw [if_neg c30] at H
       have c30b0 : (t468 == 0) = false := beq_eq_false_iff_ne.mpr c30
       have c30b1 : (t468 != 0) = true := bne_iff_ne.mpr c30
       simp only [Option.some.injEq, Prod.mk.injEq] at H
       obtain ⟨rfl, rfl, rfl⟩ := H
       go_enter Try.func58, Try.ntmps58
       go_wp2_with (first | ((with_reducible refine gate_dst (N := 8) rfl ?_); refine bxe (N := 8) (cs := #[.int .i64 0, .int .i64 0]) (t := 23) ?_; intro gb464 hg w37 hbox hb; have BK464 := Aside0.mk (hbox); have GW464 := lsz hg HB; have GE464 := lsz hg HB; replace HB := bst HB hb; clear hb hbox hg) | ((with_reducible refine gate_callee (f := 56) rfl ?_); refine gol (some 17) Try.func56 #[.string a0, .int .i64 a1, .string a2] ?_; (with_reducible refine (bocageref04_is.calls a0 a1 a2 false _ A5.out).mono ?_); rintro e w' ⟨rfl, ⟨nd, rfl⟩⟩; refine ⟨_, rfl, ?_⟩; (try (rw [drewN_self w37]; generalize hq_ : World.drewN w37 _ = w37; have n0_ : Aside0 (w37.heap[gb464]? = some (.cells #[.int .i64 0, .int .i64 0] 23 (0, 0))) := ⟨by rw [← hq_]; exact (bk BK464)⟩; have n1_ : Aside0 (Below w.heap.size w w37) := ⟨by rw [← hq_]; exact (bl HB)⟩; clear BK464 HB hq_; have BK464 := n0_; have HB := n1_; clear n0_ n1_))) | ((with_reducible refine gate_callee (f := 67) rfl ?_); refine gol (some 41) Try.func67 #[.string (a0.extract (a1 : Int).toNat a0.size)] ?_; (with_reducible refine (bocageref02_Read.calls k (a0.extract (a1 : Int).toNat a0.size) t468 t469 t470 _ A22.out).mono ?_); rintro e w38 ⟨rfl, hb⟩; refine ⟨_, rfl, ?_⟩; replace BK464 := bkb BK464 hb; replace HB := bst HB hb; (try clear hb); (try clear hb2); (try clear hk); (try clear hi)) | ((with_reducible refine gate_dst (N := 12) rfl ?_); refine bxe (N := 12) (cs := #[.int .i64 0, .int .i64 0]) (t := 25) ?_; intro gb471 hg w39 hbox hb; have BK471 := Aside0.mk (hbox); have GW471 := lsz hg HB; have GE471 := lsz hg HB; replace HB := bst HB hb; have NB464_471 := nlt hg BK464; have NB471_464 := ngt hg BK464; replace BK464 := bkb BK464 hb; clear hb hbox hg; have hnb40 := NB471_464.out; have hnc40 := NB464_471.out; obtain ⟨hcz41_0, hcz41_1⟩ := e2 BK471; obtain ⟨hfz41_0, hfz41_1⟩ := f2 BK471; obtain ⟨hcz42_0, hcz42_1⟩ := e2 BK464; obtain ⟨hfz42_0, hfz42_1⟩ := f2 BK464))
       refine bodyPost_ret (results_ct rfl _ _ gb464 23 #[.int .i64 0, .int .i64 0] (0, 0) _ rfl (by (with_reducible repeat (first | refine blk_drewN ?_ _ | refine blk_drew ?_ | refine blk_alloc ?_ _)); refine blk_put (cs := #[.int .i64 0, .int .i64 0]) ?_ 1 _ rfl; (with_reducible repeat (first | refine blk_drewN ?_ _ | refine blk_drew ?_ | refine blk_alloc ?_ _)); refine blk_put (cs := #[.int .i64 0, .int .i64 0]) ?_ 0 _ rfl; (with_reducible repeat (first | refine blk_drewN ?_ _ | refine blk_drew ?_ | refine blk_alloc ?_ _)); refine blk_far ?_ NB464_471.out _; (with_reducible repeat (first | refine blk_drewN ?_ _ | refine blk_drew ?_ | refine blk_alloc ?_ _)); refine blk_far ?_ NB464_471.out _; (with_reducible repeat (first | refine blk_drewN ?_ _ | refine blk_drew ?_ | refine blk_alloc ?_ _)); exact BK464.out) Try.underlying23 rfl (by kernel_rfl)) rfl ?_
       exact endB HB
    ·rw [if_neg c21] at H
     exact absurd H (by simp)
   ·rw [if_neg c20] at H
    exact absurd H (by simp)
end Go.Proofs.Ytpeidnkbliafkaa.Print
