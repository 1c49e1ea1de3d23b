-- Laid by wip/print/bprint.py of this repo, over the kit's printer, with functions given by hand; not trusted: Lean checks it.
import Derived.Test.YtihhagfdfhojnaaPrint0
import Derived.Test.YtihhagfdfhojnaaPrint12
import Derived.Test.YtihhagfdfhojnaaPrint13
namespace Go.Proofs.Ytihhagfdfhojnaa.Print
open Go.RowKit Go.Proofs.YtihhagfdfhojnaaW.PrintWords Go.Proofs.YtihhagfdfhojnaaW.PrintLast Go.Proofs.YtihhagfdfhojnaaW.PrintMore
attribute [local go_sem] max2_int min2_int max_two min_two max_three min_three max_four min_four   -- for this text's walks alone
set_option linter.unusedVariables false
set_option linter.unusedSimpArgs false

/-! ### bocageref01_End: function 54 -/
def bocageref01_End.l0 : Nat → Int → List Int → Int → Int → Option Int
  | 0, _, _, _, _ => none
  | k + 1, s, d, i, n => if i ≥ 0 then (if i < (d.length : Int) then bocageref01_End.l0 k s d (wrap64 (i - 1)) (wrap64 (wrap64 (n * 10) + wrap64 (s * rd d i))) else none) else some n
def bocageref01_End.f (k : Nat) (a0_0 : Int) (l0_1 : List Int) : Option Int :=
  (bocageref01_Is.f k a0_0 l0_1).bind fun t => if t = true then bocageref01_End.l0 k a0_0 l0_1 (wrap64 ((l0_1.length : Int) - 1)) 0 else (bocageref01_ends.f a0_0).bind fun y => bocageref01_End.l0 k a0_0 y (wrap64 ((y.length : Int) - 1)) 0
theorem bocageref01_End.mono_l : ∀ k s d i n, LeO (bocageref01_End.l0 k s d i n) (bocageref01_End.l0 (k + 1) s d i n)
  | 0, _, _, _, _ => fun r h => by simp [bocageref01_End.l0] at h
  | k + 1, s, d, i, n => by
    intro r h
    rw [bocageref01_End.l0] at h ⊢
    split
    · rename_i h1
      rw [if_pos h1] at h
      split
      · rename_i h2
        rw [if_pos h2] at h
        exact bocageref01_End.mono_l k _ _ _ _ r h
      · rename_i h2
        rw [if_neg h2] at h
        exact h
    · rename_i h1
      rw [if_neg h1] at h
      exact h
theorem bocageref01_End.mono : ∀ a0 a1 k, LeO (bocageref01_End.f k a0 a1) (bocageref01_End.f (k + 1) a0 a1) := by
  intro a0 a1 k r h
  unfold bocageref01_End.f at h ⊢
  obtain ⟨t, h1, h⟩ := Option.bind_eq_some_iff.1 h
  rw [bocageref01_Is.mono _ _ _ _ h1]
  simp only [Option.bind_some]
  split
  · rename_i ht
    rw [if_pos ht] at h
    exact bocageref01_End.mono_l _ _ _ _ _ r h
  · rename_i ht
    rw [if_neg ht] at h
    obtain ⟨y, h1, h⟩ := Option.bind_eq_some_iff.1 h
    rw [h1]
    exact bocageref01_End.mono_l _ _ _ _ _ r h

set_option maxHeartbeats 8000000 in
set_option maxRecDepth 100000 in
theorem bocageref01_End.calls (k : Nat) (a0_0 : Int) (A0_1 : Option Addr) (c0_1 : Nat) (l0_1 : List Int) (r : Int) (w : World) (hr0_1 : Kd.C (Kd.int .i64) w A0_1 l0_1.length l0_1) (hc0_1 : l0_1.length ≤ c0_1) (h : bocageref01_End.f k a0_0 l0_1 = some r) :
    Calls Try.prog 54 #[.agg #[.int .i64 a0_0, .slice A0_1 l0_1.length c0_1]] w fun e w' => e = .returned (.int .i64 r) ∧ Below w.heap.size w w' := by
  unfold bocageref01_End.f at h
  obtain ⟨t, hIs, h1⟩ := Option.bind_eq_some_iff.1 h
  clear h
  have AIs := Aside0.mk hIs
  have AH := Aside0.mk h1
  have HR := Aside0.mk hr0_1
  have HC := Aside0.mk hc0_1
  clear h1 hIs hr0_1 hc0_1
  have hB0 := Below.refl w.heap.size w
  obtain ⟨O, hO⟩ : ∃ O : Obj, O = .cells #[.int .i64 a0_0, .slice A0_1 l0_1.length c0_1] 59 := ⟨_, rfl⟩
  have HO := Aside0.mk hO
  have hbx : Below w.heap.size w (w.alloc O) := (Below.refl w.heap.size w).alloc (Nat.le_refl _) _
  have hbk := heap_alloc_new w O
  have hbs : (w.alloc O).heap.size = w.heap.size + 1 := by simp
  have HS := Aside0.mk hbs
  rw [hO] at hbx hbk
  clear hO hbs
  have HBK := Aside0.mk hbk
  clear hbk
  go_enter Try.func54, Try.ntmps54
  go_upto_if 10 with (go_at_call 53; refine (bocageref01_Is.calls k a0_0 A0_1 c0_1 l0_1 t _ (Kd.C_below HR.out hbx) HC.out AIs.out).mono ?_; rintro e w1 ⟨rfl, hb1⟩)
  have hk1 : w1.heap[w.heap.size]? = some (.cells #[.int .i64 a0_0, .slice A0_1 l0_1.length c0_1] 59 (0, 0)) := by
    rw [hb1.block _ (by simp)]; exact HBK.out
  have hbel1 : Below w.heap.size w w1 := hbx.trans (hb1.mono (by simp))
  go_cut [3] (fun v3 wc => ∃ (A : Option Addr) (c : Nat) (l : List Int), v3 = .slice A l.length c ∧ Aside0 (Kd.C (Kd.int .i64) wc A l.length l) ∧ Aside0 (bocageref01_End.l0 k a0_0 l (wrap64 ((l.length : Int) - 1)) 0 = some r) ∧ Below w.heap.size w wc ∧ wc.heap[w.heap.size]? = some (.cells #[.int .i64 a0_0, .slice A0_1 l0_1.length c0_1] 59 (0, 0)))
  case first =>
    have hc0 : w1.cell? ⟨w.heap.size, 0, none⟩ = some (.int .i64 a0_0) := by simp [World.cell?, hk1]
    cases t with
    | true =>
      go_wp2
      go_meet
      case rel => exact ⟨A0_1, c0_1, l0_1, rfl, ⟨Kd.C_below HR.out hbel1⟩, ⟨by simpa using AH.out⟩, hbel1, hk1⟩
    | false =>
      obtain ⟨y, hy, hl⟩ : ∃ y, Aside0 (bocageref01_ends.f a0_0 = some y) ∧ Aside0 (bocageref01_End.l0 k a0_0 y (wrap64 ((y.length : Int) - 1)) 0 = some r) := by
        have := AH.out
        simp only [Bool.false_eq_true, if_false] at this
        obtain ⟨y, h1, h2⟩ := Option.bind_eq_some_iff.1 this
        exact ⟨y, ⟨h1⟩, ⟨h2⟩⟩
      go_wp2_with (go_at_call 66; refine (bocageref01_ends.calls a0_0 y _ hy.out).mono ?_; rintro e w2 ⟨v, rfl, hR, hb2⟩)
      obtain ⟨A, c, rfl, hCl, hC⟩ := Kd.R_reads hR
      go_meet
      case rel => exact ⟨A, c, y, rfl, ⟨hC⟩, hl, hbel1.trans (hb2.mono (by have := hbel1.size; omega)), (hb2.block _ (lt_of_block hk1)).trans hk1⟩
  case rest =>
    obtain ⟨A, c, l, rfl, hC, hl0, hbel, hk⟩ := hcut
    clear hk1 hbel1 hb1 AH AIs HR HC HBK HS hbx HO
    go_wp2_with fail
    go_loopg [4, 5] k (fun kq v4 v5 w' => ∃ (n i : Int), v4 = .int .i64 n ∧ v5 = .int .i64 i ∧ Aside0 (bocageref01_End.l0 kq a0_0 l i n = some r) ∧ Drawn0 wc w')
    case atStart => exact ⟨0, wrap64 ((l.length : Int) - 1), rfl, (by first | rfl | (simp; done) | (simp [*]; done)), hl0, Drawn0.refl _⟩
    case round =>
      clear hl0
      obtain ⟨n, i, rfl, rfl, HA, ⟨m, rfl⟩⟩ := hrel
      cases gk with
      | zero => exact absurd HA.out (by simp [bocageref01_End.l0])
      | succ k1 =>
        have H := HA.out
        clear HA
        simp only [bocageref01_End.l0] at H
        by_cases c3 : i ≥ 0
        · rw [if_pos c3] at H
          have c3b0 : decide (0 ≤ i) = true := decide_eq_true c3
          by_cases c4 : i < (l.length : Int)
          · rw [if_pos c4] at H
            have H' := Aside0.mk H
            clear H
            obtain ⟨ad, rfl, hx⟩ := Kd.at_int hC.out i c3 c4
            have hs0 : wc.cell? ⟨w.heap.size, 0, none⟩ = some (.int .i64 a0_0) := by simp [World.cell?, hk]
            clear hC
            have c3' := eq_true c3
            have c4' := eq_true c4
            go_wp2
            go_quiet (fail)
            go_wp2
            go_roundg k1
            case rel => exact ⟨_, _, rfl, rfl, H', ⟨_, rfl⟩⟩
            case measure => omega
          · rw [if_neg c4] at H
            cases H
        · rw [if_neg c3] at H
          have c3b0 : decide (0 ≤ i) = false := decide_eq_false c3
          obtain rfl := Option.some.inj H
          go_wp2
          go_ret
          exact ⟨rfl, hbel.trans ⟨rfl, rfl, rfl, by simp, fun _ _ => rfl⟩⟩

end Go.Proofs.Ytihhagfdfhojnaa.Print
