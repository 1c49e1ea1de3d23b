import Derived.Test.YtcgpgbhhlepefaaPrint1
import Derived.Test.YtcgpgbhhlepefaaPrint3
import Derived.Laws.RangeAny
namespace Go.Proofs.Ytcgpgbhhlepefaa.Print
open Go.RowKit Go.Proofs.YtcgpgbhhlepefaaW.PrintWords Go.Proofs.YtcgpgbhhlepefaaW.PrintLast Go.Proofs.YtcgpgbhhlepefaaW.PrintMore
set_option linter.unusedVariables false
set_option linter.unusedSimpArgs false
/-! ### the law's own walk (given by hand: it ranges over a text) -/
set_option maxHeartbeats 8000000 in
set_option maxRecDepth 100000 in
theorem bocagelaw01_SatDigits.calls (k : Nat) (n : Int) (t : ByteArray) (w : World) (ha : bocagelaw01_alive.f k = some true) (e1 : sat_Text.f n = some t) (h1 : 1 ≤ t.size) (h20 : t.size ≤ 20)
    (hsg : (bt t 0 == 45) = decide (n < 0)) (hneg : n < 0 → (∀ i (h : i < (t.extract 1 t.size).size), 48 ≤ ((t.extract 1 t.size)[i]'h).toNat ∧ ((t.extract 1 t.size)[i]'h).toNat ≤ 57) ∧ 1 ≤ (t.extract 1 t.size).size ∧ bt (t.extract 1 t.size) 0 ≠ 48)
    (hpos : ¬ n < 0 → (∀ i (h : i < t.size), 48 ≤ (t[i]'h).toNat ∧ (t[i]'h).toNat ≤ 57) ∧ (bt t 0 = 48 → n = 0 ∧ t.size = 1)) :
    Calls Try.prog 6 #[.int .i64 n] w fun e w' => e = .returned (.bool true) ∧ Below w.heap.size w w' := by
  have HA := Aside0.mk ha
  have E1 := Aside0.mk e1
  have hx5 : ∀ h : 0 < t.size, ((t[0]'h).toNat : Int) = bt t 0 := bt_at t 0
  have d1 : ((t.size : Int) == 0) = false := beq_eq_false_iff_ne.2 (by omega)
  have d2 : decide (20 < (t.size : Int)) = false := decide_eq_false (by omega)
  have d0 : 0 < t.size := by omega
  clear ha e1
  by_cases hn : n < 0
  · have dn : decide (n < 0) = true := decide_eq_true hn
    have d3 : (bt t 0 == 45) = true := hsg.trans dn
    obtain ⟨g1, g2, g3⟩ := hneg hn
    have HD := Aside0.mk g1
    have hx6 : ∀ h : 0 < (t.extract 1 t.size).size, (((t.extract 1 t.size)[0]'h).toNat : Int) = bt (t.extract 1 t.size) 0 := bt_at _ 0
    have d4 : decide (0 < ((t.extract 1 t.size).size : Int)) = true := decide_eq_true (by omega)
    have d5 : 0 < (t.extract 1 t.size).size := by omega
    have d6 : (bt (t.extract 1 t.size) 0 != 48) = true := bne_iff_ne.2 g3
    clear hsg hneg hpos hn g1 g2 g3
    go_enter Try.func6, Try.ntmps6
    go_wp2_with (go_at_call 20; (with_reducible refine (sat_Text.calls n t _ E1.out).mono ?_); rintro e w2 ⟨rfl, hb2⟩; have HB := Aside0.mk (below_step (Below.refl w.heap.size w) hb2); clear hb2)
    generalize t.extract 1 t.size = s at *
    go_loopw [5] (fun v_ w' => ∃ pos : Nat, w' = w2.iter s pos ∧ pos ≤ s.size) (fun _ w' => s.size - w'.iterPos w2.heap.size)
    case atStart => exact ⟨0, rfl, Nat.zero_le _⟩
    case round =>
      obtain ⟨pos, rfl, hpos⟩ := hrel
      by_cases hp : pos < s.size
      · obtain ⟨b1, b2⟩ := HD.out pos hp
        have hnx : ∀ ty, (Instr.next (.pointer (some ⟨w2.heap.size, 0, none⟩)) true ty).run Try.prog (w2.iter s pos) = _ := fun ty => run_next_ascii w2 s pos ty hp (by omega)
        have dl : decide (((s[pos]'hp).toNat : Int) < 48) = false := decide_eq_false (by omega)
        have dg : decide (57 < ((s[pos]'hp).toNat : Int)) = false := decide_eq_false (by omega)
        have B := Aside0.mk (And.intro b1 b2)
        clear b1 b2
        go_wp2
        go_roundw
        case rel => exact ⟨pos + 1, rfl, hp⟩
        case measure =>
          simp
          omega
      · have hnx : ∀ ty, (Instr.next (.pointer (some ⟨w2.heap.size, 0, none⟩)) true ty).run Try.prog (w2.iter s pos) = _ := fun ty => run_next_end w2 s pos ty hp
        have HBI := Aside0.mk (show Below w.heap.size w (w2.iter s pos) from HB.out.alloc HB.out.size _)
        clear hp hpos
        go_wp2_with (go_at_call 11; (with_reducible refine (bocagelaw01_alive.calls k true _ HA.out).mono ?_); rintro e w9 ⟨rfl, hb9⟩; have HB9 := Aside0.mk (HBI.out.trans (hb9.mono HBI.out.size)); clear hb9)
        go_ret
        exact ⟨rfl, HB9.out⟩
  · have dn : decide (n < 0) = false := decide_eq_false hn
    have d3 : (bt t 0 == 45) = false := hsg.trans dn
    obtain ⟨g1, g3⟩ := hpos hn
    have HD := Aside0.mk g1
    have HZ := Aside0.mk g3
    have d4 : decide (0 < (t.size : Int)) = true := decide_eq_true (by omega)
    clear hsg hneg hpos hn g1 g3
    go_enter Try.func6, Try.ntmps6
    go_wp2_with (go_at_call 20; (with_reducible refine (sat_Text.calls n t _ E1.out).mono ?_); rintro e w2 ⟨rfl, hb2⟩; have HB := Aside0.mk (below_step (Below.refl w.heap.size w) hb2); clear hb2)
    go_loopw [5] (fun v_ w' => ∃ pos : Nat, w' = w2.iter t pos ∧ pos ≤ t.size) (fun _ w' => t.size - w'.iterPos w2.heap.size)
    case atStart => exact ⟨0, rfl, Nat.zero_le _⟩
    case round =>
      obtain ⟨pos, rfl, hpos⟩ := hrel
      by_cases hp : pos < t.size
      · obtain ⟨b1, b2⟩ := HD.out pos hp
        have hnx : ∀ ty, (Instr.next (.pointer (some ⟨w2.heap.size, 0, none⟩)) true ty).run Try.prog (w2.iter t pos) = _ := fun ty => run_next_ascii w2 t pos ty hp (by omega)
        have dl : decide (((t[pos]'hp).toNat : Int) < 48) = false := decide_eq_false (by omega)
        have dg : decide (57 < ((t[pos]'hp).toNat : Int)) = false := decide_eq_false (by omega)
        have B := Aside0.mk (And.intro b1 b2)
        clear b1 b2
        go_wp2
        go_roundw
        case rel => exact ⟨pos + 1, rfl, hp⟩
        case measure =>
          simp
          omega
      · have hnx : ∀ ty, (Instr.next (.pointer (some ⟨w2.heap.size, 0, none⟩)) true ty).run Try.prog (w2.iter t pos) = _ := fun ty => run_next_end w2 t pos ty hp
        have HBI := Aside0.mk (show Below w.heap.size w (w2.iter t pos) from HB.out.alloc HB.out.size _)
        clear hp hpos
        by_cases hz0 : bt t 0 = 48
        · obtain ⟨z1, z2⟩ := HZ.out hz0
          have z5 : (bt t 0 != 48) = false := bne_eq_false_iff_eq.2 hz0
          have z3 : (n == 0) = true := beq_iff_eq.2 z1
          have z4 : ((t.size : Int) == 1) = true := beq_iff_eq.2 (by omega)
          clear z1 z2 hz0
          go_wp2_with (go_at_call 11; (with_reducible refine (bocagelaw01_alive.calls k true _ HA.out).mono ?_); rintro e w9 ⟨rfl, hb9⟩; have HB9 := Aside0.mk (HBI.out.trans (hb9.mono HBI.out.size)); clear hb9)
          go_ret
          exact ⟨rfl, HB9.out⟩
        · have z5 : (bt t 0 != 48) = true := bne_iff_ne.2 hz0
          clear hz0
          go_wp2_with (go_at_call 11; (with_reducible refine (bocagelaw01_alive.calls k true _ HA.out).mono ?_); rintro e w9 ⟨rfl, hb9⟩; have HB9 := Aside0.mk (HBI.out.trans (hb9.mono HBI.out.size)); clear hb9)
          go_ret
          exact ⟨rfl, HB9.out⟩
def bocagelaw01_SatDigits.Pure : Prop := ∀ (n : Int), (Lit.int .i64 n).wf = true → ∃ (k : Nat) (t : ByteArray), bocagelaw01_alive.f k = some true ∧ sat_Text.f n = some t ∧ 1 ≤ t.size ∧ t.size ≤ 20 ∧ ((bt t 0 == 45) = decide (n < 0)) ∧
  (n < 0 → (∀ i (h : i < (t.extract 1 t.size).size), 48 ≤ ((t.extract 1 t.size)[i]'h).toNat ∧ ((t.extract 1 t.size)[i]'h).toNat ≤ 57) ∧ 1 ≤ (t.extract 1 t.size).size ∧ bt (t.extract 1 t.size) 0 ≠ 48) ∧
  (¬ n < 0 → (∀ i (h : i < t.size), 48 ≤ (t[i]'h).toNat ∧ (t[i]'h).toNat ≤ 57) ∧ (bt t 0 = 48 → n = 0 ∧ t.size = 1))
theorem bocagelaw01_SatDigits.walk (P : bocagelaw01_SatDigits.Pure) (n : Int) (w : World) (w0 : (Lit.int .i64 n).wf = true) :
    Calls Try.prog 6 #[.int .i64 n] w fun e w' => e = .returned (.bool true) ∧ Below w.heap.size w w' := by
  obtain ⟨k, t, h0, h1, h2, h3, h4, h5, h6⟩ := P n w0
  exact bocagelaw01_SatDigits.calls k n t w h0 h1 h2 h3 h4 h5 h6
end Go.Proofs.Ytcgpgbhhlepefaa.Print
