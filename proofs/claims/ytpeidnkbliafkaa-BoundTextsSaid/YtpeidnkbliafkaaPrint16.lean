-- Laid by wip/print/bprint.py of this repo, over the kit's printer, with functions given by hand; not trusted: Lean checks it.
import Derived.Test.YtpeidnkbliafkaaHBnd2
import Derived.Test.YtpeidnkbliafkaaHBnd4
import Derived.Test.YtpeidnkbliafkaaPrint0
import Derived.Test.YtpeidnkbliafkaaPrint4
import Derived.Test.YtpeidnkbliafkaaPrint5
import Derived.Test.YtpeidnkbliafkaaPrint8
import Derived.Test.YtpeidnkbliafkaaSh
namespace Go.Proofs.Ytpeidnkbliafkaa.Print
open Go.RowKit Go.Proofs.YtpeidnkbliafkaaW.PrintWords Go.Proofs.YtpeidnkbliafkaaW.PrintLast Go.Proofs.YtpeidnkbliafkaaW.PrintMore
attribute [local go_sem] max2_int min2_int max_two min_two max_three min_three max_four min_four   -- for this text's walks alone
set_option linter.unusedVariables false
set_option linter.unusedSimpArgs false
section
attribute [local go_sem high] eqA27
/-! ### bocagelaw04_BoundTexts: function 5 -/
def bocagelaw04_BoundTexts.f (k : Nat) (a0_0 : Int) (a0_1 : Int) (a0_2 : Int) (a0_3 : Int) (a1 : ByteArray) : Option (Bool) := if (a1.size : Int) > 1000 then ((bocagelaw04_alive.f k).bind fun t594 => (some t594)) else ((bound_Text.f k a0_0 a0_1 a0_2 a0_3).bind fun t595 => ((bocageref04_Text.f k a0_0 a0_1 a0_2 a0_3).bind fun t596 => (if t595.toList = t596.toList then ((bocageref03_Right.f k a0_0 a0_1 a0_2 a0_3).bind fun t597 => (if t597 = true then ((bound_Parse.f k t595).bind fun bt599 => (if t595.size + a1.size ≤ 9223372036854775807 then ((bound_Read.f k (t595 ++ a1)).bind fun bt605 => ((bound_Loose.f k (t595 ++ a1)).bind fun bt612 => ((bocagelaw04_alive.f k).bind fun t619 => (if t619 = true then (if ((bt599.1 == a0_0 && (bt599.2.1 == a0_1)) && ((bt599.2.2.1 == a0_2 && (bt599.2.2.2.1 == a0_3)))) = true then (if bt599.2.2.2.2 = 0 then (if ((bt605.1 == a0_0 && (bt605.2.1 == a0_1)) && ((bt605.2.2.1 == a0_2 && (bt605.2.2.2.1 == a0_3)))) = true then (if bt605.2.2.2.2.1 = (t595.size : Int) then (if bt605.2.2.2.2.2 = 0 then (if ((bt612.1 == a0_0 && (bt612.2.1 == a0_1)) && ((bt612.2.2.1 == a0_2 && (bt612.2.2.2.1 == a0_3)))) = true then (if bt612.2.2.2.2.1 = (t595.size : Int) then (some (bt612.2.2.2.2.2 == 0)) else (some false)) else (some false)) else (some false)) else (some false)) else (some false)) else (some false)) else (some false)) else (some false))))) else (none))) else ((bocagelaw04_alive.f k).bind fun t598 => (if t598 = true then (some (t595.toList == ([] : List UInt8))) else (some false))))) else (some false))))
theorem bocagelaw04_BoundTexts.mono : ∀ a0 a1 a2 a3 a4 k, LeO (bocagelaw04_BoundTexts.f k a0 a1 a2 a3 a4) (bocagelaw04_BoundTexts.f (k + 1) a0 a1 a2 a3 a4) := by
  intro a0 a1 a2 a3 a4 k
  unfold bocagelaw04_BoundTexts.f
  repeat' first
      | (with_reducible exact bocagelaw04_alive.mono _)
      | (with_reducible exact bocageref03_Right.mono _ _ _ _ _)
      | (with_reducible exact bocageref04_Text.mono _ _ _ _ _)
      | (with_reducible exact bound_Loose.mono _ _)
      | (with_reducible exact bound_Parse.mono _ _)
      | (with_reducible exact bound_Read.mono _ _)
      | (with_reducible exact bound_Text.mono _ _ _ _ _)
      | (with_reducible exact LeO.refl _)
      | (with_reducible exact LeO.none _)
      | (with_reducible refine LeO.ite ?_ ?_)
      | (with_reducible refine LeO.bind ?_ (fun _ => ?_))
      | exact bocagelaw04_alive.mono _
      | exact bocageref03_Right.mono _ _ _ _ _
      | exact bocageref04_Text.mono _ _ _ _ _
      | exact bound_Loose.mono _ _
      | exact bound_Parse.mono _ _
      | exact bound_Read.mono _ _
      | exact bound_Text.mono _ _ _ _ _
      | exact LeO.none _
      | refine LeO.ite ?_ ?_
      | refine LeO.bind ?_ (fun _ => ?_)
set_option maxHeartbeats 8000000 in
set_option maxRecDepth 100000 in
theorem bocagelaw04_BoundTexts.calls (k : Nat) (a0_0 : Int) (a0_1 : Int) (a0_2 : Int) (a0_3 : Int) (a1 : ByteArray) (r : Bool) (w : World) (h : bocagelaw04_BoundTexts.f k a0_0 a0_1 a0_2 a0_3 a1 = some r) (hr : r = true) :
    Calls Try.prog 5 #[.agg #[.int .i64 a0_0, .int .i64 a0_1, .int .i64 a0_2, .int .i64 a0_3], .string a1] w fun e w' => e = .returned (.bool r) ∧ Below w.heap.size w w' := by
  have HRT := Aside0.mk hr
  clear hr
  have hu27 := Try.underlying27
  have HB := Aside0.mk (Below.refl w.heap.size w)
  have H : (if (a1.size : Int) > 1000 then ((bocagelaw04_alive.f k).bind fun t594 => (some t594)) else ((bound_Text.f k a0_0 a0_1 a0_2 a0_3).bind fun t595 => ((bocageref04_Text.f k a0_0 a0_1 a0_2 a0_3).bind fun t596 => (if t595.toList = t596.toList then ((bocageref03_Right.f k a0_0 a0_1 a0_2 a0_3).bind fun t597 => (if t597 = true then ((bound_Parse.f k t595).bind fun bt599 => (if t595.size + a1.size ≤ 9223372036854775807 then ((bound_Read.f k (t595 ++ a1)).bind fun bt605 => ((bound_Loose.f k (t595 ++ a1)).bind fun bt612 => ((bocagelaw04_alive.f k).bind fun t619 => (if t619 = true then (if ((bt599.1 == a0_0 && (bt599.2.1 == a0_1)) && ((bt599.2.2.1 == a0_2 && (bt599.2.2.2.1 == a0_3)))) = true then (if bt599.2.2.2.2 = 0 then (if ((bt605.1 == a0_0 && (bt605.2.1 == a0_1)) && ((bt605.2.2.1 == a0_2 && (bt605.2.2.2.1 == a0_3)))) = true then (if bt605.2.2.2.2.1 = (t595.size : Int) then (if bt605.2.2.2.2.2 = 0 then (if ((bt612.1 == a0_0 && (bt612.2.1 == a0_1)) && ((bt612.2.2.1 == a0_2 && (bt612.2.2.2.1 == a0_3)))) = true then (if bt612.2.2.2.2.1 = (t595.size : Int) then (some (bt612.2.2.2.2.2 == 0)) else (some false)) else (some false)) else (some false)) else (some false)) else (some false)) else (some false)) else (some false)) else (some false))))) else (none))) else ((bocagelaw04_alive.f k).bind fun t598 => (if t598 = true then (some (t595.toList == ([] : List UInt8))) else (some false))))) else (some false))))) = some r := h
  clear h
  by_cases c3 : (a1.size : Int) > 1000
  · rw [if_pos c3] at H
    have c3b0 : decide (1000 < (a1.size : Int)) = true := decide_eq_true c3
    have c3b1 : decide (1000 < a1.size) = true := decide_eq_true (by omega)
    clear c3
    replace H := Option.bind_eq_some_iff.mp H
    obtain ⟨t594, A40, H⟩ := H
    replace H : (some t594) = some r := H
    have A4 := Aside0.mk A40
    clear A40
    obtain rfl := Option.some.inj H
    go_enter Try.func5, Try.ntmps5
    go_wp2_with (first | ((with_reducible refine gate_dst (N := 2) rfl ?_); (try (refine gate_guard (by rfl) ?_; dsimp only)); refine bxe (N := 2) (cs := #[.int .i64 a0_0, .int .i64 a0_1, .int .i64 a0_2, .int .i64 a0_3]) (t := 27) ?_; intro gb593 hg w5 hbox hb; have BK593 := Aside0.mk (hbox); have GW593 := lsz hg HB; have GE593 := lsz hg HB; replace HB := bst HB hb; clear hb hbox hg) | ((with_reducible refine gate_callee (f := 10) rfl ?_); refine gol (some 17) Try.func10 #[] ?_; (with_reducible refine (bocagelaw04_alive.calls k  t594 _ A4.out HRT.out).mono ?_); rintro e w6 ⟨rfl, hb⟩; refine ⟨_, rfl, ?_⟩; replace BK593 := bkb BK593 hb; replace HB := bst HB hb; (try clear hb); (try clear hb2); (try clear hk); (try clear hi)))
    go_ret
    exact endB HB
  · rw [if_neg c3] at H
    have c3b0 : decide (1000 < (a1.size : Int)) = false := decide_eq_false c3
    have c3b1 : decide (1000 < a1.size) = false := decide_eq_false (by omega)
    clear c3
    replace H := Option.bind_eq_some_iff.mp H
    obtain ⟨t595, A70, H⟩ := H
    replace H : ((bocageref04_Text.f k a0_0 a0_1 a0_2 a0_3).bind fun t596 => (if t595.toList = t596.toList then ((bocageref03_Right.f k a0_0 a0_1 a0_2 a0_3).bind fun t597 => (if t597 = true then ((bound_Parse.f k t595).bind fun bt599 => (if t595.size + a1.size ≤ 9223372036854775807 then ((bound_Read.f k (t595 ++ a1)).bind fun bt605 => ((bound_Loose.f k (t595 ++ a1)).bind fun bt612 => ((bocagelaw04_alive.f k).bind fun t619 => (if t619 = true then (if ((bt599.1 == a0_0 && (bt599.2.1 == a0_1)) && ((bt599.2.2.1 == a0_2 && (bt599.2.2.2.1 == a0_3)))) = true then (if bt599.2.2.2.2 = 0 then (if ((bt605.1 == a0_0 && (bt605.2.1 == a0_1)) && ((bt605.2.2.1 == a0_2 && (bt605.2.2.2.1 == a0_3)))) = true then (if bt605.2.2.2.2.1 = (t595.size : Int) then (if bt605.2.2.2.2.2 = 0 then (if ((bt612.1 == a0_0 && (bt612.2.1 == a0_1)) && ((bt612.2.2.1 == a0_2 && (bt612.2.2.2.1 == a0_3)))) = true then (if bt612.2.2.2.2.1 = (t595.size : Int) then (some (bt612.2.2.2.2.2 == 0)) else (some false)) else (some false)) else (some false)) else (some false)) else (some false)) else (some false)) else (some false)) else (some false))))) else (none))) else ((bocagelaw04_alive.f k).bind fun t598 => (if t598 = true then (some (t595.toList == ([] : List UInt8))) else (some false))))) else (some false))) = some r := H
    have A7 := Aside0.mk A70
    clear A70
    replace H := Option.bind_eq_some_iff.mp H
    obtain ⟨t596, A80, H⟩ := H
    replace H : (if t595.toList = t596.toList then ((bocageref03_Right.f k a0_0 a0_1 a0_2 a0_3).bind fun t597 => (if t597 = true then ((bound_Parse.f k t595).bind fun bt599 => (if t595.size + a1.size ≤ 9223372036854775807 then ((bound_Read.f k (t595 ++ a1)).bind fun bt605 => ((bound_Loose.f k (t595 ++ a1)).bind fun bt612 => ((bocagelaw04_alive.f k).bind fun t619 => (if t619 = true then (if ((bt599.1 == a0_0 && (bt599.2.1 == a0_1)) && ((bt599.2.2.1 == a0_2 && (bt599.2.2.2.1 == a0_3)))) = true then (if bt599.2.2.2.2 = 0 then (if ((bt605.1 == a0_0 && (bt605.2.1 == a0_1)) && ((bt605.2.2.1 == a0_2 && (bt605.2.2.2.1 == a0_3)))) = true then (if bt605.2.2.2.2.1 = (t595.size : Int) then (if bt605.2.2.2.2.2 = 0 then (if ((bt612.1 == a0_0 && (bt612.2.1 == a0_1)) && ((bt612.2.2.1 == a0_2 && (bt612.2.2.2.1 == a0_3)))) = true then (if bt612.2.2.2.2.1 = (t595.size : Int) then (some (bt612.2.2.2.2.2 == 0)) else (some false)) else (some false)) else (some false)) else (some false)) else (some false)) else (some false)) else (some false)) else (some false))))) else (none))) else ((bocagelaw04_alive.f k).bind fun t598 => (if t598 = true then (some (t595.toList == ([] : List UInt8))) else (some false))))) else (some false)) = some r := H
    have A8 := Aside0.mk A80
    clear A80
    by_cases c9 : t595.toList = t596.toList
    · rw [if_pos c9] at H
      have c9b0 : (t595.toList == t596.toList) = true := beq_iff_eq.mpr c9
      have c9b1 : (t595.toList != t596.toList) = false := bne_eq_false_iff_eq.mpr c9
      clear c9
      replace H := Option.bind_eq_some_iff.mp H
      obtain ⟨t597, A100, H⟩ := H
      replace H : (if t597 = true then ((bound_Parse.f k t595).bind fun bt599 => (if t595.size + a1.size ≤ 9223372036854775807 then ((bound_Read.f k (t595 ++ a1)).bind fun bt605 => ((bound_Loose.f k (t595 ++ a1)).bind fun bt612 => ((bocagelaw04_alive.f k).bind fun t619 => (if t619 = true then (if ((bt599.1 == a0_0 && (bt599.2.1 == a0_1)) && ((bt599.2.2.1 == a0_2 && (bt599.2.2.2.1 == a0_3)))) = true then (if bt599.2.2.2.2 = 0 then (if ((bt605.1 == a0_0 && (bt605.2.1 == a0_1)) && ((bt605.2.2.1 == a0_2 && (bt605.2.2.2.1 == a0_3)))) = true then (if bt605.2.2.2.2.1 = (t595.size : Int) then (if bt605.2.2.2.2.2 = 0 then (if ((bt612.1 == a0_0 && (bt612.2.1 == a0_1)) && ((bt612.2.2.1 == a0_2 && (bt612.2.2.2.1 == a0_3)))) = true then (if bt612.2.2.2.2.1 = (t595.size : Int) then (some (bt612.2.2.2.2.2 == 0)) else (some false)) else (some false)) else (some false)) else (some false)) else (some false)) else (some false)) else (some false)) else (some false))))) else (none))) else ((bocagelaw04_alive.f k).bind fun t598 => (if t598 = true then (some (t595.toList == ([] : List UInt8))) else (some false)))) = some r := H
      have A10 := Aside0.mk A100
      clear A100
      by_cases c11 : t597 = true
      · subst c11
        have H1 : ((bound_Parse.f k t595).bind fun bt599 => (if t595.size + a1.size ≤ 9223372036854775807 then ((bound_Read.f k (t595 ++ a1)).bind fun bt605 => ((bound_Loose.f k (t595 ++ a1)).bind fun bt612 => ((bocagelaw04_alive.f k).bind fun t619 => (if t619 = true then (if ((bt599.1 == a0_0 && (bt599.2.1 == a0_1)) && ((bt599.2.2.1 == a0_2 && (bt599.2.2.2.1 == a0_3)))) = true then (if bt599.2.2.2.2 = 0 then (if ((bt605.1 == a0_0 && (bt605.2.1 == a0_1)) && ((bt605.2.2.1 == a0_2 && (bt605.2.2.2.1 == a0_3)))) = true then (if bt605.2.2.2.2.1 = (t595.size : Int) then (if bt605.2.2.2.2.2 = 0 then (if ((bt612.1 == a0_0 && (bt612.2.1 == a0_1)) && ((bt612.2.2.1 == a0_2 && (bt612.2.2.2.1 == a0_3)))) = true then (if bt612.2.2.2.2.1 = (t595.size : Int) then (some (bt612.2.2.2.2.2 == 0)) else (some false)) else (some false)) else (some false)) else (some false)) else (some false)) else (some false)) else (some false)) else (some false))))) else (none))) = some r := by rw [if_pos rfl] at H; exact H
        clear H
        have H := H1
        clear H1
        replace H := Option.bind_eq_some_iff.mp H
        obtain ⟨⟨t599, t600, t601, t602, t603⟩, A120, H⟩ := H
        replace H : (if t595.size + a1.size ≤ 9223372036854775807 then ((bound_Read.f k (t595 ++ a1)).bind fun bt605 => ((bound_Loose.f k (t595 ++ a1)).bind fun bt612 => ((bocagelaw04_alive.f k).bind fun t619 => (if t619 = true then (if ((t599 == a0_0 && (t600 == a0_1)) && ((t601 == a0_2 && (t602 == a0_3)))) = true then (if t603 = 0 then (if ((bt605.1 == a0_0 && (bt605.2.1 == a0_1)) && ((bt605.2.2.1 == a0_2 && (bt605.2.2.2.1 == a0_3)))) = true then (if bt605.2.2.2.2.1 = (t595.size : Int) then (if bt605.2.2.2.2.2 = 0 then (if ((bt612.1 == a0_0 && (bt612.2.1 == a0_1)) && ((bt612.2.2.1 == a0_2 && (bt612.2.2.2.1 == a0_3)))) = true then (if bt612.2.2.2.2.1 = (t595.size : Int) then (some (bt612.2.2.2.2.2 == 0)) else (some false)) else (some false)) else (some false)) else (some false)) else (some false)) else (some false)) else (some false)) else (some false))))) else (none)) = some r := H
        have A12 := Aside0.mk A120
        clear A120
        by_cases c13 : t595.size + a1.size ≤ 9223372036854775807
        · rw [if_pos c13] at H
          have c13b0 := eq_true c13
          have c13b1 : decide (t595.size + a1.size ≤ 9223372036854775807) = true := decide_eq_true c13
          try have c13b2 : (9223372036854775807 < t595.size + a1.size) = False := eq_false (Nat.not_lt.2 c13)
          replace H := Option.bind_eq_some_iff.mp H
          obtain ⟨⟨t605, t606, t607, t608, t609, t610⟩, A140, H⟩ := H
          replace H : ((bound_Loose.f k (t595 ++ a1)).bind fun bt612 => ((bocagelaw04_alive.f k).bind fun t619 => (if t619 = true then (if ((t599 == a0_0 && (t600 == a0_1)) && ((t601 == a0_2 && (t602 == a0_3)))) = true then (if t603 = 0 then (if ((t605 == a0_0 && (t606 == a0_1)) && ((t607 == a0_2 && (t608 == a0_3)))) = true then (if t609 = (t595.size : Int) then (if t610 = 0 then (if ((bt612.1 == a0_0 && (bt612.2.1 == a0_1)) && ((bt612.2.2.1 == a0_2 && (bt612.2.2.2.1 == a0_3)))) = true then (if bt612.2.2.2.2.1 = (t595.size : Int) then (some (bt612.2.2.2.2.2 == 0)) else (some false)) else (some false)) else (some false)) else (some false)) else (some false)) else (some false)) else (some false)) else (some false)))) = some r := H
          have A14 := Aside0.mk A140
          clear A140
          replace H := Option.bind_eq_some_iff.mp H
          obtain ⟨⟨t612, t613, t614, t615, t616, t617⟩, A150, H⟩ := H
          replace H : ((bocagelaw04_alive.f k).bind fun t619 => (if t619 = true then (if ((t599 == a0_0 && (t600 == a0_1)) && ((t601 == a0_2 && (t602 == a0_3)))) = true then (if t603 = 0 then (if ((t605 == a0_0 && (t606 == a0_1)) && ((t607 == a0_2 && (t608 == a0_3)))) = true then (if t609 = (t595.size : Int) then (if t610 = 0 then (if ((t612 == a0_0 && (t613 == a0_1)) && ((t614 == a0_2 && (t615 == a0_3)))) = true then (if t616 = (t595.size : Int) then (some (t617 == 0)) else (some false)) else (some false)) else (some false)) else (some false)) else (some false)) else (some false)) else (some false)) else (some false))) = some r := H
          have A15 := Aside0.mk A150
          clear A150
          replace H := Option.bind_eq_some_iff.mp H
          obtain ⟨t619, A160, H⟩ := H
          replace H : (if t619 = true then (if ((t599 == a0_0 && (t600 == a0_1)) && ((t601 == a0_2 && (t602 == a0_3)))) = true then (if t603 = 0 then (if ((t605 == a0_0 && (t606 == a0_1)) && ((t607 == a0_2 && (t608 == a0_3)))) = true then (if t609 = (t595.size : Int) then (if t610 = 0 then (if ((t612 == a0_0 && (t613 == a0_1)) && ((t614 == a0_2 && (t615 == a0_3)))) = true then (if t616 = (t595.size : Int) then (some (t617 == 0)) else (some false)) else (some false)) else (some false)) else (some false)) else (some false)) else (some false)) else (some false)) else (some false)) = some r := H
          have A16 := Aside0.mk A160
          clear A160
          by_cases c17 : t619 = true
          · subst c17
            have H1 : (if ((t599 == a0_0 && (t600 == a0_1)) && ((t601 == a0_2 && (t602 == a0_3)))) = true then (if t603 = 0 then (if ((t605 == a0_0 && (t606 == a0_1)) && ((t607 == a0_2 && (t608 == a0_3)))) = true then (if t609 = (t595.size : Int) then (if t610 = 0 then (if ((t612 == a0_0 && (t613 == a0_1)) && ((t614 == a0_2 && (t615 == a0_3)))) = true then (if t616 = (t595.size : Int) then (some (t617 == 0)) else (some false)) else (some false)) else (some false)) else (some false)) else (some false)) else (some false)) else (some false)) = some r := by rw [if_pos rfl] at H; exact H
            clear H
            have H := H1
            clear H1
            by_cases c18 : ((t599 == a0_0 && (t600 == a0_1)) && ((t601 == a0_2 && (t602 == a0_3)))) = true
            · rw [if_pos c18] at H
              have c18b0 : ((t599 == a0_0 && (t600 == a0_1)) && ((t601 == a0_2 && (t602 == a0_3)))) = true := c18
              clear c18
              by_cases c19 : t603 = 0
              · rw [if_pos c19] at H
                have c19b0 : (t603 == 0) = true := beq_iff_eq.mpr c19
                have c19b1 : (t603 != 0) = false := bne_eq_false_iff_eq.mpr c19
                clear c19
                by_cases c20 : ((t605 == a0_0 && (t606 == a0_1)) && ((t607 == a0_2 && (t608 == a0_3)))) = true
                · rw [if_pos c20] at H
                  have c20b0 : ((t605 == a0_0 && (t606 == a0_1)) && ((t607 == a0_2 && (t608 == a0_3)))) = true := c20
                  clear c20
                  by_cases c21 : t609 = (t595.size : Int)
                  · rw [if_pos c21] at H
                    have c21b0 : (t609 == (t595.size : Int)) = true := beq_iff_eq.mpr c21
                    have c21b1 : (t609 != (t595.size : Int)) = false := bne_eq_false_iff_eq.mpr c21
                    clear c21
                    by_cases c22 : t610 = 0
                    · rw [if_pos c22] at H
                      have c22b0 : (t610 == 0) = true := beq_iff_eq.mpr c22
                      have c22b1 : (t610 != 0) = false := bne_eq_false_iff_eq.mpr c22
                      clear c22
                      by_cases c23 : ((t612 == a0_0 && (t613 == a0_1)) && ((t614 == a0_2 && (t615 == a0_3)))) = true
                      · rw [if_pos c23] at H
                        have c23b0 : ((t612 == a0_0 && (t613 == a0_1)) && ((t614 == a0_2 && (t615 == a0_3)))) = true := c23
                        clear c23
                        by_cases c24 : t616 = (t595.size : Int)
                        · rw [if_pos c24] at H
                          have c24b0 : (t616 == (t595.size : Int)) = true := beq_iff_eq.mpr c24
                          have c24b1 : (t616 != (t595.size : Int)) = false := bne_eq_false_iff_eq.mpr c24
                          clear c24
                          obtain rfl := Option.some.inj H
                          go_enter Try.func5, Try.ntmps5
                          go_wp2_with (first | ((with_reducible refine gate_dst (N := 2) rfl ?_); (try (refine gate_guard (by rfl) ?_; dsimp only)); refine bxe (N := 2) (cs := #[.int .i64 a0_0, .int .i64 a0_1, .int .i64 a0_2, .int .i64 a0_3]) (t := 27) ?_; intro gb593 hg w25 hbox hb; have BK593 := Aside0.mk (hbox); have GW593 := lsz hg HB; have GE593 := lsz hg HB; replace HB := bst HB hb; clear hb hbox hg; obtain ⟨hcz26_0, hcz26_1, hcz26_2, hcz26_3⟩ := e4 BK593; obtain ⟨hfz26_0, hfz26_1, hfz26_2, hfz26_3⟩ := f4 BK593) | ((with_reducible refine gate_callee (f := 18) rfl ?_); refine gol (some 19) Try.func18 #[.agg #[.int .i64 a0_0, .int .i64 a0_1, .int .i64 a0_2, .int .i64 a0_3]] ?_; (with_reducible refine (bound_Text.calls k a0_0 a0_1 a0_2 a0_3 t595 _ A7.out).mono ?_); rintro e w27 ⟨rfl, hb⟩; refine ⟨_, rfl, ?_⟩; replace BK593 := bkb BK593 hb; replace HB := bst HB hb; (try clear hb); (try clear hb2); (try clear hk); (try clear hi); obtain ⟨hcz28_0, hcz28_1, hcz28_2, hcz28_3⟩ := e4 BK593; obtain ⟨hfz28_0, hfz28_1, hfz28_2, hfz28_3⟩ := f4 BK593) | ((with_reducible refine gate_callee (f := 19) rfl ?_); refine gol (some 22) Try.func19 #[.agg #[.int .i64 a0_0, .int .i64 a0_1, .int .i64 a0_2, .int .i64 a0_3]] ?_; (with_reducible refine (bocageref04_Text.calls k a0_0 a0_1 a0_2 a0_3 t596 _ A8.out).mono ?_); rintro e w29 ⟨rfl, hb⟩; refine ⟨_, rfl, ?_⟩; replace BK593 := bkb BK593 hb; replace HB := bst HB hb; (try clear hb); (try clear hb2); (try clear hk); (try clear hi); obtain ⟨hcz30_0, hcz30_1, hcz30_2, hcz30_3⟩ := e4 BK593; obtain ⟨hfz30_0, hfz30_1, hfz30_2, hfz30_3⟩ := f4 BK593) | ((with_reducible refine gate_callee (f := 20) rfl ?_); refine gol (some 25) Try.func20 #[.agg #[.int .i64 a0_0, .int .i64 a0_1, .int .i64 a0_2, .int .i64 a0_3]] ?_; (with_reducible refine (bocageref03_Right.calls k a0_0 a0_1 a0_2 a0_3 true _ A10.out).mono ?_); rintro e w31 ⟨rfl, hb⟩; refine ⟨_, rfl, ?_⟩; replace BK593 := bkb BK593 hb; replace HB := bst HB hb; (try clear hb); (try clear hb2); (try clear hk); (try clear hi)) | ((with_reducible refine gate_callee (f := 16) rfl ?_); refine gol (some 34) Try.func16 #[.string t595] ?_; (with_reducible refine (bound_Parse.calls k t595 t599 t600 t601 t602 t603 _ A12.out).mono ?_); rintro e w32 ⟨rfl, hb⟩; refine ⟨_, rfl, ?_⟩; replace BK593 := bkb BK593 hb; replace HB := bst HB hb; (try clear hb); (try clear hb2); (try clear hk); (try clear hi)) | ((with_reducible refine gate_dst (N := 6) rfl ?_); (try (refine gate_guard (by rfl) ?_; dsimp only)); refine bxe (N := 6) (cs := #[.int .i64 0, .int .i64 0, .int .i64 0, .int .i64 0]) (t := 27) ?_; intro gb604 hg w33 hbox hb; have BK604 := Aside0.mk (hbox); have GW604 := lsz hg HB; have GE604 := lsz hg HB; replace HB := bst HB hb; have NB593_604 := nlt hg BK593; have NB604_593 := ngt hg BK593; replace BK593 := bkb BK593 hb; clear hb hbox hg; have hnb34 := NB604_593.out; have hnc34 := NB593_604.out; obtain ⟨hcz35_0, hcz35_1, hcz35_2, hcz35_3⟩ := e4 BK604; obtain ⟨hfz35_0, hfz35_1, hfz35_2, hfz35_3⟩ := f4 BK604) | ((with_reducible refine gate_callee (f := 12) rfl ?_); refine gol (some 41) Try.func12 #[.string (t595 ++ a1)] ?_; (with_reducible refine (bound_Read.calls k (t595 ++ a1) t605 t606 t607 t608 t609 t610 _ A14.out).mono ?_); rintro e w36 ⟨rfl, hb⟩; refine ⟨_, rfl, ?_⟩; replace BK593 := Aside0.mk (blk_below (bkf BK593 NB593_604) hb); replace BK604 := Aside0.mk (blk_below (g := gb604) (o := .cells #[.int .i64 t599, .int .i64 t600, .int .i64 t601, .int .i64 t602] 27 (0, 0)) (bkp BK604) hb); replace HB := bst HB hb; (try clear hb); (try clear hb2); (try clear hk); (try clear hi)) | ((with_reducible refine gate_dst (N := 8) rfl ?_); (try (refine gate_guard (by rfl) ?_; dsimp only)); refine bxe (N := 8) (cs := #[.int .i64 0, .int .i64 0, .int .i64 0, .int .i64 0]) (t := 27) ?_; intro gb611 hg w37 hbox hb; have BK611 := Aside0.mk (hbox); have GW611 := lsz hg HB; have GE611 := lsz hg HB; replace HB := bst HB hb; have NB593_611 := nlt hg BK593; have NB611_593 := ngt hg BK593; replace BK593 := bkb BK593 hb; have NB604_611 := nlt hg BK604; have NB611_604 := ngt hg BK604; replace BK604 := bkb BK604 hb; clear hb hbox hg; have hnb38 := NB611_593.out; have hnc38 := NB593_611.out; have hnb39 := NB611_604.out; have hnc39 := NB604_611.out; obtain ⟨hcz40_0, hcz40_1, hcz40_2, hcz40_3⟩ := e4 BK611; obtain ⟨hfz40_0, hfz40_1, hfz40_2, hfz40_3⟩ := f4 BK611) | ((with_reducible refine gate_callee (f := 14) rfl ?_); refine gol (some 49) Try.func14 #[.string (t595 ++ a1)] ?_; (with_reducible refine (bound_Loose.calls k (t595 ++ a1) t612 t613 t614 t615 t616 t617 _ A15.out).mono ?_); rintro e w41 ⟨rfl, hb⟩; refine ⟨_, rfl, ?_⟩; replace BK593 := Aside0.mk (blk_below (bkf BK593 NB593_611) hb); replace BK604 := Aside0.mk (blk_below (bkf BK604 NB604_611) hb); replace BK611 := Aside0.mk (blk_below (g := gb611) (o := .cells #[.int .i64 t605, .int .i64 t606, .int .i64 t607, .int .i64 t608] 27 (0, 0)) (bkp BK611) hb); replace HB := bst HB hb; (try clear hb); (try clear hb2); (try clear hk); (try clear hi)) | ((with_reducible refine gate_dst (N := 11) rfl ?_); (try (refine gate_guard (by rfl) ?_; dsimp only)); refine bxe (N := 11) (cs := #[.int .i64 0, .int .i64 0, .int .i64 0, .int .i64 0]) (t := 27) ?_; intro gb618 hg w42 hbox hb; have BK618 := Aside0.mk (hbox); have GW618 := lsz hg HB; have GE618 := lsz hg HB; replace HB := bst HB hb; have NB593_618 := nlt hg BK593; have NB618_593 := ngt hg BK593; replace BK593 := bkb BK593 hb; have NB604_618 := nlt hg BK604; have NB618_604 := ngt hg BK604; replace BK604 := bkb BK604 hb; have NB611_618 := nlt hg BK611; have NB618_611 := ngt hg BK611; replace BK611 := bkb BK611 hb; clear hb hbox hg; have hnb43 := NB618_593.out; have hnc43 := NB593_618.out; have hnb44 := NB618_604.out; have hnc44 := NB604_618.out; have hnb45 := NB618_611.out; have hnc45 := NB611_618.out; obtain ⟨hcz46_0, hcz46_1, hcz46_2, hcz46_3⟩ := e4 BK618; obtain ⟨hfz46_0, hfz46_1, hfz46_2, hfz46_3⟩ := f4 BK618) | ((with_reducible refine gate_callee (f := 10) rfl ?_); refine gol (some 53) Try.func10 #[] ?_; (with_reducible refine (bocagelaw04_alive.calls k  true _ A16.out rfl).mono ?_); rintro e w47 ⟨rfl, hb⟩; refine ⟨_, rfl, ?_⟩; replace BK593 := Aside0.mk (blk_below (bkf BK593 NB593_618) hb); replace BK604 := Aside0.mk (blk_below (bkf BK604 NB604_618) hb); replace BK611 := Aside0.mk (blk_below (bkf BK611 NB611_618) hb); replace BK618 := Aside0.mk (blk_below (g := gb618) (o := .cells #[.int .i64 t612, .int .i64 t613, .int .i64 t614, .int .i64 t615] 27 (0, 0)) (bkp BK618) hb); replace HB := bst HB hb; (try clear hb); (try clear hb2); (try clear hk); (try clear hi); obtain ⟨hcz48_0, hcz48_1, hcz48_2, hcz48_3⟩ := e4 BK604; obtain ⟨hfz48_0, hfz48_1, hfz48_2, hfz48_3⟩ := f4 BK604; obtain ⟨hcz49_0, hcz49_1, hcz49_2, hcz49_3⟩ := e4 BK593; obtain ⟨hfz49_0, hfz49_1, hfz49_2, hfz49_3⟩ := f4 BK593; obtain ⟨hcz50_0, hcz50_1, hcz50_2, hcz50_3⟩ := e4 BK611; obtain ⟨hfz50_0, hfz50_1, hfz50_2, hfz50_3⟩ := f4 BK611; obtain ⟨hcz51_0, hcz51_1, hcz51_2, hcz51_3⟩ := e4 BK618; obtain ⟨hfz51_0, hfz51_1, hfz51_2, hfz51_3⟩ := f4 BK618))
                          go_ret
                          exact endB HB
                        · rw [if_neg c24] at H
                          exact absurd ((Option.some.inj H).trans HRT.out) Bool.false_ne_true
                      · rw [if_neg c23] at H
                        exact absurd ((Option.some.inj H).trans HRT.out) Bool.false_ne_true
                    · rw [if_neg c22] at H
                      exact absurd ((Option.some.inj H).trans HRT.out) Bool.false_ne_true
                  · rw [if_neg c21] at H
                    exact absurd ((Option.some.inj H).trans HRT.out) Bool.false_ne_true
                · rw [if_neg c20] at H
                  exact absurd ((Option.some.inj H).trans HRT.out) Bool.false_ne_true
              · rw [if_neg c19] at H
                exact absurd ((Option.some.inj H).trans HRT.out) Bool.false_ne_true
            · rw [if_neg c18] at H
              exact absurd ((Option.some.inj H).trans HRT.out) Bool.false_ne_true
          · replace c17 := Bool.eq_false_iff.mpr c17
            subst c17
            have H1 : (some false) = some r := by rw [if_neg (show ¬ (false = true) by decide)] at H; exact H
            exact absurd ((Option.some.inj H1).trans HRT.out) Bool.false_ne_true
        · rw [if_neg c13] at H
          exact absurd H (by simp)
      · replace c11 := Bool.eq_false_iff.mpr c11
        subst c11
        have H1 : ((bocagelaw04_alive.f k).bind fun t598 => (if t598 = true then (some (t595.toList == ([] : List UInt8))) else (some false))) = some r := by rw [if_neg (show ¬ (false = true) by decide)] at H; exact H
        clear H
        have H := H1
        clear H1
        replace H := Option.bind_eq_some_iff.mp H
        obtain ⟨t598, A2570, H⟩ := H
        replace H : (if t598 = true then (some (t595.toList == ([] : List UInt8))) else (some false)) = some r := H
        have A257 := Aside0.mk A2570
        clear A2570
        by_cases c258 : t598 = true
        · subst c258
          have H1 : (some (t595.toList == ([] : List UInt8))) = some r := by rw [if_pos rfl] at H; exact H
          clear H
          have H := H1
          clear H1
          obtain rfl := Option.some.inj H
          go_enter Try.func5, Try.ntmps5
          go_wp2_with (first | ((with_reducible refine gate_dst (N := 2) rfl ?_); (try (refine gate_guard (by rfl) ?_; dsimp only)); refine bxe (N := 2) (cs := #[.int .i64 a0_0, .int .i64 a0_1, .int .i64 a0_2, .int .i64 a0_3]) (t := 27) ?_; intro gb593 hg w259 hbox hb; have BK593 := Aside0.mk (hbox); have GW593 := lsz hg HB; have GE593 := lsz hg HB; replace HB := bst HB hb; clear hb hbox hg; obtain ⟨hcz260_0, hcz260_1, hcz260_2, hcz260_3⟩ := e4 BK593; obtain ⟨hfz260_0, hfz260_1, hfz260_2, hfz260_3⟩ := f4 BK593) | ((with_reducible refine gate_callee (f := 18) rfl ?_); refine gol (some 19) Try.func18 #[.agg #[.int .i64 a0_0, .int .i64 a0_1, .int .i64 a0_2, .int .i64 a0_3]] ?_; (with_reducible refine (bound_Text.calls k a0_0 a0_1 a0_2 a0_3 t595 _ A7.out).mono ?_); rintro e w261 ⟨rfl, hb⟩; refine ⟨_, rfl, ?_⟩; replace BK593 := bkb BK593 hb; replace HB := bst HB hb; (try clear hb); (try clear hb2); (try clear hk); (try clear hi); obtain ⟨hcz262_0, hcz262_1, hcz262_2, hcz262_3⟩ := e4 BK593; obtain ⟨hfz262_0, hfz262_1, hfz262_2, hfz262_3⟩ := f4 BK593) | ((with_reducible refine gate_callee (f := 19) rfl ?_); refine gol (some 22) Try.func19 #[.agg #[.int .i64 a0_0, .int .i64 a0_1, .int .i64 a0_2, .int .i64 a0_3]] ?_; (with_reducible refine (bocageref04_Text.calls k a0_0 a0_1 a0_2 a0_3 t596 _ A8.out).mono ?_); rintro e w263 ⟨rfl, hb⟩; refine ⟨_, rfl, ?_⟩; replace BK593 := bkb BK593 hb; replace HB := bst HB hb; (try clear hb); (try clear hb2); (try clear hk); (try clear hi); obtain ⟨hcz264_0, hcz264_1, hcz264_2, hcz264_3⟩ := e4 BK593; obtain ⟨hfz264_0, hfz264_1, hfz264_2, hfz264_3⟩ := f4 BK593) | ((with_reducible refine gate_callee (f := 20) rfl ?_); refine gol (some 25) Try.func20 #[.agg #[.int .i64 a0_0, .int .i64 a0_1, .int .i64 a0_2, .int .i64 a0_3]] ?_; (with_reducible refine (bocageref03_Right.calls k a0_0 a0_1 a0_2 a0_3 false _ A10.out).mono ?_); rintro e w265 ⟨rfl, hb⟩; refine ⟨_, rfl, ?_⟩; replace BK593 := bkb BK593 hb; replace HB := bst HB hb; (try clear hb); (try clear hb2); (try clear hk); (try clear hi)) | ((with_reducible refine gate_callee (f := 10) rfl ?_); refine gol (some 27) Try.func10 #[] ?_; (with_reducible refine (bocagelaw04_alive.calls k  true _ A257.out rfl).mono ?_); rintro e w266 ⟨rfl, hb⟩; refine ⟨_, rfl, ?_⟩; replace BK593 := bkb BK593 hb; replace HB := bst HB hb; (try clear hb); (try clear hb2); (try clear hk); (try clear hi)))
          go_ret
          exact endB HB
        · replace c258 := Bool.eq_false_iff.mpr c258
          subst c258
          have H1 : (some false) = some r := by rw [if_neg (show ¬ (false = true) by decide)] at H; exact H
          exact absurd ((Option.some.inj H1).trans HRT.out) Bool.false_ne_true
    · rw [if_neg c9] at H
      exact absurd ((Option.some.inj H).trans HRT.out) Bool.false_ne_true
end
end Go.Proofs.Ytpeidnkbliafkaa.Print
