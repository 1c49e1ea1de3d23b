-- lie
import Derived.Test.YtagcloidicnhhaaSh
import Derived.Test.YtagcloidicnhhaaPrint0
namespace Go.Proofs.Ytagcloidicnhhaa.Print
open Go.RowKit Go.Proofs.YtagcloidicnhhaaW.PrintWords Go.Proofs.YtagcloidicnhhaaW.PrintLast Go.Proofs.YtagcloidicnhhaaW.PrintMore
attribute [local go_sem] max2_int min2_int max_two min_two max_three min_three max_four min_four   -- for this text's walks alone
set_option linter.unusedVariables false
set_option linter.unusedSimpArgs false


/-! ### comb_Name: function 12 -/
def comb_Name.cs : Array Value := #[Value.string { data := #[] }, Value.string { data := #[97, 100, 100] }, Value.string { data := #[115, 117, 98] }, Value.string { data := #[109, 105, 110] }, Value.string { data := #[109, 97, 120] }, Value.string { data := #[115, 101, 116] }, Value.string { data := #[112, 117, 116] }]
set_option maxHeartbeats 8000000 in
set_option maxRecDepth 100000 in
theorem comb_Name.names (w : World) : Calls Try.prog 27 #[] w fun e w' => e = .returned (.agg #[Value.string { data := #[] }, Value.string { data := #[97, 100, 100] }, Value.string { data := #[115, 117, 98] }, Value.string { data := #[109, 105, 110] }, Value.string { data := #[109, 97, 120] }, Value.string { data := #[115, 101, 116] }, Value.string { data := #[112, 117, 116] }]) ∧ w' = w.alloc (.cells comb_Name.cs 45) := by
 go_enter Try.func27, Try.ntmps27
 go_wp2
 exact bodyPost_ret (results_cell_row rfl _ _ w.heap.size 45 comb_Name.cs (0, 0) _ rfl (blk_new w _) Try.underlying45 rfl (by kernel_rfl)) rfl ⟨rfl, rfl⟩
def comb_Name.f (a0 : Int) : Option ByteArray := if a0 = 1 then some (⟨#[97, 100, 100]⟩ : ByteArray) else if a0 = 2 then some (⟨#[115, 117, 98]⟩ : ByteArray) else if a0 = 3 then some (⟨#[109, 105, 110]⟩ : ByteArray) else if a0 = 4 then some (⟨#[109, 97, 120]⟩ : ByteArray) else if a0 = 5 then some (⟨#[115, 101, 116]⟩ : ByteArray) else if a0 = 6 then some (⟨#[112, 117, 116]⟩ : ByteArray) else some (⟨#[]⟩ : ByteArray)
set_option maxHeartbeats 8000000 in
set_option maxRecDepth 100000 in
theorem comb_Name.calls (a0 : Int) (r : ByteArray) (w : World) (h : comb_Name.f a0 = some r) :
  Calls Try.prog 12 #[.int .i64 a0] w fun e w' => e = .returned (.string r) ∧ Below w.heap.size w w' := by
 unfold comb_Name.f at h
 have hbel : ∀ o, Below w.heap.size w (w.alloc o) := fun o => (Below.refl _ w).alloc (Nat.le_refl _) _
 have HBEL := Aside0.mk hbel
 clear hbel
 by_cases h1 : a0 = 1
 ·rw [if_pos h1] at h
  obtain rfl := Option.some.inj h
  subst h1
  have hix : ∀ w, (Instr.index 45 (.agg #[Value.string { data := #[] }, Value.string { data := #[97, 100, 100] }, Value.string { data := #[115, 117, 98] }, Value.string { data := #[109, 105, 110] }, Value.string { data := #[109, 97, 120] }, Value.string { data := #[115, 101, 116] }, Value.string { data := #[112, 117, 116] }]) (.int .i64 1)).run Try.prog w = .ok (Value.string { data := #[97, 100, 100] }) w := fun _ => by kernel_rfl
  go_enter Try.func12, Try.ntmps12
  go_wp2_with (first | (go_at_call 27; refine (comb_Name.names _).mono ?_; rintro e w' ⟨rfl, rfl⟩) | go_in)
  go_ret
  exact ⟨rfl, HBEL.out _⟩
 ·rw [if_neg h1] at h
  by_cases h2 : a0 = 2
  ·rw [if_pos h2] at h
   obtain rfl := Option.some.inj h
   subst h2
   have hix : ∀ w, (Instr.index 45 (.agg #[Value.string { data := #[] }, Value.string { data := #[97, 100, 100] }, Value.string { data := #[115, 117, 98] }, Value.string { data := #[109, 105, 110] }, Value.string { data := #[109, 97, 120] }, Value.string { data := #[115, 101, 116] }, Value.string { data := #[112, 117, 116] }]) (.int .i64 2)).run Try.prog w = .ok (Value.string { data := #[115, 117, 98] }) w := fun _ => by kernel_rfl
   go_enter Try.func12, Try.ntmps12
   go_wp2_with (first | (go_at_call 27; refine (comb_Name.names _).mono ?_; rintro e w' ⟨rfl, rfl⟩) | go_in)
   go_ret
   exact ⟨rfl, HBEL.out _⟩
  ·rw [if_neg h2] at h
   by_cases h3 : a0 = 3
   ·rw [if_pos h3] at h
    obtain rfl := Option.some.inj h
    subst h3
    have hix : ∀ w, (Instr.index 45 (.agg #[Value.string { data := #[] }, Value.string { data := #[97, 100, 100] }, Value.string { data := #[115, 117, 98] }, Value.string { data := #[109, 105, 110] }, Value.string { data := #[109, 97, 120] }, Value.string { data := #[115, 101, 116] }, Value.string { data := #[112, 117, 116] }]) (.int .i64 3)).run Try.prog w = .ok (Value.string { data := #[109, 105, 110] }) w := fun _ => by kernel_rfl
    go_enter Try.func12, Try.ntmps12
    go_wp2_with (first | (go_at_call 27; refine (comb_Name.names _).mono ?_; rintro e w' ⟨rfl, rfl⟩) | go_in)
    go_ret
    exact ⟨rfl, HBEL.out _⟩
   ·rw [if_neg h3] at h
    by_cases h4 : a0 = 4
    ·rw [if_pos h4] at h
     obtain rfl := Option.some.inj h
     subst h4
     have hix : ∀ w, (Instr.index 45 (.agg #[Value.string { data := #[] }, Value.string { data := #[97, 100, 100] }, Value.string { data := #[115, 117, 98] }, Value.string { data := #[109, 105, 110] }, Value.string { data := #[109, 97, 120] }, Value.string { data := #[115, 101, 116] }, Value.string { data := #[112, 117, 116] }]) (.int .i64 4)).run Try.prog w = .ok (Value.string { data := #[109, 97, 120] }) w := fun _ => by kernel_rfl
     go_enter Try.func12, Try.ntmps12
     go_wp2_with (first | (go_at_call 27; refine (comb_Name.names _).mono ?_; rintro e w' ⟨rfl, rfl⟩) | go_in)
     go_ret
     exact ⟨rfl, HBEL.out _⟩
    ·rw [if_neg h4] at h
     by_cases h5 : a0 = 5
     ·rw [if_pos h5] at h
      obtain rfl := Option.some.inj h
      subst h5
      have hix : ∀ w, (Instr.index 45 (.agg #[Value.string { data := #[] }, Value.string { data := #[97, 100, 100] }, Value.string { data := #[115, 117, 98] }, Value.string { data := #[109, 105, 110] }, Value.string { data := #[109, 97, 120] }, Value.string { data := #[115, 101, 116] }, Value.string { data := #[112, 117, 116] }]) (.int .i64 5)).run Try.prog w = .ok (Value.string { data := #[115, 101, 116] }) w := fun _ => by kernel_rfl
      go_enter Try.func12, Try.ntmps12
      go_wp2_with (first | (go_at_call 27; refine (comb_Name.names _).mono ?_; rintro e w' ⟨rfl, rfl⟩) | go_in)
      go_ret
      exact ⟨rfl, HBEL.out _⟩
     ·rw [if_neg h5] at h
      by_cases h6 : a0 = 6
      ·rw [if_pos h6] at h
       obtain rfl := Option.some.inj h
       subst h6
       have hix : ∀ w, (Instr.index 45 (.agg #[Value.string { data := #[] }, Value.string { data := #[97, 100, 100] }, Value.string { data := #[115, 117, 98] }, Value.string { data := #[109, 105, 110] }, Value.string { data := #[109, 97, 120] }, Value.string { data := #[115, 101, 116] }, Value.string { data := #[112, 117, 116] }]) (.int .i64 6)).run Try.prog w = .ok (Value.string { data := #[112, 117, 116] }) w := fun _ => by kernel_rfl
       go_enter Try.func12, Try.ntmps12
       go_wp2_with (first | (go_at_call 27; refine (comb_Name.names _).mono ?_; rintro e w' ⟨rfl, rfl⟩) | go_in)
       go_ret
       exact ⟨rfl, HBEL.out _⟩
      ·rw [if_neg h6] at h
       obtain rfl := Option.some.inj h
       have hb : a0 < 1 ∨ 6 < a0 := by omega
       clear h1 h2 h3 h4 h5 h6
       rcases hb with hb | hb
       ·have e1 : decide (1 ≤ a0) = false := decide_eq_false (by omega)
        go_enter Try.func12, Try.ntmps12
        go_wp2_with (first | go_in)
        go_ret
        exact ⟨rfl, Below.refl _ _⟩
       ·have e1 : decide (1 ≤ a0) = true := decide_eq_true (by omega)
        have e2 : decide (a0 ≤ 6) = false := decide_eq_false (by omega)
        go_enter Try.func12, Try.ntmps12
        go_wp2_with (first | go_in)
        go_ret
        exact ⟨rfl, Below.refl _ _⟩


/-! ### comb_Find: function 9 -/
def comb_Find.f (a0 : ByteArray) : Option Int := if [97, 100, 100] = a0.toList then some 1 else if [115, 117, 98] = a0.toList then some 2 else if [109, 105, 110] = a0.toList then some 3 else if [109, 97, 120] = a0.toList then some 4 else if [115, 101, 116] = a0.toList then some 5 else if [112, 117, 116] = a0.toList then some 6 else some 0
set_option maxHeartbeats 8000000 in
set_option maxRecDepth 100000 in
theorem comb_Find.calls (a0 : ByteArray) (r : Int) (w : World) (h : comb_Find.f a0 = some r) :
  Calls Try.prog 9 #[.string a0] w fun e w' => e = .returned (.int .i64 r) ∧ Below w.heap.size w w' := by
 have H := Aside0.mk h
 clear h
 have hbel : ∀ o, Below w.heap.size w (w.alloc o) := fun o => (Below.refl _ w).alloc (Nat.le_refl _) _
 have HBEL := Aside0.mk hbel
 clear hbel
 have hix0 : ∀ w, (Instr.index 45 (.agg #[Value.string { data := #[] }, Value.string { data := #[97, 100, 100] }, Value.string { data := #[115, 117, 98] }, Value.string { data := #[109, 105, 110] }, Value.string { data := #[109, 97, 120] }, Value.string { data := #[115, 101, 116] }, Value.string { data := #[112, 117, 116] }]) (.int .i64 0)).run Try.prog w = .ok (Value.string { data := #[] }) w := fun _ => by kernel_rfl
 have hix1 : ∀ w, (Instr.index 45 (.agg #[Value.string { data := #[] }, Value.string { data := #[97, 100, 100] }, Value.string { data := #[115, 117, 98] }, Value.string { data := #[109, 105, 110] }, Value.string { data := #[109, 97, 120] }, Value.string { data := #[115, 101, 116] }, Value.string { data := #[112, 117, 116] }]) (.int .i64 1)).run Try.prog w = .ok (Value.string { data := #[97, 100, 100] }) w := fun _ => by kernel_rfl
 have hix2 : ∀ w, (Instr.index 45 (.agg #[Value.string { data := #[] }, Value.string { data := #[97, 100, 100] }, Value.string { data := #[115, 117, 98] }, Value.string { data := #[109, 105, 110] }, Value.string { data := #[109, 97, 120] }, Value.string { data := #[115, 101, 116] }, Value.string { data := #[112, 117, 116] }]) (.int .i64 2)).run Try.prog w = .ok (Value.string { data := #[115, 117, 98] }) w := fun _ => by kernel_rfl
 have hix3 : ∀ w, (Instr.index 45 (.agg #[Value.string { data := #[] }, Value.string { data := #[97, 100, 100] }, Value.string { data := #[115, 117, 98] }, Value.string { data := #[109, 105, 110] }, Value.string { data := #[109, 97, 120] }, Value.string { data := #[115, 101, 116] }, Value.string { data := #[112, 117, 116] }]) (.int .i64 3)).run Try.prog w = .ok (Value.string { data := #[109, 105, 110] }) w := fun _ => by kernel_rfl
 have hix4 : ∀ w, (Instr.index 45 (.agg #[Value.string { data := #[] }, Value.string { data := #[97, 100, 100] }, Value.string { data := #[115, 117, 98] }, Value.string { data := #[109, 105, 110] }, Value.string { data := #[109, 97, 120] }, Value.string { data := #[115, 101, 116] }, Value.string { data := #[112, 117, 116] }]) (.int .i64 4)).run Try.prog w = .ok (Value.string { data := #[109, 97, 120] }) w := fun _ => by kernel_rfl
 have hix5 : ∀ w, (Instr.index 45 (.agg #[Value.string { data := #[] }, Value.string { data := #[97, 100, 100] }, Value.string { data := #[115, 117, 98] }, Value.string { data := #[109, 105, 110] }, Value.string { data := #[109, 97, 120] }, Value.string { data := #[115, 101, 116] }, Value.string { data := #[112, 117, 116] }]) (.int .i64 5)).run Try.prog w = .ok (Value.string { data := #[115, 101, 116] }) w := fun _ => by kernel_rfl
 have hix6 : ∀ w, (Instr.index 45 (.agg #[Value.string { data := #[] }, Value.string { data := #[97, 100, 100] }, Value.string { data := #[115, 117, 98] }, Value.string { data := #[109, 105, 110] }, Value.string { data := #[109, 97, 120] }, Value.string { data := #[115, 101, 116] }, Value.string { data := #[112, 117, 116] }]) (.int .i64 6)).run Try.prog w = .ok (Value.string { data := #[112, 117, 116] }) w := fun _ => by kernel_rfl
 go_enter Try.func9, Try.ntmps9
 go_wp2_with (go_at_call 27; refine (comb_Name.names _).mono ?_; rintro e w' ⟨rfl, rfl⟩)
 go_loopg [6] 8 (fun g v6 wr => ∃ i : Nat, v6 = .int .i64 i ∧ i ≤ 7 ∧ Aside0 (g = 8 - i) ∧ Aside0 ((1 < i → ¬ ([97, 100, 100] = a0.toList)) ∧ (2 < i → ¬ ([115, 117, 98] = a0.toList)) ∧ (3 < i → ¬ ([109, 105, 110] = a0.toList)) ∧ (4 < i → ¬ ([109, 97, 120] = a0.toList)) ∧ (5 < i → ¬ ([115, 101, 116] = a0.toList)) ∧ (6 < i → ¬ ([112, 117, 116] = a0.toList))) ∧ Aside0 (∃ n, wr = (w.alloc (.cells comb_Name.cs 45)).drewN n))
 case atStart => exact ⟨0, rfl, by omega, ⟨rfl⟩, ⟨by omega, by omega, by omega, by omega, by omega, by omega⟩, ⟨0, rfl⟩⟩
 case round =>
  obtain ⟨i, rfl, hi, hg, hno, hw⟩ := hrel
  obtain ⟨m, rfl⟩ := hw.out
  obtain ⟨n1, n2, n3, n4, n5, n6⟩ := hno.out
  have N := Aside0.mk (And.intro n1 (And.intro n2 (And.intro n3 (And.intro n4 (And.intro n5 n6)))))
  clear n1 n2 n3 n4 n5 n6
  rcases (by omega : i = 0 ∨ i = 1 ∨ i = 2 ∨ i = 3 ∨ i = 4 ∨ i = 5 ∨ i = 6 ∨ i = 7) with rfl | rfl | rfl | rfl | rfl | rfl | rfl | rfl
  ·clear hix1 hix2 hix3 hix4 hix5 hix6
   go_wp2
   go_roundg 7
   case measure => have := hg.out; omega
   case rel => exact ⟨1, rfl, by omega, ⟨rfl⟩, ⟨by omega, by omega, by omega, by omega, by omega, by omega⟩, ⟨m, rfl⟩⟩
  ·clear hix0 hix2 hix3 hix4 hix5 hix6
   by_cases hc : ([97, 100, 100] : List UInt8) = a0.toList
   ·have c1 : (([97, 100, 100] : List UInt8) == a0.toList) = true := beq_iff_eq.mpr hc
    have HC := Aside0.mk hc
    clear hc
    go_wp2
    go_ret
    refine ⟨?_, pw_below_drewN (HBEL.out _) _⟩
    have e := H.out
    unfold comb_Find.f at e
    rw [if_pos HC.out] at e
    exact congrArg (fun z => Ending.returned (.int .i64 z)) (Option.some.inj e)
   ·have c1 : (([97, 100, 100] : List UInt8) == a0.toList) = false := beq_eq_false_iff_ne.mpr hc
    have HC := Aside0.mk hc
    clear hc
    go_wp2
    go_roundg 6
    case measure => have := hg.out; omega
    case rel => exact ⟨2, rfl, by omega, ⟨rfl⟩, ⟨fun _ => HC.out, by omega, by omega, by omega, by omega, by omega⟩, ⟨m, rfl⟩⟩
  ·clear hix0 hix1 hix3 hix4 hix5 hix6
   by_cases hc : ([115, 117, 98] : List UInt8) = a0.toList
   ·have c1 : (([115, 117, 98] : List UInt8) == a0.toList) = true := beq_iff_eq.mpr hc
    have HC := Aside0.mk hc
    clear hc
    go_wp2
    go_ret
    refine ⟨?_, pw_below_drewN (HBEL.out _) _⟩
    have e := H.out
    unfold comb_Find.f at e
    rw [if_neg (N.out.1 (by omega)), if_pos HC.out] at e
    exact congrArg (fun z => Ending.returned (.int .i64 z)) (Option.some.inj e)
   ·have c1 : (([115, 117, 98] : List UInt8) == a0.toList) = false := beq_eq_false_iff_ne.mpr hc
    have HC := Aside0.mk hc
    clear hc
    go_wp2
    go_roundg 5
    case measure => have := hg.out; omega
    case rel => exact ⟨3, rfl, by omega, ⟨rfl⟩, ⟨fun _ => N.out.1 (by omega), fun _ => HC.out, by omega, by omega, by omega, by omega⟩, ⟨m, rfl⟩⟩
  ·clear hix0 hix1 hix2 hix4 hix5 hix6
   by_cases hc : ([109, 105, 110] : List UInt8) = a0.toList
   ·have c1 : (([109, 105, 110] : List UInt8) == a0.toList) = true := beq_iff_eq.mpr hc
    have HC := Aside0.mk hc
    clear hc
    go_wp2
    go_ret
    refine ⟨?_, pw_below_drewN (HBEL.out _) _⟩
    have e := H.out
    unfold comb_Find.f at e
    rw [if_neg (N.out.1 (by omega)), if_neg (N.out.2.1 (by omega)), if_pos HC.out] at e
    exact congrArg (fun z => Ending.returned (.int .i64 z)) (Option.some.inj e)
   ·have c1 : (([109, 105, 110] : List UInt8) == a0.toList) = false := beq_eq_false_iff_ne.mpr hc
    have HC := Aside0.mk hc
    clear hc
    go_wp2
    go_roundg 4
    case measure => have := hg.out; omega
    case rel => exact ⟨4, rfl, by omega, ⟨rfl⟩, ⟨fun _ => N.out.1 (by omega), fun _ => N.out.2.1 (by omega), fun _ => HC.out, by omega, by omega, by omega⟩, ⟨m, rfl⟩⟩
  ·clear hix0 hix1 hix2 hix3 hix5 hix6
   by_cases hc : ([109, 97, 120] : List UInt8) = a0.toList
   ·have c1 : (([109, 97, 120] : List UInt8) == a0.toList) = true := beq_iff_eq.mpr hc
    have HC := Aside0.mk hc
    clear hc
    go_wp2
    go_ret
    refine ⟨?_, pw_below_drewN (HBEL.out _) _⟩
    have e := H.out
    unfold comb_Find.f at e
    rw [if_neg (N.out.1 (by omega)), if_neg (N.out.2.1 (by omega)), if_neg (N.out.2.2.1 (by omega)), if_pos HC.out] at e
    exact congrArg (fun z => Ending.returned (.int .i64 z)) (Option.some.inj e)
   ·have c1 : (([109, 97, 120] : List UInt8) == a0.toList) = false := beq_eq_false_iff_ne.mpr hc
    have HC := Aside0.mk hc
    clear hc
    go_wp2
    go_roundg 3
    case measure => have := hg.out; omega
    case rel => exact ⟨5, rfl, by omega, ⟨rfl⟩, ⟨fun _ => N.out.1 (by omega), fun _ => N.out.2.1 (by omega), fun _ => N.out.2.2.1 (by omega), fun _ => HC.out, by omega, by omega⟩, ⟨m, rfl⟩⟩
  ·clear hix0 hix1 hix2 hix3 hix4 hix6
   by_cases hc : ([115, 101, 116] : List UInt8) = a0.toList
   ·have c1 : (([115, 101, 116] : List UInt8) == a0.toList) = true := beq_iff_eq.mpr hc
    have HC := Aside0.mk hc
    clear hc
    go_wp2
    go_ret
    refine ⟨?_, pw_below_drewN (HBEL.out _) _⟩
    have e := H.out
    unfold comb_Find.f at e
    rw [if_neg (N.out.1 (by omega)), if_neg (N.out.2.1 (by omega)), if_neg (N.out.2.2.1 (by omega)), if_neg (N.out.2.2.2.1 (by omega)), if_pos HC.out] at e
    exact congrArg (fun z => Ending.returned (.int .i64 z)) (Option.some.inj e)
   ·have c1 : (([115, 101, 116] : List UInt8) == a0.toList) = false := beq_eq_false_iff_ne.mpr hc
    have HC := Aside0.mk hc
    clear hc
    go_wp2
    go_roundg 2
    case measure => have := hg.out; omega
    case rel => exact ⟨6, rfl, by omega, ⟨rfl⟩, ⟨fun _ => N.out.1 (by omega), fun _ => N.out.2.1 (by omega), fun _ => N.out.2.2.1 (by omega), fun _ => N.out.2.2.2.1 (by omega), fun _ => HC.out, by omega⟩, ⟨m, rfl⟩⟩
  ·clear hix0 hix1 hix2 hix3 hix4 hix5
   by_cases hc : ([112, 117, 116] : List UInt8) = a0.toList
   ·have c1 : (([112, 117, 116] : List UInt8) == a0.toList) = true := beq_iff_eq.mpr hc
    have HC := Aside0.mk hc
    clear hc
    go_wp2
    go_ret
    refine ⟨?_, pw_below_drewN (HBEL.out _) _⟩
    have e := H.out
    unfold comb_Find.f at e
    rw [if_neg (N.out.1 (by omega)), if_neg (N.out.2.1 (by omega)), if_neg (N.out.2.2.1 (by omega)), if_neg (N.out.2.2.2.1 (by omega)), if_neg (N.out.2.2.2.2.1 (by omega)), if_pos HC.out] at e
    exact congrArg (fun z => Ending.returned (.int .i64 z)) (Option.some.inj e)
   ·have c1 : (([112, 117, 116] : List UInt8) == a0.toList) = false := beq_eq_false_iff_ne.mpr hc
    have HC := Aside0.mk hc
    clear hc
    go_wp2
    go_roundg 1
    case measure => have := hg.out; omega
    case rel => exact ⟨7, rfl, by omega, ⟨rfl⟩, ⟨fun _ => N.out.1 (by omega), fun _ => N.out.2.1 (by omega), fun _ => N.out.2.2.1 (by omega), fun _ => N.out.2.2.2.1 (by omega), fun _ => N.out.2.2.2.2.1 (by omega), fun _ => HC.out⟩, ⟨m, rfl⟩⟩
  ·go_wp2
   go_ret
   refine ⟨?_, pw_below_drewN (HBEL.out _) _⟩
   have e := H.out
   unfold comb_Find.f at e
   rw [if_neg (N.out.1 (by omega)), if_neg (N.out.2.1 (by omega)), if_neg (N.out.2.2.1 (by omega)), if_neg (N.out.2.2.2.1 (by omega)), if_neg (N.out.2.2.2.2.1 (by omega)), if_neg (N.out.2.2.2.2.2 (by omega))] at e
   exact congrArg (fun z => Ending.returned (.int .i64 z)) (Option.some.inj e)

/-! ### comb_Right: function 21 -/
def comb_Right.f (a0 : Int) : Option (Bool) := if a0 ≥ 1 then (some (decide (a0 ≤ 6))) else (some false)
set_option maxHeartbeats 8000000 in
set_option maxRecDepth 100000 in
theorem comb_Right.calls (a0 : Int) (r : Bool) (w : World) (h : comb_Right.f a0 = some r) :
  Calls Try.prog 21 #[.int .i64 a0] w fun e w' => e = .returned (.bool r) ∧ Drawn0 w w' := by
 have H : (if a0 ≥ 1 then (some (decide (a0 ≤ 6))) else (some false)) = some r := h
 clear h
 by_cases c2 : a0 ≥ 1
 ·rw [if_pos c2] at H
  have c2b0 : decide (1 ≤ a0) = true := decide_eq_true c2
  clear c2
  obtain rfl := Option.some.inj H
  go_enter Try.func21, Try.ntmps21
  go_wp2
  go_ret
  exact ⟨by first | rfl | (simp; done) | (simp [*]; done), by repeat (first | exact Drawn0.refl _ | apply Drawn0.step)⟩
 ·rw [if_neg c2] at H
  have c2b0 : decide (1 ≤ a0) = false := decide_eq_false c2
  clear c2
  obtain rfl := Option.some.inj H
  go_enter Try.func21, Try.ntmps21
  go_wp2
  go_ret
  exact ⟨by first | rfl | (simp; done) | (simp [*]; done), by repeat (first | exact Drawn0.refl _ | apply Drawn0.step)⟩

/-! ### comb_Same: function 13 -/
def comb_Same.j0 : Nat → Int → Bool → Option (Int × Bool)
 | 0, _, _ => none
 | k + 1, x4, x5 => if x5 = true then (some (0, true)) else (if x4 = 3 then (some (9223372036854775807, true)) else (if x4 = 4 then (some ((-9223372036854775808), true)) else (some (0, false))))
def comb_Same.f (k : Nat) (a0 : Int) : Option (Int × Bool) := if a0 = 1 then (comb_Same.j0 k a0 (a0 == 1)) else (comb_Same.j0 k a0 (a0 == 2))
theorem comb_Same.mono_l : ∀ k, (∀ y0 y1, LeO (comb_Same.j0 k y0 y1) (comb_Same.j0 (k + 1) y0 y1))
 | 0 => fun _ _ r h => by simp [comb_Same.j0] at h
 | k + 1 => by
  have ih0 := comb_Same.mono_l k
  ·intro y0 y1
   unfold comb_Same.j0
   repeat' first
   | (with_reducible exact ih0 _ _)
   | (with_reducible exact LeO.refl _)
   | (with_reducible exact LeO.none _)
   | (with_reducible refine LeO.ite ?_ ?_)
   | (with_reducible refine LeO.bind ?_ (fun _ => ?_))
   | exact ih0 _ _
   | exact LeO.none _
   | refine LeO.ite ?_ ?_
   | refine LeO.bind ?_ (fun _ => ?_)
theorem comb_Same.mono : ∀ a0 k, LeO (comb_Same.f k a0) (comb_Same.f (k + 1) a0) := by
 intro a0 k
 have ih0 := comb_Same.mono_l k
 unfold comb_Same.f
 repeat' first
   | (with_reducible exact ih0 _ _)
   | (with_reducible exact LeO.refl _)
   | (with_reducible exact LeO.none _)
   | (with_reducible refine LeO.ite ?_ ?_)
   | (with_reducible refine LeO.bind ?_ (fun _ => ?_))
   | exact ih0 _ _
   | exact LeO.none _
   | refine LeO.ite ?_ ?_
   | refine LeO.bind ?_ (fun _ => ?_)
set_option maxHeartbeats 8000000 in
set_option maxRecDepth 100000 in
theorem comb_Same.calls (k : Nat) (a0 : Int) (r1 : Int) (r2 : Bool) (w : World) (h : comb_Same.f k a0 = some (r1, r2)) :
  Calls Try.prog 13 #[.int .i64 a0] w fun e w' => e = .returned (.tuple #[.int .i64 r1, .bool r2]) ∧ Drawn0 w w' := by
 have H : (if a0 = 1 then (comb_Same.j0 k a0 (a0 == 1)) else (comb_Same.j0 k a0 (a0 == 2))) = some (r1, r2) := h
 clear h
 have HC2 := Aside0.mk H
 clear H
 go_enter Try.func13, Try.ntmps13
 go_upto_if 5 with (fail)
 go_cut [5] (fun v5 wc => ∃ (kq : Nat) (x5_1 : Bool), v5 = .bool x5_1 ∧ Aside0 (comb_Same.j0 kq a0 x5_1 = some (r1, r2)) ∧ Aside0 (kq ≤ k) ∧ Drawn0 w wc)
 case first =>
  have H := HC2.out
  clear HC2
  by_cases c3 : a0 = 1
  ·rw [if_pos c3] at H
   have c3b0 : (a0 == 1) = true := beq_iff_eq.mpr c3
   have c3b1 : (a0 != 1) = false := bne_eq_false_iff_eq.mpr c3
   clear c3
   (first | rw [c3b0] | (simp only [i64_w, i32_w]; rw [c3b0]) | skip)
   have H' := Aside0.mk H
   clear H
   go_wp2
   go_meet
   case rel => exact ⟨_, ((a0 == 1)), (by first | rfl | (simp; done) | (simp [*]; done)), H', ⟨by first | omega | exact Nat.le_refl _⟩, by repeat (first | exact Drawn0.refl _ | apply Drawn0.step)⟩
  ·rw [if_neg c3] at H
   have c3b0 : (a0 == 1) = false := beq_eq_false_iff_ne.mpr c3
   have c3b1 : (a0 != 1) = true := bne_iff_ne.mpr c3
   (first | rw [c3b0] | (simp only [i64_w, i32_w]; rw [c3b0]) | skip)
   have H' := Aside0.mk H
   clear H
   go_wp2
   go_meet
   case rel => exact ⟨_, ((a0 == 2)), (by first | rfl | (simp; done) | (simp [*]; done)), H', ⟨by first | omega | exact Nat.le_refl _⟩, by repeat (first | exact Drawn0.refl _ | apply Drawn0.step)⟩
 case rest =>
  clear HC2
  obtain ⟨kq, x5_1, rfl, HA, HJ1, ⟨mc1, rfl⟩⟩ := hcut
  cases kq with
  | zero => exact absurd HA.out (by simp [comb_Same.j0])
  | succ kj1 =>
   have H := HA.out
   clear HA
   simp only [comb_Same.j0] at H
   by_cases c4 : x5_1 = true
   ·subst c4
    have H1 : (some (0, true)) = some (r1, r2) := by rw [if_pos rfl] at H; exact H
    clear H
    have H := H1
    clear H1
    simp only [Option.some.injEq, Prod.mk.injEq] at H
    obtain ⟨rfl, rfl⟩ := H
    go_wp2
    go_ret2
    exact ⟨by first | rfl | (simp; done) | (simp [*]; done), by repeat (first | exact Drawn0.refl _ | apply Drawn0.step)⟩
   ·replace c4 := Bool.eq_false_iff.mpr c4
    subst c4
    have H1 : (if a0 = 3 then (some (9223372036854775807, true)) else (if a0 = 4 then (some ((-9223372036854775808), true)) else (some (0, false)))) = some (r1, r2) := by rw [if_neg (show ¬ (false = true) by decide)] at H; exact H
    clear H
    have H := H1
    clear H1
    by_cases c5 : a0 = 3
    ·rw [if_pos c5] at H
     have c5b0 : (a0 == 3) = true := beq_iff_eq.mpr c5
     have c5b1 : (a0 != 3) = false := bne_eq_false_iff_eq.mpr c5
     clear c5
     simp only [Option.some.injEq, Prod.mk.injEq] at H
     obtain ⟨rfl, rfl⟩ := H
     go_wp2
     go_ret2
     exact ⟨by first | rfl | (simp; done) | (simp [*]; done), by repeat (first | exact Drawn0.refl _ | apply Drawn0.step)⟩
    ·rw [if_neg c5] at H
     have c5b0 : (a0 == 3) = false := beq_eq_false_iff_ne.mpr c5
     have c5b1 : (a0 != 3) = true := bne_iff_ne.mpr c5
     by_cases c6 : a0 = 4
     ·rw [if_pos c6] at H
      have c6b0 : (a0 == 4) = true := beq_iff_eq.mpr c6
      have c6b1 : (a0 != 4) = false := bne_eq_false_iff_eq.mpr c6
      clear c6
      simp only [Option.some.injEq, Prod.mk.injEq] at H
      obtain ⟨rfl, rfl⟩ := H
      go_wp2
      go_ret2
      exact ⟨by first | rfl | (simp; done) | (simp [*]; done), by repeat (first | exact Drawn0.refl _ | apply Drawn0.step)⟩
     ·rw [if_neg c6] at H
      have c6b0 : (a0 == 4) = false := beq_eq_false_iff_ne.mpr c6
      have c6b1 : (a0 != 4) = true := bne_iff_ne.mpr c6
      simp only [Option.some.injEq, Prod.mk.injEq] at H
      obtain ⟨rfl, rfl⟩ := H
      go_wp2
      go_ret2
      exact ⟨by first | rfl | (simp; done) | (simp [*]; done), by repeat (first | exact Drawn0.refl _ | apply Drawn0.step)⟩

/-! ### sat_end: function 41 -/
def sat_end.f (a0 : Bool) : Option (Int) := if a0 = true then (some (-9223372036854775808)) else (some 9223372036854775807)
set_option maxHeartbeats 8000000 in
set_option maxRecDepth 100000 in
theorem sat_end.calls (a0 : Bool) (r : Int) (w : World) (h : sat_end.f a0 = some r) :
  Calls Try.prog 41 #[.bool a0] w fun e w' => e = .returned (.int .i64 r) ∧ Drawn0 w w' := by
 have H : (if a0 = true then (some (-9223372036854775808)) else (some 9223372036854775807)) = some r := h
 clear h
 by_cases c2 : a0 = true
 ·subst c2
  have H1 : (some (-9223372036854775808)) = some r := by rw [if_pos rfl] at H; exact H
  clear H
  have H := H1
  clear H1
  obtain rfl := Option.some.inj H
  go_enter Try.func41, Try.ntmps41
  go_wp2
  go_ret
  exact ⟨by first | rfl | (simp; done) | (simp [*]; done), by repeat (first | exact Drawn0.refl _ | apply Drawn0.step)⟩
 ·replace c2 := Bool.eq_false_iff.mpr c2
  subst c2
  have H1 : (some 9223372036854775807) = some r := by rw [if_neg (show ¬ (false = true) by decide)] at H; exact H
  clear H
  have H := H1
  clear H1
  obtain rfl := Option.some.inj H
  go_enter Try.func41, Try.ntmps41
  go_wp2
  go_ret
  exact ⟨by first | rfl | (simp; done) | (simp [*]; done), by repeat (first | exact Drawn0.refl _ | apply Drawn0.step)⟩

/-! ### sat_Add: function 36 -/
def sat_Add.f (a0 : Int) (a1 : Int) : Option (Int) := if ((decide (a0 < 0)) == (decide (a1 < 0))) = true then (if ((decide ((wrap64 (a0 + a1)) < 0)) != (decide (a0 < 0))) = true then ((sat_end.f (decide (a0 < 0))).bind fun t101 => (some t101)) else (some (wrap64 (a0 + a1)))) else (some (wrap64 (a0 + a1)))
set_option maxHeartbeats 8000000 in
set_option maxRecDepth 100000 in
theorem sat_Add.calls (a0 : Int) (a1 : Int) (r : Int) (w : World) (h : sat_Add.f a0 a1 = some r) :
  Calls Try.prog 36 #[.int .i64 a0, .int .i64 a1] w fun e w' => e = .returned (.int .i64 r) ∧ Drawn0 w w' := by
 have H : (if ((decide (a0 < 0)) == (decide (a1 < 0))) = true then (if ((decide ((wrap64 (a0 + a1)) < 0)) != (decide (a0 < 0))) = true then ((sat_end.f (decide (a0 < 0))).bind fun t101 => (some t101)) else (some (wrap64 (a0 + a1)))) else (some (wrap64 (a0 + a1)))) = some r := h
 clear h
 by_cases c3 : ((decide (a0 < 0)) == (decide (a1 < 0))) = true
 ·rw [if_pos c3] at H
  have c3b0 : ((decide (a0 < 0)) == (decide (a1 < 0))) = true := c3
  (try (have c3b1 : decide ((decide (a0 < 0)) = (decide (a1 < 0))) = true := by simpa using c3))
  (try (have c3b2 : ((decide (a0 < 0)) == (decide (a1 < 0))) = true := by simpa using c3))
  clear c3
  by_cases c4 : ((decide ((wrap64 (a0 + a1)) < 0)) != (decide (a0 < 0))) = true
  ·rw [if_pos c4] at H
   have c4b0 : ((decide ((wrap64 (a0 + a1)) < 0)) != (decide (a0 < 0))) = true := c4
   (try (have c4b1 : decide ((decide ((wrap64 (a0 + a1)) < 0)) = (decide (a0 < 0))) = false := by simpa using c4))
   (try (have c4b2 : ((decide ((wrap64 (a0 + a1)) < 0)) == (decide (a0 < 0))) = false := by simpa using c4))
   (try (have c4b3 : ¬ ((decide ((wrap64 (a0 + a1)) < 0)) = (decide (a0 < 0))) := by simpa using c4))
   clear c4
   replace H := Option.bind_eq_some_iff.mp H
   obtain ⟨t101, A50, H⟩ := H
   replace H : (some t101) = some r := H
   have A5 := Aside0.mk A50
   clear A50
   obtain rfl := Option.some.inj H
   go_enter Try.func36, Try.ntmps36
   go_wp2_with (first | ((with_reducible refine gate_callee (f := 41) rfl ?_); refine gol (some 23) Try.func41 #[.bool (decide (a0 < 0))] ?_; (with_reducible refine (sat_end.calls (decide (a0 < 0)) t101 _ A5.out).mono ?_); rintro e w' ⟨rfl, ⟨nd, rfl⟩⟩; refine ⟨_, rfl, ?_⟩))
   go_ret
   exact ⟨by first | rfl | (simp; done) | (simp [*]; done), by repeat (first | exact Drawn0.refl _ | apply Drawn0.step)⟩
  ·rw [if_neg c4] at H
   have c4b0 : ((decide ((wrap64 (a0 + a1)) < 0)) != (decide (a0 < 0))) = false := by simpa using c4
   (try (have c4b1 : decide ((decide ((wrap64 (a0 + a1)) < 0)) = (decide (a0 < 0))) = true := by simpa using c4))
   (try (have c4b2 : ((decide ((wrap64 (a0 + a1)) < 0)) == (decide (a0 < 0))) = true := by simpa using c4))
   clear c4
   obtain rfl := Option.some.inj H
   go_enter Try.func36, Try.ntmps36
   go_wp2
   go_ret
   exact ⟨by first | rfl | (simp; done) | (simp [*]; done), by repeat (first | exact Drawn0.refl _ | apply Drawn0.step)⟩
 ·rw [if_neg c3] at H
  have c3b0 : ((decide (a0 < 0)) == (decide (a1 < 0))) = false := by simpa using c3
  (try (have c3b1 : decide ((decide (a0 < 0)) = (decide (a1 < 0))) = false := by simpa using c3))
  (try (have c3b2 : ((decide (a0 < 0)) == (decide (a1 < 0))) = false := by simpa using c3))
  (try (have c3b3 : ¬ ((decide (a0 < 0)) = (decide (a1 < 0))) := by simpa using c3))
  clear c3
  obtain rfl := Option.some.inj H
  go_enter Try.func36, Try.ntmps36
  go_wp2
  go_ret
  exact ⟨by first | rfl | (simp; done) | (simp [*]; done), by repeat (first | exact Drawn0.refl _ | apply Drawn0.step)⟩

/-! ### sat_Sub: function 37 -/
def sat_Sub.f (a0 : Int) (a1 : Int) : Option (Int) := if ((decide (a0 < 0)) != (decide (a1 < 0))) = true then (if ((decide ((wrap64 (a0 - a1)) < 0)) != (decide (a0 < 0))) = true then ((sat_end.f (decide (a0 < 0))).bind fun t102 => (some t102)) else (some (wrap64 (a0 - a1)))) else (some (wrap64 (a0 - a1)))
set_option maxHeartbeats 8000000 in
set_option maxRecDepth 100000 in
theorem sat_Sub.calls (a0 : Int) (a1 : Int) (r : Int) (w : World) (h : sat_Sub.f a0 a1 = some r) :
  Calls Try.prog 37 #[.int .i64 a0, .int .i64 a1] w fun e w' => e = .returned (.int .i64 r) ∧ Drawn0 w w' := by
 have H : (if ((decide (a0 < 0)) != (decide (a1 < 0))) = true then (if ((decide ((wrap64 (a0 - a1)) < 0)) != (decide (a0 < 0))) = true then ((sat_end.f (decide (a0 < 0))).bind fun t102 => (some t102)) else (some (wrap64 (a0 - a1)))) else (some (wrap64 (a0 - a1)))) = some r := h
 clear h
 by_cases c3 : ((decide (a0 < 0)) != (decide (a1 < 0))) = true
 ·rw [if_pos c3] at H
  have c3b0 : ((decide (a0 < 0)) != (decide (a1 < 0))) = true := c3
  (try (have c3b1 : decide ((decide (a0 < 0)) = (decide (a1 < 0))) = false := by simpa using c3))
  (try (have c3b2 : ((decide (a0 < 0)) == (decide (a1 < 0))) = false := by simpa using c3))
  (try (have c3b3 : ¬ ((decide (a0 < 0)) = (decide (a1 < 0))) := by simpa using c3))
  clear c3
  by_cases c4 : ((decide ((wrap64 (a0 - a1)) < 0)) != (decide (a0 < 0))) = true
  ·rw [if_pos c4] at H
   have c4b0 : ((decide ((wrap64 (a0 - a1)) < 0)) != (decide (a0 < 0))) = true := c4
   (try (have c4b1 : decide ((decide ((wrap64 (a0 - a1)) < 0)) = (decide (a0 < 0))) = false := by simpa using c4))
   (try (have c4b2 : ((decide ((wrap64 (a0 - a1)) < 0)) == (decide (a0 < 0))) = false := by simpa using c4))
   (try (have c4b3 : ¬ ((decide ((wrap64 (a0 - a1)) < 0)) = (decide (a0 < 0))) := by simpa using c4))
   clear c4
   replace H := Option.bind_eq_some_iff.mp H
   obtain ⟨t102, A50, H⟩ := H
   replace H : (some t102) = some r := H
   have A5 := Aside0.mk A50
   clear A50
   obtain rfl := Option.some.inj H
   go_enter Try.func37, Try.ntmps37
   go_wp2_with (first | ((with_reducible refine gate_callee (f := 41) rfl ?_); refine gol (some 23) Try.func41 #[.bool (decide (a0 < 0))] ?_; (with_reducible refine (sat_end.calls (decide (a0 < 0)) t102 _ A5.out).mono ?_); rintro e w' ⟨rfl, ⟨nd, rfl⟩⟩; refine ⟨_, rfl, ?_⟩))
   go_ret
   exact ⟨by first | rfl | (simp; done) | (simp [*]; done), by repeat (first | exact Drawn0.refl _ | apply Drawn0.step)⟩
  ·rw [if_neg c4] at H
   have c4b0 : ((decide ((wrap64 (a0 - a1)) < 0)) != (decide (a0 < 0))) = false := by simpa using c4
   (try (have c4b1 : decide ((decide ((wrap64 (a0 - a1)) < 0)) = (decide (a0 < 0))) = true := by simpa using c4))
   (try (have c4b2 : ((decide ((wrap64 (a0 - a1)) < 0)) == (decide (a0 < 0))) = true := by simpa using c4))
   clear c4
   obtain rfl := Option.some.inj H
   go_enter Try.func37, Try.ntmps37
   go_wp2
   go_ret
   exact ⟨by first | rfl | (simp; done) | (simp [*]; done), by repeat (first | exact Drawn0.refl _ | apply Drawn0.step)⟩
 ·rw [if_neg c3] at H
  have c3b0 : ((decide (a0 < 0)) != (decide (a1 < 0))) = false := by simpa using c3
  (try (have c3b1 : decide ((decide (a0 < 0)) = (decide (a1 < 0))) = true := by simpa using c3))
  (try (have c3b2 : ((decide (a0 < 0)) == (decide (a1 < 0))) = true := by simpa using c3))
  clear c3
  obtain rfl := Option.some.inj H
  go_enter Try.func37, Try.ntmps37
  go_wp2
  go_ret
  exact ⟨by first | rfl | (simp; done) | (simp [*]; done), by repeat (first | exact Drawn0.refl _ | apply Drawn0.step)⟩

/-! ### comb_least: function 38 -/
def comb_least.f (a0 : Int) (a1 : Int) : Option (Int) := some (mn a0 a1)
set_option maxHeartbeats 8000000 in
set_option maxRecDepth 100000 in
theorem comb_least.calls (a0 : Int) (a1 : Int) (r : Int) (w : World) (h : comb_least.f a0 a1 = some r) :
  Calls Try.prog 38 #[.int .i64 a0, .int .i64 a1] w fun e w' => e = .returned (.int .i64 r) ∧ Below w.heap.size w w' := by
 have HB := Aside0.mk (Below.refl w.heap.size w)
 have H : (some (mn a0 a1)) = some r := h
 clear h
 obtain ⟨ji3, hji3⟩ : ∃ j_ : Int, (mn a0 a1) = j_ := ⟨_, rfl⟩
 replace H : (some ji3) = some r := by first | (rw [hji3] at H; exact H) | (simp only [hji3] at H ⊢; exact H)
 have hji3_ : (if a1 < a0 then a1 else a0) = ji3 := hji3
 obtain rfl := Option.some.inj H
 go_enter Try.func38, Try.ntmps38
 go_wp2
 go_ret
 exact ⟨by first | rfl | (simp [errW_none, errW_some] <;> rfl) | (simp only [← hji3]; first | rfl | (simp [errW_none, errW_some] <;> rfl)) | (simp [*, errW_none, errW_some] <;> rfl), by repeat (first | (with_reducible first | exact HB.out | apply below_alloc | apply pw_below_drewN | apply below_drew1) | exact HB.out)⟩

/-! ### comb_greatest: function 39 -/
def comb_greatest.f (a0 : Int) (a1 : Int) : Option (Int) := some (mx a0 a1)
set_option maxHeartbeats 8000000 in
set_option maxRecDepth 100000 in
theorem comb_greatest.calls (a0 : Int) (a1 : Int) (r : Int) (w : World) (h : comb_greatest.f a0 a1 = some r) :
  Calls Try.prog 39 #[.int .i64 a0, .int .i64 a1] w fun e w' => e = .returned (.int .i64 r) ∧ Below w.heap.size w w' := by
 have HB := Aside0.mk (Below.refl w.heap.size w)
 have H : (some (mx a0 a1)) = some r := h
 clear h
 obtain ⟨ji3, hji3⟩ : ∃ j_ : Int, (mx a0 a1) = j_ := ⟨_, rfl⟩
 replace H : (some ji3) = some r := by first | (rw [hji3] at H; exact H) | (simp only [hji3] at H ⊢; exact H)
 have hji3_ : (if a0 < a1 then a1 else a0) = ji3 := hji3
 obtain rfl := Option.some.inj H
 go_enter Try.func39, Try.ntmps39
 go_wp2
 go_ret
 exact ⟨by first | rfl | (simp [errW_none, errW_some] <;> rfl) | (simp only [← hji3]; first | rfl | (simp [errW_none, errW_some] <;> rfl)) | (simp [*, errW_none, errW_some] <;> rfl), by repeat (first | (with_reducible first | exact HB.out | apply below_alloc | apply pw_below_drewN | apply below_drew1) | exact HB.out)⟩


/-! ### comb_Do: function 14 -/
def comb_Do.f (a0 a1 a2 : Int) : Option Int :=
 if a0 = 1 then sat_Add.f a1 a2 else if a0 = 2 then sat_Sub.f a1 a2 else if a0 = 3 then comb_least.f a1 a2 else if a0 = 4 then comb_greatest.f a1 a2 else if a0 = 5 then some a2 else some a1
def comb_Do.cs : Array Value := #[Value.func (Fn.func 35) #[] #[], Value.func (Fn.func 36) #[] #[], Value.func (Fn.func 37) #[] #[], Value.func (Fn.func 38) #[] #[], Value.func (Fn.func 39) #[] #[], Value.func (Fn.func 40) #[] #[], Value.func (Fn.func 35) #[] #[]]
set_option maxHeartbeats 8000000 in
set_option maxRecDepth 100000 in
theorem comb_Do.ways (w : World) : Calls Try.prog 28 #[] w fun e w' => e = .returned (.agg #[Value.func (Fn.func 35) #[] #[], Value.func (Fn.func 36) #[] #[], Value.func (Fn.func 37) #[] #[], Value.func (Fn.func 38) #[] #[], Value.func (Fn.func 39) #[] #[], Value.func (Fn.func 40) #[] #[], Value.func (Fn.func 35) #[] #[]]) ∧ w' = w.alloc (.cells comb_Do.cs 48) := by
 go_enter Try.func28, Try.ntmps28
 go_wp2
 exact bodyPost_ret (results_cell_row rfl _ _ w.heap.size 48 comb_Do.cs (0, 0) _ rfl (blk_new w _) Try.underlying48 rfl (by kernel_rfl)) rfl ⟨rfl, rfl⟩
theorem comb_Do.low (w : World) (o : Obj) (n : Nat) : Below w.heap.size w ((w.alloc o).drewN n) := pw_below_drewN ((Below.refl _ w).alloc (Nat.le_refl _) _) n
set_option maxHeartbeats 8000000 in
set_option maxRecDepth 100000 in
theorem comb_Do.calls (a0 a1 a2 r : Int) (w : World) (h : comb_Do.f a0 a1 a2 = some r) :
  Calls Try.prog 14 #[.int .i64 a0, .int .i64 a1, .int .i64 a2] w fun e w' => e = .returned (.int .i64 r) ∧ Below w.heap.size w w' := by
 unfold comb_Do.f at h
 by_cases h1 : a0 = 1
 ·rw [if_pos h1] at h
  have H := Aside0.mk h
  clear h
  subst h1
  have hix : ∀ w, (Instr.index 48 (.agg #[Value.func (Fn.func 35) #[] #[], Value.func (Fn.func 36) #[] #[], Value.func (Fn.func 37) #[] #[], Value.func (Fn.func 38) #[] #[], Value.func (Fn.func 39) #[] #[], Value.func (Fn.func 40) #[] #[], Value.func (Fn.func 35) #[] #[]]) (.int .i64 1)).run Try.prog w = .ok (.func (.func 36) #[] #[]) w := fun _ => by kernel_rfl
  go_enter Try.func14, Try.ntmps14
  go_wp2_with (first | (go_at_call 28; refine (comb_Do.ways _).mono ?_; rintro e w' ⟨rfl, rfl⟩) | (go_at_call 36; refine (sat_Add.calls a1 a2 r _ H.out).mono ?_; rintro e w' ⟨rfl, ⟨nd, rfl⟩⟩) | go_in)
  go_ret
  exact ⟨rfl, comb_Do.low w _ nd⟩
 ·rw [if_neg h1] at h
  by_cases h2 : a0 = 2
  ·rw [if_pos h2] at h
   have H := Aside0.mk h
   clear h
   subst h2
   have hix : ∀ w, (Instr.index 48 (.agg #[Value.func (Fn.func 35) #[] #[], Value.func (Fn.func 36) #[] #[], Value.func (Fn.func 37) #[] #[], Value.func (Fn.func 38) #[] #[], Value.func (Fn.func 39) #[] #[], Value.func (Fn.func 40) #[] #[], Value.func (Fn.func 35) #[] #[]]) (.int .i64 2)).run Try.prog w = .ok (.func (.func 37) #[] #[]) w := fun _ => by kernel_rfl
   go_enter Try.func14, Try.ntmps14
   go_wp2_with (first | (go_at_call 28; refine (comb_Do.ways _).mono ?_; rintro e w' ⟨rfl, rfl⟩) | (go_at_call 37; refine (sat_Sub.calls a1 a2 r _ H.out).mono ?_; rintro e w' ⟨rfl, ⟨nd, rfl⟩⟩) | go_in)
   go_ret
   exact ⟨rfl, comb_Do.low w _ nd⟩
  ·rw [if_neg h2] at h
   by_cases h3 : a0 = 3
   ·rw [if_pos h3] at h
    have H := Aside0.mk h
    clear h
    subst h3
    have hix : ∀ w, (Instr.index 48 (.agg #[Value.func (Fn.func 35) #[] #[], Value.func (Fn.func 36) #[] #[], Value.func (Fn.func 37) #[] #[], Value.func (Fn.func 38) #[] #[], Value.func (Fn.func 39) #[] #[], Value.func (Fn.func 40) #[] #[], Value.func (Fn.func 35) #[] #[]]) (.int .i64 3)).run Try.prog w = .ok (.func (.func 38) #[] #[]) w := fun _ => by kernel_rfl
    go_enter Try.func14, Try.ntmps14
    go_wp2_with (first | (go_at_call 28; refine (comb_Do.ways _).mono ?_; rintro e w' ⟨rfl, rfl⟩) | (go_at_call 38; refine (comb_least.calls a1 a2 r _ H.out).mono ?_; rintro e w' ⟨rfl, hb⟩) | go_in)
    go_ret
    exact ⟨rfl, ((Below.refl _ w).alloc (Nat.le_refl _) _).trans (hb.mono (by simp))⟩
   ·rw [if_neg h3] at h
    by_cases h4 : a0 = 4
    ·rw [if_pos h4] at h
     have H := Aside0.mk h
     clear h
     subst h4
     have hix : ∀ w, (Instr.index 48 (.agg #[Value.func (Fn.func 35) #[] #[], Value.func (Fn.func 36) #[] #[], Value.func (Fn.func 37) #[] #[], Value.func (Fn.func 38) #[] #[], Value.func (Fn.func 39) #[] #[], Value.func (Fn.func 40) #[] #[], Value.func (Fn.func 35) #[] #[]]) (.int .i64 4)).run Try.prog w = .ok (.func (.func 39) #[] #[]) w := fun _ => by kernel_rfl
     go_enter Try.func14, Try.ntmps14
     go_wp2_with (first | (go_at_call 28; refine (comb_Do.ways _).mono ?_; rintro e w' ⟨rfl, rfl⟩) | (go_at_call 39; refine (comb_greatest.calls a1 a2 r _ H.out).mono ?_; rintro e w' ⟨rfl, hb⟩) | go_in)
     go_ret
     exact ⟨rfl, ((Below.refl _ w).alloc (Nat.le_refl _) _).trans (hb.mono (by simp))⟩
    ·rw [if_neg h4] at h
     by_cases h5 : a0 = 5
     ·rw [if_pos h5] at h
      obtain rfl := Option.some.inj h
      subst h5
      have hix : ∀ w, (Instr.index 48 (.agg #[Value.func (Fn.func 35) #[] #[], Value.func (Fn.func 36) #[] #[], Value.func (Fn.func 37) #[] #[], Value.func (Fn.func 38) #[] #[], Value.func (Fn.func 39) #[] #[], Value.func (Fn.func 40) #[] #[], Value.func (Fn.func 35) #[] #[]]) (.int .i64 5)).run Try.prog w = .ok (.func (.func 40) #[] #[]) w := fun _ => by kernel_rfl
      go_enter Try.func14, Try.ntmps14
      go_wp2_with (first | (go_at_call 28; refine (comb_Do.ways _).mono ?_; rintro e w' ⟨rfl, rfl⟩) | go_in)
      go_ret
      exact ⟨rfl, comb_Do.low w _ 0⟩
     ·rw [if_neg h5] at h
      by_cases h6 : a0 = 6
      ·obtain rfl := Option.some.inj h
       subst h6
       have hix : ∀ w, (Instr.index 48 (.agg #[Value.func (Fn.func 35) #[] #[], Value.func (Fn.func 36) #[] #[], Value.func (Fn.func 37) #[] #[], Value.func (Fn.func 38) #[] #[], Value.func (Fn.func 39) #[] #[], Value.func (Fn.func 40) #[] #[], Value.func (Fn.func 35) #[] #[]]) (.int .i64 6)).run Try.prog w = .ok (.func (.func 35) #[] #[]) w := fun _ => by kernel_rfl
       go_enter Try.func14, Try.ntmps14
       go_wp2_with (first | (go_at_call 28; refine (comb_Do.ways _).mono ?_; rintro e w' ⟨rfl, rfl⟩) | go_in)
       go_ret
       exact ⟨rfl, comb_Do.low w _ 0⟩
      ·obtain rfl := Option.some.inj h
       have hb : a0 < 1 ∨ 6 < a0 := by omega
       clear h1 h2 h3 h4 h5 h6
       rcases hb with hb | hb
       ·have e1 : decide (1 ≤ a0) = false := decide_eq_false (by omega)
        have hix : ∀ w, (Instr.index 48 (.agg #[Value.func (Fn.func 35) #[] #[], Value.func (Fn.func 36) #[] #[], Value.func (Fn.func 37) #[] #[], Value.func (Fn.func 38) #[] #[], Value.func (Fn.func 39) #[] #[], Value.func (Fn.func 40) #[] #[], Value.func (Fn.func 35) #[] #[]]) (.int .i64 0)).run Try.prog w = .ok (.func (.func 35) #[] #[]) w := fun _ => by kernel_rfl
        go_enter Try.func14, Try.ntmps14
        go_wp2_with (first | (go_at_call 28; refine (comb_Do.ways _).mono ?_; rintro e w' ⟨rfl, rfl⟩) | go_in)
        go_ret
        exact ⟨rfl, comb_Do.low w _ 0⟩
       ·have e1 : decide (1 ≤ a0) = true := decide_eq_true (by omega)
        have e2 : decide (a0 ≤ 6) = false := decide_eq_false (by omega)
        have hix : ∀ w, (Instr.index 48 (.agg #[Value.func (Fn.func 35) #[] #[], Value.func (Fn.func 36) #[] #[], Value.func (Fn.func 37) #[] #[], Value.func (Fn.func 38) #[] #[], Value.func (Fn.func 39) #[] #[], Value.func (Fn.func 40) #[] #[], Value.func (Fn.func 35) #[] #[]]) (.int .i64 0)).run Try.prog w = .ok (.func (.func 35) #[] #[]) w := fun _ => by kernel_rfl
        go_enter Try.func14, Try.ntmps14
        go_wp2_with (first | (go_at_call 28; refine (comb_Do.ways _).mono ?_; rintro e w' ⟨rfl, rfl⟩) | go_in)
        go_ret
        exact ⟨rfl, comb_Do.low w _ 0⟩

/-! ### comb_All: function 16 -/
def comb_All.l0 : Nat → Int → Int → List Int → Int → Int → Option (Int)
 | 0, _, _, _, _, _ => none
 | k + 1, x0, x1, x9, x10, x11 => if x11 < x10 then (if 0 ≤ x11 then (if x11 < (x9.length : Int) then ((comb_Do.f x0 x1 (rd x9 x11)).bind fun t104 => (comb_All.l0 k x0 t104 x9 x10 (wrap64 (x11 + 1)))) else (none)) else (none)) else (some x1)
def comb_All.f (k : Nat) (a0 : Int) (a1 : Int) (l2 : List Int) : Option (Int) := comb_All.l0 k a0 a1 l2 (l2.length : Int) 0
theorem comb_All.mono_l : ∀ k, (∀ y0 y1 y2 y3 y4, LeO (comb_All.l0 k y0 y1 y2 y3 y4) (comb_All.l0 (k + 1) y0 y1 y2 y3 y4))
 | 0 => fun _ _ _ _ _ r h => by simp [comb_All.l0] at h
 | k + 1 => by
  have ih0 := comb_All.mono_l k
  ·intro y0 y1 y2 y3 y4
   unfold comb_All.l0
   repeat' first
   | (with_reducible exact ih0 _ _ _ _ _)
   | (with_reducible exact LeO.refl _)
   | (with_reducible exact LeO.none _)
   | (with_reducible refine LeO.ite ?_ ?_)
   | (with_reducible refine LeO.bind ?_ (fun _ => ?_))
   | exact ih0 _ _ _ _ _
   | exact LeO.none _
   | refine LeO.ite ?_ ?_
   | refine LeO.bind ?_ (fun _ => ?_)
theorem comb_All.mono : ∀ a0 a1 a2 k, LeO (comb_All.f k a0 a1 a2) (comb_All.f (k + 1) a0 a1 a2) := by
 intro a0 a1 a2 k
 have ih0 := comb_All.mono_l k
 unfold comb_All.f
 repeat' first
   | (with_reducible exact ih0 _ _ _ _ _)
   | (with_reducible exact LeO.refl _)
   | (with_reducible exact LeO.none _)
   | (with_reducible refine LeO.ite ?_ ?_)
   | (with_reducible refine LeO.bind ?_ (fun _ => ?_))
   | exact ih0 _ _ _ _ _
   | exact LeO.none _
   | refine LeO.ite ?_ ?_
   | refine LeO.bind ?_ (fun _ => ?_)
set_option maxHeartbeats 8000000 in
set_option maxRecDepth 100000 in
theorem comb_All.calls (k : Nat) (a0 : Int) (a1 : Int) (A2 : Option Addr) (c2 : Nat) (l2 : List Int) (r : Int) (w : World) (hr2 : Kd.C (Kd.int .i64) w A2 l2.length l2) (hc2 : l2.length ≤ c2) (h : comb_All.f k a0 a1 l2 = some r) :
  Calls Try.prog 16 #[.int .i64 a0, .int .i64 a1, .slice A2 l2.length c2] w fun e w' => e = .returned (.int .i64 r) ∧ Below w.heap.size w w' := by
 have HR2 := Aside0.mk hr2
 have HC2 := Aside0.mk hc2
 clear hr2 hc2
 have HB := Aside0.mk (Below.refl w.heap.size w)
 have H : (comb_All.l0 k a0 a1 l2 (l2.length : Int) 0) = some r := h
 clear h
 have H' := Aside0.mk H
 clear H
 go_enter Try.func16, Try.ntmps16
 go_wp2
 go_loopg [1, 11] k (fun kq v1 v11 w' => ∃ (x1_1 : Int) (x11_1 : Int), v1 = .int .i64 x1_1 ∧ v11 = .int .i64 x11_1 ∧ Aside0 (comb_All.l0 kq a0 x1_1 l2 (l2.length : Int) x11_1 = some r) ∧ Aside0 (kq ≤ k) ∧ Aside0 (Below w.heap.size w w'))
 case atStart => exact ⟨(a1), (0), (by first | rfl | (simp; done) | (simp [*]; done)), (by first | rfl | (simp; done) | (simp [*]; done)), H', ⟨Nat.le_refl _⟩, ⟨bl HB⟩⟩
 case round =>
  clear H'
  try clear c2
  obtain ⟨x1_1, x11_1, rfl, rfl, HA, HK1, HB⟩ := hrel
  cases gk with
  | zero => exact absurd HA.out (by simp [comb_All.l0])
  | succ k1 =>
   have H := HA.out
   clear HA
   simp only [comb_All.l0] at H
   by_cases c4 : x11_1 < (l2.length : Int)
   ·rw [if_pos c4] at H
    have c4b0 : decide (x11_1 < (l2.length : Int)) = true := decide_eq_true c4
    clear c4
    by_cases c5 : 0 ≤ x11_1
    ·rw [if_pos c5] at H
     have c5b0 : decide (0 ≤ x11_1) = true := decide_eq_true c5
     clear c5
     by_cases c6 : x11_1 < (l2.length : Int)
     ·rw [if_pos c6] at H
      have c6b0 : decide (x11_1 < (l2.length : Int)) = true := decide_eq_true c6
      clear c6
      replace H := Option.bind_eq_some_iff.mp H
      obtain ⟨t104, A70, H⟩ := H
      replace H : (comb_All.l0 k1 a0 t104 l2 (l2.length : Int) (wrap64 (x11_1 + 1))) = some r := H
      have A7 := Aside0.mk A70
      clear A70
      have H' := Aside0.mk H
      clear H
      have p103 : 0 ≤ (x11_1 : Int) := of_decide_eq_true (by first | (with_reducible assumption) | assumption)
      have q103 : x11_1 < (l2.length : Int) := of_decide_eq_true (by first | (with_reducible assumption) | assumption)
      obtain ⟨ad103, e103, hx103_0⟩ := Kd.at_int HR2.out x11_1 p103 q103
      cases e103
      replace hx103_0 := (HB.out.cell (World.block_lt_of_cell? w _ hx103_0)).trans hx103_0
      replace p103 := eq_true p103
      replace q103 := eq_true q103
      go_wp2_with (first | ((with_reducible refine gate_callee (f := 14) rfl ?_); refine gol (some 18) Try.func14 #[.int .i64 a0, .int .i64 x1_1, .int .i64 (rd l2 x11_1)] ?_; (with_reducible refine (comb_Do.calls a0 x1_1 (rd l2 x11_1) t104 _ A7.out).mono ?_); rintro e w8 ⟨rfl, hb⟩; refine ⟨_, rfl, ?_⟩; replace HB := bst HB hb; (try clear hb); (try clear hb2); (try clear hk); (try clear hi)))
      go_roundg k1
      case measure => have := HK1.out; omega
      case rel => exact ⟨(t104), (wrap64 (x11_1 + 1)), (by first | rfl | (simp; done) | (simp [*]; done)), (by first | rfl | (simp; done) | (simp [*]; done)), H', ⟨by have := HK1.out; omega⟩, ⟨bl HB⟩⟩
     ·rw [if_neg c6] at H
      exact absurd H (by simp)
    ·rw [if_neg c5] at H
     exact absurd H (by simp)
   ·rw [if_neg c4] at H
    have c4b0 : decide (x11_1 < (l2.length : Int)) = false := decide_eq_false c4
    clear c4
    obtain rfl := Option.some.inj H
    go_wp2
    go_ret
    exact endB HB

/-! ### sat_Neg: function 30 -/
def sat_Neg.f (a0 : Int) : Option (Int) := (sat_Sub.f 0 a0).bind fun t105 => (some t105)
set_option maxHeartbeats 8000000 in
set_option maxRecDepth 100000 in
theorem sat_Neg.calls (a0 : Int) (r : Int) (w : World) (h : sat_Neg.f a0 = some r) :
  Calls Try.prog 30 #[.int .i64 a0] w fun e w' => e = .returned (.int .i64 r) ∧ Drawn0 w w' := by
 have H : ((sat_Sub.f 0 a0).bind fun t105 => (some t105)) = some r := h
 clear h
 replace H := Option.bind_eq_some_iff.mp H
 obtain ⟨t105, A20, H⟩ := H
 replace H : (some t105) = some r := H
 have A2 := Aside0.mk A20
 clear A20
 obtain rfl := Option.some.inj H
 go_enter Try.func30, Try.ntmps30
 go_wp2_with (first | ((with_reducible refine gate_callee (f := 37) rfl ?_); refine gol (some 4) Try.func37 #[.int .i64 0, .int .i64 a0] ?_; (with_reducible refine (sat_Sub.calls 0 a0 t105 _ A2.out).mono ?_); rintro e w' ⟨rfl, ⟨nd, rfl⟩⟩; refine ⟨_, rfl, ?_⟩))
 go_ret
 exact ⟨by first | rfl | (simp; done) | (simp [*]; done), by repeat (first | exact Drawn0.refl _ | apply Drawn0.step)⟩

/-! ### comb_First: function 18 -/
def comb_First.f (a0 : Int) (a1 : Int) : Option (Int) := if a0 = 2 then ((sat_Neg.f a1).bind fun t106 => (some t106)) else (some a1)
set_option maxHeartbeats 8000000 in
set_option maxRecDepth 100000 in
theorem comb_First.calls (a0 : Int) (a1 : Int) (r : Int) (w : World) (h : comb_First.f a0 a1 = some r) :
  Calls Try.prog 18 #[.int .i64 a0, .int .i64 a1] w fun e w' => e = .returned (.int .i64 r) ∧ Drawn0 w w' := by
 have H : (if a0 = 2 then ((sat_Neg.f a1).bind fun t106 => (some t106)) else (some a1)) = some r := h
 clear h
 by_cases c3 : a0 = 2
 ·rw [if_pos c3] at H
  have c3b0 : (a0 == 2) = true := beq_iff_eq.mpr c3
  have c3b1 : (a0 != 2) = false := bne_eq_false_iff_eq.mpr c3
  clear c3
  replace H := Option.bind_eq_some_iff.mp H
  obtain ⟨t106, A40, H⟩ := H
  replace H : (some t106) = some r := H
  have A4 := Aside0.mk A40
  clear A40
  obtain rfl := Option.some.inj H
  go_enter Try.func18, Try.ntmps18
  go_wp2_with (first | ((with_reducible refine gate_callee (f := 30) rfl ?_); refine gol (some 8) Try.func30 #[.int .i64 a1] ?_; (with_reducible refine (sat_Neg.calls a1 t106 _ A4.out).mono ?_); rintro e w' ⟨rfl, ⟨nd, rfl⟩⟩; refine ⟨_, rfl, ?_⟩))
  go_ret
  exact ⟨by first | rfl | (simp; done) | (simp [*]; done), by repeat (first | exact Drawn0.refl _ | apply Drawn0.step)⟩
 ·rw [if_neg c3] at H
  have c3b0 : (a0 == 2) = false := beq_eq_false_iff_ne.mpr c3
  have c3b1 : (a0 != 2) = true := bne_iff_ne.mpr c3
  obtain rfl := Option.some.inj H
  go_enter Try.func18, Try.ntmps18
  go_wp2
  go_ret
  exact ⟨by first | rfl | (simp; done) | (simp [*]; done), by repeat (first | exact Drawn0.refl _ | apply Drawn0.step)⟩

end Go.Proofs.Ytagcloidicnhhaa.Print
