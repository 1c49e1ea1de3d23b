-- Laid by wip/print/bprint.py of this repo, over the kit's printer, with functions given by hand; not trusted: Lean checks it.
import Derived.Test.YtkkbmjfhpngalaaHList
import Derived.Test.YtkkbmjfhpngalaaPrint0
import Derived.Test.YtkkbmjfhpngalaaPrint2
import Derived.Test.YtkkbmjfhpngalaaSh
namespace Go.Proofs.Ytkkbmjfhpngalaa.Print
open Go.RowKit Go.Proofs.YtkkbmjfhpngalaaW.PrintWords Go.Proofs.YtkkbmjfhpngalaaW.PrintLast Go.Proofs.YtkkbmjfhpngalaaW.PrintMore
attribute [local go_sem] max2_int min2_int max_two min_two max_three min_three max_four min_four   -- for this text's walks alone
set_option linter.unusedVariables false
set_option linter.unusedSimpArgs false
/-! ### bocagelaw03_alive: function 18 -/
def bocagelaw03_alive.f (k : Nat)  : Option (Bool) := (bocagelaw03_to.f 0 9).bind fun bt403 => ((bocagelaw03_to.f 3 4).bind fun bt407 => ((span_Minus.f k bt403.1 bt403.2.1 bt403.2.2.1 bt403.2.2.2 bt407.1 bt407.2.1 bt407.2.2.1 bt407.2.2.2).bind fun t411 => ((bocagelaw03_to.f 3 5).bind fun bt414 => ((bocagelaw03_to.f 0 3).bind fun bt418 => ((bocagelaw03_to.f 7 8).bind fun bt422 => ((span_List.f k (([(⟨(⟨bt414.1, bt414.2.1⟩ : S23), (⟨bt414.2.2.1, bt414.2.2.2⟩ : S23)⟩ : S25), (⟨(⟨bt418.1, bt418.2.1⟩ : S23), (⟨bt418.2.2.1, bt418.2.2.2⟩ : S23)⟩ : S25), (⟨(⟨bt422.1, bt422.2.1⟩ : S23), (⟨bt422.2.2.1, bt422.2.2.2⟩ : S23)⟩ : S25)] : List (S25)))).bind fun t429 => ((bocagelaw03_to.f (-2) 3).bind fun bt432 => ((span_Count.f k bt432.1 bt432.2.1 bt432.2.2.1 bt432.2.2.2).bind fun bt436 => ((bocagelaw03_to.f 0 3).bind fun bt438 => ((bocagelaw03_to.f 4 9).bind fun bt442 => ((bocageref03_Same.f k t411 (([(⟨(⟨bt438.1, bt438.2.1⟩ : S23), (⟨bt438.2.2.1, bt438.2.2.2⟩ : S23)⟩ : S25), (⟨(⟨bt442.1, bt442.2.1⟩ : S23), (⟨bt442.2.2.1, bt442.2.2.2⟩ : S23)⟩ : S25)] : List (S25)))).bind fun t449 => (if t449 = true then ((bocagelaw03_to.f 0 5).bind fun bt450 => ((bocagelaw03_to.f 7 8).bind fun bt454 => ((bocageref03_Same.f k t429 (([(⟨(⟨bt450.1, bt450.2.1⟩ : S23), (⟨bt450.2.2.1, bt450.2.2.2⟩ : S23)⟩ : S25), (⟨(⟨bt454.1, bt454.2.1⟩ : S23), (⟨bt454.2.2.1, bt454.2.2.2⟩ : S23)⟩ : S25)] : List (S25)))).bind fun t461 => (if t461 = true then (if bt436.1 = 5 then (if bt436.2 = true then ((bocagelaw03_to.f 0 3).bind fun bt462 => ((span_Has.f k bt462.1 bt462.2.1 bt462.2.2.1 bt462.2.2.2 2).bind fun t466 => (if t466 = true then ((bocagelaw03_to.f 0 3).bind fun bt467 => ((span_Has.f k bt467.1 bt467.2.1 bt467.2.2.1 bt467.2.2.2 3).bind fun t471 => (if t471 = true then (some false) else ((bocagelaw03_to.f 0 3).bind fun bt472 => ((bocagelaw03_to.f 3 4).bind fun bt476 => ((span_Touch.f k bt472.1 bt472.2.1 bt472.2.2.1 bt472.2.2.2 bt476.1 bt476.2.1 bt476.2.2.1 bt476.2.2.2).bind fun t480 => (if t480 = true then ((span_All.f).bind fun bt481 => ((span_Point.f k 7).bind fun bt485 => ((span_Holds.f k bt481.1 bt481.2.1 bt481.2.2.1 bt481.2.2.2 bt485.1 bt485.2.1 bt485.2.2.1 bt485.2.2.2).bind fun t489 => (some t489)))) else (some false)))))))) else (some false)))) else (some false)) else (some false)) else (some false))))) else (some false)))))))))))))
theorem bocagelaw03_alive.mono : ∀ k, LeO (bocagelaw03_alive.f k ) (bocagelaw03_alive.f (k + 1) ) := by
  intro  k
  unfold bocagelaw03_alive.f
  repeat' first
      | (with_reducible exact bocageref03_Same.mono _ _ _)
      | (with_reducible exact span_Count.mono _ _ _ _ _)
      | (with_reducible exact span_Has.mono _ _ _ _ _ _)
      | (with_reducible exact span_Holds.mono _ _ _ _ _ _ _ _ _)
      | (with_reducible exact span_List.mono _ _)
      | (with_reducible exact span_Minus.mono _ _ _ _ _ _ _ _ _)
      | (with_reducible exact span_Point.mono _ _)
      | (with_reducible exact span_Touch.mono _ _ _ _ _ _ _ _ _)
      | (with_reducible exact LeO.refl _)
      | (with_reducible exact LeO.none _)
      | (with_reducible refine LeO.ite ?_ ?_)
      | (with_reducible refine LeO.bind ?_ (fun _ => ?_))
      | exact bocageref03_Same.mono _ _ _
      | exact span_Count.mono _ _ _ _ _
      | exact span_Has.mono _ _ _ _ _ _
      | exact span_Holds.mono _ _ _ _ _ _ _ _ _
      | exact span_List.mono _ _
      | exact span_Minus.mono _ _ _ _ _ _ _ _ _
      | exact span_Point.mono _ _
      | exact span_Touch.mono _ _ _ _ _ _ _ _ _
      | exact LeO.none _
      | refine LeO.ite ?_ ?_
      | refine LeO.bind ?_ (fun _ => ?_)
set_option maxHeartbeats 8000000 in
set_option maxRecDepth 100000 in
theorem bocagelaw03_alive.calls (k : Nat)  (r : Bool) (w : World) (h : bocagelaw03_alive.f k  = some r) (hr : r = true) :
    Calls Try.prog 18 #[] w fun e w' => e = .returned (.bool r) ∧ Below w.heap.size w w' := by
  have HRT := Aside0.mk hr
  clear hr
  have HB := Aside0.mk (Below.refl w.heap.size w)
  have H : ((bocagelaw03_to.f 0 9).bind fun bt403 => ((bocagelaw03_to.f 3 4).bind fun bt407 => ((span_Minus.f k bt403.1 bt403.2.1 bt403.2.2.1 bt403.2.2.2 bt407.1 bt407.2.1 bt407.2.2.1 bt407.2.2.2).bind fun t411 => ((bocagelaw03_to.f 3 5).bind fun bt414 => ((bocagelaw03_to.f 0 3).bind fun bt418 => ((bocagelaw03_to.f 7 8).bind fun bt422 => ((span_List.f k (([(⟨(⟨bt414.1, bt414.2.1⟩ : S23), (⟨bt414.2.2.1, bt414.2.2.2⟩ : S23)⟩ : S25), (⟨(⟨bt418.1, bt418.2.1⟩ : S23), (⟨bt418.2.2.1, bt418.2.2.2⟩ : S23)⟩ : S25), (⟨(⟨bt422.1, bt422.2.1⟩ : S23), (⟨bt422.2.2.1, bt422.2.2.2⟩ : S23)⟩ : S25)] : List (S25)))).bind fun t429 => ((bocagelaw03_to.f (-2) 3).bind fun bt432 => ((span_Count.f k bt432.1 bt432.2.1 bt432.2.2.1 bt432.2.2.2).bind fun bt436 => ((bocagelaw03_to.f 0 3).bind fun bt438 => ((bocagelaw03_to.f 4 9).bind fun bt442 => ((bocageref03_Same.f k t411 (([(⟨(⟨bt438.1, bt438.2.1⟩ : S23), (⟨bt438.2.2.1, bt438.2.2.2⟩ : S23)⟩ : S25), (⟨(⟨bt442.1, bt442.2.1⟩ : S23), (⟨bt442.2.2.1, bt442.2.2.2⟩ : S23)⟩ : S25)] : List (S25)))).bind fun t449 => (if t449 = true then ((bocagelaw03_to.f 0 5).bind fun bt450 => ((bocagelaw03_to.f 7 8).bind fun bt454 => ((bocageref03_Same.f k t429 (([(⟨(⟨bt450.1, bt450.2.1⟩ : S23), (⟨bt450.2.2.1, bt450.2.2.2⟩ : S23)⟩ : S25), (⟨(⟨bt454.1, bt454.2.1⟩ : S23), (⟨bt454.2.2.1, bt454.2.2.2⟩ : S23)⟩ : S25)] : List (S25)))).bind fun t461 => (if t461 = true then (if bt436.1 = 5 then (if bt436.2 = true then ((bocagelaw03_to.f 0 3).bind fun bt462 => ((span_Has.f k bt462.1 bt462.2.1 bt462.2.2.1 bt462.2.2.2 2).bind fun t466 => (if t466 = true then ((bocagelaw03_to.f 0 3).bind fun bt467 => ((span_Has.f k bt467.1 bt467.2.1 bt467.2.2.1 bt467.2.2.2 3).bind fun t471 => (if t471 = true then (some false) else ((bocagelaw03_to.f 0 3).bind fun bt472 => ((bocagelaw03_to.f 3 4).bind fun bt476 => ((span_Touch.f k bt472.1 bt472.2.1 bt472.2.2.1 bt472.2.2.2 bt476.1 bt476.2.1 bt476.2.2.1 bt476.2.2.2).bind fun t480 => (if t480 = true then ((span_All.f).bind fun bt481 => ((span_Point.f k 7).bind fun bt485 => ((span_Holds.f k bt481.1 bt481.2.1 bt481.2.2.1 bt481.2.2.2 bt485.1 bt485.2.1 bt485.2.2.1 bt485.2.2.2).bind fun t489 => (some t489)))) else (some false)))))))) else (some false)))) else (some false)) else (some false)) else (some false))))) else (some false)))))))))))))) = some r := h
  clear h
  replace H := Option.bind_eq_some_iff.mp H
  obtain ⟨⟨t403, t404, t405, t406⟩, A10, H⟩ := H
  (try (set_option simprocs false in dsimp only at H))
  have A1 := Aside0.mk A10
  clear A10
  replace H := Option.bind_eq_some_iff.mp H
  obtain ⟨⟨t407, t408, t409, t410⟩, A20, H⟩ := H
  (try (set_option simprocs false in dsimp only at H))
  have A2 := Aside0.mk A20
  clear A20
  replace H := Option.bind_eq_some_iff.mp H
  obtain ⟨t411, A30, H⟩ := H
  (try (set_option simprocs false in dsimp only at H))
  have A3 := Aside0.mk A30
  clear A30
  replace H := Option.bind_eq_some_iff.mp H
  obtain ⟨⟨t414, t415, t416, t417⟩, A40, H⟩ := H
  (try (set_option simprocs false in dsimp only at H))
  have A4 := Aside0.mk A40
  clear A40
  replace H := Option.bind_eq_some_iff.mp H
  obtain ⟨⟨t418, t419, t420, t421⟩, A50, H⟩ := H
  (try (set_option simprocs false in dsimp only at H))
  have A5 := Aside0.mk A50
  clear A50
  replace H := Option.bind_eq_some_iff.mp H
  obtain ⟨⟨t422, t423, t424, t425⟩, A60, H⟩ := H
  (try (set_option simprocs false in dsimp only at H))
  have A6 := Aside0.mk A60
  clear A60
  obtain ⟨y426, hy426⟩ : ∃ y_ : List (S25), y_ = (([(⟨(⟨t414, t415⟩ : S23), (⟨t416, t417⟩ : S23)⟩ : S25), (⟨(⟨t418, t419⟩ : S23), (⟨t420, t421⟩ : S23)⟩ : S25), (⟨(⟨t422, t423⟩ : S23), (⟨t424, t425⟩ : S23)⟩ : S25)] : List (S25))) := ⟨_, rfl⟩
  replace H : ((span_List.f k y426).bind fun t429 => ((bocagelaw03_to.f (-2) 3).bind fun bt432 => ((span_Count.f k bt432.1 bt432.2.1 bt432.2.2.1 bt432.2.2.2).bind fun bt436 => ((bocagelaw03_to.f 0 3).bind fun bt438 => ((bocagelaw03_to.f 4 9).bind fun bt442 => ((bocageref03_Same.f k t411 (([(⟨(⟨bt438.1, bt438.2.1⟩ : S23), (⟨bt438.2.2.1, bt438.2.2.2⟩ : S23)⟩ : S25), (⟨(⟨bt442.1, bt442.2.1⟩ : S23), (⟨bt442.2.2.1, bt442.2.2.2⟩ : S23)⟩ : S25)] : List (S25)))).bind fun t449 => (if t449 = true then ((bocagelaw03_to.f 0 5).bind fun bt450 => ((bocagelaw03_to.f 7 8).bind fun bt454 => ((bocageref03_Same.f k t429 (([(⟨(⟨bt450.1, bt450.2.1⟩ : S23), (⟨bt450.2.2.1, bt450.2.2.2⟩ : S23)⟩ : S25), (⟨(⟨bt454.1, bt454.2.1⟩ : S23), (⟨bt454.2.2.1, bt454.2.2.2⟩ : S23)⟩ : S25)] : List (S25)))).bind fun t461 => (if t461 = true then (if bt436.1 = 5 then (if bt436.2 = true then ((bocagelaw03_to.f 0 3).bind fun bt462 => ((span_Has.f k bt462.1 bt462.2.1 bt462.2.2.1 bt462.2.2.2 2).bind fun t466 => (if t466 = true then ((bocagelaw03_to.f 0 3).bind fun bt467 => ((span_Has.f k bt467.1 bt467.2.1 bt467.2.2.1 bt467.2.2.2 3).bind fun t471 => (if t471 = true then (some false) else ((bocagelaw03_to.f 0 3).bind fun bt472 => ((bocagelaw03_to.f 3 4).bind fun bt476 => ((span_Touch.f k bt472.1 bt472.2.1 bt472.2.2.1 bt472.2.2.2 bt476.1 bt476.2.1 bt476.2.2.1 bt476.2.2.2).bind fun t480 => (if t480 = true then ((span_All.f).bind fun bt481 => ((span_Point.f k 7).bind fun bt485 => ((span_Holds.f k bt481.1 bt481.2.1 bt481.2.2.1 bt481.2.2.2 bt485.1 bt485.2.1 bt485.2.2.1 bt485.2.2.2).bind fun t489 => (some t489)))) else (some false)))))))) else (some false)))) else (some false)) else (some false)) else (some false))))) else (some false)))))))) = some r := by first | (rw [hy426]; with_reducible exact H) | (have H2_ := (Option.bind_some _ _).symm.trans H; rw [hy426]; with_reducible exact H2_) | (have H2_ := (Option.bind_some _ _).symm.trans H; with_reducible exact H2_) | with_reducible exact H | (rw [hy426]; exact H) | exact H
  have Ny426 := Aside0.mk hy426
  clear hy426
  replace H := Option.bind_eq_some_iff.mp H
  obtain ⟨t429, A70, H⟩ := H
  (try (set_option simprocs false in dsimp only at H))
  have A7 := Aside0.mk A70
  clear A70
  replace H := Option.bind_eq_some_iff.mp H
  obtain ⟨⟨t432, t433, t434, t435⟩, A80, H⟩ := H
  (try (set_option simprocs false in dsimp only at H))
  have A8 := Aside0.mk A80
  clear A80
  replace H := Option.bind_eq_some_iff.mp H
  obtain ⟨⟨t436, t437⟩, A90, H⟩ := H
  (try (set_option simprocs false in dsimp only at H))
  have A9 := Aside0.mk A90
  clear A90
  replace H := Option.bind_eq_some_iff.mp H
  obtain ⟨⟨t438, t439, t440, t441⟩, A100, H⟩ := H
  (try (set_option simprocs false in dsimp only at H))
  have A10 := Aside0.mk A100
  clear A100
  obtain ⟨rfl, rfl, rfl, rfl⟩ : t418 = t438 ∧ t419 = t439 ∧ t420 = t440 ∧ t421 = t441 := by have e_ := Option.some.inj (A5.out.symm.trans A10.out); simpa only [Prod.mk.injEq] using e_
  replace H := Option.bind_eq_some_iff.mp H
  obtain ⟨⟨t442, t443, t444, t445⟩, A110, H⟩ := H
  (try (set_option simprocs false in dsimp only at H))
  have A11 := Aside0.mk A110
  clear A110
  obtain ⟨y446, hy446⟩ : ∃ y_ : List (S25), y_ = (([(⟨(⟨t418, t419⟩ : S23), (⟨t420, t421⟩ : S23)⟩ : S25), (⟨(⟨t442, t443⟩ : S23), (⟨t444, t445⟩ : S23)⟩ : S25)] : List (S25))) := ⟨_, rfl⟩
  replace H : ((bocageref03_Same.f k t411 y446).bind fun t449 => (if t449 = true then ((bocagelaw03_to.f 0 5).bind fun bt450 => ((bocagelaw03_to.f 7 8).bind fun bt454 => ((bocageref03_Same.f k t429 (([(⟨(⟨bt450.1, bt450.2.1⟩ : S23), (⟨bt450.2.2.1, bt450.2.2.2⟩ : S23)⟩ : S25), (⟨(⟨bt454.1, bt454.2.1⟩ : S23), (⟨bt454.2.2.1, bt454.2.2.2⟩ : S23)⟩ : S25)] : List (S25)))).bind fun t461 => (if t461 = true then (if t436 = 5 then (if t437 = true then ((bocagelaw03_to.f 0 3).bind fun bt462 => ((span_Has.f k bt462.1 bt462.2.1 bt462.2.2.1 bt462.2.2.2 2).bind fun t466 => (if t466 = true then ((bocagelaw03_to.f 0 3).bind fun bt467 => ((span_Has.f k bt467.1 bt467.2.1 bt467.2.2.1 bt467.2.2.2 3).bind fun t471 => (if t471 = true then (some false) else ((bocagelaw03_to.f 0 3).bind fun bt472 => ((bocagelaw03_to.f 3 4).bind fun bt476 => ((span_Touch.f k bt472.1 bt472.2.1 bt472.2.2.1 bt472.2.2.2 bt476.1 bt476.2.1 bt476.2.2.1 bt476.2.2.2).bind fun t480 => (if t480 = true then ((span_All.f).bind fun bt481 => ((span_Point.f k 7).bind fun bt485 => ((span_Holds.f k bt481.1 bt481.2.1 bt481.2.2.1 bt481.2.2.2 bt485.1 bt485.2.1 bt485.2.2.1 bt485.2.2.2).bind fun t489 => (some t489)))) else (some false)))))))) else (some false)))) else (some false)) else (some false)) else (some false))))) else (some false))) = some r := by first | (rw [hy446]; with_reducible exact H) | (have H2_ := (Option.bind_some _ _).symm.trans H; rw [hy446]; with_reducible exact H2_) | (have H2_ := (Option.bind_some _ _).symm.trans H; with_reducible exact H2_) | with_reducible exact H | (rw [hy446]; exact H) | exact H
  have Ny446 := Aside0.mk hy446
  clear hy446
  replace H := Option.bind_eq_some_iff.mp H
  obtain ⟨t449, A120, H⟩ := H
  (try (set_option simprocs false in dsimp only at H))
  have A12 := Aside0.mk A120
  clear A120
  by_cases c13 : t449 = true
  · subst c13
    have H1 : ((bocagelaw03_to.f 0 5).bind fun bt450 => ((bocagelaw03_to.f 7 8).bind fun bt454 => ((bocageref03_Same.f k t429 (([(⟨(⟨bt450.1, bt450.2.1⟩ : S23), (⟨bt450.2.2.1, bt450.2.2.2⟩ : S23)⟩ : S25), (⟨(⟨bt454.1, bt454.2.1⟩ : S23), (⟨bt454.2.2.1, bt454.2.2.2⟩ : S23)⟩ : S25)] : List (S25)))).bind fun t461 => (if t461 = true then (if t436 = 5 then (if t437 = true then ((bocagelaw03_to.f 0 3).bind fun bt462 => ((span_Has.f k bt462.1 bt462.2.1 bt462.2.2.1 bt462.2.2.2 2).bind fun t466 => (if t466 = true then ((bocagelaw03_to.f 0 3).bind fun bt467 => ((span_Has.f k bt467.1 bt467.2.1 bt467.2.2.1 bt467.2.2.2 3).bind fun t471 => (if t471 = true then (some false) else ((bocagelaw03_to.f 0 3).bind fun bt472 => ((bocagelaw03_to.f 3 4).bind fun bt476 => ((span_Touch.f k bt472.1 bt472.2.1 bt472.2.2.1 bt472.2.2.2 bt476.1 bt476.2.1 bt476.2.2.1 bt476.2.2.2).bind fun t480 => (if t480 = true then ((span_All.f).bind fun bt481 => ((span_Point.f k 7).bind fun bt485 => ((span_Holds.f k bt481.1 bt481.2.1 bt481.2.2.1 bt481.2.2.2 bt485.1 bt485.2.1 bt485.2.2.1 bt485.2.2.2).bind fun t489 => (some t489)))) else (some false)))))))) else (some false)))) else (some false)) else (some false)) else (some false))))) = some r := by rw [if_pos rfl] at H; exact H
    clear H
    have H := H1
    clear H1
    replace H := Option.bind_eq_some_iff.mp H
    obtain ⟨⟨t450, t451, t452, t453⟩, A140, H⟩ := H
    (try (set_option simprocs false in dsimp only at H))
    have A14 := Aside0.mk A140
    clear A140
    replace H := Option.bind_eq_some_iff.mp H
    obtain ⟨⟨t454, t455, t456, t457⟩, A150, H⟩ := H
    (try (set_option simprocs false in dsimp only at H))
    have A15 := Aside0.mk A150
    clear A150
    obtain ⟨rfl, rfl, rfl, rfl⟩ : t422 = t454 ∧ t423 = t455 ∧ t424 = t456 ∧ t425 = t457 := by have e_ := Option.some.inj (A6.out.symm.trans A15.out); simpa only [Prod.mk.injEq] using e_
    obtain ⟨y458, hy458⟩ : ∃ y_ : List (S25), y_ = (([(⟨(⟨t450, t451⟩ : S23), (⟨t452, t453⟩ : S23)⟩ : S25), (⟨(⟨t422, t423⟩ : S23), (⟨t424, t425⟩ : S23)⟩ : S25)] : List (S25))) := ⟨_, rfl⟩
    replace H : ((bocageref03_Same.f k t429 y458).bind fun t461 => (if t461 = true then (if t436 = 5 then (if t437 = true then ((bocagelaw03_to.f 0 3).bind fun bt462 => ((span_Has.f k bt462.1 bt462.2.1 bt462.2.2.1 bt462.2.2.2 2).bind fun t466 => (if t466 = true then ((bocagelaw03_to.f 0 3).bind fun bt467 => ((span_Has.f k bt467.1 bt467.2.1 bt467.2.2.1 bt467.2.2.2 3).bind fun t471 => (if t471 = true then (some false) else ((bocagelaw03_to.f 0 3).bind fun bt472 => ((bocagelaw03_to.f 3 4).bind fun bt476 => ((span_Touch.f k bt472.1 bt472.2.1 bt472.2.2.1 bt472.2.2.2 bt476.1 bt476.2.1 bt476.2.2.1 bt476.2.2.2).bind fun t480 => (if t480 = true then ((span_All.f).bind fun bt481 => ((span_Point.f k 7).bind fun bt485 => ((span_Holds.f k bt481.1 bt481.2.1 bt481.2.2.1 bt481.2.2.2 bt485.1 bt485.2.1 bt485.2.2.1 bt485.2.2.2).bind fun t489 => (some t489)))) else (some false)))))))) else (some false)))) else (some false)) else (some false)) else (some false))) = some r := by first | (rw [hy458]; with_reducible exact H) | (have H2_ := (Option.bind_some _ _).symm.trans H; rw [hy458]; with_reducible exact H2_) | (have H2_ := (Option.bind_some _ _).symm.trans H; with_reducible exact H2_) | with_reducible exact H | (rw [hy458]; exact H) | exact H
    have Ny458 := Aside0.mk hy458
    clear hy458
    replace H := Option.bind_eq_some_iff.mp H
    obtain ⟨t461, A160, H⟩ := H
    (try (set_option simprocs false in dsimp only at H))
    have A16 := Aside0.mk A160
    clear A160
    by_cases c17 : t461 = true
    · subst c17
      have H1 : (if t436 = 5 then (if t437 = true then ((bocagelaw03_to.f 0 3).bind fun bt462 => ((span_Has.f k bt462.1 bt462.2.1 bt462.2.2.1 bt462.2.2.2 2).bind fun t466 => (if t466 = true then ((bocagelaw03_to.f 0 3).bind fun bt467 => ((span_Has.f k bt467.1 bt467.2.1 bt467.2.2.1 bt467.2.2.2 3).bind fun t471 => (if t471 = true then (some false) else ((bocagelaw03_to.f 0 3).bind fun bt472 => ((bocagelaw03_to.f 3 4).bind fun bt476 => ((span_Touch.f k bt472.1 bt472.2.1 bt472.2.2.1 bt472.2.2.2 bt476.1 bt476.2.1 bt476.2.2.1 bt476.2.2.2).bind fun t480 => (if t480 = true then ((span_All.f).bind fun bt481 => ((span_Point.f k 7).bind fun bt485 => ((span_Holds.f k bt481.1 bt481.2.1 bt481.2.2.1 bt481.2.2.2 bt485.1 bt485.2.1 bt485.2.2.1 bt485.2.2.2).bind fun t489 => (some t489)))) else (some false)))))))) else (some false)))) else (some false)) else (some false)) = some r := by rw [if_pos rfl] at H; exact H
      clear H
      have H := H1
      clear H1
      by_cases c18 : t436 = 5
      · rw [if_pos c18] at H
        have c18b0 : (t436 == 5) = true := beq_iff_eq.mpr c18
        have c18b1 : (t436 != 5) = false := bne_eq_false_iff_eq.mpr c18
        clear c18
        by_cases c19 : t437 = true
        · subst c19
          have H1 : ((bocagelaw03_to.f 0 3).bind fun bt462 => ((span_Has.f k bt462.1 bt462.2.1 bt462.2.2.1 bt462.2.2.2 2).bind fun t466 => (if t466 = true then ((bocagelaw03_to.f 0 3).bind fun bt467 => ((span_Has.f k bt467.1 bt467.2.1 bt467.2.2.1 bt467.2.2.2 3).bind fun t471 => (if t471 = true then (some false) else ((bocagelaw03_to.f 0 3).bind fun bt472 => ((bocagelaw03_to.f 3 4).bind fun bt476 => ((span_Touch.f k bt472.1 bt472.2.1 bt472.2.2.1 bt472.2.2.2 bt476.1 bt476.2.1 bt476.2.2.1 bt476.2.2.2).bind fun t480 => (if t480 = true then ((span_All.f).bind fun bt481 => ((span_Point.f k 7).bind fun bt485 => ((span_Holds.f k bt481.1 bt481.2.1 bt481.2.2.1 bt481.2.2.2 bt485.1 bt485.2.1 bt485.2.2.1 bt485.2.2.2).bind fun t489 => (some t489)))) else (some false)))))))) else (some false)))) = some r := by rw [if_pos rfl] at H; exact H
          clear H
          have H := H1
          clear H1
          replace H := Option.bind_eq_some_iff.mp H
          obtain ⟨⟨t462, t463, t464, t465⟩, A200, H⟩ := H
          (try (set_option simprocs false in dsimp only at H))
          have A20 := Aside0.mk A200
          clear A200
          obtain ⟨rfl, rfl, rfl, rfl⟩ : t418 = t462 ∧ t419 = t463 ∧ t420 = t464 ∧ t421 = t465 := by have e_ := Option.some.inj (A5.out.symm.trans A20.out); simpa only [Prod.mk.injEq] using e_
          replace H := Option.bind_eq_some_iff.mp H
          obtain ⟨t466, A210, H⟩ := H
          (try (set_option simprocs false in dsimp only at H))
          have A21 := Aside0.mk A210
          clear A210
          by_cases c22 : t466 = true
          · subst c22
            have H1 : ((bocagelaw03_to.f 0 3).bind fun bt467 => ((span_Has.f k bt467.1 bt467.2.1 bt467.2.2.1 bt467.2.2.2 3).bind fun t471 => (if t471 = true then (some false) else ((bocagelaw03_to.f 0 3).bind fun bt472 => ((bocagelaw03_to.f 3 4).bind fun bt476 => ((span_Touch.f k bt472.1 bt472.2.1 bt472.2.2.1 bt472.2.2.2 bt476.1 bt476.2.1 bt476.2.2.1 bt476.2.2.2).bind fun t480 => (if t480 = true then ((span_All.f).bind fun bt481 => ((span_Point.f k 7).bind fun bt485 => ((span_Holds.f k bt481.1 bt481.2.1 bt481.2.2.1 bt481.2.2.2 bt485.1 bt485.2.1 bt485.2.2.1 bt485.2.2.2).bind fun t489 => (some t489)))) else (some false)))))))) = some r := by rw [if_pos rfl] at H; exact H
            clear H
            have H := H1
            clear H1
            replace H := Option.bind_eq_some_iff.mp H
            obtain ⟨⟨t467, t468, t469, t470⟩, A230, H⟩ := H
            (try (set_option simprocs false in dsimp only at H))
            have A23 := Aside0.mk A230
            clear A230
            obtain ⟨rfl, rfl, rfl, rfl⟩ : t418 = t467 ∧ t419 = t468 ∧ t420 = t469 ∧ t421 = t470 := by have e_ := Option.some.inj (A5.out.symm.trans A23.out); simpa only [Prod.mk.injEq] using e_
            replace H := Option.bind_eq_some_iff.mp H
            obtain ⟨t471, A240, H⟩ := H
            (try (set_option simprocs false in dsimp only at H))
            have A24 := Aside0.mk A240
            clear A240
            by_cases c25 : t471 = true
            · subst c25
              have H1 : (some false) = some r := by rw [if_pos rfl] at H; exact H
              exact absurd ((Option.some.inj H1).trans HRT.out) Bool.false_ne_true
            · replace c25 := Bool.eq_false_iff.mpr c25
              subst c25
              have H1 : ((bocagelaw03_to.f 0 3).bind fun bt472 => ((bocagelaw03_to.f 3 4).bind fun bt476 => ((span_Touch.f k bt472.1 bt472.2.1 bt472.2.2.1 bt472.2.2.2 bt476.1 bt476.2.1 bt476.2.2.1 bt476.2.2.2).bind fun t480 => (if t480 = true then ((span_All.f).bind fun bt481 => ((span_Point.f k 7).bind fun bt485 => ((span_Holds.f k bt481.1 bt481.2.1 bt481.2.2.1 bt481.2.2.2 bt485.1 bt485.2.1 bt485.2.2.1 bt485.2.2.2).bind fun t489 => (some t489)))) else (some false))))) = some r := by rw [if_neg (show ¬ (false = true) by decide)] at H; exact H
              clear H
              have H := H1
              clear H1
              replace H := Option.bind_eq_some_iff.mp H
              obtain ⟨⟨t472, t473, t474, t475⟩, A540, H⟩ := H
              (try (set_option simprocs false in dsimp only at H))
              have A54 := Aside0.mk A540
              clear A540
              obtain ⟨rfl, rfl, rfl, rfl⟩ : t418 = t472 ∧ t419 = t473 ∧ t420 = t474 ∧ t421 = t475 := by have e_ := Option.some.inj (A5.out.symm.trans A54.out); simpa only [Prod.mk.injEq] using e_
              replace H := Option.bind_eq_some_iff.mp H
              obtain ⟨⟨t476, t477, t478, t479⟩, A550, H⟩ := H
              (try (set_option simprocs false in dsimp only at H))
              have A55 := Aside0.mk A550
              clear A550
              obtain ⟨rfl, rfl, rfl, rfl⟩ : t407 = t476 ∧ t408 = t477 ∧ t409 = t478 ∧ t410 = t479 := by have e_ := Option.some.inj (A2.out.symm.trans A55.out); simpa only [Prod.mk.injEq] using e_
              replace H := Option.bind_eq_some_iff.mp H
              obtain ⟨t480, A560, H⟩ := H
              (try (set_option simprocs false in dsimp only at H))
              have A56 := Aside0.mk A560
              clear A560
              by_cases c57 : t480 = true
              · subst c57
                have H1 : ((span_All.f).bind fun bt481 => ((span_Point.f k 7).bind fun bt485 => ((span_Holds.f k bt481.1 bt481.2.1 bt481.2.2.1 bt481.2.2.2 bt485.1 bt485.2.1 bt485.2.2.1 bt485.2.2.2).bind fun t489 => (some t489)))) = some r := by rw [if_pos rfl] at H; exact H
                clear H
                have H := H1
                clear H1
                replace H := Option.bind_eq_some_iff.mp H
                obtain ⟨⟨t481, t482, t483, t484⟩, A580, H⟩ := H
                (try (set_option simprocs false in dsimp only at H))
                have A58 := Aside0.mk A580
                clear A580
                replace H := Option.bind_eq_some_iff.mp H
                obtain ⟨⟨t485, t486, t487, t488⟩, A590, H⟩ := H
                (try (set_option simprocs false in dsimp only at H))
                have A59 := Aside0.mk A590
                clear A590
                replace H := Option.bind_eq_some_iff.mp H
                obtain ⟨t489, A600, H⟩ := H
                (try (set_option simprocs false in dsimp only at H))
                have A60 := Aside0.mk A600
                clear A600
                obtain rfl := Option.some.inj H
                go_enter Try.func18, Try.ntmps18
                go_wp2_with (first | ((with_reducible refine gate_callee (f := 51) rfl ?_); refine gol (some 5) Try.func51 #[.int .i64 0, .int .i64 9] ?_; (with_reducible refine (bocagelaw03_to.calls 0 9 t403 t404 t405 t406 _ A1.out).mono ?_); rintro e w61 ⟨rfl, hb⟩; refine ⟨_, rfl, ?_⟩; replace HB := bst HB hb; (try clear hb); (try clear hb2); (try clear hk); (try clear hi)) | ((with_reducible refine gate_callee (f := 51) rfl ?_); refine gol (some 6) Try.func51 #[.int .i64 3, .int .i64 4] ?_; (with_reducible refine (bocagelaw03_to.calls 3 4 t407 t408 t409 t410 _ A2.out).mono ?_); rintro e w62 ⟨rfl, hb⟩; refine ⟨_, rfl, ?_⟩; replace HB := bst HB hb; (try clear hb); (try clear hb2); (try clear hk); (try clear hi)) | ((with_reducible refine gate_callee (f := 23) rfl ?_); refine gol (some 7) Try.func23 #[.agg #[.int .i64 t403, .int .i64 t404, .int .i64 t405, .int .i64 t406], .agg #[.int .i64 t407, .int .i64 t408, .int .i64 t409, .int .i64 t410]] ?_; (with_reducible refine (span_Minus.calls k t403 t404 t405 t406 t407 t408 t409 t410 t411 _ A3.out).mono ?_); rintro e w63 ⟨v412, rfl, ho0, hb⟩; refine ⟨_, rfl, ?_⟩; have HO413 := Aside0.mk (Kd.R_lower ho0 (below_size (bl HB))); replace HB := bst HB hb; (try clear hb); (try clear hb2); (try clear hk); (try clear hi); (try clear ho0)) | ((with_reducible refine gate_callee (f := 51) rfl ?_); refine gol (some 8) Try.func51 #[.int .i64 3, .int .i64 5] ?_; (with_reducible refine (bocagelaw03_to.calls 3 5 t414 t415 t416 t417 _ A4.out).mono ?_); rintro e w64 ⟨rfl, hb⟩; refine ⟨_, rfl, ?_⟩; replace HO413 := krb HO413 hb; replace HB := bst HB hb; (try clear hb); (try clear hb2); (try clear hk); (try clear hi)) | ((with_reducible refine gate_callee (f := 51) rfl ?_); refine gol (some 9) Try.func51 #[.int .i64 0, .int .i64 3] ?_; (with_reducible refine (bocagelaw03_to.calls 0 3 t418 t419 t420 t421 _ A5.out).mono ?_); rintro e w65 ⟨rfl, hb⟩; refine ⟨_, rfl, ?_⟩; replace HO413 := krb HO413 hb; replace HB := bst HB hb; (try clear hb); (try clear hb2); (try clear hk); (try clear hi)) | ((with_reducible refine gate_callee (f := 51) rfl ?_); refine gol (some 10) Try.func51 #[.int .i64 7, .int .i64 8] ?_; (with_reducible refine (bocagelaw03_to.calls 7 8 t422 t423 t424 t425 _ A6.out).mono ?_); rintro e w66 ⟨rfl, hb⟩; refine ⟨_, rfl, ?_⟩; replace HO413 := krb HO413 hb; replace HB := bst HB hb; (try clear hb); (try clear hb2); (try clear hk); (try clear hi)) | ((with_reducible refine gate_dst (N := 11) rfl ?_); (try (refine gate_guard (by rfl) ?_; dsimp only)); refine Kd.R_lit k25 _ 25 ?hg (N := 11) ?hd (xs := ([(⟨(⟨t414, t415⟩ : S23), (⟨t416, t417⟩ : S23)⟩ : S25), (⟨(⟨t418, t419⟩ : S23), (⟨t420, t421⟩ : S23)⟩ : S25), (⟨(⟨t422, t423⟩ : S23), (⟨t424, t425⟩ : S23)⟩ : S25)] : List (S25))) (inner := [.int .i64 t414, .int .i64 t415, .int .i64 t416, .int .i64 t417, .int .i64 t418, .int .i64 t419, .int .i64 t420, .int .i64 t421, .int .i64 t422, .int .i64 t423, .int .i64 t424, .int .i64 t425]) (ok := fun _ => True) (okp := fun _ => True) ?hr ?hp (fun _ hk => hk) trivial (Below.refl _ _) (Nat.le_refl _) (by simp) ?_; (case hd => rfl); (case hg => rfl); (case hr => first | (go_simp; done) | (go_simp; rfl)); (case hp => exact (Reps.c4 (show Kd.M k25 _ _ _ (⟨(⟨t414, t415⟩ : S23), (⟨t416, t417⟩ : S23)⟩ : S25) [.int .i64 t414, .int .i64 t415, .int .i64 t416, .int .i64 t417] from (k25_mkM _ _ _ (⟨(⟨t414, t415⟩ : S23), (⟨t416, t417⟩ : S23)⟩ : S25) )) (Reps.c4 (show Kd.M k25 _ _ _ (⟨(⟨t418, t419⟩ : S23), (⟨t420, t421⟩ : S23)⟩ : S25) [.int .i64 t418, .int .i64 t419, .int .i64 t420, .int .i64 t421] from (k25_mkM _ _ _ (⟨(⟨t418, t419⟩ : S23), (⟨t420, t421⟩ : S23)⟩ : S25) )) (Reps.c4 (show Kd.M k25 _ _ _ (⟨(⟨t422, t423⟩ : S23), (⟨t424, t425⟩ : S23)⟩ : S25) [.int .i64 t422, .int .i64 t423, .int .i64 t424, .int .i64 t425] from (k25_mkM _ _ _ (⟨(⟨t422, t423⟩ : S23), (⟨t424, t425⟩ : S23)⟩ : S25) )) (Reps.none _ _))))); intro v427 w67 ho68 hb hg_ hnew_; clear hg_ hnew_; (first | rw [← Ny426.out] at ho68 | (simp only [Int.reduceToNat] at ho68; rw [← Ny426.out] at ho68)); have HO428 := Aside0.mk (Kd.R_lower (Kd.R_new' ho68 (Kd.R_lt (kr HO413))) (below_size (bl HB))); replace HO413 := Aside0.mk (Kd.R_elder' (kr HO413) (Kd.R_base ho68) hb); replace HB := bst HB hb; clear hb ho68; obtain ⟨Ao69, co69, eo69⟩ := Kd.R_slice HO428.out; subst eo69) | ((with_reducible refine gate_callee (f := 37) rfl ?_); refine gol (some 12) Try.func37 #[.slice Ao69 y426.length co69] ?_; (with_reducible refine (span_List.calls k _ _ y426 t429 _ ?side1 ?side2 A7.out).mono ?_); (case side1 => repeat (first | exact (Kd.R_reads' HO428.out).2.2 | (with_reducible refine Kd.C_alloc ?_ _) | (with_reducible refine Kd.C_drewN ?_ _) | (with_reducible refine Kd.C_drew ?_))); (case side2 => exact (Kd.R_reads' HO428.out).2.1); rintro e w70 ⟨v430, rfl, ho0, hb⟩; refine ⟨_, rfl, ?_⟩; have HO431 := Aside0.mk (Kd.R_lower (Kd.R_new' (Kd.R_new' ho0 (Kd.R_lt (kr HO413))) (Kd.R_lt (kr HO428))) (below_size (bl HB))); replace HO413 := Aside0.mk (Kd.R_elder' (kr HO413) (Kd.R_base ho0) hb); replace HO428 := Aside0.mk (Kd.R_elder' (kr HO428) (Kd.R_base ho0) hb); replace HB := bst HB hb; (try clear hb); (try clear hb2); (try clear hk); (try clear hi); (try clear ho0)) | ((with_reducible refine gate_callee (f := 51) rfl ?_); refine gol (some 14) Try.func51 #[.int .i64 (-2), .int .i64 3] ?_; (with_reducible refine (bocagelaw03_to.calls (-2) 3 t432 t433 t434 t435 _ A8.out).mono ?_); rintro e w71 ⟨rfl, hb⟩; refine ⟨_, rfl, ?_⟩; replace HO413 := krb HO413 hb; replace HO428 := krb HO428 hb; replace HO431 := krb HO431 hb; replace HB := bst HB hb; (try clear hb); (try clear hb2); (try clear hk); (try clear hi)) | ((with_reducible refine gate_callee (f := 26) rfl ?_); refine gol (some 15) Try.func26 #[.agg #[.int .i64 t432, .int .i64 t433, .int .i64 t434, .int .i64 t435]] ?_; (with_reducible refine (span_Count.calls k t432 t433 t434 t435 t436 true _ A9.out).mono ?_); rintro e w72 ⟨rfl, hb⟩; refine ⟨_, rfl, ?_⟩; replace HO413 := krb HO413 hb; replace HO428 := krb HO428 hb; replace HO431 := krb HO431 hb; replace HB := bst HB hb; (try clear hb); (try clear hb2); (try clear hk); (try clear hi)) | ((with_reducible refine gate_callee (f := 51) rfl ?_); refine gol (some 19) Try.func51 #[.int .i64 0, .int .i64 3] ?_; (with_reducible refine (bocagelaw03_to.calls 0 3 t418 t419 t420 t421 _ A10.out).mono ?_); rintro e w73 ⟨rfl, hb⟩; refine ⟨_, rfl, ?_⟩; replace HO413 := krb HO413 hb; replace HO428 := krb HO428 hb; replace HO431 := krb HO431 hb; replace HB := bst HB hb; (try clear hb); (try clear hb2); (try clear hk); (try clear hi)) | ((with_reducible refine gate_callee (f := 51) rfl ?_); refine gol (some 20) Try.func51 #[.int .i64 4, .int .i64 9] ?_; (with_reducible refine (bocagelaw03_to.calls 4 9 t442 t443 t444 t445 _ A11.out).mono ?_); rintro e w74 ⟨rfl, hb⟩; refine ⟨_, rfl, ?_⟩; replace HO413 := krb HO413 hb; replace HO428 := krb HO428 hb; replace HO431 := krb HO431 hb; replace HB := bst HB hb; (try clear hb); (try clear hb2); (try clear hk); (try clear hi)) | ((with_reducible refine gate_dst (N := 21) rfl ?_); (try (refine gate_guard (by rfl) ?_; dsimp only)); refine Kd.R_lit k25 _ 25 ?hg (N := 21) ?hd (xs := ([(⟨(⟨t418, t419⟩ : S23), (⟨t420, t421⟩ : S23)⟩ : S25), (⟨(⟨t442, t443⟩ : S23), (⟨t444, t445⟩ : S23)⟩ : S25)] : List (S25))) (inner := [.int .i64 t418, .int .i64 t419, .int .i64 t420, .int .i64 t421, .int .i64 t442, .int .i64 t443, .int .i64 t444, .int .i64 t445]) (ok := fun _ => True) (okp := fun _ => True) ?hr ?hp (fun _ hk => hk) trivial (Below.refl _ _) (Nat.le_refl _) (by simp) ?_; (case hd => rfl); (case hg => rfl); (case hr => first | (go_simp; done) | (go_simp; rfl)); (case hp => exact (Reps.c4 (show Kd.M k25 _ _ _ (⟨(⟨t418, t419⟩ : S23), (⟨t420, t421⟩ : S23)⟩ : S25) [.int .i64 t418, .int .i64 t419, .int .i64 t420, .int .i64 t421] from (k25_mkM _ _ _ (⟨(⟨t418, t419⟩ : S23), (⟨t420, t421⟩ : S23)⟩ : S25) )) (Reps.c4 (show Kd.M k25 _ _ _ (⟨(⟨t442, t443⟩ : S23), (⟨t444, t445⟩ : S23)⟩ : S25) [.int .i64 t442, .int .i64 t443, .int .i64 t444, .int .i64 t445] from (k25_mkM _ _ _ (⟨(⟨t442, t443⟩ : S23), (⟨t444, t445⟩ : S23)⟩ : S25) )) (Reps.none _ _)))); intro v447 w75 ho76 hb hg_ hnew_; clear hg_ hnew_; (first | rw [← Ny446.out] at ho76 | (simp only [Int.reduceToNat] at ho76; rw [← Ny446.out] at ho76)); have HO448 := Aside0.mk (Kd.R_lower (Kd.R_new' (Kd.R_new' (Kd.R_new' ho76 (Kd.R_lt (kr HO413))) (Kd.R_lt (kr HO428))) (Kd.R_lt (kr HO431))) (below_size (bl HB))); replace HO413 := Aside0.mk (Kd.R_elder' (kr HO413) (Kd.R_base ho76) hb); replace HO428 := Aside0.mk (Kd.R_elder' (kr HO428) (Kd.R_base ho76) hb); replace HO431 := Aside0.mk (Kd.R_elder' (kr HO431) (Kd.R_base ho76) hb); replace HB := bst HB hb; clear hb ho76; obtain ⟨Ao77, co77, eo77⟩ := Kd.R_slice HO413.out; subst eo77; obtain ⟨Ao78, co78, eo78⟩ := Kd.R_slice HO448.out; subst eo78) | ((with_reducible refine gate_callee (f := 22) rfl ?_); refine gol (some 22) Try.func22 #[.slice Ao77 t411.length co77, .slice Ao78 y446.length co78] ?_; (with_reducible refine (bocageref03_Same.calls k _ _ t411 _ _ y446 true _ ?side1 ?side2 ?side3 ?side4 A12.out).mono ?_); (case side1 => repeat (first | exact (Kd.R_reads' HO413.out).2.2 | (with_reducible refine Kd.C_alloc ?_ _) | (with_reducible refine Kd.C_drewN ?_ _) | (with_reducible refine Kd.C_drew ?_))); (case side2 => exact (Kd.R_reads' HO413.out).2.1); (case side3 => repeat (first | exact (Kd.R_reads' HO448.out).2.2 | (with_reducible refine Kd.C_alloc ?_ _) | (with_reducible refine Kd.C_drewN ?_ _) | (with_reducible refine Kd.C_drew ?_))); (case side4 => exact (Kd.R_reads' HO448.out).2.1); rintro e w' ⟨rfl, ⟨nd, rfl⟩⟩; refine ⟨_, rfl, ?_⟩) | (go_at_call 51; (with_reducible refine (bocagelaw03_to.calls 0 5 t450 t451 t452 t453 _ A14.out).mono ?_); rintro e w79 ⟨rfl, hb⟩; replace HO413 := krb HO413 hb; replace HO428 := krb HO428 hb; replace HO431 := krb HO431 hb; replace HO448 := krb HO448 hb; replace HB := bst HB hb; (try clear hb); (try clear hb2); (try clear hk); (try clear hi)) | (go_at_call 51; (with_reducible refine (bocagelaw03_to.calls 7 8 t422 t423 t424 t425 _ A15.out).mono ?_); rintro e w80 ⟨rfl, hb⟩; replace HO413 := krb HO413 hb; replace HO428 := krb HO428 hb; replace HO431 := krb HO431 hb; replace HO448 := krb HO448 hb; replace HB := bst HB hb; (try clear hb); (try clear hb2); (try clear hk); (try clear hi)) | ((with_reducible refine gate_dst (N := 27) rfl ?_); (try (refine gate_guard (by rfl) ?_; dsimp only)); refine Kd.R_lit k25 _ 25 ?hg (N := 27) ?hd (xs := ([(⟨(⟨t450, t451⟩ : S23), (⟨t452, t453⟩ : S23)⟩ : S25), (⟨(⟨t422, t423⟩ : S23), (⟨t424, t425⟩ : S23)⟩ : S25)] : List (S25))) (inner := [.int .i64 t450, .int .i64 t451, .int .i64 t452, .int .i64 t453, .int .i64 t422, .int .i64 t423, .int .i64 t424, .int .i64 t425]) (ok := fun _ => True) (okp := fun _ => True) ?hr ?hp (fun _ hk => hk) trivial (Below.refl _ _) (Nat.le_refl _) (by simp) ?_; (case hd => rfl); (case hg => rfl); (case hr => first | (go_simp; done) | (go_simp; rfl)); (case hp => exact (Reps.c4 (show Kd.M k25 _ _ _ (⟨(⟨t450, t451⟩ : S23), (⟨t452, t453⟩ : S23)⟩ : S25) [.int .i64 t450, .int .i64 t451, .int .i64 t452, .int .i64 t453] from (k25_mkM _ _ _ (⟨(⟨t450, t451⟩ : S23), (⟨t452, t453⟩ : S23)⟩ : S25) )) (Reps.c4 (show Kd.M k25 _ _ _ (⟨(⟨t422, t423⟩ : S23), (⟨t424, t425⟩ : S23)⟩ : S25) [.int .i64 t422, .int .i64 t423, .int .i64 t424, .int .i64 t425] from (k25_mkM _ _ _ (⟨(⟨t422, t423⟩ : S23), (⟨t424, t425⟩ : S23)⟩ : S25) )) (Reps.none _ _)))); intro v459 w81 ho82 hb hg_ hnew_; clear hg_ hnew_; (first | rw [← Ny458.out] at ho82 | (simp only [Int.reduceToNat] at ho82; rw [← Ny458.out] at ho82)); have HO460 := Aside0.mk (Kd.R_lower (Kd.R_new' (Kd.R_new' (Kd.R_new' (Kd.R_new' ho82 (Kd.R_lt (kr HO413))) (Kd.R_lt (kr HO428))) (Kd.R_lt (kr HO431))) (Kd.R_lt (kr HO448))) (below_size (bl HB))); replace HO413 := Aside0.mk (Kd.R_elder' (kr HO413) (Kd.R_base ho82) hb); replace HO428 := Aside0.mk (Kd.R_elder' (kr HO428) (Kd.R_base ho82) hb); replace HO431 := Aside0.mk (Kd.R_elder' (kr HO431) (Kd.R_base ho82) hb); replace HO448 := Aside0.mk (Kd.R_elder' (kr HO448) (Kd.R_base ho82) hb); replace HB := bst HB hb; clear hb ho82; obtain ⟨Ao83, co83, eo83⟩ := Kd.R_slice HO431.out; subst eo83; obtain ⟨Ao84, co84, eo84⟩ := Kd.R_slice HO460.out; subst eo84) | (go_at_call 22; (with_reducible refine (bocageref03_Same.calls k _ _ t429 _ _ y458 true _ ?side1 ?side2 ?side3 ?side4 A16.out).mono ?_); (case side1 => repeat (first | exact (Kd.R_reads' HO431.out).2.2 | (with_reducible refine Kd.C_alloc ?_ _) | (with_reducible refine Kd.C_drewN ?_ _) | (with_reducible refine Kd.C_drew ?_))); (case side2 => exact (Kd.R_reads' HO431.out).2.1); (case side3 => repeat (first | exact (Kd.R_reads' HO460.out).2.2 | (with_reducible refine Kd.C_alloc ?_ _) | (with_reducible refine Kd.C_drewN ?_ _) | (with_reducible refine Kd.C_drew ?_))); (case side4 => exact (Kd.R_reads' HO460.out).2.1); rintro e w' ⟨rfl, ⟨nd, rfl⟩⟩) | (go_at_call 51; (with_reducible refine (bocagelaw03_to.calls 0 3 t418 t419 t420 t421 _ A20.out).mono ?_); rintro e w85 ⟨rfl, hb⟩; replace HO413 := krb HO413 hb; replace HO428 := krb HO428 hb; replace HO431 := krb HO431 hb; replace HO448 := krb HO448 hb; replace HO460 := krb HO460 hb; replace HB := bst HB hb; (try clear hb); (try clear hb2); (try clear hk); (try clear hi)) | (go_at_call 29; (with_reducible refine (span_Has.calls k t418 t419 t420 t421 2 true _ A21.out).mono ?_); rintro e w86 ⟨rfl, hb⟩; replace HO413 := krb HO413 hb; replace HO428 := krb HO428 hb; replace HO431 := krb HO431 hb; replace HO448 := krb HO448 hb; replace HO460 := krb HO460 hb; replace HB := bst HB hb; (try clear hb); (try clear hb2); (try clear hk); (try clear hi)) | (go_at_call 51; (with_reducible refine (bocagelaw03_to.calls 0 3 t418 t419 t420 t421 _ A23.out).mono ?_); rintro e w87 ⟨rfl, hb⟩; replace HO413 := krb HO413 hb; replace HO428 := krb HO428 hb; replace HO431 := krb HO431 hb; replace HO448 := krb HO448 hb; replace HO460 := krb HO460 hb; replace HB := bst HB hb; (try clear hb); (try clear hb2); (try clear hk); (try clear hi)) | (go_at_call 29; (with_reducible refine (span_Has.calls k t418 t419 t420 t421 3 false _ A24.out).mono ?_); rintro e w88 ⟨rfl, hb⟩; replace HO413 := krb HO413 hb; replace HO428 := krb HO428 hb; replace HO431 := krb HO431 hb; replace HO448 := krb HO448 hb; replace HO460 := krb HO460 hb; replace HB := bst HB hb; (try clear hb); (try clear hb2); (try clear hk); (try clear hi)) | (go_at_call 51; (with_reducible refine (bocagelaw03_to.calls 0 3 t418 t419 t420 t421 _ A54.out).mono ?_); rintro e w89 ⟨rfl, hb⟩; replace HO413 := krb HO413 hb; replace HO428 := krb HO428 hb; replace HO431 := krb HO431 hb; replace HO448 := krb HO448 hb; replace HO460 := krb HO460 hb; replace HB := bst HB hb; (try clear hb); (try clear hb2); (try clear hk); (try clear hi)) | (go_at_call 51; (with_reducible refine (bocagelaw03_to.calls 3 4 t407 t408 t409 t410 _ A55.out).mono ?_); rintro e w90 ⟨rfl, hb⟩; replace HO413 := krb HO413 hb; replace HO428 := krb HO428 hb; replace HO431 := krb HO431 hb; replace HO448 := krb HO448 hb; replace HO460 := krb HO460 hb; replace HB := bst HB hb; (try clear hb); (try clear hb2); (try clear hk); (try clear hi)) | (go_at_call 20; (with_reducible refine (span_Touch.calls k t418 t419 t420 t421 t407 t408 t409 t410 true _ A56.out).mono ?_); rintro e w91 ⟨rfl, hb⟩; replace HO413 := krb HO413 hb; replace HO428 := krb HO428 hb; replace HO431 := krb HO431 hb; replace HO448 := krb HO448 hb; replace HO460 := krb HO460 hb; replace HB := bst HB hb; (try clear hb); (try clear hb2); (try clear hk); (try clear hi)) | (go_at_call 52; (with_reducible refine (span_All.calls  t481 t482 t483 t484 _ A58.out).mono ?_); rintro e w92 ⟨rfl, hb⟩; replace HO413 := krb HO413 hb; replace HO428 := krb HO428 hb; replace HO431 := krb HO431 hb; replace HO448 := krb HO448 hb; replace HO460 := krb HO460 hb; replace HB := bst HB hb; (try clear hb); (try clear hb2); (try clear hk); (try clear hi)) | (go_at_call 34; (with_reducible refine (span_Point.calls k 7 t485 t486 t487 t488 _ A59.out).mono ?_); rintro e w93 ⟨rfl, hb⟩; replace HO413 := krb HO413 hb; replace HO428 := krb HO428 hb; replace HO431 := krb HO431 hb; replace HO448 := krb HO448 hb; replace HO460 := krb HO460 hb; replace HB := bst HB hb; (try clear hb); (try clear hb2); (try clear hk); (try clear hi)) | (go_at_call 19; (with_reducible refine (span_Holds.calls k t481 t482 t483 t484 t485 t486 t487 t488 t489 _ A60.out).mono ?_); rintro e w94 ⟨rfl, hb⟩; replace HO413 := krb HO413 hb; replace HO428 := krb HO428 hb; replace HO431 := krb HO431 hb; replace HO448 := krb HO448 hb; replace HO460 := krb HO460 hb; replace HB := bst HB hb; (try clear hb); (try clear hb2); (try clear hk); (try clear hi)))
                go_ret
                exact endB HB
              · replace c57 := Bool.eq_false_iff.mpr c57
                subst c57
                have H1 : (some false) = some r := by rw [if_neg (show ¬ (false = true) by decide)] at H; exact H
                exact absurd ((Option.some.inj H1).trans HRT.out) Bool.false_ne_true
          · replace c22 := Bool.eq_false_iff.mpr c22
            subst c22
            have H1 : (some false) = some r := by rw [if_neg (show ¬ (false = true) by decide)] at H; exact H
            exact absurd ((Option.some.inj H1).trans HRT.out) Bool.false_ne_true
        · replace c19 := Bool.eq_false_iff.mpr c19
          subst c19
          have H1 : (some false) = some r := by rw [if_neg (show ¬ (false = true) by decide)] at H; exact H
          exact absurd ((Option.some.inj H1).trans HRT.out) Bool.false_ne_true
      · rw [if_neg c18] at H
        exact absurd ((Option.some.inj H).trans HRT.out) Bool.false_ne_true
    · replace c17 := Bool.eq_false_iff.mpr c17
      subst c17
      have H1 : (some false) = some r := by rw [if_neg (show ¬ (false = true) by decide)] at H; exact H
      exact absurd ((Option.some.inj H1).trans HRT.out) Bool.false_ne_true
  · replace c13 := Bool.eq_false_iff.mpr c13
    subst c13
    have H1 : (some false) = some r := by rw [if_neg (show ¬ (false = true) by decide)] at H; exact H
    exact absurd ((Option.some.inj H1).trans HRT.out) Bool.false_ne_true
end Go.Proofs.Ytkkbmjfhpngalaa.Print
