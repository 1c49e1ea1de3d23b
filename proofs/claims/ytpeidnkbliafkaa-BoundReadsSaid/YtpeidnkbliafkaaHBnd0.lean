import Derived.Test.YtpeidnkbliafkaaPrint1
import Derived.Test.YtpeidnkbliafkaaPrint2
import Derived.Test.YtpeidnkbliafkaaPrint3
namespace Go.Proofs.Ytpeidnkbliafkaa.Print
open Go.RowKit Go.Proofs.YtpeidnkbliafkaaW.PrintWords Go.Proofs.YtpeidnkbliafkaaW.PrintLast Go.Proofs.YtpeidnkbliafkaaW.PrintMore
attribute [local go_sem] max2_int min2_int max_two min_two max_three min_three max_four min_four
set_option linter.unusedVariables false
set_option linter.unusedSimpArgs false

def bound_num.f (q : ByteArray → Option (Int × Int)) (s0_0 : ByteArray) (s0_1 : Int) (s0_2 : Bool) (s0_3 : Bool) : Option (Int × ByteArray × Int × Bool × Bool) :=
  if s0_2 = true then some (0, s0_0, s0_1, s0_2, s0_3) else if 0 ≤ s0_1 then (if s0_1 ≤ (s0_0.size : Int) then (q (s0_0.extract s0_1.toNat s0_0.size)).bind fun t => some (t.1, s0_0, wrap64 (s0_1 + t.2), (t.2 == 0), s0_3) else none) else none
theorem st53 {w0 W W' : World} {g : Nat} {f0 : ByteArray} {f1 : Int} {f2 f3 : Bool} (h : Aside0 (IsS53 w0 W g f0 f1 f2 f3)) (hb : Below W.heap.size W W') : (fun w' => Aside0 (IsS53 w0 w' g f0 f1 f2 f3) ∧ w'.cell? ⟨g, 0, none⟩ = some (.string f0) ∧ w'.cell? ⟨g, 1, none⟩ = some (.int .i64 f1) ∧ w'.cell? ⟨g, 2, none⟩ = some (.bool f2) ∧ w'.cell? ⟨g, 3, none⟩ = some (.bool f3)) W' :=
  have h' := h.out.below hb
  ⟨⟨h'⟩, cellS53_0 h'.1, cellS53_1 h'.1, cellS53_2 h'.1, cellS53_3 h'.1⟩
set_option maxHeartbeats 8000000 in
set_option maxRecDepth 100000 in
theorem bound_num_plain.calls (k : Nat) (g : Nat) (s0_0 : ByteArray) (s0_1 : Int) (s0_2 : Bool) (s0_3 : Bool) (r1 : Int) (r2 : ByteArray) (r3 : Int) (r4 : Bool) (r5 : Bool) (w0 w : World) (hI : IsS53 w0 w g s0_0 s0_1 s0_2 s0_3) (hB : Below w0.heap.size w0 w) (h : bound_num.f (bound_plain.f k) s0_0 s0_1 s0_2 s0_3 = some (r1, r2, r3, r4, r5)) :
    Calls Try.prog 39 #[.pointer (some ⟨g, 0, none⟩), .func (.func 40) #[] #[]] w fun e w' => e = .returned (.int .i64 r1) ∧ IsS53 w0 w' g r2 r3 r4 r5 ∧ Below w0.heap.size w0 w' ∧ KeepBut w w' g none := by
  have HI0 := Aside0.mk hI
  have HK := Aside0.mk (KeepBut.refl w g none)
  have HW0 := Aside0.mk hB.size
  have HB := Aside0.mk hB
  clear hI hB
  unfold bound_num.f at h
  by_cases c3 : s0_2 = true
  · rw [if_pos c3] at h
    subst c3
    simp only [Option.some.injEq, Prod.mk.injEq] at h
    obtain ⟨rfl, rfl, rfl, rfl, rfl⟩ := h
    obtain ⟨HGz4, hgz4⟩ := HI0.out
    have hcz4_0 := cellS53_0 HGz4
    have hcz4_1 := cellS53_1 HGz4
    have hcz4_2 := cellS53_2 HGz4
    have hcz4_3 := cellS53_3 HGz4
    have hfz4_0 := blk_frozen HGz4 0
    have hfz4_1 := blk_frozen HGz4 1
    have hfz4_2 := blk_frozen HGz4 2
    have hfz4_3 := blk_frozen HGz4 3
    clear HGz4 hgz4
    go_enter Try.func39, Try.ntmps39
    go_wp2
    go_ret
    exact ⟨rfl, (by repeat (first | (with_reducible first | exact HI0.out | apply IsS53.alloc | apply IsS53.drewN | apply IsS53.drew | apply IsS53.set_0 | apply IsS53.set_1 | apply IsS53.set_2 | apply IsS53.set_3) | exact HI0.out)), (by repeat (first | (with_reducible first | exact HB.out | apply below_alloc | apply pw_below_drewN | apply below_drew1 | refine below_set ?_ (IsS53.ge HI0.out)) | exact HB.out)), (by repeat (first | (with_reducible first | exact HK.out | apply KeepBut.set_ | apply keep_drewN | apply keep_drew | apply keep_alloc) | exact HK.out))⟩
  · rw [if_neg c3] at h
    replace c3 := Bool.eq_false_iff.mpr c3
    subst c3
    by_cases c1 : 0 ≤ s0_1
    · rw [if_pos c1] at h
      by_cases c2 : s0_1 ≤ (s0_0.size : Int)
      · rw [if_pos c2] at h
        obtain ⟨⟨t1, t2⟩, A10, h⟩ := Option.bind_eq_some_iff.mp h
        simp only [Option.some.injEq, Prod.mk.injEq] at h
        obtain ⟨rfl, rfl, rfl, rfl, rfl⟩ := h
        have A1 := Aside0.mk A10
        clear A10
        obtain ⟨HGz5, hgz5⟩ := HI0.out
        have hcz5_0 := cellS53_0 HGz5
        have hcz5_1 := cellS53_1 HGz5
        have hcz5_2 := cellS53_2 HGz5
        have hcz5_3 := cellS53_3 HGz5
        have hfz5_0 := blk_frozen HGz5 0
        have hfz5_1 := blk_frozen HGz5 1
        have hfz5_2 := blk_frozen HGz5 2
        have hfz5_3 := blk_frozen HGz5 3
        clear HGz5 hgz5
        go_enter Try.func39, Try.ntmps39
        go_upto_region 3 with fail
        go_region_held3 (fun w' => Aside0 (IsS53 w0 w' g s0_0 s0_1 false s0_3) ∧ w'.cell? ⟨g, 0, none⟩ = some (.string s0_0) ∧ w'.cell? ⟨g, 1, none⟩ = some (.int .i64 s0_1) ∧ w'.cell? ⟨g, 2, none⟩ = some (.bool false) ∧ w'.cell? ⟨g, 3, none⟩ = some (.bool s0_3)) (first | exact st53 (by assumption) (by repeat (first | (with_reducible first | exact Below.refl _ _ | apply below_alloc | apply pw_below_drewN | apply below_drew1) | exact Below.refl _ _)))
          ((first | (go_at_call 40; (with_reducible refine (bound_plain.calls k _ t1 t2 _ A1.out).mono ?_); rintro e w6 ⟨rfl, hb6⟩; have Y6 := below_step (w := w) (by repeat (first | (with_reducible first | exact Below.refl _ _ | apply below_alloc | apply pw_below_drewN | apply below_drew1) | exact Below.refl _ _)) hb6; have HI6 := Aside0.mk (HI0.out.below Y6); have HB6 := Aside0.mk (below_step HB.out Y6); have HK6 := Aside0.mk (KeepBut.of_below Y6 g none); clear Y6 hb6 HI0 HB HK)))
        have HI0 := HI6
        have HB := HB6
        have HK := HK6
        obtain ⟨HGz6, hgz6⟩ := HI6.out
        have hcz6_0 := cellS53_0 HGz6
        have hcz6_1 := cellS53_1 HGz6
        have hcz6_2 := cellS53_2 HGz6
        have hcz6_3 := cellS53_3 HGz6
        have hfz6_0 := blk_frozen HGz6 0
        have hfz6_1 := blk_frozen HGz6 1
        have hfz6_2 := blk_frozen HGz6 2
        have hfz6_3 := blk_frozen HGz6 3
        clear HGz6 hgz6
        go_wp2
        go_ret
        exact ⟨rfl, (by repeat (first | (with_reducible first | exact HI0.out | apply IsS53.alloc | apply IsS53.drewN | apply IsS53.drew | apply IsS53.set_0 | apply IsS53.set_1 | apply IsS53.set_2 | apply IsS53.set_3) | exact HI0.out)), (by repeat (first | (with_reducible first | exact HB.out | apply below_alloc | apply pw_below_drewN | apply below_drew1 | refine below_set ?_ (IsS53.ge HI0.out)) | exact HB.out)), (by repeat (first | (with_reducible first | exact HK.out | apply KeepBut.set_ | apply keep_drewN | apply keep_drew | apply keep_alloc) | exact HK.out))⟩
      · rw [if_neg c2] at h; exact absurd h (by simp)
    · rw [if_neg c1] at h; exact absurd h (by simp)
theorem sat_Read.below (k : Nat) (a0 : ByteArray) (r1 : Int) (r2 : Int) (w : World) (h : sat_Read.f k a0 = some (r1, r2)) :
    Calls Try.prog 44 #[.string a0] w fun e w' => e = .returned (.tuple #[.int .i64 r1, .int .i64 r2]) ∧ Below w.heap.size w w' := by
  refine (sat_Read.calls k a0 r1 r2 w h).mono ?_
  rintro e w' ⟨rfl, nd, rfl⟩
  exact ⟨rfl, pw_below_drewN (Below.refl _ _) nd⟩
set_option maxHeartbeats 8000000 in
set_option maxRecDepth 100000 in
theorem bound_num_sat.calls (k : Nat) (g : Nat) (s0_0 : ByteArray) (s0_1 : Int) (s0_2 : Bool) (s0_3 : Bool) (r1 : Int) (r2 : ByteArray) (r3 : Int) (r4 : Bool) (r5 : Bool) (w0 w : World) (hI : IsS53 w0 w g s0_0 s0_1 s0_2 s0_3) (hB : Below w0.heap.size w0 w) (h : bound_num.f (sat_Read.f k) s0_0 s0_1 s0_2 s0_3 = some (r1, r2, r3, r4, r5)) :
    Calls Try.prog 39 #[.pointer (some ⟨g, 0, none⟩), .func (.func 44) #[] #[]] w fun e w' => e = .returned (.int .i64 r1) ∧ IsS53 w0 w' g r2 r3 r4 r5 ∧ Below w0.heap.size w0 w' ∧ KeepBut w w' g none := by
  have HI0 := Aside0.mk hI
  have HK := Aside0.mk (KeepBut.refl w g none)
  have HW0 := Aside0.mk hB.size
  have HB := Aside0.mk hB
  clear hI hB
  unfold bound_num.f at h
  by_cases c3 : s0_2 = true
  · rw [if_pos c3] at h
    subst c3
    simp only [Option.some.injEq, Prod.mk.injEq] at h
    obtain ⟨rfl, rfl, rfl, rfl, rfl⟩ := h
    obtain ⟨HGz4, hgz4⟩ := HI0.out
    have hcz4_0 := cellS53_0 HGz4
    have hcz4_1 := cellS53_1 HGz4
    have hcz4_2 := cellS53_2 HGz4
    have hcz4_3 := cellS53_3 HGz4
    have hfz4_0 := blk_frozen HGz4 0
    have hfz4_1 := blk_frozen HGz4 1
    have hfz4_2 := blk_frozen HGz4 2
    have hfz4_3 := blk_frozen HGz4 3
    clear HGz4 hgz4
    go_enter Try.func39, Try.ntmps39
    go_wp2
    go_ret
    exact ⟨rfl, (by repeat (first | (with_reducible first | exact HI0.out | apply IsS53.alloc | apply IsS53.drewN | apply IsS53.drew | apply IsS53.set_0 | apply IsS53.set_1 | apply IsS53.set_2 | apply IsS53.set_3) | exact HI0.out)), (by repeat (first | (with_reducible first | exact HB.out | apply below_alloc | apply pw_below_drewN | apply below_drew1 | refine below_set ?_ (IsS53.ge HI0.out)) | exact HB.out)), (by repeat (first | (with_reducible first | exact HK.out | apply KeepBut.set_ | apply keep_drewN | apply keep_drew | apply keep_alloc) | exact HK.out))⟩
  · rw [if_neg c3] at h
    replace c3 := Bool.eq_false_iff.mpr c3
    subst c3
    by_cases c1 : 0 ≤ s0_1
    · rw [if_pos c1] at h
      by_cases c2 : s0_1 ≤ (s0_0.size : Int)
      · rw [if_pos c2] at h
        obtain ⟨⟨t1, t2⟩, A10, h⟩ := Option.bind_eq_some_iff.mp h
        simp only [Option.some.injEq, Prod.mk.injEq] at h
        obtain ⟨rfl, rfl, rfl, rfl, rfl⟩ := h
        have A1 := Aside0.mk A10
        clear A10
        obtain ⟨HGz5, hgz5⟩ := HI0.out
        have hcz5_0 := cellS53_0 HGz5
        have hcz5_1 := cellS53_1 HGz5
        have hcz5_2 := cellS53_2 HGz5
        have hcz5_3 := cellS53_3 HGz5
        have hfz5_0 := blk_frozen HGz5 0
        have hfz5_1 := blk_frozen HGz5 1
        have hfz5_2 := blk_frozen HGz5 2
        have hfz5_3 := blk_frozen HGz5 3
        clear HGz5 hgz5
        go_enter Try.func39, Try.ntmps39
        go_upto_region 3 with fail
        go_region_held3 (fun w' => Aside0 (IsS53 w0 w' g s0_0 s0_1 false s0_3) ∧ w'.cell? ⟨g, 0, none⟩ = some (.string s0_0) ∧ w'.cell? ⟨g, 1, none⟩ = some (.int .i64 s0_1) ∧ w'.cell? ⟨g, 2, none⟩ = some (.bool false) ∧ w'.cell? ⟨g, 3, none⟩ = some (.bool s0_3)) (first | exact st53 (by assumption) (by repeat (first | (with_reducible first | exact Below.refl _ _ | apply below_alloc | apply pw_below_drewN | apply below_drew1) | exact Below.refl _ _)))
          ((first | (go_at_call 44; (with_reducible refine (sat_Read.below k _ t1 t2 _ A1.out).mono ?_); rintro e w6 ⟨rfl, hb6⟩; have Y6 := below_step (w := w) (by repeat (first | (with_reducible first | exact Below.refl _ _ | apply below_alloc | apply pw_below_drewN | apply below_drew1) | exact Below.refl _ _)) hb6; have HI6 := Aside0.mk (HI0.out.below Y6); have HB6 := Aside0.mk (below_step HB.out Y6); have HK6 := Aside0.mk (KeepBut.of_below Y6 g none); clear Y6 hb6 HI0 HB HK)))
        have HI0 := HI6
        have HB := HB6
        have HK := HK6
        obtain ⟨HGz6, hgz6⟩ := HI6.out
        have hcz6_0 := cellS53_0 HGz6
        have hcz6_1 := cellS53_1 HGz6
        have hcz6_2 := cellS53_2 HGz6
        have hcz6_3 := cellS53_3 HGz6
        have hfz6_0 := blk_frozen HGz6 0
        have hfz6_1 := blk_frozen HGz6 1
        have hfz6_2 := blk_frozen HGz6 2
        have hfz6_3 := blk_frozen HGz6 3
        clear HGz6 hgz6
        go_wp2
        go_ret
        exact ⟨rfl, (by repeat (first | (with_reducible first | exact HI0.out | apply IsS53.alloc | apply IsS53.drewN | apply IsS53.drew | apply IsS53.set_0 | apply IsS53.set_1 | apply IsS53.set_2 | apply IsS53.set_3) | exact HI0.out)), (by repeat (first | (with_reducible first | exact HB.out | apply below_alloc | apply pw_below_drewN | apply below_drew1 | refine below_set ?_ (IsS53.ge HI0.out)) | exact HB.out)), (by repeat (first | (with_reducible first | exact HK.out | apply KeepBut.set_ | apply keep_drewN | apply keep_drew | apply keep_alloc) | exact HK.out))⟩
      · rw [if_neg c2] at h; exact absurd h (by simp)
    · rw [if_neg c1] at h; exact absurd h (by simp)
end Go.Proofs.Ytpeidnkbliafkaa.Print
