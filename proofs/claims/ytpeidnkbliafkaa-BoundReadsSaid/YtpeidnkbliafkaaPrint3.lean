-- Laid by wip/print/bprint.py of this repo, over the kit's printer, with functions given by hand; not trusted: Lean checks it.
import Derived.Test.YtpeidnkbliafkaaPrint0
import Derived.Test.YtpeidnkbliafkaaPrint1
import Derived.Test.YtpeidnkbliafkaaPrint2
import Derived.Test.YtpeidnkbliafkaaSh
namespace Go.Proofs.Ytpeidnkbliafkaa.Print
open Go.RowKit Go.Proofs.YtpeidnkbliafkaaW.PrintWords Go.Proofs.YtpeidnkbliafkaaW.PrintLast Go.Proofs.YtpeidnkbliafkaaW.PrintMore
attribute [local go_sem] max2_int min2_int max_two min_two max_three min_three max_four min_four   -- for this text's walks alone
set_option linter.unusedVariables false
set_option linter.unusedSimpArgs false
/-! ### cut_Read: function 55 -/
def cut_Read.l0 : Nat → ByteArray → Int → Int → Option (Int × Int × Int)
 | 0, _, _, _ => none
 | k + 1, x0, x4, x5 => if x5 > 0 then (if x4 = (-9223372036854775808) then (if 0 ≤ (wrap64 (x5 - 1)) then (if (wrap64 (x5 - 1)) ≤ (x0.size : Int) then ((sat_Read.f k (x0.extract 0 ((wrap64 (x5 - 1)) : Int).toNat)).bind fun bt194 => (cut_Read.l0 k x0 bt194.1 bt194.2)) else (none)) else (none)) else (if x5 = 0 then (some (0, 0, 0)) else (some (0, x4, x5)))) else (if x5 = 0 then (some (0, 0, 0)) else (some (0, x4, x5)))
def cut_Read.f (k : Nat) (a0 : ByteArray) : Option (Int × Int × Int) := (cut_begins.f a0 (⟨#[45, 105, 110, 102]⟩ : ByteArray)).bind fun t186 => (if t186 = true then ((cut_First.f).bind fun bt187 => (some (bt187.1, bt187.2, 4))) else ((cut_begins.f a0 (⟨#[43, 105, 110, 102]⟩ : ByteArray)).bind fun t189 => (if t189 = true then ((cut_Last.f).bind fun bt190 => (some (bt190.1, bt190.2, 4))) else ((sat_Read.f k a0).bind fun bt192 => (cut_Read.l0 k a0 bt192.1 bt192.2)))))
theorem cut_Read.mono_l : ∀ k, (∀ y0 y1 y2, LeO (cut_Read.l0 k y0 y1 y2) (cut_Read.l0 (k + 1) y0 y1 y2))
 | 0 => fun _ _ _ r h => by simp [cut_Read.l0] at h
 | k + 1 => by
  have ih0 := cut_Read.mono_l k
  ·intro y0 y1 y2
   unfold cut_Read.l0
   repeat' first
   | (with_reducible exact ih0 _ _ _)
   | (with_reducible exact sat_Read.mono _ _)
   | (with_reducible exact LeO.refl _)
   | (with_reducible exact LeO.none _)
   | (with_reducible refine LeO.ite ?_ ?_)
   | (with_reducible refine LeO.bind ?_ (fun _ => ?_))
   | exact ih0 _ _ _
   | exact sat_Read.mono _ _
   | exact LeO.none _
   | refine LeO.ite ?_ ?_
   | refine LeO.bind ?_ (fun _ => ?_)
theorem cut_Read.mono : ∀ a0 k, LeO (cut_Read.f k a0) (cut_Read.f (k + 1) a0) := by
 intro a0 k
 have ih0 := cut_Read.mono_l k
 unfold cut_Read.f
 repeat' first
   | (with_reducible exact ih0 _ _ _)
   | (with_reducible exact sat_Read.mono _ _)
   | (with_reducible exact LeO.refl _)
   | (with_reducible exact LeO.none _)
   | (with_reducible refine LeO.ite ?_ ?_)
   | (with_reducible refine LeO.bind ?_ (fun _ => ?_))
   | exact ih0 _ _ _
   | exact sat_Read.mono _ _
   | exact LeO.none _
   | refine LeO.ite ?_ ?_
   | refine LeO.bind ?_ (fun _ => ?_)
set_option maxHeartbeats 8000000 in
set_option maxRecDepth 100000 in
theorem cut_Read.calls (k : Nat) (a0 : ByteArray) (r1 : Int) (r2 : Int) (r3 : Int) (w : World) (h : cut_Read.f k a0 = some (r1, r2, r3)) :
  Calls Try.prog 55 #[.string a0] w fun e w' => e = .returned (.tuple #[.agg #[.int .i64 r1, .int .i64 r2], .int .i64 r3]) ∧ Below w.heap.size w w' := by
 have hu25 := Try.underlying25
 have HB := Aside0.mk (Below.refl w.heap.size w)
 have H : ((cut_begins.f a0 (⟨#[45, 105, 110, 102]⟩ : ByteArray)).bind fun t186 => (if t186 = true then ((cut_First.f).bind fun bt187 => (some (bt187.1, bt187.2, 4))) else ((cut_begins.f a0 (⟨#[43, 105, 110, 102]⟩ : ByteArray)).bind fun t189 => (if t189 = true then ((cut_Last.f).bind fun bt190 => (some (bt190.1, bt190.2, 4))) else ((sat_Read.f k a0).bind fun bt192 => (cut_Read.l0 k a0 bt192.1 bt192.2)))))) = some (r1, r2, r3) := h
 clear h
 replace H := Option.bind_eq_some_iff.mp H
 obtain ⟨t186, A20, H⟩ := H
 replace H : (if t186 = true then ((cut_First.f).bind fun bt187 => (some (bt187.1, bt187.2, 4))) else ((cut_begins.f a0 (⟨#[43, 105, 110, 102]⟩ : ByteArray)).bind fun t189 => (if t189 = true then ((cut_Last.f).bind fun bt190 => (some (bt190.1, bt190.2, 4))) else ((sat_Read.f k a0).bind fun bt192 => (cut_Read.l0 k a0 bt192.1 bt192.2))))) = some (r1, r2, r3) := H
 have A2 := Aside0.mk A20
 clear A20
 by_cases c3 : t186 = true
 ·subst c3
  have H1 : ((cut_First.f).bind fun bt187 => (some (bt187.1, bt187.2, 4))) = some (r1, r2, r3) := by rw [if_pos rfl] at H; exact H
  clear H
  have H := H1
  clear H1
  replace H := Option.bind_eq_some_iff.mp H
  obtain ⟨⟨t187, t188⟩, A40, H⟩ := H
  replace H : (some (t187, t188, 4)) = some (r1, r2, r3) := H
  have A4 := Aside0.mk A40
  clear A40
  simp only [Option.some.injEq, Prod.mk.injEq] at H
  obtain ⟨rfl, rfl, rfl⟩ := H
  go_enter Try.func55, Try.ntmps55
  go_wp2_with (first | ((with_reducible refine gate_dst (N := 2) rfl ?_); refine bxe (N := 2) (cs := #[.int .i64 0, .int .i64 0]) (t := 25) ?_; intro gb185 hg w5 hbox hb; have BK185 := Aside0.mk (hbox); have GW185 := lsz hg HB; have GE185 := lsz hg HB; replace HB := bst HB hb; clear hb hbox hg) | ((with_reducible refine gate_callee (f := 65) rfl ?_); refine gol (some 8) Try.func65 #[.string a0, .string (⟨#[45, 105, 110, 102]⟩ : ByteArray)] ?_; (with_reducible refine (cut_begins.calls a0 (⟨#[45, 105, 110, 102]⟩ : ByteArray) true _ A2.out).mono ?_); rintro e w' ⟨rfl, ⟨nd, rfl⟩⟩; refine ⟨_, rfl, ?_⟩; (try (rw [drewN_self w5]; generalize hq_ : World.drewN w5 _ = w5; have n0_ : Aside0 (w5.heap[gb185]? = some (.cells #[.int .i64 0, .int .i64 0] 25 (0, 0))) := ⟨by rw [← hq_]; exact (bk BK185)⟩; have n1_ : Aside0 (Below w.heap.size w w5) := ⟨by rw [← hq_]; exact (bl HB)⟩; clear BK185 HB hq_; have BK185 := n0_; have HB := n1_; clear n0_ n1_))) | ((with_reducible refine gate_callee (f := 29) rfl ?_); refine gol (some 9) Try.func29 #[] ?_; (with_reducible refine (cut_First.calls  t187 t188 _ A4.out).mono ?_); rintro e w6 ⟨rfl, hb⟩; refine ⟨_, rfl, ?_⟩; replace BK185 := bkb BK185 hb; replace HB := bst HB hb; (try clear hb); (try clear hb2); (try clear hk); (try clear hi); obtain ⟨hcz7_0, hcz7_1⟩ := e2 BK185; obtain ⟨hfz7_0, hfz7_1⟩ := f2 BK185))
  refine bodyPost_ret (results_ct rfl _ _ gb185 25 #[.int .i64 t187, .int .i64 t188] (0, 0) _ rfl (bkp BK185) Try.underlying25 rfl (by kernel_rfl)) rfl ?_
  exact endB HB
 ·replace c3 := Bool.eq_false_iff.mpr c3
  subst c3
  have H1 : ((cut_begins.f a0 (⟨#[43, 105, 110, 102]⟩ : ByteArray)).bind fun t189 => (if t189 = true then ((cut_Last.f).bind fun bt190 => (some (bt190.1, bt190.2, 4))) else ((sat_Read.f k a0).bind fun bt192 => (cut_Read.l0 k a0 bt192.1 bt192.2)))) = some (r1, r2, r3) := by rw [if_neg (show ¬ (false = true) by decide)] at H; exact H
  clear H
  have H := H1
  clear H1
  replace H := Option.bind_eq_some_iff.mp H
  obtain ⟨t189, A80, H⟩ := H
  replace H : (if t189 = true then ((cut_Last.f).bind fun bt190 => (some (bt190.1, bt190.2, 4))) else ((sat_Read.f k a0).bind fun bt192 => (cut_Read.l0 k a0 bt192.1 bt192.2))) = some (r1, r2, r3) := H
  have A8 := Aside0.mk A80
  clear A80
  by_cases c9 : t189 = true
  ·subst c9
   have H1 : ((cut_Last.f).bind fun bt190 => (some (bt190.1, bt190.2, 4))) = some (r1, r2, r3) := by rw [if_pos rfl] at H; exact H
   clear H
   have H := H1
   clear H1
   replace H := Option.bind_eq_some_iff.mp H
   obtain ⟨⟨t190, t191⟩, A100, H⟩ := H
   replace H : (some (t190, t191, 4)) = some (r1, r2, r3) := H
   have A10 := Aside0.mk A100
   clear A100
   simp only [Option.some.injEq, Prod.mk.injEq] at H
   obtain ⟨rfl, rfl, rfl⟩ := H
   go_enter Try.func55, Try.ntmps55
   go_wp2_with (first | ((with_reducible refine gate_dst (N := 2) rfl ?_); refine bxe (N := 2) (cs := #[.int .i64 0, .int .i64 0]) (t := 25) ?_; intro gb185 hg w11 hbox hb; have BK185 := Aside0.mk (hbox); have GW185 := lsz hg HB; have GE185 := lsz hg HB; replace HB := bst HB hb; clear hb hbox hg) | ((with_reducible refine gate_callee (f := 65) rfl ?_); refine gol (some 8) Try.func65 #[.string a0, .string (⟨#[45, 105, 110, 102]⟩ : ByteArray)] ?_; (with_reducible refine (cut_begins.calls a0 (⟨#[45, 105, 110, 102]⟩ : ByteArray) false _ A2.out).mono ?_); rintro e w' ⟨rfl, ⟨nd, rfl⟩⟩; refine ⟨_, rfl, ?_⟩; (try (rw [drewN_self w11]; generalize hq_ : World.drewN w11 _ = w11; have n0_ : Aside0 (w11.heap[gb185]? = some (.cells #[.int .i64 0, .int .i64 0] 25 (0, 0))) := ⟨by rw [← hq_]; exact (bk BK185)⟩; have n1_ : Aside0 (Below w.heap.size w w11) := ⟨by rw [← hq_]; exact (bl HB)⟩; clear BK185 HB hq_; have BK185 := n0_; have HB := n1_; clear n0_ n1_))) | ((with_reducible refine gate_callee (f := 65) rfl ?_); refine gol (some 12) Try.func65 #[.string a0, .string (⟨#[43, 105, 110, 102]⟩ : ByteArray)] ?_; (with_reducible refine (cut_begins.calls a0 (⟨#[43, 105, 110, 102]⟩ : ByteArray) true _ A8.out).mono ?_); rintro e w' ⟨rfl, ⟨nd, rfl⟩⟩; refine ⟨_, rfl, ?_⟩; (try (rw [drewN_self w11]; generalize hq_ : World.drewN w11 _ = w11; have n0_ : Aside0 (w11.heap[gb185]? = some (.cells #[.int .i64 0, .int .i64 0] 25 (0, 0))) := ⟨by rw [← hq_]; exact (bk BK185)⟩; have n1_ : Aside0 (Below w.heap.size w w11) := ⟨by rw [← hq_]; exact (bl HB)⟩; clear BK185 HB hq_; have BK185 := n0_; have HB := n1_; clear n0_ n1_))) | ((with_reducible refine gate_callee (f := 30) rfl ?_); refine gol (some 13) Try.func30 #[] ?_; (with_reducible refine (cut_Last.calls  t190 t191 _ A10.out).mono ?_); rintro e w12 ⟨rfl, hb⟩; refine ⟨_, rfl, ?_⟩; replace BK185 := bkb BK185 hb; replace HB := bst HB hb; (try clear hb); (try clear hb2); (try clear hk); (try clear hi); obtain ⟨hcz13_0, hcz13_1⟩ := e2 BK185; obtain ⟨hfz13_0, hfz13_1⟩ := f2 BK185))
   refine bodyPost_ret (results_ct rfl _ _ gb185 25 #[.int .i64 t190, .int .i64 t191] (0, 0) _ rfl (bkp BK185) Try.underlying25 rfl (by kernel_rfl)) rfl ?_
   exact endB HB
  ·replace c9 := Bool.eq_false_iff.mpr c9
   subst c9
   have H1 : ((sat_Read.f k a0).bind fun bt192 => (cut_Read.l0 k a0 bt192.1 bt192.2)) = some (r1, r2, r3) := by rw [if_neg (show ¬ (false = true) by decide)] at H; exact H
   clear H
   have H := H1
   clear H1
   replace H := Option.bind_eq_some_iff.mp H
   obtain ⟨⟨t192, t193⟩, A140, H⟩ := H
   replace H : (cut_Read.l0 k a0 t192 t193) = some (r1, r2, r3) := H
   have A14 := Aside0.mk A140
   clear A140
   have H' := Aside0.mk H
   clear H
   go_enter Try.func55, Try.ntmps55
   go_wp2_with (first | ((with_reducible refine gate_dst (N := 2) rfl ?_); refine bxe (N := 2) (cs := #[.int .i64 0, .int .i64 0]) (t := 25) ?_; intro gb185 hg w15 hbox hb; have BK185 := Aside0.mk (hbox); have GW185 := lsz hg HB; have GE185 := lsz hg HB; replace HB := bst HB hb; clear hb hbox hg) | ((with_reducible refine gate_callee (f := 65) rfl ?_); refine gol (some 8) Try.func65 #[.string a0, .string (⟨#[45, 105, 110, 102]⟩ : ByteArray)] ?_; (with_reducible refine (cut_begins.calls a0 (⟨#[45, 105, 110, 102]⟩ : ByteArray) false _ A2.out).mono ?_); rintro e w' ⟨rfl, ⟨nd, rfl⟩⟩; refine ⟨_, rfl, ?_⟩) | ((with_reducible refine gate_callee (f := 65) rfl ?_); refine gol (some 12) Try.func65 #[.string a0, .string (⟨#[43, 105, 110, 102]⟩ : ByteArray)] ?_; (with_reducible refine (cut_begins.calls a0 (⟨#[43, 105, 110, 102]⟩ : ByteArray) false _ A8.out).mono ?_); rintro e w' ⟨rfl, ⟨nd, rfl⟩⟩; refine ⟨_, rfl, ?_⟩) | ((with_reducible refine gate_callee (f := 44) rfl ?_); refine gol (some 16) Try.func44 #[.string a0] ?_; (with_reducible refine (sat_Read.calls k a0 t192 t193 _ A14.out).mono ?_); rintro e w' ⟨rfl, ⟨nd, rfl⟩⟩; refine ⟨_, rfl, ?_⟩))
   go_loopg [4, 5] k (fun kq v4 v5 w' => ∃ (x4_1 : Int) (x5_1 : Int), v4 = .int .i64 x4_1 ∧ v5 = .int .i64 x5_1 ∧ Aside0 (cut_Read.l0 kq a0 x4_1 x5_1 = some (r1, r2, r3)) ∧ Aside0 (kq ≤ k) ∧ Aside0 (w'.heap[gb185]? = some (.cells #[.int .i64 0, .int .i64 0] 25 (0, 0))) ∧ Aside0 (Below w.heap.size w w'))
   case atStart => exact ⟨(t192), (t193), (by first | rfl | (simp; done) | (simp [*]; done)), (by first | rfl | (simp; done) | (simp [*]; done)), H', ⟨Nat.le_refl _⟩, ⟨bk BK185⟩, ⟨bl HB⟩⟩
   case round =>
    clear H'
    try clear c3
    try clear c9
    obtain ⟨x4_1, x5_1, rfl, rfl, HA, HK1, BK185, HB⟩ := hrel
    cases gk with
    | zero => exact absurd HA.out (by simp [cut_Read.l0])
    | succ k1 =>
     have H := HA.out
     clear HA
     simp only [cut_Read.l0] at H
     by_cases c16 : x5_1 > 0
     ·rw [if_pos c16] at H
      have c16b0 : decide (0 < x5_1) = true := decide_eq_true c16
      clear c16
      by_cases c17 : x4_1 = (-9223372036854775808)
      ·rw [if_pos c17] at H
       have c17b0 : (x4_1 == (-9223372036854775808)) = true := beq_iff_eq.mpr c17
       have c17b1 : (x4_1 != (-9223372036854775808)) = false := bne_eq_false_iff_eq.mpr c17
       clear c17
       obtain ⟨ji18, hji18⟩ : ∃ j_ : Int, (wrap64 (x5_1 - 1)) = j_ := ⟨_, rfl⟩
       replace H : (if 0 ≤ (ji18) then (if (ji18) ≤ (a0.size : Int) then ((sat_Read.f k1 (a0.extract 0 ((ji18) : Int).toNat)).bind fun bt194 => (cut_Read.l0 k1 a0 bt194.1 bt194.2)) else (none)) else (none)) = some (r1, r2, r3) := by first | (rw [hji18] at H; exact H) | (simp only [hji18] at H ⊢; exact H)
       have hji18w : (IntKind.i64.wrap (x5_1 - 1)) = ji18 := (i64_w _).trans hji18
       by_cases c19 : 0 ≤ (ji18)
       ·rw [if_pos c19] at H
        have c19b0 := eq_true c19
        have c19b1 : decide (0 ≤ (ji18)) = true := decide_eq_true c19
        clear c19
        by_cases c20 : (ji18) ≤ (a0.size : Int)
        ·rw [if_pos c20] at H
         have c20b0 := eq_true c20
         have c20b1 : decide ((ji18) ≤ (a0.size : Int)) = true := decide_eq_true c20
         clear c20
         replace H := Option.bind_eq_some_iff.mp H
         obtain ⟨⟨t194, t195⟩, A210, H⟩ := H
         replace H : (cut_Read.l0 k1 a0 t194 t195) = some (r1, r2, r3) := H
         have A21 := Aside0.mk A210
         clear A210
         have H' := Aside0.mk H
         clear H
         go_wp2_with (first | ((with_reducible refine gate_callee (f := 44) rfl ?_); refine goesL_ (some 30) rfl rfl Try.func44 (by kernel_rfl) rfl #[.string (a0.extract 0 ((ji18) : Int).toNat)] rfl (by (try simp only [List.map_toArray, List.map_cons, List.map_nil]); first | done | (simp only [hji18]; rfl) | rfl | (simp only [List.length_drop, List.length_take]; rfl)) ?_; (with_reducible refine (sat_Read.calls k1 (a0.extract 0 ((ji18) : Int).toNat) t194 t195 _ A21.out).mono ?_); rintro e w' ⟨rfl, ⟨nd, rfl⟩⟩; refine ⟨_, rfl, ?_⟩))
         go_roundg k1
         case measure => have := HK1.out; omega
         case rel => exact ⟨(t194), (t195), (by first | rfl | (simp; done) | (simp [*]; done)), (by first | rfl | (simp; done) | (simp [*]; done)), H', ⟨by have := HK1.out; omega⟩, ⟨bk BK185⟩, ⟨bl HB⟩⟩
        ·rw [if_neg c20] at H
         exact absurd H (by simp)
       ·rw [if_neg c19] at H
        exact absurd H (by simp)
      ·rw [if_neg c17] at H
       have c17b0 : (x4_1 == (-9223372036854775808)) = false := beq_eq_false_iff_ne.mpr c17
       have c17b1 : (x4_1 != (-9223372036854775808)) = true := bne_iff_ne.mpr c17
       by_cases c22 : x5_1 = 0
       ·rw [if_pos c22] at H
        have c22b0 : (x5_1 == 0) = true := beq_iff_eq.mpr c22
        have c22b1 : (x5_1 != 0) = false := bne_eq_false_iff_eq.mpr c22
        clear c22
        simp only [Option.some.injEq, Prod.mk.injEq] at H
        obtain ⟨rfl, rfl, rfl⟩ := H
        have hcz23_0 : wr.cell? ⟨gb185, 0, none⟩ = some (.int .i64 0) := (blk_cell BK185.out 0).trans rfl
        have hcz23_1 : wr.cell? ⟨gb185, 1, none⟩ = some (.int .i64 0) := (blk_cell BK185.out 1).trans rfl
        have hfz23_0 := blk_frozen BK185.out 0
        have hfz23_1 := blk_frozen BK185.out 1
        go_wp2
        refine bodyPost_ret (results_ct rfl _ _ gb185 25 #[.int .i64 0, .int .i64 0] (0, 0) _ rfl (bkp BK185) Try.underlying25 rfl (by kernel_rfl)) rfl ?_
        exact endB HB
       ·rw [if_neg c22] at H
        have c22b0 : (x5_1 == 0) = false := beq_eq_false_iff_ne.mpr c22
        have c22b1 : (x5_1 != 0) = true := bne_iff_ne.mpr c22
        simp only [Option.some.injEq, Prod.mk.injEq] at H
        obtain ⟨rfl, rfl, rfl⟩ := H
        have hcz24_0 : wr.cell? ⟨gb185, 0, none⟩ = some (.int .i64 0) := (blk_cell BK185.out 0).trans rfl
        have hcz24_1 : wr.cell? ⟨gb185, 1, none⟩ = some (.int .i64 0) := (blk_cell BK185.out 1).trans rfl
        have hfz24_0 := blk_frozen BK185.out 0
        have hfz24_1 := blk_frozen BK185.out 1
        go_wp2
        refine bodyPost_ret (results_ct rfl _ _ gb185 25 #[.int .i64 0, .int .i64 x4_1] (0, 0) _ rfl (bkp BK185) Try.underlying25 rfl (by kernel_rfl)) rfl ?_
        exact endB HB
     ·rw [if_neg c16] at H
      have c16b0 : decide (0 < x5_1) = false := decide_eq_false c16
      clear c16
      by_cases c25 : x5_1 = 0
      ·rw [if_pos c25] at H
       have c25b0 : (x5_1 == 0) = true := beq_iff_eq.mpr c25
       have c25b1 : (x5_1 != 0) = false := bne_eq_false_iff_eq.mpr c25
       clear c25
       simp only [Option.some.injEq, Prod.mk.injEq] at H
       obtain ⟨rfl, rfl, rfl⟩ := H
       have hcz26_0 : wr.cell? ⟨gb185, 0, none⟩ = some (.int .i64 0) := (blk_cell BK185.out 0).trans rfl
       have hcz26_1 : wr.cell? ⟨gb185, 1, none⟩ = some (.int .i64 0) := (blk_cell BK185.out 1).trans rfl
       have hfz26_0 := blk_frozen BK185.out 0
       have hfz26_1 := blk_frozen BK185.out 1
       go_wp2
       refine bodyPost_ret (results_ct rfl _ _ gb185 25 #[.int .i64 0, .int .i64 0] (0, 0) _ rfl (bkp BK185) Try.underlying25 rfl (by kernel_rfl)) rfl ?_
       exact endB HB
      ·rw [if_neg c25] at H
       have c25b0 : (x5_1 == 0) = false := beq_eq_false_iff_ne.mpr c25
       have c25b1 : (x5_1 != 0) = true := bne_iff_ne.mpr c25
       simp only [Option.some.injEq, Prod.mk.injEq] at H
       obtain ⟨rfl, rfl, rfl⟩ := H
       have hcz27_0 : wr.cell? ⟨gb185, 0, none⟩ = some (.int .i64 0) := (blk_cell BK185.out 0).trans rfl
       have hcz27_1 : wr.cell? ⟨gb185, 1, none⟩ = some (.int .i64 0) := (blk_cell BK185.out 1).trans rfl
       have hfz27_0 := blk_frozen BK185.out 0
       have hfz27_1 := blk_frozen BK185.out 1
       go_wp2
       refine bodyPost_ret (results_ct rfl _ _ gb185 25 #[.int .i64 0, .int .i64 x4_1] (0, 0) _ rfl (bkp BK185) Try.underlying25 rfl (by kernel_rfl)) rfl ?_
       exact endB HB
/-! ### bound_plain: function 40 -/
def bound_plain.f (k : Nat) (a0 : ByteArray) : Option (Int × Int) := (cut_Read.f k a0).bind fun bt196 => (if bt196.1 = 0 then (some (bt196.2.1, bt196.2.2)) else (some (0, 0)))
theorem bound_plain.mono : ∀ a0 k, LeO (bound_plain.f k a0) (bound_plain.f (k + 1) a0) := by
 intro a0 k
 unfold bound_plain.f
 repeat' first
   | (with_reducible exact cut_Read.mono _ _)
   | (with_reducible exact LeO.refl _)
   | (with_reducible exact LeO.none _)
   | (with_reducible refine LeO.ite ?_ ?_)
   | (with_reducible refine LeO.bind ?_ (fun _ => ?_))
   | exact cut_Read.mono _ _
   | exact LeO.none _
   | refine LeO.ite ?_ ?_
   | refine LeO.bind ?_ (fun _ => ?_)
set_option maxHeartbeats 8000000 in
set_option maxRecDepth 100000 in
theorem bound_plain.calls (k : Nat) (a0 : ByteArray) (r1 : Int) (r2 : Int) (w : World) (h : bound_plain.f k a0 = some (r1, r2)) :
  Calls Try.prog 40 #[.string a0] w fun e w' => e = .returned (.tuple #[.int .i64 r1, .int .i64 r2]) ∧ Below w.heap.size w w' := by
 have hu25 := Try.underlying25
 have HB := Aside0.mk (Below.refl w.heap.size w)
 have H : ((cut_Read.f k a0).bind fun bt196 => (if bt196.1 = 0 then (some (bt196.2.1, bt196.2.2)) else (some (0, 0)))) = some (r1, r2) := h
 clear h
 replace H := Option.bind_eq_some_iff.mp H
 obtain ⟨⟨t196, t197, t198⟩, A20, H⟩ := H
 replace H : (if t196 = 0 then (some (t197, t198)) else (some (0, 0))) = some (r1, r2) := H
 have A2 := Aside0.mk A20
 clear A20
 by_cases c3 : t196 = 0
 ·rw [if_pos c3] at H
  have c3b0 : (t196 == 0) = true := beq_iff_eq.mpr c3
  have c3b1 : (t196 != 0) = false := bne_eq_false_iff_eq.mpr c3
  clear c3
  simp only [Option.some.injEq, Prod.mk.injEq] at H
  obtain ⟨rfl, rfl⟩ := H
  go_enter Try.func40, Try.ntmps40
  go_wp2_with (first | ((with_reducible refine gate_callee (f := 55) rfl ?_); refine gol (some 8) Try.func55 #[.string a0] ?_; (with_reducible refine (cut_Read.calls k a0 t196 t197 t198 _ A2.out).mono ?_); rintro e w4 ⟨rfl, hb⟩; refine ⟨_, rfl, ?_⟩; replace HB := bst HB hb; (try clear hb); (try clear hb2); (try clear hk); (try clear hi)) | ((with_reducible refine gate_dst (N := 4) rfl ?_); refine bxe (N := 4) (cs := #[.int .i64 0, .int .i64 0]) (t := 25) ?_; intro gb199 hg w5 hbox hb; have BK199 := Aside0.mk (hbox); have GW199 := lsz hg HB; have GE199 := lsz hg HB; replace HB := bst HB hb; clear hb hbox hg; obtain ⟨hcz6_0, hcz6_1⟩ := e2 BK199; obtain ⟨hfz6_0, hfz6_1⟩ := f2 BK199))
  go_ret2
  exact endB HB
 ·rw [if_neg c3] at H
  have c3b0 : (t196 == 0) = false := beq_eq_false_iff_ne.mpr c3
  have c3b1 : (t196 != 0) = true := bne_iff_ne.mpr c3
  simp only [Option.some.injEq, Prod.mk.injEq] at H
  obtain ⟨rfl, rfl⟩ := H
  go_enter Try.func40, Try.ntmps40
  go_wp2_with (first | ((with_reducible refine gate_callee (f := 55) rfl ?_); refine gol (some 8) Try.func55 #[.string a0] ?_; (with_reducible refine (cut_Read.calls k a0 t196 t197 t198 _ A2.out).mono ?_); rintro e w7 ⟨rfl, hb⟩; refine ⟨_, rfl, ?_⟩; replace HB := bst HB hb; (try clear hb); (try clear hb2); (try clear hk); (try clear hi)) | ((with_reducible refine gate_dst (N := 4) rfl ?_); refine bxe (N := 4) (cs := #[.int .i64 0, .int .i64 0]) (t := 25) ?_; intro gb199 hg w8 hbox hb; have BK199 := Aside0.mk (hbox); have GW199 := lsz hg HB; have GE199 := lsz hg HB; replace HB := bst HB hb; clear hb hbox hg; obtain ⟨hcz9_0, hcz9_1⟩ := e2 BK199; obtain ⟨hfz9_0, hfz9_1⟩ := f2 BK199))
  go_ret2
  exact endB HB
end Go.Proofs.Ytpeidnkbliafkaa.Print
