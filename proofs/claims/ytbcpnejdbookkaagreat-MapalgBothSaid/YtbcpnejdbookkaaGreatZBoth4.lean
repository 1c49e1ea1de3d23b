-- The texts of this repo that the claim reaches, in one (wip/print/bundle.py): only what is reached; not trusted: Lean checks it.
import Derived.Test.YtbcpnejdbookkaaGreatZBoth3
import Derived.Shelf.SlIterI.Nil
import Derived.Shelf.SortM.Plain
import Derived.Shelf.SortM.SortNone
import Derived.Ground.GgzProg
import Derived.Ground.SlgmProg
import Derived.Maps.OwnSet
set_option maxHeartbeats 8000000
set_option maxRecDepth 100000
set_option linter.unusedVariables false
set_option linter.unusedSimpArgs false
namespace Go.Proofs.YtbcpnejdbookkaaGreat.Print
open Go.RowKit Go.Proofs.YtbcpnejdbookkaaGreatW.PrintWords Go.Proofs.YtbcpnejdbookkaaGreatW.PrintLast Go.Proofs.YtbcpnejdbookkaaGreatW.PrintMore
attribute [local go_sem] max2_int min2_int max_two min_two max_three min_three max_four min_four
theorem mapalg_wide_add.calls (k : Nat) (g : Nat) (s0_0 : Int) (s0_1 : Int) (s0_2 : Int) (a1 : Int) (a2 : Int) (r1 : Int) (r2 : Int) (r3 : Int) (w0 w : World) (hI : IsS83 w0 w g s0_0 s0_1 s0_2) (hB : Below w0.heap.size w0 w) (h : mapalg_wide_add.f k s0_0 s0_1 s0_2 a1 a2 = some (r1, r2, r3)) :
 Calls Tryz.prog 58 #[.pointer (some ⟨g, 0, none⟩), .int .i64 a1, .int .u64 a2] w fun e w' => e = .returned (.tuple #[]) ∧ IsS83 w0 w' g r1 r2 r3 ∧ Below w0.heap.size w0 w' ∧ KeepBut w w' g none := by
 have HI0 := am hI
 have HK := am (KeepBut.refl w g none)
 have HL := am hB.size
 clear hI
 have HW0 := am hB.size
 have HB := am hB; clear hB
 unfold mapalg_wide_add.f at h; have H := h; clear h; have HC4 := am H; clear H; go_enter Tryz.func58, Tryz.ntmps58
 go_upto_if 13 with (fail)
 go_cut [6] (fun v6 wc => ∃ (kq : Nat) (x6_3 : Int), v6 = .int .u64 x6_3 ∧ Aside0 (mapalg_wide_add.j0 kq a1 a2 x6_3 s0_0 s0_1 s0_2 = some (r1, r2, r3)) ∧ Aside0 (kq ≤ k) ∧ Aside0 (IsS83 w0 wc g s0_0 s0_1 s0_2) ∧ Aside0 (KeepBut w wc g none) ∧ Aside0 (Below w0.heap.size w0 wc))
 case first =>
  have H := HC4.out; clear HC4; revert H; refine itc (fun c5b0 H => ?_) fun c5b0 H => ?_
  ·(first | rw [c5b0] | (simp only [i64_w, i32_w]; rw [c5b0]) | skip)
   have H' := am H; clear H; go_wp2
   go_meet
   case rel => exact ⟨_, (IntKind.u64.wrap (-(IntKind.u64.wrap (a1)))), rs, H', ⟨by first | omega | exact Nat.le_refl _⟩, ⟨by repeat (first | (with_reducible first | exact HI0.out | apply IsS83.alloc | apply IsS83.drewN | apply IsS83.drew | apply IsS83.set_0 | apply IsS83.set_1 | apply IsS83.set_2) | exact HI0.out)⟩, ⟨by repeat (first | (with_reducible first | exact HK.out | apply KeepBut.set_ | apply keep_drewN | apply keep_drew | apply keep_alloc) | exact HK.out)⟩, ⟨by repeat (first | (with_reducible first | exact HB.out | apply below_alloc | apply pw_below_drewN | apply below_drew1 | refine below_set ?_ (IsS83.ge HI0.out)) | exact HB.out)⟩⟩
  ·(first | rw [c5b0] | (simp only [i64_w, i32_w]; rw [c5b0]) | skip)
   have H' := am H; clear H; go_wp2
   go_meet
   case rel => exact ⟨_, (IntKind.u64.wrap (a1)), rs, H', ⟨by first | omega | exact Nat.le_refl _⟩, ⟨by repeat (first | (with_reducible first | exact HI0.out | apply IsS83.alloc | apply IsS83.drewN | apply IsS83.drew | apply IsS83.set_0 | apply IsS83.set_1 | apply IsS83.set_2) | exact HI0.out)⟩, ⟨by repeat (first | (with_reducible first | exact HK.out | apply KeepBut.set_ | apply keep_drewN | apply keep_drew | apply keep_alloc) | exact HK.out)⟩, ⟨by repeat (first | (with_reducible first | exact HB.out | apply below_alloc | apply pw_below_drewN | apply below_drew1 | refine below_set ?_ (IsS83.ge HI0.out)) | exact HB.out)⟩⟩
 case rest =>
  clear HC4
  try clear p2
  try clear c5
  try clear c5b0
  obtain ⟨kq, x6_3, rfl, HA, HJ3, HI0, HK, HB⟩ := hcut
  cases kq with
  | zero => exact absurd HA.out (by simp [mapalg_wide_add.j0])
  | succ kj3 =>
   have H := HA.out; clear HA
   simp only [mapalg_wide_add.j0] at H
   revert H; refine bnd2 fun t288 t289 A6 H => ?_; dsimp only at H
   revert H; refine itc (fun c7b0 H => ?_) fun c7b0 H => ?_
   ·revert H; refine bnd2 fun t290 t291 A8 H => ?_; dsimp only at H
    revert H; refine bnd2 fun t292 t293 A9 H => ?_; dsimp only at H
    revert H; refine bnd2 fun t294 t295 A10 H => ?_; dsimp only at H
    simp only [Option.some.injEq, Prod.mk.injEq] at H
    obtain ⟨rfl, rfl, rfl⟩ := H
    go_upto_region 6 with (first | ((with_reducible refine gate_callee (f := 90) rfl ?_); refine god Tryz.func90 (bits_Mul64.calls _ _ _ _ _ A6.out) fun nd => ?_))
    have HI1 := am (IsS83.drewN HI0.out nd)
    have HB1 := am (pw_below_drewN HB.out nd)
    have HK1 := am (keep_drewN HK.out nd)
    clear HI0 HB HK; generalize wc.drewN nd = w1 at *
    have c0 : w1.cell? ⟨g, 0, none⟩ = some (.int .u64 s0_0) := (blk_cell HI1.out.1 0).trans rfl
    have f0 := blk_frozen HI1.out.1 0
    have c1 : w1.cell? ⟨g, 1, none⟩ = some (.int .u64 s0_1) := (blk_cell HI1.out.1 1).trans rfl
    have f1 := blk_frozen HI1.out.1 1
    have c2 : w1.cell? ⟨g, 2, none⟩ = some (.int .u64 s0_2) := (blk_cell HI1.out.1 2).trans rfl
    have f2 := blk_frozen HI1.out.1 2
    have hs := fun w => bits_Sub64.run _ _ _ _ _ A8.out w
    go_region
    (try simp only [Exit.then])
    have HI2 : Aside0 (IsS83 w0 ((w1.setCell ⟨g, 0, none⟩ (.int .u64 t290)).drew) g t290 s0_1 s0_2) := ⟨IsS83.drew (IsS83.set_0 HI1.out _)⟩
    have HB2 : Aside0 (Below w0.heap.size w0 ((w1.setCell ⟨g, 0, none⟩ (.int .u64 t290)).drew)) := ⟨below_drew1 (below_set HB1.out (IsS83.ge HI1.out))⟩
    have HK2 : Aside0 (KeepBut w ((w1.setCell ⟨g, 0, none⟩ (.int .u64 t290)).drew) g none) := ⟨keep_drew (KeepBut.set_ HK1.out _ _)⟩
    clear HI1 HB1 HK1 c0 c1 c2 f0 f1 f2 hs; generalize (w1.setCell ⟨g, 0, none⟩ (.int .u64 t290)).drew = w2 at *
    go_wp2_with fail
    have c0 : w2.cell? ⟨g, 0, none⟩ = some (.int .u64 t290) := (blk_cell HI2.out.1 0).trans rfl
    have f0 := blk_frozen HI2.out.1 0
    have c1 : w2.cell? ⟨g, 1, none⟩ = some (.int .u64 s0_1) := (blk_cell HI2.out.1 1).trans rfl
    have f1 := blk_frozen HI2.out.1 1
    have c2 : w2.cell? ⟨g, 2, none⟩ = some (.int .u64 s0_2) := (blk_cell HI2.out.1 2).trans rfl
    have f2 := blk_frozen HI2.out.1 2
    have hs := fun w => bits_Sub64.run _ _ _ _ _ A9.out w
    go_region
    (try simp only [Exit.then])
    have HI3 : Aside0 (IsS83 w0 ((w2.setCell ⟨g, 1, none⟩ (.int .u64 t292)).drew) g t290 t292 s0_2) := ⟨IsS83.drew (IsS83.set_1 HI2.out _)⟩
    have HB3 : Aside0 (Below w0.heap.size w0 ((w2.setCell ⟨g, 1, none⟩ (.int .u64 t292)).drew)) := ⟨below_drew1 (below_set HB2.out (IsS83.ge HI2.out))⟩
    have HK3 : Aside0 (KeepBut w ((w2.setCell ⟨g, 1, none⟩ (.int .u64 t292)).drew) g none) := ⟨keep_drew (KeepBut.set_ HK2.out _ _)⟩
    clear HI2 HB2 HK2 c0 c1 c2 f0 f1 f2 hs; generalize (w2.setCell ⟨g, 1, none⟩ (.int .u64 t292)).drew = w3 at *
    go_wp2_with fail
    have c0 : w3.cell? ⟨g, 0, none⟩ = some (.int .u64 t290) := (blk_cell HI3.out.1 0).trans rfl
    have f0 := blk_frozen HI3.out.1 0
    have c1 : w3.cell? ⟨g, 1, none⟩ = some (.int .u64 t292) := (blk_cell HI3.out.1 1).trans rfl
    have f1 := blk_frozen HI3.out.1 1
    have c2 : w3.cell? ⟨g, 2, none⟩ = some (.int .u64 s0_2) := (blk_cell HI3.out.1 2).trans rfl
    have f2 := blk_frozen HI3.out.1 2
    have hs := fun w => bits_Sub64.run _ _ _ _ _ A10.out w
    go_region
    (try simp only [Exit.then])
    have HI4 : Aside0 (IsS83 w0 ((w3.setCell ⟨g, 2, none⟩ (.int .u64 t294)).drew) g t290 t292 t294) := ⟨IsS83.drew (IsS83.set_2 HI3.out _)⟩
    have HB4 : Aside0 (Below w0.heap.size w0 ((w3.setCell ⟨g, 2, none⟩ (.int .u64 t294)).drew)) := ⟨below_drew1 (below_set HB3.out (IsS83.ge HI3.out))⟩
    have HK4 : Aside0 (KeepBut w ((w3.setCell ⟨g, 2, none⟩ (.int .u64 t294)).drew) g none) := ⟨keep_drew (KeepBut.set_ HK3.out _ _)⟩
    clear HI3 HB3 HK3 c0 c1 c2 f0 f1 f2 hs; generalize (w3.setCell ⟨g, 2, none⟩ (.int .u64 t294)).drew = w4 at *; go_wp2
    first | go_end0 | ((try simp only [Exit.inBlock, Exit.then]); refine bodyPost_ret (results_none rfl _ _ _) rfl ?_)
    exact ⟨rfl, HI4.out, HB4.out, HK4.out⟩
   ·revert H; refine bnd2 fun t296 t297 A12 H => ?_; dsimp only at H
    revert H; refine bnd2 fun t298 t299 A13 H => ?_; dsimp only at H
    revert H; refine bnd2 fun t300 t301 A14 H => ?_; dsimp only at H
    simp only [Option.some.injEq, Prod.mk.injEq] at H
    obtain ⟨rfl, rfl, rfl⟩ := H
    go_upto_region 9 with (first | ((with_reducible refine gate_callee (f := 90) rfl ?_); refine god Tryz.func90 (bits_Mul64.calls _ _ _ _ _ A6.out) fun nd => ?_))
    have HI1 := am (IsS83.drewN HI0.out nd)
    have HB1 := am (pw_below_drewN HB.out nd)
    have HK1 := am (keep_drewN HK.out nd)
    clear HI0 HB HK; generalize wc.drewN nd = w1 at *
    have c0 : w1.cell? ⟨g, 0, none⟩ = some (.int .u64 s0_0) := (blk_cell HI1.out.1 0).trans rfl
    have f0 := blk_frozen HI1.out.1 0
    have c1 : w1.cell? ⟨g, 1, none⟩ = some (.int .u64 s0_1) := (blk_cell HI1.out.1 1).trans rfl
    have f1 := blk_frozen HI1.out.1 1
    have c2 : w1.cell? ⟨g, 2, none⟩ = some (.int .u64 s0_2) := (blk_cell HI1.out.1 2).trans rfl
    have f2 := blk_frozen HI1.out.1 2
    have hs := fun w => bits_Add64.run _ _ _ _ _ A12.out w
    go_region
    (try simp only [Exit.then])
    have HI2 : Aside0 (IsS83 w0 ((w1.setCell ⟨g, 0, none⟩ (.int .u64 t296)).drew) g t296 s0_1 s0_2) := ⟨IsS83.drew (IsS83.set_0 HI1.out _)⟩
    have HB2 : Aside0 (Below w0.heap.size w0 ((w1.setCell ⟨g, 0, none⟩ (.int .u64 t296)).drew)) := ⟨below_drew1 (below_set HB1.out (IsS83.ge HI1.out))⟩
    have HK2 : Aside0 (KeepBut w ((w1.setCell ⟨g, 0, none⟩ (.int .u64 t296)).drew) g none) := ⟨keep_drew (KeepBut.set_ HK1.out _ _)⟩
    clear HI1 HB1 HK1 c0 c1 c2 f0 f1 f2 hs; generalize (w1.setCell ⟨g, 0, none⟩ (.int .u64 t296)).drew = w2 at *
    go_wp2_with fail
    have c0 : w2.cell? ⟨g, 0, none⟩ = some (.int .u64 t296) := (blk_cell HI2.out.1 0).trans rfl
    have f0 := blk_frozen HI2.out.1 0
    have c1 : w2.cell? ⟨g, 1, none⟩ = some (.int .u64 s0_1) := (blk_cell HI2.out.1 1).trans rfl
    have f1 := blk_frozen HI2.out.1 1
    have c2 : w2.cell? ⟨g, 2, none⟩ = some (.int .u64 s0_2) := (blk_cell HI2.out.1 2).trans rfl
    have f2 := blk_frozen HI2.out.1 2
    have hs := fun w => bits_Add64.run _ _ _ _ _ A13.out w
    go_region
    (try simp only [Exit.then])
    have HI3 : Aside0 (IsS83 w0 ((w2.setCell ⟨g, 1, none⟩ (.int .u64 t298)).drew) g t296 t298 s0_2) := ⟨IsS83.drew (IsS83.set_1 HI2.out _)⟩
    have HB3 : Aside0 (Below w0.heap.size w0 ((w2.setCell ⟨g, 1, none⟩ (.int .u64 t298)).drew)) := ⟨below_drew1 (below_set HB2.out (IsS83.ge HI2.out))⟩
    have HK3 : Aside0 (KeepBut w ((w2.setCell ⟨g, 1, none⟩ (.int .u64 t298)).drew) g none) := ⟨keep_drew (KeepBut.set_ HK2.out _ _)⟩
    clear HI2 HB2 HK2 c0 c1 c2 f0 f1 f2 hs; generalize (w2.setCell ⟨g, 1, none⟩ (.int .u64 t298)).drew = w3 at *
    go_wp2_with fail
    have c0 : w3.cell? ⟨g, 0, none⟩ = some (.int .u64 t296) := (blk_cell HI3.out.1 0).trans rfl
    have f0 := blk_frozen HI3.out.1 0
    have c1 : w3.cell? ⟨g, 1, none⟩ = some (.int .u64 t298) := (blk_cell HI3.out.1 1).trans rfl
    have f1 := blk_frozen HI3.out.1 1
    have c2 : w3.cell? ⟨g, 2, none⟩ = some (.int .u64 s0_2) := (blk_cell HI3.out.1 2).trans rfl
    have f2 := blk_frozen HI3.out.1 2
    have hs := fun w => bits_Add64.run _ _ _ _ _ A14.out w
    go_region
    (try simp only [Exit.then])
    have HI4 : Aside0 (IsS83 w0 ((w3.setCell ⟨g, 2, none⟩ (.int .u64 t300)).drew) g t296 t298 t300) := ⟨IsS83.drew (IsS83.set_2 HI3.out _)⟩
    have HB4 : Aside0 (Below w0.heap.size w0 ((w3.setCell ⟨g, 2, none⟩ (.int .u64 t300)).drew)) := ⟨below_drew1 (below_set HB3.out (IsS83.ge HI3.out))⟩
    have HK4 : Aside0 (KeepBut w ((w3.setCell ⟨g, 2, none⟩ (.int .u64 t300)).drew) g none) := ⟨keep_drew (KeepBut.set_ HK3.out _ _)⟩
    clear HI3 HB3 HK3 c0 c1 c2 f0 f1 f2 hs; generalize (w3.setCell ⟨g, 2, none⟩ (.int .u64 t300)).drew = w4 at *; go_wp2
    first | go_end0 | ((try simp only [Exit.inBlock, Exit.then]); refine bodyPost_ret (results_none rfl _ _ _) rfl ?_)
    exact ⟨rfl, HI4.out, HB4.out, HK4.out⟩
theorem is83 {w0 W : World} {g : Nat} {f0 f1 f2 : Int} (hb : W.heap[g]? = some (.cells #[.int .u64 f0, .int .u64 f1, .int .u64 f2] 83 (0, 0))) (hg : w0.heap.size ≤ g) : IsS83 w0 W g f0 f1 f2 := ⟨hb, hg⟩
def sum.l0 (k : Nat) : List S37 → Int × Int × Int → Option (Int × Int × Int)
  | [], t => some t
  | s :: l, t => (span_Count.f k s.f0.f0.f0 s.f0.f0.f1 s.f0.f1.f0 s.f0.f1.f1).bind fun q =>
    (if q.2 = true then some (t, q.1) else (mapalg_wide_add.f k t.1 t.2.1 t.2.2 s.f1 1).map (fun u => (u, IntKind.u64.wrap (q.1 - 1)))).bind fun p =>
      (mapalg_wide_add.f k p.1.1 p.1.2.1 p.1.2.2 s.f1 p.2).bind fun u => sum.l0 k l u
theorem sum.l0_mono (k : Nat) : ∀ (l : List S37) (t : Int × Int × Int), LeO (sum.l0 k l t) (sum.l0 (k + 1) l t)
 | [], _ => LeO.refl _
 | s :: l, t => by
  unfold sum.l0
  refine LeO.bind (span_Count.mono _ _ _ _ _) (fun q => LeO.bind (LeO.ite (LeO.refl _) ?_) (fun p => LeO.bind (mapalg_wide_add.mono _ _ _ _ _ _) (fun u => sum.l0_mono k l u)))
  intro r h
  obtain ⟨u, e, rfl⟩ := Option.map_eq_some_iff.1 h
  exact Option.map_eq_some_iff.2 ⟨u, mapalg_wide_add.mono _ _ _ _ _ _ _ e, rfl⟩
def mapalg_Sum.f (k : Nat) (a : List S37) (w1 w2 w3 w4 : Int) : Option Int :=
  (mapalg_Restrict.f k a [⟨⟨w1, w2⟩, ⟨w3, w4⟩⟩]).bind fun rs => if rs.length < 1000000 then (sum.l0 k rs (0, 0, 0)).bind fun t => (mapalg_wide_end.f k t.1 t.2.1 t.2.2).bind fun q => some q.1 else none
theorem mapalg_Sum.mono : ∀ a0 a1 a2 a3 a4 k, LeO (mapalg_Sum.f k a0 a1 a2 a3 a4) (mapalg_Sum.f (k + 1) a0 a1 a2 a3 a4) := fun _ _ _ _ _ _ =>
 LeO.bind (mapalg_Restrict.mono _ _ _) (fun _ => LeO.ite (LeO.bind (sum.l0_mono _ _ _) (fun _ => LeO.bind (mapalg_wide_end.mono _ _ _ _) (fun _ => LeO.refl _))) (LeO.refl _))
theorem mapalg_Sum.walk (k : Nat) (A0 : Option Addr) (c0 : Nat) (l rs : List S37) (w1 w2 w3 w4 t1 t2 t3 r q2 q3 q4 : Int) (w : World) (hr : Kd.C k37 w A0 l.length l) (hc : l.length ≤ c0) (e1 : mapalg_Restrict.f k l [(⟨⟨w1, w2⟩, ⟨w3, w4⟩⟩ : S35)] = some rs) (hl : rs.length < 1000000) (e2 : sum.l0 k rs (0, 0, 0) = some (t1, t2, t3)) (e3 : mapalg_wide_end.f k t1 t2 t3 = some (r, q2, q3, q4)) :
 Calls Tryz.prog 23 #[.slice A0 l.length c0, .agg #[.int .i64 w1, .int .i64 w2, .int .i64 w3, .int .i64 w4]] w fun e w' => e = .returned (.int .i64 r) ∧ Below w.heap.size w w' := by
 have hu83 := Tryz.underlying83; have hu37 := Tryz.underlying37; have hu35 := Tryz.underlying35
 have HB := am (Below.refl w.heap.size w)
 have CA := am hr; have LA := am hc; have E1 := am e1; have E2 := am e2; have E3 := am e3; have HL := am hl
 obtain ⟨sw, hsw⟩ : ∃ y : List S35, y = [(⟨⟨w1, w2⟩, ⟨w3, w4⟩⟩ : S35)] := ⟨_, rfl⟩
 rw [← hsw] at E1
 have HSW := am hsw; clear hr hc e1 e2 e3 hl hsw; go_enter Tryz.func23, Tryz.ntmps23
 go_upto_region 3 with (first | ((with_reducible refine gate_dst (N := 3) rfl ?_); refine bxf #[.int .i64 w1, .int .i64 w2, .int .i64 w3, .int .i64 w4] 35 HB fun gp wa B_p GE_p_HB HB hgb hb => ?_; clear hb hgb) | ((with_reducible refine gate_dst (N := 5) rfl ?_); refine bxf #[.int .u64 0, .int .u64 0, .int .u64 0] 83 HB fun gw wb B_w GE_w_HB HB hgb hb => ?_; have NE_p_w := nlt hgb B_p; replace B_p := bkb B_p hb; obtain ⟨c_p_0, c_p_1, c_p_2, c_p_3⟩ := e4 B_p; clear hb hgb) | ((with_reducible refine gate_dst (N := 12) rfl ?_); refine Kd.R_lit k35 _ 35 ?hg (N := 12) ?hd (xs := [(⟨⟨w1, w2⟩, ⟨w3, w4⟩⟩ : S35)]) (inner := [.int .i64 w1, .int .i64 w2, .int .i64 w3, .int .i64 w4]) (ok := fun _ => True) (okp := fun _ => True) ?hr ?hp (fun _ hk => hk) trivial (Below.refl _ _) (Nat.le_refl _) (by simp) ?_; (case hd => rfl); (case hg => rfl); (case hr => first | (go_simp; done) | (go_simp; rfl)); (case hp => exact (Reps.c4 (show Kd.M k35 _ _ _ (⟨⟨w1, w2⟩, ⟨w3, w4⟩⟩ : S35) [.int .i64 w1, .int .i64 w2, .int .i64 w3, .int .i64 w4] from (k35_mkM _ _ _ (⟨⟨w1, w2⟩, ⟨w3, w4⟩⟩ : S35))) (Reps.none _ _))); intro v1 wc ho hb hg_ hnew_; rw [← HSW.out] at ho; obtain ⟨A1, c1, rfl⟩ := Kd.R_slice ho; have HO1 := am ho; replace B_p := bkb B_p hb; replace B_w := bkb B_w hb; replace HB := bst HB hb; clear ho hb hg_ hnew_ c_p_0 c_p_1 c_p_2 c_p_3) | (go_at_call 27; (with_reducible refine (mapalg_Restrict.calls k A0 c0 l A1 c1 sw rs _ (Kd.C_below CA.out HB.out) LA.out (Kd.R_reads' HO1.out).2.2 (Kd.R_reads' HO1.out).2.1 E1.out).mono ?_); rintro e w8 ⟨v2, rfl, ho, hb⟩; obtain ⟨A2, c2, rfl⟩ := Kd.R_slice ho; have HO2 := am ho; replace B_p := bkb B_p hb; replace B_w := bkb B_w hb; replace HB := bst HB hb; clear ho hb HO1))
 clear B_p
 obtain ⟨SS, hSS⟩ : ∃ SS : Nat → Prop, SS = fun q => q = gw := ⟨_, rfl⟩
 have S1 : Aside0 (SS gw) := ⟨by rw [hSS]⟩
 have SN : Aside0 (∀ q, q ≠ gw → ¬ SS q) := ⟨fun q h1 h => by rw [hSS] at h; exact h1 h⟩
 clear hSS
 have RK := am (Kd.C_kept_own (S := SS) (Kd.R_types HO2.out B_w.out (by decide)) (fun q hq => SN.out q hq.2))
 have GW := GE_w_HB
 clear HO2 E1 CA LA
 obtain ⟨n, hn⟩ : ∃ n, rs.length = n := ⟨_, rfl⟩
 have HN := am hn
 rw [hn]
 clear hn
 go_loopg [15] (n + 1) (fun kq v15 w' => ∃ (j : Nat) (u1 u2 u3 : Int), v15 = .int .i64 (j : Int) ∧ Aside0 (kq + j = n + 1) ∧ Aside0 (j ≤ n) ∧ Aside0 (sum.l0 k (rs.drop j) (u1, u2, u3) = some (t1, t2, t3)) ∧ Aside0 (w'.heap[gw]? = some (.cells #[.int .u64 u1, .int .u64 u2, .int .u64 u3] 83 (0, 0))) ∧ Aside0 (Kept w8 w' SS) ∧ Aside0 (Below w.heap.size w w'))
 case atStart => exact ⟨0, 0, 0, 0, rfl, ⟨rfl⟩, ⟨Nat.zero_le _⟩, E2, B_w, ⟨Kept.refl _ _⟩, HB⟩
 case round =>
  clear B_w HB E2
  obtain ⟨j, u1, u2, u3, rfl, HQ, HJ, HA, B_w, K8, HB⟩ := hrel
  by_cases hj : j < n
  ·have p1 : 0 ≤ (j : Int) := Int.natCast_nonneg j
   have q1 : (j : Int) < (rs.length : Int) := by rw [HN.out]; omega
   have q2 : (j : Int) < (n : Int) := by omega
   have bj : decide ((j : Int) < (n : Int)) = true := decide_eq_true q2
   have HD : rs.drop j = rd_T37 rs (j : Int) :: rs.drop (j + 1) := by
    have hj2 : j < rs.length := by rw [HN.out]; exact hj
    rw [List.drop_eq_getElem_cons hj2]
    congr 1
    simp [rd_T37, hj2]
   obtain ⟨ad, ea, hx0, hx1, hx2, hx3, hx4⟩ := at_T37 (RK.out wr K8.out) (j : Int) p1 q1; cases ea; have HA2 := HA.out
   rw [HD] at HA2
   obtain ⟨⟨⟨⟨s1, s2⟩, ⟨s3, s4⟩⟩, s5⟩, hs⟩ : ∃ s : S37, rd_T37 rs (j : Int) = s := ⟨_, rfl⟩
   rw [hs] at hx0 hx1 hx2 hx3 hx4 HA2
   simp only [Int.toNat_natCast] at hx0 hx1 hx2 hx3 hx4
   unfold sum.l0 at HA2
   obtain ⟨⟨cn, is⟩, ea1, HA3⟩ := Option.bind_eq_some_iff.1 HA2
   obtain ⟨⟨⟨x1, x2, x3⟩, m⟩, ea2, HA4⟩ := Option.bind_eq_some_iff.1 HA3
   obtain ⟨⟨y1, y2, y3⟩, ea3, HA5⟩ := Option.bind_eq_some_iff.1 HA4
   dsimp only at ea1 ea2 ea3 HA5
   have F1 := am ea1; have F2 := am ea2; have F3 := am ea3; have HA6 := am HA5; clear ea1 ea2 ea3 HA5 HA4 HA3 HA2 HA HD hs; replace p1 := eq_true p1; replace q2 := eq_true q2
   obtain ⟨k1, rfl⟩ : ∃ k1, gk = k1 + 1 := ⟨gk - 1, by have := HQ.out; omega⟩
   have hw : wrap64 ((j : Int) + 1) = ((j + 1 : Nat) : Int) := by
    have := HN.out; have := HL.out
    unfold wrap64; push_cast; omega
   go_upto_region 5 with (first | ((with_reducible refine gate_dst (N := 7) rfl ?_); refine bxe (N := 7) (cs := #[.int .i64 0, .int .i64 0, .int .i64 0, .int .i64 0, .int .i64 0]) (t := 37) ?_; intro ge hgb wc hbox hb; have NE_w_e := nlt hgb B_w; have GE_e_HB := lsz hgb HB; have GE_e_K8 := am (show w8.heap.size ≤ ge by rw [hgb]; exact K8.out.1); replace B_w := bkb B_w hb; replace HB := bst HB hb; replace K8 := am (Kept.below K8.out hb); have B_e := am hbox; replace hx0 := (hb.cell (World.block_lt_of_cell? _ _ hx0)).trans hx0; replace hx1 := (hb.cell (World.block_lt_of_cell? _ _ hx1)).trans hx1; replace hx2 := (hb.cell (World.block_lt_of_cell? _ _ hx2)).trans hx2; replace hx3 := (hb.cell (World.block_lt_of_cell? _ _ hx3)).trans hx3; replace hx4 := (hb.cell (World.block_lt_of_cell? _ _ hx4)).trans hx4; have c_e_0 : wc.cell? ⟨ge, 0, none⟩ = some (.int .i64 0) := (blk_cell hbox 0).trans rfl; have f_e_0 := blk_frozen hbox 0; have c_e_1 : wc.cell? ⟨ge, 1, none⟩ = some (.int .i64 0) := (blk_cell hbox 1).trans rfl; have f_e_1 := blk_frozen hbox 1; have c_e_2 : wc.cell? ⟨ge, 2, none⟩ = some (.int .i64 0) := (blk_cell hbox 2).trans rfl; have f_e_2 := blk_frozen hbox 2; have c_e_3 : wc.cell? ⟨ge, 3, none⟩ = some (.int .i64 0) := (blk_cell hbox 3).trans rfl; have f_e_3 := blk_frozen hbox 3; have c_e_4 : wc.cell? ⟨ge, 4, none⟩ = some (.int .i64 0) := (blk_cell hbox 4).trans rfl; have f_e_4 := blk_frozen hbox 4; clear hbox hb hgb))
   have N_w : Aside0 ((((((wc.setCell ⟨ge, 0, none⟩ (.int .i64 s1)).setCell ⟨ge, 1, none⟩ (.int .i64 s2)).setCell ⟨ge, 2, none⟩ (.int .i64 s3)).setCell ⟨ge, 3, none⟩ (.int .i64 s4)).setCell ⟨ge, 4, none⟩ (.int .i64 s5)).heap[gw]? = some (.cells #[.int .u64 u1, .int .u64 u2, .int .u64 u3] 83 (0, 0))) := ⟨(blk_far (blk_far (blk_far (blk_far (blk_far B_w.out (p := ⟨ge, 0, none⟩) NE_w_e.out (.int .i64 s1)) (p := ⟨ge, 1, none⟩) NE_w_e.out (.int .i64 s2)) (p := ⟨ge, 2, none⟩) NE_w_e.out (.int .i64 s3)) (p := ⟨ge, 3, none⟩) NE_w_e.out (.int .i64 s4)) (p := ⟨ge, 4, none⟩) NE_w_e.out (.int .i64 s5))⟩
   have N_e : Aside0 ((((((wc.setCell ⟨ge, 0, none⟩ (.int .i64 s1)).setCell ⟨ge, 1, none⟩ (.int .i64 s2)).setCell ⟨ge, 2, none⟩ (.int .i64 s3)).setCell ⟨ge, 3, none⟩ (.int .i64 s4)).setCell ⟨ge, 4, none⟩ (.int .i64 s5)).heap[ge]? = some (.cells #[.int .i64 s1, .int .i64 s2, .int .i64 s3, .int .i64 s4, .int .i64 s5] 37 (0, 0))) := ⟨(blk_put (blk_put (blk_put (blk_put (blk_put B_e.out 0 (.int .i64 s1) rfl) 1 (.int .i64 s2) rfl) 2 (.int .i64 s3) rfl) 3 (.int .i64 s4) rfl) 4 (.int .i64 s5) rfl)⟩
   have N_HB : Aside0 (Below w.heap.size w (((((wc.setCell ⟨ge, 0, none⟩ (.int .i64 s1)).setCell ⟨ge, 1, none⟩ (.int .i64 s2)).setCell ⟨ge, 2, none⟩ (.int .i64 s3)).setCell ⟨ge, 3, none⟩ (.int .i64 s4)).setCell ⟨ge, 4, none⟩ (.int .i64 s5))) := ⟨(below_set (below_set (below_set (below_set (below_set HB.out GE_e_HB.out) GE_e_HB.out) GE_e_HB.out) GE_e_HB.out) GE_e_HB.out)⟩
   have N_K8 : Aside0 (Kept w8 (((((wc.setCell ⟨ge, 0, none⟩ (.int .i64 s1)).setCell ⟨ge, 1, none⟩ (.int .i64 s2)).setCell ⟨ge, 2, none⟩ (.int .i64 s3)).setCell ⟨ge, 3, none⟩ (.int .i64 s4)).setCell ⟨ge, 4, none⟩ (.int .i64 s5)) SS) := ⟨(Kept.setCell (Kept.setCell (Kept.setCell (Kept.setCell (Kept.setCell K8.out (p := ⟨ge, 0, none⟩) (.inr GE_e_K8.out) (.int .i64 s1)) (p := ⟨ge, 1, none⟩) (.inr GE_e_K8.out) (.int .i64 s2)) (p := ⟨ge, 2, none⟩) (.inr GE_e_K8.out) (.int .i64 s3)) (p := ⟨ge, 3, none⟩) (.inr GE_e_K8.out) (.int .i64 s4)) (p := ⟨ge, 4, none⟩) (.inr GE_e_K8.out) (.int .i64 s5))⟩
   clear B_w B_e HB K8
   have B_w := N_w
   have B_e := N_e
   have HB := N_HB
   have K8 := N_K8
   clear N_w N_e N_HB N_K8; generalize (((((wc.setCell ⟨ge, 0, none⟩ (.int .i64 s1)).setCell ⟨ge, 1, none⟩ (.int .i64 s2)).setCell ⟨ge, 2, none⟩ (.int .i64 s3)).setCell ⟨ge, 3, none⟩ (.int .i64 s4)).setCell ⟨ge, 4, none⟩ (.int .i64 s5)) = wd at *; clear hx0 hx1 hx2 hx3 hx4 c_e_0 f_e_0 c_e_1 f_e_1 c_e_2 f_e_2 c_e_3 f_e_3 c_e_4 f_e_4; obtain ⟨c_e_0, c_e_1, c_e_2, c_e_3, c_e_4⟩ := e5 B_e
   go_upto_region 6 with (first | (go_at_call 57; (with_reducible refine (span_Count.calls k s1 s2 s3 s4 cn is _ F1.out).mono ?_); rintro e we ⟨rfl, hb⟩; replace B_w := bkb B_w hb; replace B_e := bkb B_e hb; replace HB := bst HB hb; replace K8 := am (Kept.below K8.out hb); clear hb))
   clear c_e_0 c_e_1 c_e_2 c_e_3 c_e_4
   have c_e_4 : we.cell? ⟨ge, 4, none⟩ = some (.int .i64 s5) := (blk_cell B_e.out 4).trans rfl
   cases is
   ·have F2' := F2.out
    rw [if_neg (by decide)] at F2'
    obtain ⟨⟨z1, z2, z3⟩, ez, hz⟩ := Option.map_eq_some_iff.1 F2'
    simp only [Prod.mk.injEq] at hz
    obtain ⟨⟨rfl, rfl, rfl⟩, rfl⟩ := hz
    have FZ := am ez
    clear ez F2' F2
    go_upto_region 9 with (first | (go_at_call 58; (with_reducible refine (mapalg_wide_add.calls k gw u1 u2 u3 s5 1 z1 z2 z3 w we (is83 B_w.out GW.out) HB.out FZ.out).mono ?_); rintro e wf ⟨rfl, hi, hbl, hk⟩; replace B_w := am (And.left hi); replace B_e := am ((hk.2 _ (blk_lt B_e.out) (Ne.symm NE_w_e.out) (by simp)).trans B_e.out); replace HB := am hbl; replace K8 := am (Kept.of_keep K8.out hk (.inl S1.out)); clear hi hbl hk))
    clear c_e_4
    have c_e_4 : wf.cell? ⟨ge, 4, none⟩ = some (.int .i64 s5) := (blk_cell B_e.out 4).trans rfl
    go_wp2_with (first | (go_at_call 58; (with_reducible refine (mapalg_wide_add.calls k gw z1 z2 z3 s5 _ y1 y2 y3 w wf (is83 B_w.out GW.out) HB.out F3.out).mono ?_); rintro e wg ⟨rfl, hi, hbl, hk⟩; replace B_w := am (And.left hi); replace B_e := am ((hk.2 _ (blk_lt B_e.out) (Ne.symm NE_w_e.out) (by simp)).trans B_e.out); replace HB := am hbl; replace K8 := am (Kept.of_keep K8.out hk (.inl S1.out)); clear hi hbl hk))
    go_roundg k1
    case measure => omega
    case rel => exact ⟨j + 1, y1, y2, y3, by first | rfl | (rw [← hw]; rfl) | (simp [hw]; done), ⟨by have := HQ.out; omega⟩, ⟨by omega⟩, HA6, B_w, K8, HB⟩
   ·have F2' := F2.out
    rw [if_pos rfl] at F2'
    obtain ⟨⟨rfl, rfl, rfl⟩, rfl⟩ : (x1 = u1 ∧ x2 = u2 ∧ x3 = u3) ∧ m = cn := by have h := Option.some.inj F2'; simp only [Prod.mk.injEq] at h; exact ⟨⟨h.1.1.symm, h.1.2.1.symm, h.1.2.2.symm⟩, h.2.symm⟩
    clear F2' F2
    go_wp2_with (first | (go_at_call 58; (with_reducible refine (mapalg_wide_add.calls k gw _ _ _ s5 _ y1 y2 y3 w we (is83 B_w.out GW.out) HB.out F3.out).mono ?_); rintro e wg ⟨rfl, hi, hbl, hk⟩; replace B_w := am (And.left hi); replace B_e := am ((hk.2 _ (blk_lt B_e.out) (Ne.symm NE_w_e.out) (by simp)).trans B_e.out); replace HB := am hbl; replace K8 := am (Kept.of_keep K8.out hk (.inl S1.out)); clear hi hbl hk))
    go_roundg k1
    case measure => omega
    case rel => exact ⟨j + 1, y1, y2, y3, by first | rfl | (rw [← hw]; rfl) | (simp [hw]; done), ⟨by have := HQ.out; omega⟩, ⟨by omega⟩, HA6, B_w, K8, HB⟩
  ·have bj : decide ((j : Int) < (n : Int)) = false := decide_eq_false (by omega)
   have HA2 := HA.out
   rw [List.drop_eq_nil_of_le (by rw [HN.out]; omega)] at HA2
   have h := Option.some.inj HA2
   simp only [Prod.mk.injEq] at h
   obtain ⟨rfl, rfl, rfl⟩ := h
   go_wp2_with (first | (go_at_call 59; (with_reducible refine (mapalg_wide_end.calls k gw u1 u2 u3 r _ _ _ w wr (is83 B_w.out GW.out) HB.out E3.out).mono ?_); rintro e w9 ⟨rfl, hi, hbl, hk⟩; have HB9 := am hbl; clear hi hbl hk))
   go_ret
   exact ⟨rfl, HB9.out⟩
theorem mapalg_Sum.calls (k : Nat) (A0 : Option Addr) (c0 : Nat) (l0 : List S37) (a1_0 a1_1 a1_2 a1_3 : Int) (r : Int) (w : World) (hr0 : Kd.C k37 w A0 l0.length l0) (hc0 : l0.length ≤ c0) (h : mapalg_Sum.f k l0 a1_0 a1_1 a1_2 a1_3 = some r) :
 Calls Tryz.prog 23 #[.slice A0 l0.length c0, .agg #[.int .i64 a1_0, .int .i64 a1_1, .int .i64 a1_2, .int .i64 a1_3]] w fun e w' => e = .returned (.int .i64 r) ∧ Below w.heap.size w w' := by
 obtain ⟨rs, e1, h⟩ := Option.bind_eq_some_iff.1 h
 by_cases hl : rs.length < 1000000
 ·rw [if_pos hl] at h
  obtain ⟨⟨t1, t2, t3⟩, e2, h⟩ := Option.bind_eq_some_iff.1 h
  obtain ⟨⟨r', q2, q3, q4⟩, e3, h⟩ := Option.bind_eq_some_iff.1 h
  obtain rfl := Option.some.inj h
  exact mapalg_Sum.walk k A0 c0 l0 rs a1_0 a1_1 a1_2 a1_3 t1 t2 t3 r' q2 q3 q4 w hr0 hc0 e1 hl e2 e3
 ·rw [if_neg hl] at h; cases h
end Go.Proofs.YtbcpnejdbookkaaGreat.Print
namespace Go.Proofs
open Go.Shelf
def Tryz.keys_ren : Go.Shelf.Ren := ⟨fun | 7 => 72 | 10 => 106 | n => n, fun | 23 => 96 | 26 => 2 | 3 => 29 | 28 => 99 | 0 => 0 | 27 => 98 | 33 => 60 | 4 => 4 | n => n, fun | n => n⟩
theorem Tryz.keys : Go.Proofs.SlLaysZI.n7 Tryz.prog Tryz.keys_ren := {
 mixed := by kernel_rfl
 f7 := ⟨Tryz.f72.name, by decide, Tryz.func72.trans (congrArg some (by kernel_rfl))⟩
 f10 := ⟨Tryz.f106.name, by decide, Tryz.func106.trans (congrArg some (by kernel_rfl))⟩
 t0 := Tryz.underlying0
 a0 := Tryz.isAgg0
 z0 := Tryz.sizeOf0
 v0 := Tryz.zeroValue0
 t4 := Tryz.underlying4
 a4 := Tryz.isAgg4
 z4 := Tryz.sizeOf4
 v4 := Tryz.zeroValue4
 t23 := Tryz.underlying96
 a23 := Tryz.isAgg96
 z23 := Tryz.sizeOf96
 v23 := Tryz.zeroValue96
 t26 := Tryz.underlying2
 a26 := Tryz.isAgg2
 z26 := Tryz.sizeOf2
 v26 := Tryz.zeroValue2
 t27 := Tryz.underlying98
 a27 := Tryz.isAgg98
 z27 := Tryz.sizeOf98
 v27 := Tryz.zeroValue98
 t28 := Tryz.underlying99
 a28 := Tryz.isAgg99
 z28 := Tryz.sizeOf99
 v28 := Tryz.zeroValue99
 t33 := Tryz.underlying60
 a33 := Tryz.isAgg60
 z33 := Tryz.sizeOf60
 v33 := Tryz.zeroValue60 }
def Tryz.sorted_ren : Go.Shelf.Ren := ⟨fun | 6 => 71 | 8 => 104 | 9 => 105 | 11 => 127 | 13 => 122 | 12 => 128 | 23 => 144 | 24 => 145 | 14 => 147 | 15 => 148 | 16 => 149 | 17 => 150 | 18 => 151 | 19 => 152 | 20 => 153 | 21 => 154 | 22 => 155 | 25 => 167 | 26 => 163 | 27 => 164 | 28 => 168 | 29 => 169 | 30 => 161 | 31 => 172 | n => n, fun | 26 => 2 | 28 => 99 | 24 => 53 | 0 => 0 | 3 => 3 | 37 => 122 | 48 => 161 | 50 => 81 | 4 => 4 | 40 => 154 | 39 => 153 | 45 => 158 | 5 => 5 | 9 => 9 | 51 => 176 | 55 => 180 | 57 => 184 | 58 => 185 | 33 => 60 | n => n, fun | n => n⟩
theorem Tryz.sorted : Go.Proofs.SlLaysZI.n6 Tryz.prog Tryz.sorted_ren := {
 mixed := by kernel_rfl
 f6 := ⟨Tryz.f71.name, by decide, Tryz.func71.trans (congrArg some (by kernel_rfl))⟩
 f8 := ⟨Tryz.f104.name, by decide, Tryz.func104.trans (congrArg some (by kernel_rfl))⟩
 f11 := ⟨Tryz.f127.name, by decide, Tryz.func127.trans (congrArg some (by kernel_rfl))⟩
 t0 := Tryz.underlying0
 a0 := Tryz.isAgg0
 z0 := Tryz.sizeOf0
 v0 := Tryz.zeroValue0
 t24 := Tryz.underlying53
 a24 := Tryz.isAgg53
 z24 := Tryz.sizeOf53
 v24 := Tryz.zeroValue53
 t26 := Tryz.underlying2
 a26 := Tryz.isAgg2
 z26 := Tryz.sizeOf2
 v26 := Tryz.zeroValue2
 t28 := Tryz.underlying99
 a28 := Tryz.isAgg99
 z28 := Tryz.sizeOf99
 v28 := Tryz.zeroValue99
 i26 := by kernel_rfl }
def Tryz.sort_ren : Go.Shelf.Ren := ⟨fun | 5 => 105 | 8 => 122 | 7 => 128 | 19 => 144 | 20 => 145 | 10 => 147 | 11 => 148 | 12 => 149 | 13 => 150 | 14 => 151 | 15 => 152 | 16 => 153 | 17 => 154 | 18 => 155 | 30 => 167 | 31 => 163 | 32 => 164 | 33 => 168 | 34 => 169 | 35 => 161 | 40 => 172 | n => n, fun | 23 => 53 | 25 => 2 | 3 => 3 | 32 => 122 | 22 => 53 | 0 => 0 | 44 => 161 | 46 => 81 | 4 => 4 | 36 => 154 | 35 => 153 | 41 => 158 | 5 => 5 | 9 => 9 | 53 => 176 | 57 => 180 | 63 => 184 | 64 => 185 | n => n, fun | n => n⟩
theorem Tryz.sort : Go.Proofs.SlLaysM.n5 Tryz.prog Tryz.sort_ren := {
 mixed := by kernel_rfl
 f5 := ⟨Tryz.f105.name, by decide, Tryz.func105.trans (congrArg some (by kernel_rfl))⟩
 f7 := ⟨Tryz.f128.name, by decide, Tryz.func128.trans (congrArg some (by kernel_rfl))⟩
 f8 := Tryz.func122.trans (congrArg some (by kernel_rfl))
 f10 := ⟨Tryz.f147.name, by decide, Tryz.func147.trans (congrArg some (by kernel_rfl))⟩
 f11 := ⟨Tryz.f148.name, by decide, Tryz.func148.trans (congrArg some (by kernel_rfl))⟩
 f12 := ⟨Tryz.f149.name, by decide, Tryz.func149.trans (congrArg some (by kernel_rfl))⟩
 f13 := ⟨Tryz.f150.name, by decide, Tryz.func150.trans (congrArg some (by kernel_rfl))⟩
 f14 := ⟨Tryz.f151.name, by decide, Tryz.func151.trans (congrArg some (by kernel_rfl))⟩
 f15 := ⟨Tryz.f152.name, by decide, Tryz.func152.trans (congrArg some (by kernel_rfl))⟩
 f16 := ⟨Tryz.f153.name, by decide, Tryz.func153.trans (congrArg some (by kernel_rfl))⟩
 f17 := ⟨Tryz.f154.name, by decide, Tryz.func154.trans (congrArg some (by kernel_rfl))⟩
 f18 := ⟨Tryz.f155.name, by decide, Tryz.func155.trans (congrArg some (by kernel_rfl))⟩
 f19 := Tryz.func144.trans (congrArg some (by kernel_rfl))
 f20 := Tryz.func145.trans (congrArg some (by kernel_rfl))
 f30 := ⟨Tryz.f167.name, by decide, Tryz.func167.trans (congrArg some (by kernel_rfl))⟩
 f31 := Tryz.func163.trans (congrArg some (by kernel_rfl))
 f32 := Tryz.func164.trans (congrArg some (by kernel_rfl))
 f33 := ⟨Tryz.f168.name, by decide, Tryz.func168.trans (congrArg some (by kernel_rfl))⟩
 f34 := ⟨Tryz.f169.name, by decide, Tryz.func169.trans (congrArg some (by kernel_rfl))⟩
 f35 := ⟨Tryz.f161.name, by decide, Tryz.func161.trans (congrArg some (by kernel_rfl))⟩
 f40 := ⟨Tryz.f172.name, by decide, Tryz.func172.trans (congrArg some (by kernel_rfl))⟩
 t0 := Tryz.underlying0
 a0 := Tryz.isAgg0
 z0 := Tryz.sizeOf0
 v0 := Tryz.zeroValue0
 t3 := Tryz.underlying3
 a3 := Tryz.isAgg3
 z3 := Tryz.sizeOf3
 v3 := Tryz.zeroValue3
 t4 := Tryz.underlying4
 a4 := Tryz.isAgg4
 z4 := Tryz.sizeOf4
 v4 := Tryz.zeroValue4
 t5 := Tryz.underlying5
 a5 := Tryz.isAgg5
 z5 := Tryz.sizeOf5
 v5 := Tryz.zeroValue5
 t9 := Tryz.underlying9
 a9 := Tryz.isAgg9
 z9 := Tryz.sizeOf9
 v9 := Tryz.zeroValue9
 t22 := Tryz.underlying53
 a22 := Tryz.isAgg53
 z22 := Tryz.sizeOf53
 v22 := Tryz.zeroValue53
 t23 := Tryz.underlying53
 a23 := Tryz.isAgg53
 z23 := Tryz.sizeOf53
 v23 := Tryz.zeroValue53
 t25 := Tryz.underlying2
 a25 := Tryz.isAgg2
 z25 := Tryz.sizeOf2
 v25 := Tryz.zeroValue2
 t32 := Tryz.underlying122
 a32 := Tryz.isAgg122
 z32 := Tryz.sizeOf122
 v32 := Tryz.zeroValue122
 t35 := Tryz.underlying153
 a35 := Tryz.isAgg153
 z35 := Tryz.sizeOf153
 v35 := Tryz.zeroValue153
 t36 := Tryz.underlying154
 a36 := Tryz.isAgg154
 z36 := Tryz.sizeOf154
 v36 := Tryz.zeroValue154
 t41 := Tryz.underlying158
 a41 := Tryz.isAgg158
 z41 := Tryz.sizeOf158
 v41 := Tryz.zeroValue158
 t44 := Tryz.underlying161
 a44 := Tryz.isAgg161
 z44 := Tryz.sizeOf161
 v44 := Tryz.zeroValue161
 t46 := Tryz.underlying81
 a46 := Tryz.isAgg81
 z46 := Tryz.sizeOf81
 v46 := Tryz.zeroValue81
 t53 := Tryz.underlying176
 a53 := Tryz.isAgg176
 z53 := Tryz.sizeOf176
 v53 := Tryz.zeroValue176
 t57 := Tryz.underlying180
 a57 := Tryz.isAgg180
 z57 := Tryz.sizeOf180
 v57 := Tryz.zeroValue180
 t63 := Tryz.underlying184
 a63 := Tryz.isAgg184
 z63 := Tryz.sizeOf184
 v63 := Tryz.zeroValue184
 t64 := Tryz.underlying185
 a64 := Tryz.isAgg185
 z64 := Tryz.sizeOf185
 v64 := Tryz.zeroValue185 }
end Go.Proofs
namespace Go.Proofs.YtbcpnejdbookkaaGreat.Print
open Go Go.RowKit Go.Maps Go.Sort Go.Shelf
theorem sortsK (m : Nat) : AnyZI.SortsIn Tryz.prog Tryz.sorted_ren Fence.wide m :=
 ⟨fun blk off cap ss W hH hblk hsz => callsIn_wide.2 (AnyM.slices_Sort_int Tryz.sort blk off cap ss W hH hblk hsz),
  fun p cap W => callsIn_wide.2 (AnyM.slices_Sort_int_none Tryz.sort p cap W)⟩
theorem keys72 (mb : Option Nat) (W : World) : Calls Tryz.prog 72 #[.map mb] W fun e w' => e = .returned (.func (.func 106) #[] #[.pointer (some ⟨W.heap.size, 0, none⟩)]) ∧ w' = W.alloc (.cells #[.map mb] 96) :=
 (callsIn_wide (n := 5)).1 (AnyZI.keys_in Tryz.keys Fence.wide 5 trivial rfl mb W)
theorem sorted71 {H : Type} (b nn : Nat) (D0 : DataW H) (R : Value → Option (DataW H × List MemPlace)) (w : World) (hown : w.ownsMap Tryz.prog 2 R b nn D0) (hmax : Maps.size D0 ≤ maxLen) (hbytes : Maps.size D0 * 8 ≤ 140737488355328) :
 Calls Tryz.prog 71 #[.func (.func 106) #[] #[.pointer (some ⟨w.heap.size, 0, none⟩)]] (w.alloc (.cells #[.map (some b)] 96)) fun e w' => ∃ (v : Value) (ss : List Int), e = .returned v ∧ ss.Perm (intKeys D0) ∧
  w'.ownsRow w.heap.size 2 1 v ss.length ((ss.mergeSort (fun x y => decide (x ≤ y))).map encZ) ∧ (v = .slice none 0 0 ↔ ss = []) ∧ Below w.heap.size w w' := by
 refine (callsIn_wide (n := 5)).1 ?_
 have hbl := hown.lt
 have hseq : SeqGives Fence.wide 2 Tryz.prog 106 #[.pointer (some ⟨w.heap.size, 0, none⟩)] encZ (fun ss => ss.Perm (intKeys D0)) (Maps.size D0) (w.alloc (.cells #[.map (some b)] 96)) :=
  AnyZI.keys_gives (ρ := Tryz.keys_ren) { Tryz.keys with } Fence.wide _ trivial rfl (by omega) w.heap.size b nn D0 _ (by simp) (by simp) (by
   obtain ⟨es, clock, hb, Ft, hs, hD⟩ := hown
   exact ⟨es, clock, (Below.heap_alloc _ _ b hbl).trans hb, Ft, hs, hD⟩)
 have cS := AnyZI.sorted_in Tryz.sorted Fence.wide 5 trivial trivial trivial trivial rfl (by omega) (sortsK _) (enters_of Tryz.func105 (by kernel_rfl) rfl) 106 #[.pointer (some ⟨w.heap.size, 0, none⟩)] trivial (enters_of Tryz.func106 (by kernel_rfl) rfl) _ _ hmax hbytes _ hseq
 change CallsIn _ _ Tryz.prog 71 _ _ _ at cS
 refine cS.mono ?_
 rintro e w' ⟨v, ss, rfl, hS, hrow, hnil, hb⟩
 exact ⟨v, ss, rfl, hS, ownsRow_base_a hrow (by simp), hnil, ((Below.refl _ w).alloc (Nat.le_refl _) _).trans (hb.mono (by simp))⟩
end Go.Proofs.YtbcpnejdbookkaaGreat.Print
namespace Go.Proofs.YtbcpnejdbookkaaGreat.Print
open Go.RowKit Go.Proofs.YtbcpnejdbookkaaGreatW.PrintWords Go.Proofs.YtbcpnejdbookkaaGreatW.PrintLast Go.Proofs.YtbcpnejdbookkaaGreatW.PrintMore
attribute [local go_sem] max2_int min2_int max_two min_two max_three min_three max_four min_four
def insV (v : Int) : List Int → List Int
  | [] => [v]
  | y :: r => if v < y then v :: y :: r else if v = y then y :: r else y :: insV v r
def vsOf (x : List S37) : List Int := x.foldl (fun l s => insV s.f1 l) []
def spV (x : List S37) (v : Int) : List S35 := (x.filter (fun s => decide (s.f1 = v))).map (fun s => s.f0)
def okV (v : Int) : Bool := decide (-9223372036854775808 ≤ v ∧ v ≤ 9223372036854775807)
def mapalg_Group.f (k : Nat) (l : List S37) : Option (List Int × List (List S35)) :=
  (mapalg_Merge.f k l).bind fun x => if x.length < 1000000 ∧ x.all (fun s => okV s.f1) = true then some (vsOf x, (vsOf x).map (fun v => listS (spV x v))) else none
theorem mapalg_Group.mono : ∀ a0 k, LeO (mapalg_Group.f k a0) (mapalg_Group.f (k + 1) a0) := by
 intro a0 k
 unfold mapalg_Group.f
 exact LeO.bind (mapalg_Merge.mono _ _) (fun x => LeO.refl _)
theorem mem_insV (v a : Int) : ∀ l : List Int, a ∈ insV v l ↔ a = v ∨ a ∈ l
 | [] => by simp [insV]
 | y :: r => by
  unfold insV
  split
  ·simp
  ·split
   ·rename_i h; subst h; simp
   ·rw [List.mem_cons, mem_insV v a r, List.mem_cons]; exact ⟨fun h => by rcases h with h | h | h; exact .inr (.inl h); exact .inl h; exact .inr (.inr h), fun h => by rcases h with h | h | h; exact .inr (.inl h); exact .inl h; exact .inr (.inr h)⟩
theorem sorted_insV (v : Int) : ∀ l : List Int, l.Pairwise (· < ·) → (insV v l).Pairwise (· < ·)
 | [], _ => by simp [insV]
 | y :: r, h => by
  rw [List.pairwise_cons] at h
  unfold insV
  split
  ·rename_i hv
   exact List.pairwise_cons.2 ⟨fun a ha => by rcases List.mem_cons.1 ha with rfl | ha; exact hv; exact Int.lt_trans hv (h.1 a ha), List.pairwise_cons.2 h⟩
  ·split
   ·exact List.pairwise_cons.2 h
   ·exact List.pairwise_cons.2 ⟨fun a ha => by rcases (mem_insV v a r).1 ha with rfl | ha; exact (by omega : y < a); exact h.1 a ha, sorted_insV v r h.2⟩
theorem fold_insV : ∀ (x : List S37) (l : List Int), l.Pairwise (· < ·) → (x.foldl (fun l s => insV s.f1 l) l).Pairwise (· < ·) ∧ ∀ a, a ∈ x.foldl (fun l s => insV s.f1 l) l ↔ a ∈ l ∨ a ∈ x.map (fun s => s.f1)
 | [], l, h => ⟨h, fun a => by simp⟩
 | s :: x, l, h => by
  have ih := fold_insV x (insV s.f1 l) (sorted_insV _ _ h)
  refine ⟨ih.1, fun a => ?_⟩
  rw [List.foldl_cons, ih.2 a, mem_insV, List.map_cons, List.mem_cons]
  constructor
  ·rintro ((h | h) | h); exact .inr (.inl h); exact .inl h; exact .inr (.inr h)
  ·rintro (h | h | h); exact .inl (.inr h); exact .inl (.inl h); exact .inr h
theorem vsOf_sorted (x : List S37) : (vsOf x).Pairwise (· < ·) := (fold_insV x [] List.Pairwise.nil).1
theorem mem_vsOf (x : List S37) (a : Int) : a ∈ vsOf x ↔ a ∈ x.map (fun s => s.f1) := by
 have := (fold_insV x [] List.Pairwise.nil).2 a
 simpa [vsOf] using this
theorem length_insV (v : Int) : ∀ l : List Int, (insV v l).length ≤ l.length + 1
 | [] => by simp [insV]
 | y :: r => by
  unfold insV
  split
  ·simp
  ·split
   ·simp
   ·have := length_insV v r
    simp only [List.length_cons]
    omega
theorem vsOf_le (x : List S37) : (vsOf x).length ≤ x.length := by
 have h : ∀ (x : List S37) (l : List Int), (x.foldl (fun l s => insV s.f1 l) l).length ≤ l.length + x.length := by
  intro x
  induction x with
  | nil => intro l; simp
  | cons s x ih =>
   intro l
   have h1 := ih (insV s.f1 l)
   have h2 := length_insV s.f1 l
   simp only [List.foldl_cons, List.length_cons]
   omega
 have := h x []
 simpa [vsOf] using this
theorem spV_snoc (x : List S37) (s : S37) (v : Int) : spV (x ++ [s]) v = if s.f1 = v then spV x v ++ [s.f0] else spV x v := by
 unfold spV
 rw [List.filter_append, List.map_append]
 by_cases h : s.f1 = v <;> simp [h]
theorem spV_le (x : List S37) (v : Int) : (spV x v).length ≤ x.length := by
 unfold spV
 rw [List.length_map]
 exact List.length_filter_le _ _
theorem okV_wf {v : Int} (h : okV v = true) : (Lit.int .i64 v).wf = true := by
 unfold okV at h
 have := of_decide_eq_true h
 simp [Lit.wf, IntKind.min, IntKind.max, IntKind.signed, IntKind.bits]
 omega
def RH (v : Value) : Option (DataW Value × List MemPlace) := some (.held v, [])
def GInv (W : World) (b n m base : Nat) (dn : List S37) (own : Nat → Option Int) (G : Int → Value) (D : DataW Value) : Prop :=
  W.ownsMap Tryz.prog 2 RH b n D ∧ (∀ kx, okV kx = true → D.atKey (.int .i64 kx) (.held (.slice none 0 0)) = .held (G kx)) ∧
  (∀ kx, okV kx = true → Kd.R k35 35 W base (fun q => m ≤ q ∧ own q = some kx) (G kx) (spV dn kx)) ∧ (∀ kl, Maps.has D kl = true ↔ ∃ s ∈ dn, kl = .int .i64 s.f1) ∧ (∃ es, D = .map es ∧ ∀ p ∈ es, ∃ x, p.1 = .int .i64 x)
theorem GInv.start (W : World) (m base : Nat) (own : Nat → Option Int) (b : Nat) (h : W.ownsMap Tryz.prog 2 RH b 0 (.map [])) : GInv W b 0 m base [] own (fun _ => .slice none 0 0) (.map []) :=
 ⟨h, fun _ _ => rfl, fun _ _ => Kd.R_nil _ _ _ _ _, fun kl => by simp [Maps.has], [], rfl, fun p hp => by cases hp⟩
theorem ownsMap_blk {W W' : World} {b n : Nat} {D : DataW Value} (h : W.ownsMap Tryz.prog 2 RH b n D) (hb : W'.heap[b]? = W.heap[b]?) : W'.ownsMap Tryz.prog 2 RH b n D := by
 obtain ⟨es, clock, h1, h2, h3, h4⟩ := h
 exact ⟨es, clock, hb.trans h1, h2, h3, h4⟩
theorem GInv.move {W W' : World} {b n m base : Nat} {dn : List S37} {own : Nat → Option Int} {G : Int → Value} {D : DataW Value} (h : GInv W b n m base dn own G D) (hb : W'.heap[b]? = W.heap[b]?) (hm : ∀ q, m ≤ q → q < W.heap.size → W'.heap[q]? = W.heap[q]?) : GInv W' b n m base dn own G D :=
 ⟨ownsMap_blk h.1 hb, h.2.1, fun kx hk => Kd.R_step (h.2.2.1 kx hk) (fun q hq hl => hm q hq.1 hl), h.2.2.2⟩
theorem GInv.look {W : World} {b n m base : Nat} {dn : List S37} {own : Nat → Option Int} {G : Int → Value} {D : DataW Value} (h : GInv W b n m base dn own G D) {kx : Int} (hk : okV kx = true) :
 (Instr.lookup 96 (.map (some b)) (.int .i64 kx) false).run Tryz.prog W = .ok (G kx) W := by
 obtain ⟨v, ps, hr, hv⟩ := h.1.lookup (t := 96) (e := 29) (z := .slice none 0 0) (zd := .held (.slice none 0 0)) (zp := []) (Maps.int_keyed Tryz.underlying2) Tryz.underlying96 (Tryz.zeroValue29 W) rfl (Maps.keyOf_int_mk Tryz.underlying2 (okV_wf hk))
 rw [h.2.1 kx hk] at hv
 simp only [RH, Option.some.injEq, Prod.mk.injEq, DataW.held.injEq] at hv
 rw [hr, hv.1]
theorem mem_insert_dw (x p : Lit × DataW Value) : ∀ l : List (Lit × DataW Value), p ∈ DataW.insert x l → p = x ∨ p ∈ l
 | [], h => by simpa [DataW.insert] using h
 | y :: r, h => by
  unfold DataW.insert at h
  split at h
  ·simpa using h
  ·rcases List.mem_cons.1 h with rfl | h
   ·exact .inr (by simp)
   ·rcases mem_insert_dw x p r h with h | h
    ·exact .inl h
    ·exact .inr (by simp [h])
theorem GInv.step {W W1 W11 : World} {b n m base : Nat} {dn : List S37} {own : Nat → Option Int} {G : Int → Value} {D : DataW Value} (h : GInv W b n m base dn own G D) (s : S37) (hv : okV s.f1 = true) (own' : Nat → Option Int) (v1 : Value)
 (ho : ∀ q, q < W.heap.size → own' q = own q) (hk : ∀ q, q < W.heap.size → some q ≠ (G s.f1).ownBlock → W1.heap[q]? = W.heap[q]?)
 (hR : Kd.R k35 35 W1 base (fun q => m ≤ q ∧ own' q = some s.f1) v1 (spV dn s.f1 ++ [s.f0])) (hu : W11.ownsMap Tryz.prog 2 RH b (n + 1) (D.put (.int .i64 s.f1) (.held v1))) (hg : W1.grownBy W11 (some b)) (hbm : b < m) (hsz : W.heap.size ≤ W1.heap.size) :
 GInv W11 b (n + 1) m base (dn ++ [s]) own' (fun kx => if kx = s.f1 then v1 else G kx) (D.put (.int .i64 s.f1) (.held v1)) := by
 have him := h.1.isMap
 refine ⟨hu, fun kx hkx => ?_, fun kx hkx => ?_, fun kl => ?_, ?_⟩
 ·by_cases e : kx = s.f1
  ·subst e
   dsimp only
   rw [if_pos rfl]
   exact Maps.atKey_put_same (k := .int .i64 s.f1) him trivial _ _
  ·dsimp only
   rw [if_neg e, Maps.atKey_put_other (fun h => e (by simpa using h))]
   exact h.2.1 kx hkx
 ·have to11 : ∀ {v : Value} {xs : List S35}, Kd.R k35 35 W1 base (fun q => m ≤ q ∧ own' q = some kx) v xs → Kd.R k35 35 W11 base (fun q => m ≤ q ∧ own' q = some kx) v xs := fun hr => Kd.R_step hr (fun q hq hl => hg.block q hl (fun e => by cases e; have := hq.1; omega))
  by_cases e : kx = s.f1
  ·subst e
   dsimp only
   rw [if_pos rfl, spV_snoc, if_pos rfl]
   exact to11 hR
  ·dsimp only
   rw [if_neg e, spV_snoc, if_neg (Ne.symm e)]
   refine to11 ?_
   have h0 := h.2.2.1 kx hkx
   have hv0 := (h.2.2.1 s.f1 hv).1
   refine Kd.R_mono (Kd.R_step (Kd.R_bound h0) (fun q hq hl => hk q hl (fun e' => ?_))) (fun q hq => ⟨hq.1.1, by rw [ho q hq.2.2.1]; exact hq.1.2⟩)
   have h1 := (hv0 q e'.symm).2
   rw [hq.1.2] at h1
   exact e (Option.some.inj h1)
 ·by_cases e : kl = .int .i64 s.f1
  ·subst e
   rw [Maps.has_put_same (k := .int .i64 s.f1) him trivial]
   exact ⟨fun _ => ⟨s, by simp, rfl⟩, fun _ => rfl⟩
  ·rw [Maps.has_put_other e, h.2.2.2.1 kl]
   constructor
   ·rintro ⟨t, ht, rfl⟩; exact ⟨t, by simp [ht], rfl⟩
   ·rintro ⟨t, ht, rfl⟩
    rcases List.mem_append.1 ht with ht | ht
    ·exact ⟨t, ht, rfl⟩
    ·rw [List.mem_singleton] at ht; subst ht; exact absurd rfl e
 ·obtain ⟨es, rfl, he⟩ := h.2.2.2.2
  refine ⟨_, rfl, fun p hp => ?_⟩
  rcases mem_insert_dw _ _ _ hp with rfl | hp
  ·exact ⟨_, rfl⟩
  ·exact he p (List.mem_filter.1 hp).1
theorem GInv.keys {W : World} {b n m base : Nat} {dn : List S37} {own : Nat → Option Int} {G : Int → Value} {D : DataW Value} (h : GInv W b n m base dn own G D) {ss : List Int} (hp : ss.Perm (intKeys D)) : ss.mergeSort (fun x y => decide (x ≤ y)) = vsOf dn := by
 obtain ⟨es, rfl, ht⟩ := h.1.tidy (Maps.int_keyed Tryz.underlying2)
 have hk : ∀ p ∈ es, ∃ x, p.1 = .int .i64 x := by
  obtain ⟨es', e, he⟩ := h.2.2.2.2
  cases e
  exact he
 have hnd : (vsOf dn).Nodup := (vsOf_sorted dn).imp (fun h => Int.ne_of_lt h)
 have hq : (vsOf dn).Perm (intKeys (.map es)) := perm_intKeys ht hk hnd (fun x => by
  rw [mem_vsOf, h.2.2.2.1, List.mem_map]
  exact ⟨fun ⟨s, hs, e⟩ => ⟨s, hs, by rw [e]⟩, fun ⟨s, hs, e⟩ => ⟨s, hs, by simpa using e.symm⟩⟩)
 have e1 := mergeSort_of_perm_i (hp.trans hq.symm)
 refine e1.trans (List.mergeSort_of_pairwise ?_)
 exact (vsOf_sorted dn).imp (fun h => decide_eq_true (Int.le_of_lt h))
theorem group.walk (k : Nat) (l0 x : List S37) (A0 : Option Addr) (c0 : Nat) (w : World) (hr0 : Kd.C k37 w A0 l0.length l0) (hc0 : l0.length ≤ c0) (e1 : mapalg_Merge.f k l0 = some x) (hx : x.length < 1000000) (hok : x.all (fun s => okV s.f1) = true) :
 Calls Tryz.prog 35 #[.slice A0 l0.length c0] w fun e w' => ∃ v0_ v1_ : Value, e = .returned (.tuple #[v0_, v1_]) ∧ Kd.R (Kd.int .i64) 2 w' w.heap.size (fun _ => True) v0_ (vsOf x) ∧ Kd.S (Kd.slice 35 k35) 29 w' w.heap.size (fun _ => True) v1_ ((vsOf x).map (fun v => listS (spV x v))) ∧ Below w.heap.size w w' := by
 have hu37 := Tryz.underlying37; have hu35 := Tryz.underlying35
 have hmm := @run_makeMap Tryz.prog
 have CM : Aside0 (∀ W, Below w.heap.size w W → Calls Tryz.prog 16 #[.slice A0 l0.length c0] W fun e w' => ∃ v0_ : Value, e = .returned (v0_) ∧ Kd.R k37 37 w' W.heap.size (fun _ => True) v0_ x ∧ Below W.heap.size W w') := ⟨fun W hW => mapalg_Merge.calls k A0 c0 l0 x W (Kd.C_below hr0 hW) hc0 e1⟩
 have HX := am hx
 have HOK := am (List.all_eq_true.1 hok)
 have Z1 : Aside0 (0 < k35.sz) := ⟨by decide⟩
 have Z2 : Aside0 (0 < 32) := ⟨by decide⟩
 have Z4 : Aside0 ((Value.agg #[(.int .i64 0), (.int .i64 0), (.int .i64 0), (.int .i64 0)]).cells.size = k35.sz) := ⟨by decide⟩
 clear hr0 hc0 e1 hx hok; go_enter Tryz.func35, Tryz.ntmps35
 have YA := am (below_alloc (Below.refl w.heap.size w) (.map #[] 0))
 go_wp2_with (first | (go_at_call 16; (with_reducible refine (CM.out _ YA.out).mono ?_); rintro e w2 ⟨v2, rfl, ho, hb⟩; obtain ⟨A2, c2, rfl⟩ := Kd.R_slice ho; have HX2 := am ho; have HB2 := am hb; clear ho hb))
 clear hmm CM
 have YW := am (below_step YA.out HB2.out)
 have OM := am (ownsMap_blk (World.ownsMap_made w Tryz.prog 2 RH) (HB2.out.block w.heap.size (by simp)))
 have B2 : Aside0 (w.heap.size < w2.heap.size) := ⟨by have := HB2.out.size; simp at this; omega⟩
 have XK := am (Kd.C_kept_own (S := fun q => q = w.heap.size) (Kd.R_bound HX2.out) (fun q hq e => by have := hq.2.1; simp at this; omega))
 obtain ⟨n, hn⟩ : ∃ n, x.length = n := ⟨_, rfl⟩
 have HN := am hn
 rw [hn]
 clear hn
 go_loopg [15] (n + 1) (fun kq v15 w' => ∃ (j : Nat) (own : Nat → Option Int) (G : Int → Value) (D : DataW Value), v15 = .int .i64 (j : Int) ∧ Aside0 (kq + j = n + 1) ∧ Aside0 (j ≤ n) ∧ Aside0 (GInv w' w.heap.size j w2.heap.size w.heap.size (x.take j) own G D) ∧ Aside0 (Kept w2 w' (fun q => q = w.heap.size)) ∧ Aside0 (Below w.heap.size w w'))
 case atStart => exact ⟨0, fun _ => none, _, _, rfl, ⟨rfl⟩, ⟨Nat.zero_le _⟩, ⟨GInv.start w2 w2.heap.size w.heap.size (fun _ => none) w.heap.size OM.out⟩, ⟨Kept.refl _ _⟩, YW⟩
 case round =>
  clear OM YW YA HB2 HX2
  obtain ⟨j, own, G, D, rfl, HQ, HJ, GI, K8, HB⟩ := hrel
  by_cases hj : j < n
  ·have p1 : 0 ≤ (j : Int) := Int.natCast_nonneg j
   have q1 : (j : Int) < (x.length : Int) := by rw [HN.out]; omega
   have q2 : (j : Int) < (n : Int) := by omega
   have bj : decide ((j : Int) < (n : Int)) = true := decide_eq_true q2
   have hjx : j < x.length := by rw [HN.out]; exact hj
   obtain ⟨ad, ea, hx0, hx1, hx2, hx3, hx4⟩ := at_T37 (XK.out wr K8.out) (j : Int) p1 q1; cases ea
   obtain ⟨⟨⟨⟨s1, s2⟩, ⟨s3, s4⟩⟩, sv⟩, hs⟩ : ∃ s : S37, rd_T37 x (j : Int) = s := ⟨_, rfl⟩
   have hxj : x[j] = (⟨⟨⟨s1, s2⟩, ⟨s3, s4⟩⟩, sv⟩ : S37) := by rw [← hs]; simp [rd_T37, hjx]
   rw [hs] at hx0 hx1 hx2 hx3 hx4
   simp only [Int.toNat_natCast] at hx0 hx1 hx2 hx3 hx4
   have hsv : okV sv = true := by have := HOK.out _ (List.getElem_mem hjx); rw [hxj] at this; exact this
   have HT : Aside0 (x.take (j + 1) = x.take j ++ [(⟨⟨⟨s1, s2⟩, ⟨s3, s4⟩⟩, sv⟩ : S37)]) := ⟨by rw [List.take_succ_eq_append_getElem hjx, hxj]⟩
   have HSV := am hsv; clear hs hxj hsv; replace p1 := eq_true p1; replace q2 := eq_true q2
   go_upto_region 5 with fail
   have LB : Aside0 (w.heap.size < wr.heap.size) := ⟨Nat.lt_of_lt_of_le B2.out K8.out.1⟩
   have BS : Aside0 ((wr.alloc (.cells #[.int .i64 s1, .int .i64 s2, .int .i64 s3, .int .i64 s4, .int .i64 sv] 37)).heap[wr.heap.size]? = some (.cells #[.int .i64 s1, .int .i64 s2, .int .i64 s3, .int .i64 s4, .int .i64 sv] 37 (0, 0))) := ⟨World.alloc_heap_new wr _⟩
   have YS : Below wr.heap.size wr (wr.alloc (.cells #[.int .i64 s1, .int .i64 s2, .int .i64 s3, .int .i64 s4, .int .i64 sv] 37)).drew := below_drew1 (below_alloc (Below.refl _ _) _)
   have GS := am (show (wr.alloc (.cells #[.int .i64 s1, .int .i64 s2, .int .i64 s3, .int .i64 s4, .int .i64 sv] 37)).drew.heap.size = wr.heap.size + 1 by simp)
   have GI5 := am (GI.out.move (W' := (wr.alloc (.cells #[.int .i64 s1, .int .i64 s2, .int .i64 s3, .int .i64 s4, .int .i64 sv] 37)).drew) (YS.block _ LB.out) (fun q _ hl => YS.block q hl))
   have HB5 := am (below_step HB.out YS)
   have KW5 : Aside0 (∀ q, q < wr.heap.size → (wr.alloc (.cells #[.int .i64 s1, .int .i64 s2, .int .i64 s3, .int .i64 s4, .int .i64 sv] 37)).drew.heap[q]? = wr.heap[q]?) := ⟨fun q hq => YS.block q hq⟩
   clear YS hx0 hx1 hx2 hx3 hx4 p1 q1; generalize hws : wr.alloc (.cells #[.int .i64 s1, .int .i64 s2, .int .i64 s3, .int .i64 s4, .int .i64 sv] 37) = ws at *; clear hws
   obtain ⟨gs, hgs⟩ : ∃ g, wr.heap.size = g := ⟨_, rfl⟩
   rw [hgs] at BS
   rw [hgs]
   have HGS := am hgs; clear hgs; have hlk := GI5.out.look HSV.out; have hlk2 := (GI5.out.move (W' := (ws.alloc (.cells #[.int .i64 s1, .int .i64 s2, .int .i64 s3, .int .i64 s4] 35)).drew) (Below.heap_alloc ws _ _ GI5.out.1.lt) (fun q _ hl => Below.heap_alloc ws _ _ hl)).look HSV.out; have HOv := GI5.out.2.2.1 sv HSV.out
   obtain ⟨Ag, cg, hG⟩ := Kd.R_slice HOv
   rw [hG] at hlk hlk2 HOv
   have own1 := am (GI.out.2.2.1 sv HSV.out)
   obtain ⟨own', hown'⟩ : ∃ own' : Nat → Option Int, own' = fun q => if q < gs then own q else if q = gs then none else some sv := ⟨_, rfl⟩
   have OW1 : Aside0 (∀ q, q < gs → own' q = own q) := ⟨fun q hq => by rw [hown']; simp [hq]⟩
   have OW2 : Aside0 (own' gs = none) := ⟨by rw [hown']; simp⟩
   have OW3 : Aside0 (∀ q, gs < q → own' q = some sv) := ⟨fun q hq => by rw [hown']; simp [show ¬ q < gs by omega, show q ≠ gs by omega]⟩
   clear hown'
   have W2S : Aside0 (w2.heap.size ≤ gs) := ⟨by rw [← HGS.out]; exact K8.out.1⟩
   have HO5 : Aside0 (Kd.R k35 35 ws.drew w.heap.size (fun q => w2.heap.size ≤ q ∧ own' q = some sv) (.slice Ag (spV (x.take j) sv).length cg) (spV (x.take j) sv)) := ⟨by
    have h1 := Kd.R_step (Kd.R_bound own1.out) (w1 := ws.drew) (fun q hq hl => KW5.out q hl)
    rw [hG] at h1
    exact Kd.R_mono h1 (fun q hq => ⟨hq.1.1, by rw [OW1.out q (by rw [← HGS.out]; exact hq.2.2.1)]; exact hq.1.2⟩)⟩
   have FR5 : Aside0 (∀ q, ws.drew.heap.size ≤ q → w2.heap.size ≤ q ∧ own' q = some sv) := ⟨fun q hq => by
    have h1 := GS.out; have h2 := W2S.out; have h3 := HGS.out
    exact ⟨by omega, OW3.out q (by omega)⟩⟩
   have LN5 : Aside0 (((spV (x.take j) sv).length + 1) * 32 ≤ 140737488355328) := ⟨by have := spV_le (x.take j) sv; have h2 := HX.out; rw [List.length_take] at this; omega⟩
   have AWG : Aside0 (some gs ≠ (Value.slice Ag (spV (x.take j) sv).length cg).ownBlock) := ⟨Kd.R_away HO5.out (fun q hq e => by rw [e, OW2.out] at hq; cases hq.2)⟩
   have AWB : Aside0 (some w.heap.size ≠ (Value.slice Ag (spV (x.take j) sv).length cg).ownBlock) := ⟨Kd.R_away HO5.out (fun q hq e => by have := hq.1; have := B2.out; omega)⟩
   have NGB : Aside0 (gs ≠ w.heap.size) := ⟨by have := W2S.out; have := B2.out; omega⟩
   have HO5B : Aside0 (∀ q, (Value.slice Ag (spV (x.take j) sv).length cg).ownBlock = some q → w2.heap.size ≤ q) := ⟨fun q hq => (HO5.out.1 q hq).1⟩
   have HGv := am hG
   have HNX : Aside0 (j < maxLen) := ⟨by have := HJ.out; have := HN.out; have := HX.out; simp only [maxLen]; omega⟩
   have KG : ∀ w' : World, w'.heap[gs]? = some (.cells #[.int .i64 s1, .int .i64 s2, .int .i64 s3, .int .i64 s4, .int .i64 sv] 37 (0, 0)) → w'.cell? ⟨gs, 0, none⟩ = some (.int .i64 s1) ∧ w'.cell? ⟨gs, 1, none⟩ = some (.int .i64 s2) ∧ w'.cell? ⟨gs, 2, none⟩ = some (.int .i64 s3) ∧ w'.cell? ⟨gs, 3, none⟩ = some (.int .i64 s4) ∧ w'.cell? ⟨gs, 4, none⟩ = some (.int .i64 sv) := fun w' h => ⟨(blk_cell h 0).trans rfl, (blk_cell h 1).trans rfl, (blk_cell h 2).trans rfl, (blk_cell h 3).trans rfl, (blk_cell h 4).trans rfl⟩
   have KG' := am KG
   clear KG HOv hG
   have BSd : Aside0 (ws.drew.heap[gs]? = some (.cells #[.int .i64 s1, .int .i64 s2, .int .i64 s3, .int .i64 s4, .int .i64 sv] 37 (0, 0))) := BS
   go_region_held3 (fun w' => w'.cell? ⟨gs, 0, none⟩ = some (.int .i64 s1) ∧ w'.cell? ⟨gs, 1, none⟩ = some (.int .i64 s2) ∧ w'.cell? ⟨gs, 2, none⟩ = some (.int .i64 s3) ∧ w'.cell? ⟨gs, 3, none⟩ = some (.int .i64 s4) ∧ w'.cell? ⟨gs, 4, none⟩ = some (.int .i64 sv)) (first | exact KG'.out _ BSd.out | exact KG'.out _ (blk_alloc BSd.out _) | exact KG'.out _ B1.out | exact KG'.out _ B11.out)
    ((first | (refine Kd.R_append_step k35 (w0 := w) w.heap.size ?hw (.tmp 25) (.tmp 28) 29 35 (.agg #[(.int .i64 0), (.int .i64 0), (.int .i64 0), (.int .i64 0)]) 32 ?ho Tryz.underlying29 info35 Z4.out Z1.out Z2.out (.slice Ag (spV (x.take j) sv).length cg) (spV (x.take j) sv) (⟨⟨s1, s2⟩, ⟨s3, s4⟩⟩ : S35) [.int .i64 s1, .int .i64 s2, .int .i64 s3, .int .i64 s4] (fun q => w2.heap.size ≤ q ∧ own' q = some sv) (fun _ => False) ?e1 ?e2 (k35_mkM _ _ _ (⟨⟨s1, s2⟩, ⟨s3, s4⟩⟩ : S35)) (fun _ hk => hk.elim) FR5.out HO5.out HB5.out ?aS LN5.out ?_; (case hw => rfl); (case ho => rfl); (case e1 => rfl); (case e2 => rfl); (case aS => exact below_size HB5.out); intro v1 w1 ho hb hgr hat; obtain ⟨A1, c1, rfl⟩ := Kd.R_slice ho; have HO1 := am ho; have HB1 := am hb; have HG1 := am hgr; have B1 := am (blk_grown BSd.out hgr AWG.out); obtain ⟨w11, hup, hown11, hg11⟩ := (ownsMap_blk GI5.out.1 (hgr.block _ GI5.out.1.lt AWB.out)).update (t := 96) (e := 29) (key := .int .i64 sv) (val := .slice A1 (spV (x.take j) sv ++ [(⟨⟨s1, s2⟩, ⟨s3, s4⟩⟩ : S35)]).length c1) (Maps.int_keyed Tryz.underlying2) Tryz.underlying96 HNX.out (Maps.keyOf_int_mk Tryz.underlying2 (okV_wf HSV.out)) rfl; simp only [List.length_append, List.length_cons, List.length_nil, Nat.zero_add] at hup; have HU := am hown11; have HG11 := am hg11; have B11 := am (blk_grown B1.out hg11 (fun e => NGB.out (Option.some.inj e))); clear ho hb hgr hat hown11 hg11)))
   all_goals
    clear hlk hlk2 OW2 OW3 HO5 FR5 LN5 AWB KG' BS BSd B1 B11 own1 hup
    have GN := am (GInv.step GI.out (⟨⟨⟨s1, s2⟩, ⟨s3, s4⟩⟩, sv⟩ : S37) HSV.out own' (.slice A1 (spV (x.take j) sv ++ [(⟨⟨s1, s2⟩, ⟨s3, s4⟩⟩ : S35)]).length c1) (fun q hq => OW1.out q (by rw [← HGS.out]; exact hq)) (fun q hq hne => (HG1.out.block q (by have := GS.out; omega) (by rw [HGv.out] at hne; exact hne)).trans (KW5.out q hq)) HO1.out HU.out HG11.out B2.out (by have h1 := HG1.out.size; have h2 := GS.out; omega))
    have KN := am (Kept.of_grown HG11.out (Kept.of_grown HG1.out (K8.out.then_ (S2 := fun _ => False) ⟨by have := GS.out; omega, fun i hi _ => KW5.out i hi⟩ (fun _ h => h.elim)) (fun q hq => .inr (HO5B.out q hq))) (fun q hq => .inl (Option.some.inj hq).symm))
    have HBN := am (pw_below_grown HB1.out (some w.heap.size) HB1.out.size HG11.out (fun q hq => Nat.le_of_eq (Option.some.inj hq)))
    clear GI K8 HB HB1 HG1 HU HG11 HO1 GI5 HB5 KW5 GS AWG HGv OW1
    obtain ⟨k1, rfl⟩ : ∃ k1, gk = k1 + 1 := ⟨gk - 1, by have := HQ.out; omega⟩
    have hw : wrap64 ((j : Int) + 1) = ((j + 1 : Nat) : Int) := by
     have := HN.out; have := HX.out
     unfold wrap64; push_cast; omega
    go_wp2
    go_roundg k1
    case measure => omega
    case rel => exact ⟨j + 1, own', _, _, by first | rfl | (rw [← hw]; rfl) | (simp [hw]; done), ⟨by have := HQ.out; omega⟩, ⟨by omega⟩, ⟨by rw [HT.out]; exact GN.out⟩, KN, HBN⟩
  ·have bj : decide ((j : Int) < (n : Int)) = false := decide_eq_false (by omega)
   have hjn : j = n := by have := HJ.out; omega
   subst hjn
   have hfull : x.take j = x := List.take_of_length_le (by rw [HN.out]; exact Nat.le_refl _)
   have GI2 := GI.out
   rw [hfull] at GI2
   have GF := am GI2
   have SZ : Aside0 (Maps.size D ≤ 1000000) := ⟨by have := GI2.1.size_le; have := HN.out; have := HX.out; omega⟩
   have Y1 : Aside0 (Maps.size D ≤ maxLen) := ⟨by have := SZ.out; simp only [maxLen]; omega⟩
   have Y2 : Aside0 (Maps.size D * 8 ≤ 140737488355328) := ⟨by have := SZ.out; omega⟩
   clear GI GI2 hfull XK
   go_wp2_with (first | (go_at_call 72; (with_reducible refine (keys72 (some w.heap.size) _).mono ?_); rintro e w3 ⟨rfl, rfl⟩; skip) | (go_at_call 71; fail))
   refine (sorted71 w.heap.size j D RH wr GF.out.1 Y1.out Y2.out).mono ?_
   rintro e w4 ⟨v4, ss, rfl, hp, hrow, hnil, hb⟩
   have hkeys := GF.out.keys hp
   have el : ss.length = (vsOf x).length := by rw [← hkeys, List.length_mergeSort]
   rw [hkeys, el] at hrow
   obtain ⟨A4, c4, rfl⟩ := own_slice hrow
   have HV := am (Kd.R_of_own (enc := Value.int .i64) (h1 := fun _ => rfl) (ok := fun _ => True) (xs := vsOf x) hrow (fun _ _ => trivial))
   have Y4 := am hb; clear hkeys el hrow hnil hb hp; go_wp2
   have GF4 := am (GF.out.move (Y4.out.block _ GF.out.1.lt) (fun q _ hl => Y4.out.block q hl))
   have HB4 := am (below_step HB.out Y4.out)
   have VM : Aside0 ((vsOf x).length < 1000000) := ⟨by have := vsOf_le x; have := HX.out; omega⟩
   have VO : Aside0 (∀ v ∈ vsOf x, okV v = true) := ⟨fun v hv => by obtain ⟨s, hs, rfl⟩ := List.mem_map.1 ((mem_vsOf x v).1 hv); exact HOK.out s hs⟩
   have HV4 := am (Kd.R_lower HV.out HB.out.size)
   clear GF HB HV Y4 K8 SZ Y1 Y2 bj hj HJ HQ B2
   obtain ⟨m, hm⟩ : ∃ m, (vsOf x).length = m := ⟨_, rfl⟩
   have HM := am hm
   rw [hm]
   clear hm
   have i29 : Aside0 ((Tryz.prog.info? 29).map (fun i => (i.zero, i.size, i.bytes)) = some (some (.slice none 0 0), 1, 24)) := ⟨by kernel_rfl⟩
   go_loopg [8, 36] (m + 1) (fun kq v8 v36 w' => ∃ i : Nat, v36 = .int .i64 (i : Int) ∧ Aside0 (kq + i = m + 1) ∧ Aside0 (i ≤ m) ∧ Aside0 (Kd.S (Kd.slice 35 k35) 29 w' w.heap.size (fun q => w4.heap.size ≤ q) v8 (((vsOf x).take i).map (fun v => listS (spV x v)))) ∧ Aside0 (Below w4.heap.size w4 w'))
   case atStart => exact ⟨0, rfl, ⟨rfl⟩, ⟨Nat.zero_le _⟩, ⟨Kd.S_nil _ _ _ _ _⟩, ⟨Below.refl _ _⟩⟩
   case round =>
    obtain ⟨i, rfl, HQ, HJ, HO, YB⟩ := hrel
    by_cases hi : i < m
    ·have p1 : 0 ≤ (i : Int) := Int.natCast_nonneg i
     have q2 : (i : Int) < (m : Int) := by omega
     have q1 : (i : Int) < ((vsOf x).length : Int) := by rw [HM.out]; exact q2
     have bi : decide ((i : Int) < (m : Int)) = true := decide_eq_true q2
     have hil : i < (vsOf x).length := by rw [HM.out]; exact hi
     obtain ⟨g4, c4', hv4, _, hg4, _⟩ := Kd.R_form HV4.out (by omega)
     have e4 : A4 = some ⟨g4, 0, none⟩ := by cases hv4; rfl
     subst e4
     have hc := (Kd.R_cell (0 : Int) HV4.out (i : Int) p1 q1).1
     have hrd : rdOf (0 : Int) (vsOf x) (i : Int) = (vsOf x)[i] := by simp [rdOf, hil]
     rw [hrd, Int.toNat_natCast] at hc
     replace hc := cl YB hc
     obtain ⟨v, hv⟩ : ∃ v, (vsOf x)[i] = v := ⟨_, rfl⟩
     rw [hv] at hc
     have hvo : okV v = true := by rw [← hv]; exact VO.out _ (List.getElem_mem hil)
     have GW := GF4.out.move (W' := wr) (YB.out.block _ GF4.out.1.lt) (fun q _ hl => YB.out.block q hl)
     have hlk := GW.look hvo
     have HOv := GW.2.2.1 v hvo
     obtain ⟨Ag, cg, hG⟩ := Kd.R_slice HOv
     rw [hG] at hlk HOv
     have eS : span_List.f k (spV x v) = some (listS (spV x v)) := by
      unfold span_List.f
      rw [if_pos (by have := spV_le x v; have := HX.out; omega)]
     have CS := am (span_List.calls k Ag cg (spV x v) (listS (spV x v)) wr (Kd.R_reads' HOv).2.2 (Kd.R_reads' HOv).2.1 eS)
     have HT : Aside0 (((vsOf x).take (i + 1)).map (fun v => listS (spV x v)) = ((vsOf x).take i).map (fun v => listS (spV x v)) ++ [listS (spV x v)]) := ⟨by rw [List.take_succ_eq_append_getElem hil, List.map_append, hv]; rfl⟩
     obtain ⟨A8, c8, rfl⟩ := Kd.R_slice (Kd.S_R HO.out)
     have HOb := am (Kd.S_bound HO.out)
     have HBW := am (below_step HB4.out YB.out)
     have HLn : Aside0 ((((vsOf x).take i).map (fun v => listS (spV x v))).length < 1000000) := ⟨by rw [List.length_map, List.length_take]; have := VM.out; omega⟩
     clear hv hil hrd GW HOv hG eS hvo hv4 hg4 HO; replace p1 := eq_true p1; replace q2 := eq_true q2; generalize hys : ((vsOf x).take i).map (fun v => listS (spV x v)) = ys at *; clear hys
     go_wp2_with (first | (go_at_call 69; (with_reducible refine CS.out.mono ?_); rintro e w5 ⟨v5, rfl, ho, hb⟩; obtain ⟨A5, c5, rfl⟩ := Kd.R_slice ho; have HR5 := am ho; have Y5 := am hb; clear ho hb) | ((with_reducible refine gate_builtin (b := .append) (xs := #[.tmp 40, .tmp 45]) rfl ?_); at_builtin; refine Kd.S_append (Kd.slice 35 k35) (w0 := w) w.heap.size rfl (.tmp 40) (.tmp 45) 54 29 (.slice none 0 0) 24 rfl Tryz.underlying54 i29.out rfl (by decide) (by omega) (.slice A8 ys.length c8) ys (listS (spV x v)) [.slice A5 (listS (spV x v)).length c5] (fun q => w4.heap.size ≤ q) (fun q => wr.heap.size ≤ q) rfl rfl ?aP ?aK ?aF ?aO ?aB ?aS ?aL ?_; (case aP => exact ⟨_, rfl, Kd.R_lower (Kd.R_mono (Kd.R_bound HR5.out) (fun q hq => hq.2.1)) (Nat.le_trans HB4.out.size YB.out.size)⟩); (case aK => exact (fun q hq => ⟨Nat.le_trans YB.out.size hq, fun e => by have := ((Kd.S_R HOb.out).1 q e.symm).2.2.1; omega⟩)); (case aF => exact (fun q hq => Nat.le_trans YB.out.size (Nat.le_trans Y5.out.size hq))); (case aO => exact Kd.S_mono (Kd.S_below HOb.out Y5.out) (fun q hq => ⟨hq.1, fun h => by have := hq.2.2.1; omega⟩)); (case aB => exact below_step HBW.out Y5.out); (case aS => exact Nat.le_trans HBW.out.size Y5.out.size); (case aL => have := HLn.out; omega); intro v6 w6 ho hb hgr hat; have HO6 := am ho; have YB6 := am (pw_below_grown (below_step YB.out Y5.out) _ (Nat.le_trans YB.out.size Y5.out.size) hgr (fun q hq => ((Kd.S_R HOb.out).1 q hq).1)); clear ho hb hgr hat))
     obtain ⟨k1, rfl⟩ : ∃ k1, gk = k1 + 1 := ⟨gk - 1, by have := HQ.out; omega⟩
     have hw : wrap64 ((i : Int) + 1) = ((i + 1 : Nat) : Int) := by
      have := HM.out; have := VM.out
      unfold wrap64; push_cast; omega
     go_roundg k1
     case measure => omega
     case rel => exact ⟨i + 1, by first | rfl | (rw [← hw]; rfl) | (simp [hw]; done), ⟨by have := HQ.out; omega⟩, ⟨by omega⟩, ⟨by rw [HT.out]; exact HO6.out⟩, YB6⟩
    ·have bi : decide ((i : Int) < (m : Int)) = false := decide_eq_false (by omega)
     have him : i = m := by have := HJ.out; omega
     subst him
     have hfull : (vsOf x).take i = vsOf x := List.take_of_length_le (by rw [HM.out]; exact Nat.le_refl _)
     have HO2 := HO.out
     rw [hfull] at HO2
     have HV5 := HV4.out
     rw [HM.out] at HV5
     obtain ⟨A8, c8, hv8⟩ := Kd.R_slice (Kd.S_R HO2)
     go_wp2
     go_ret2
     exact ⟨_, _, rfl, Kd.R_below HV5 YB.out, Kd.S_mono HO2 (fun _ _ => trivial), below_step HB4.out YB.out⟩
theorem mapalg_Group.calls (k : Nat) (A0 : Option Addr) (c0 : Nat) (l0 : List S37) (r0 : List Int) (r1 : List (List S35)) (w : World) (hr0 : Kd.C k37 w A0 l0.length l0) (hc0 : l0.length ≤ c0) (h : mapalg_Group.f k l0 = some (r0, r1)) :
 Calls Tryz.prog 35 #[.slice A0 l0.length c0] w fun e w' => ∃ v0_ v1_ : Value, e = .returned (.tuple #[v0_, v1_]) ∧ Kd.R (Kd.int .i64) 2 w' w.heap.size (fun _ => True) v0_ r0 ∧ Kd.S (Kd.slice 35 k35) 29 w' w.heap.size (fun _ => True) v1_ r1 ∧ Below w.heap.size w w' := by
 obtain ⟨x, e1, h⟩ := Option.bind_eq_some_iff.1 h
 split at h
 case isFalse => cases h
 rename_i hl
 cases h
 exact group.walk k l0 x A0 c0 w hr0 hc0 e1 hl.1 hl.2
end Go.Proofs.YtbcpnejdbookkaaGreat.Print
namespace Go.Proofs.YtbcpnejdbookkaaGreat.Print
open Go.RowKit Go.Proofs.YtbcpnejdbookkaaGreatW.PrintWords Go.Proofs.YtbcpnejdbookkaaGreatW.PrintLast Go.Proofs.YtbcpnejdbookkaaGreatW.PrintMore
attribute [local go_sem] max2_int min2_int max_two min_two max_three min_three max_four min_four   -- for this text's walks alone
theorem eqA37 (d : Nat) (w : World) (x0 y0 : Int) (x1 y1 : Int) (x2 y2 : Int) (x3 y3 : Int) (x4 y4 : Int) :
 (Op.equalIn (d + 4) 37 (.agg #[.int .i64 x0, .int .i64 x1, .int .i64 x2, .int .i64 x3, .int .i64 x4]) (.agg #[.int .i64 y0, .int .i64 y1, .int .i64 y2, .int .i64 y3, .int .i64 y4])).run Tryz.prog w = .ok (((x0 == y0 && (x1 == y1)) && ((x2 == y2 && (x3 == y3)))) && (x4 == y4)) w := by
 refine eqA_of Tryz.underlying37 (by kernel_rfl) ?_
 refine eqf_cons (by rfl) (by go_simp) (by go_simp) (eqA35 (d + 0) w _ _ _ _ _ _ _ _) ?_
 exact eqf_last (by rfl) (by go_simp; rfl) (by go_simp; rfl) (by go_simp)
end Go.Proofs.YtbcpnejdbookkaaGreat.Print
namespace Go.Proofs.YtbcpnejdbookkaaGreat.Print
open Go.RowKit Go.Proofs.YtbcpnejdbookkaaGreatW.PrintWords Go.Proofs.YtbcpnejdbookkaaGreatW.PrintLast Go.Proofs.YtbcpnejdbookkaaGreatW.PrintMore
attribute [local go_sem] max2_int min2_int max_two min_two max_three min_three max_four min_four   -- for this text's walks alone
attribute [local go_sem high] eqA37
def bocageref14_Same.l0 : Nat → List (S37) → List (S37) → Int → Option (Bool)
  | 0, _, _, _ => none
  | k + 1, x0, x1, x5 => if x5 < (x0.length : Int) then (if 0 ≤ x5 then (if x5 < (x1.length : Int) then (if (((!(((rd_T37 x0 x5).f0.f0.f0) == ((rd_T37 x1 x5).f0.f0.f0)) || (!(((rd_T37 x0 x5).f0.f0.f1) == ((rd_T37 x1 x5).f0.f0.f1)))) || ((!(((rd_T37 x0 x5).f0.f1.f0) == ((rd_T37 x1 x5).f0.f1.f0)) || (!(((rd_T37 x0 x5).f0.f1.f1) == ((rd_T37 x1 x5).f0.f1.f1)))))) || (!(((rd_T37 x0 x5).f1) == ((rd_T37 x1 x5).f1)))) = true then (some false) else (bocageref14_Same.l0 k x0 x1 (wrap64 (x5 + 1)))) else (none)) else (none)) else (some true)
def bocageref14_Same.f (k : Nat) (l0 : List (S37)) (l1 : List (S37)) : Option (Bool) := if (l0.length : Int) = (l1.length : Int) then (bocageref14_Same.l0 k l0 l1 0) else (some false)
theorem bocageref14_Same.mono_l : ∀ k, (∀ y0 y1 y2, LeO (bocageref14_Same.l0 k y0 y1 y2) (bocageref14_Same.l0 (k + 1) y0 y1 y2))
 | 0 => fun _ _ _ r h => by simp [bocageref14_Same.l0] at h
 | k + 1 => by
  have ih0 := bocageref14_Same.mono_l k
  ·intro y0 y1 y2
   unfold bocageref14_Same.l0
   repeat' with_reducible first | apply ih0 | apply lr | apply ln | apply li | refine lb ?_ fun _ => ?_
theorem bocageref14_Same.mono : ∀ a0 a1 k, LeO (bocageref14_Same.f k a0 a1) (bocageref14_Same.f (k + 1) a0 a1) := by
 intro a0 a1 k
 have ih0 := bocageref14_Same.mono_l k
 unfold bocageref14_Same.f
 repeat' with_reducible first | apply ih0 | apply lr | apply ln | apply li | refine lb ?_ fun _ => ?_
theorem bocageref14_Same.calls (k : Nat) (A0 : Option Addr) (c0 : Nat) (l0 : List (S37)) (A1 : Option Addr) (c1 : Nat) (l1 : List (S37)) (r : Bool) (w : World) (hr0 : Kd.C k37 w A0 l0.length l0) (hc0 : l0.length ≤ c0) (hr1 : Kd.C k37 w A1 l1.length l1) (hc1 : l1.length ≤ c1) (h : bocageref14_Same.f k l0 l1 = some r) :
 Calls Tryz.prog 14 #[.slice A0 l0.length c0, .slice A1 l1.length c1] w fun e w' => e = .returned (.bool r) ∧ Drawn0 w w' := by
 have hu37 := Tryz.underlying37; have HR0 := am hr0; have HC0 := am hc0; clear hr0 hc0; have HR1 := am hr1; have HC1 := am hc1; clear hr1 hc1
 unfold bocageref14_Same.f at h; have H := h; clear h
 by_cases c3 : (l0.length : Int) = (l1.length : Int)
 ·rw [if_pos c3] at H
  have c3b0 : ((l0.length : Int) == (l1.length : Int)) = true := beq_iff_eq.mpr c3
  have c3b1 : ((l0.length : Int) != (l1.length : Int)) = false := bne_eq_false_iff_eq.mpr c3
  have c3b2 : (l0.length == l1.length) = true := by first | simpa using c3 | (simp at c3 ⊢; omega)
  clear c3; have H' := am H; clear H; go_enter Tryz.func14, Tryz.ntmps14; go_wp2
  repeat (go_quiet (fail); try go_wp2)
  go_loopg [5] k (fun kq v5 w' => ∃ (x5_1 : Int), v5 = .int .i64 x5_1 ∧ Aside0 (bocageref14_Same.l0 kq l0 l1 x5_1 = some r) ∧ Aside0 (kq ≤ k) ∧ Drawn0 w w')
  case atStart => exact ⟨_, rs, H', ⟨Nat.le_refl _⟩, dn⟩
  case round =>
   clear H'
   try clear c1
   try clear p2
   try clear c3
   try clear c3b0
   try clear c3b1
   try clear c3b2
   obtain ⟨x5_1, rfl, HA, HK1, ⟨m1, rfl⟩⟩ := hrel
   cases gk with
   | zero => exact absurd HA.out (by simp [bocageref14_Same.l0])
   | succ k1 =>
    have H := HA.out; clear HA
    simp only [bocageref14_Same.l0] at H
    revert H; refine itc (fun c4b0 H => ?_) fun c4b0 H => ?_
    ·revert H; refine its fun c5b0 H => ?_
     revert H; refine its fun c6b0 H => ?_
     by_cases c7 : (((!(((rd_T37 l0 x5_1).f0.f0.f0) == ((rd_T37 l1 x5_1).f0.f0.f0)) || (!(((rd_T37 l0 x5_1).f0.f0.f1) == ((rd_T37 l1 x5_1).f0.f0.f1)))) || ((!(((rd_T37 l0 x5_1).f0.f1.f0) == ((rd_T37 l1 x5_1).f0.f1.f0)) || (!(((rd_T37 l0 x5_1).f0.f1.f1) == ((rd_T37 l1 x5_1).f0.f1.f1)))))) || (!(((rd_T37 l0 x5_1).f1) == ((rd_T37 l1 x5_1).f1)))) = true
     ·rw [if_pos c7] at H
      have c7b0 : (((!(((rd_T37 l0 x5_1).f0.f0.f0) == ((rd_T37 l1 x5_1).f0.f0.f0)) || (!(((rd_T37 l0 x5_1).f0.f0.f1) == ((rd_T37 l1 x5_1).f0.f0.f1)))) || ((!(((rd_T37 l0 x5_1).f0.f1.f0) == ((rd_T37 l1 x5_1).f0.f1.f0)) || (!(((rd_T37 l0 x5_1).f0.f1.f1) == ((rd_T37 l1 x5_1).f0.f1.f1)))))) || (!(((rd_T37 l0 x5_1).f1) == ((rd_T37 l1 x5_1).f1)))) = true := c7
      clear c7; obtain rfl := Option.some.inj H
      obtain ⟨ad168, e168, hx168_0, hx168_1, hx168_2, hx168_3, hx168_4, p168, q168⟩ := ay37 HR0.out x5_1
      cases e168
      obtain ⟨ad169, e169, hx169_0, hx169_1, hx169_2, hx169_3, hx169_4, p169, q169⟩ := ay37 HR1.out x5_1
      cases e169; go_wp2
      repeat (go_quiet (fail); try go_wp2)
      go_ret
      exact ⟨rs, dn⟩
     ·rw [if_neg c7] at H
      have c7b0 : (((!(((rd_T37 l0 x5_1).f0.f0.f0) == ((rd_T37 l1 x5_1).f0.f0.f0)) || (!(((rd_T37 l0 x5_1).f0.f0.f1) == ((rd_T37 l1 x5_1).f0.f0.f1)))) || ((!(((rd_T37 l0 x5_1).f0.f1.f0) == ((rd_T37 l1 x5_1).f0.f1.f0)) || (!(((rd_T37 l0 x5_1).f0.f1.f1) == ((rd_T37 l1 x5_1).f0.f1.f1)))))) || (!(((rd_T37 l0 x5_1).f1) == ((rd_T37 l1 x5_1).f1)))) = false := by simpa using c7
      clear c7; have H' := am H; clear H
      obtain ⟨ad168, e168, hx168_0, hx168_1, hx168_2, hx168_3, hx168_4, p168, q168⟩ := ay37 HR0.out x5_1
      cases e168
      obtain ⟨ad169, e169, hx169_0, hx169_1, hx169_2, hx169_3, hx169_4, p169, q169⟩ := ay37 HR1.out x5_1
      cases e169; go_wp2
      repeat (go_quiet (fail); try go_wp2)
      go_roundg k1
      case measure => have := HK1.out; omega
      case rel => exact ⟨_, rs, H', kl HK1, dn⟩
    ·obtain rfl := Option.some.inj H; go_wp2
     repeat (go_quiet (fail); try go_wp2)
     go_ret
     exact ⟨rs, dn⟩
 ·rw [if_neg c3] at H
  have c3b0 : ((l0.length : Int) == (l1.length : Int)) = false := beq_eq_false_iff_ne.mpr c3
  have c3b1 : ((l0.length : Int) != (l1.length : Int)) = true := bne_iff_ne.mpr c3
  have c3b2 : (l0.length == l1.length) = false := by first | simpa using c3 | (simp at c3 ⊢; omega)
  obtain rfl := Option.some.inj H; go_enter Tryz.func14, Tryz.ntmps14; go_wp2
  repeat (go_quiet (fail); try go_wp2)
  go_ret
  exact ⟨rs, dn⟩
end Go.Proofs.YtbcpnejdbookkaaGreat.Print
namespace Go.Proofs.YtbcpnejdbookkaaGreat.Print
open Go.RowKit Go.Proofs.YtbcpnejdbookkaaGreatW.PrintWords Go.Proofs.YtbcpnejdbookkaaGreatW.PrintLast Go.Proofs.YtbcpnejdbookkaaGreatW.PrintMore
attribute [local go_sem] max2_int min2_int max_two min_two max_three min_three max_four min_four   -- for this text's walks alone
def bocagelaw16_alive.f (k : Nat)  : Option (Bool) := (bocagelaw16_to.f 0 4 5).bind fun bt292 => ((some (([(⟨(⟨(⟨bt292.1, bt292.2.1⟩ : S33), (⟨bt292.2.2.1, bt292.2.2.2.1⟩ : S33)⟩ : S35), bt292.2.2.2.2⟩ : S37)] : List (S37)) : List (S37))).bind fun y297 => ((bocagelaw16_to.f 2 6 1).bind fun bt300 => ((some (([(⟨(⟨(⟨bt300.1, bt300.2.1⟩ : S33), (⟨bt300.2.2.1, bt300.2.2.2.1⟩ : S33)⟩ : S35), bt300.2.2.2.2⟩ : S37)] : List (S37)) : List (S37))).bind fun y305 => ((mapalg_Both.f k 2 y297 y305).bind fun t308 => ((mapalg_Group.f k t308).bind fun bt311 => ((mapalg_Both.f k 2 y297 y305).bind fun t317 => ((bocagelaw16_to.f 0 2 5).bind fun bt320 => ((bocagelaw16_to.f 2 4 4).bind fun bt325 => ((bocagelaw16_to.f 4 6 (-1)).bind fun bt330 => ((bocageref14_Same.f k t317 (([(⟨(⟨(⟨bt320.1, bt320.2.1⟩ : S33), (⟨bt320.2.2.1, bt320.2.2.2.1⟩ : S33)⟩ : S35), bt320.2.2.2.2⟩ : S37), (⟨(⟨(⟨bt325.1, bt325.2.1⟩ : S33), (⟨bt325.2.2.1, bt325.2.2.2.1⟩ : S33)⟩ : S35), bt325.2.2.2.2⟩ : S37), (⟨(⟨(⟨bt330.1, bt330.2.1⟩ : S33), (⟨bt330.2.2.1, bt330.2.2.2.1⟩ : S33)⟩ : S35), bt330.2.2.2.2⟩ : S37)] : List (S37)))).bind fun t338 => (if t338 = true then ((bocagelaw16_to.f 1 9 0).bind fun bt339 => ((mapalg_Sum.f k y297 bt339.1 bt339.2.1 bt339.2.2.1 bt339.2.2.2.1).bind fun t344 => (if t344 = 15 then (if (bt311.1.length : Int) = 3 then (if 0 < (bt311.1.length : Int) then (if (rd bt311.1 0) = (-1) then (if (bt311.2.length : Int) = 3 then ((mapalg_Domain.f k y305).bind fun t346 => ((bocageref09_Spans.f k y305).bind fun t349 => ((bocageref03_Same.f k t346 t349).bind fun t352 => (if t352 = true then ((mapalg_Diff.f k y297 y305).bind fun t353 => (some ((t353.length : Int) == 1))) else (some false))))) else (some false)) else (some false)) else (none)) else (some false)) else (some false)))) else (some false))))))))))))
theorem bocagelaw16_alive.mono : ∀ k, LeO (bocagelaw16_alive.f k ) (bocagelaw16_alive.f (k + 1) ) := by
 intro  k
 unfold bocagelaw16_alive.f
 repeat' with_reducible first | apply bocageref03_Same.mono | apply bocageref09_Spans.mono | apply bocageref14_Same.mono | apply mapalg_Both.mono | apply mapalg_Diff.mono | apply mapalg_Domain.mono | apply mapalg_Group.mono | apply mapalg_Sum.mono | apply lr | apply ln | apply li | refine lb ?_ fun _ => ?_
theorem bocagelaw16_alive.calls (k : Nat)  (r : Bool) (w : World) (h : bocagelaw16_alive.f k  = some r) (hr : r = true) :
 Calls Tryz.prog 12 #[] w fun e w' => e = .returned (.bool r) ∧ Below w.heap.size w w' := by
 have HRT := am hr; clear hr
 have HB := am (Below.refl w.heap.size w)
 unfold bocagelaw16_alive.f at h; have H := h; clear h; revert H; refine bnd5 fun t292 t293 t294 t295 t296 A1 H => ?_; dsimp only at H
 revert H; refine bns fun y297 Ny297 H => ?_
 revert H; refine bnd5 fun t300 t301 t302 t303 t304 A2 H => ?_; dsimp only at H
 revert H; refine bns fun y305 Ny305 H => ?_
 revert H; refine bnd fun t308 A3 H => ?_
 revert H; refine bnd2 fun t311 t312 A4 H => ?_; dsimp only at H
 revert H; refine bnd fun t317 A5 H => ?_
 revert H; refine bnd5 fun t320 t321 t322 t323 t324 A6 H => ?_; dsimp only at H
 revert H; refine bnd5 fun t325 t326 t327 t328 t329 A7 H => ?_; dsimp only at H
 revert H; refine bnd5 fun t330 t331 t332 t333 t334 A8 H => ?_; dsimp only at H
 generalize hy335 : ([(⟨(⟨(⟨t320, t321⟩ : S33), (⟨t322, t323⟩ : S33)⟩ : S35), t324⟩ : S37), (⟨(⟨(⟨t325, t326⟩ : S33), (⟨t327, t328⟩ : S33)⟩ : S35), t329⟩ : S37), (⟨(⟨(⟨t330, t331⟩ : S33), (⟨t332, t333⟩ : S33)⟩ : S35), t334⟩ : S37)] : List (S37)) = y335 at H; have Ny335 := am hy335.symm; clear hy335; revert H; refine bnd fun t338 A9 H => ?_
 by_cases c10 : t338 = true
 ·subst c10
  have H1 : ((bocagelaw16_to.f 1 9 0).bind fun bt339 => ((mapalg_Sum.f k y297 bt339.1 bt339.2.1 bt339.2.2.1 bt339.2.2.2.1).bind fun t344 => (if t344 = 15 then (if (t311.length : Int) = 3 then (if 0 < (t311.length : Int) then (if (rd t311 0) = (-1) then (if (t312.length : Int) = 3 then ((mapalg_Domain.f k y305).bind fun t346 => ((bocageref09_Spans.f k y305).bind fun t349 => ((bocageref03_Same.f k t346 t349).bind fun t352 => (if t352 = true then ((mapalg_Diff.f k y297 y305).bind fun t353 => (some ((t353.length : Int) == 1))) else (some false))))) else (some false)) else (some false)) else (none)) else (some false)) else (some false)))) = some r := by rw [if_pos rfl] at H; exact H
  clear H
  have H := H1
  clear H1; revert H; refine bnd5 fun t339 t340 t341 t342 t343 A11 H => ?_; dsimp only at H
  revert H; refine bnd fun t344 A12 H => ?_
  by_cases c13 : t344 = 15
  ·rw [if_pos c13] at H
   have c13b0 : (t344 == 15) = true := beq_iff_eq.mpr c13
   have c13b1 : (t344 != 15) = false := bne_eq_false_iff_eq.mpr c13
   clear c13
   by_cases c14 : (t311.length : Int) = 3
   ·rw [if_pos c14] at H
    have c14b0 : ((t311.length : Int) == 3) = true := beq_iff_eq.mpr c14
    have c14b1 : ((t311.length : Int) != 3) = false := bne_eq_false_iff_eq.mpr c14
    clear c14
    by_cases c15 : 0 < (t311.length : Int)
    ·rw [if_pos c15] at H
     have c15b0 : decide (0 < (t311.length : Int)) = true := decide_eq_true c15
     have c15b1 : decide (0 < t311.length) = true := decide_eq_true (by omega)
     clear c15
     by_cases c16 : (rd t311 0) = (-1)
     ·rw [if_pos c16] at H
      have c16b0 : ((rd t311 0) == (-1)) = true := beq_iff_eq.mpr c16
      have c16b1 : ((rd t311 0) != (-1)) = false := bne_eq_false_iff_eq.mpr c16
      clear c16
      by_cases c17 : (t312.length : Int) = 3
      ·rw [if_pos c17] at H
       have c17b0 : ((t312.length : Int) == 3) = true := beq_iff_eq.mpr c17
       have c17b1 : ((t312.length : Int) != 3) = false := bne_eq_false_iff_eq.mpr c17
       clear c17; revert H; refine bnd fun t346 A18 H => ?_
       revert H; refine bnd fun t349 A19 H => ?_
       revert H; refine bnd fun t352 A20 H => ?_
       by_cases c21 : t352 = true
       ·subst c21
        have H1 : ((mapalg_Diff.f k y297 y305).bind fun t353 => (some ((t353.length : Int) == 1))) = some r := by rw [if_pos rfl] at H; exact H
        clear H
        have H := H1
        clear H1; revert H; refine bnd fun t353 A22 H => ?_
        obtain rfl := Option.some.inj H
        have hfl37 : ∀ (a b c d e : Int) (w : World), (Instr.field 37 (Value.agg #[.int .i64 a, .int .i64 b, .int .i64 c, .int .i64 d, .int .i64 e]) 0).run Tryz.prog w = .ok (.agg #[.int .i64 a, .int .i64 b, .int .i64 c, .int .i64 d]) w := fun a b c d e w => by kernel_rfl
        go_enter Tryz.func12, Tryz.ntmps12
        go_wp2_with (first | ((with_reducible refine gate_callee (f := 42) rfl ?_); refine gob Tryz.func42 (bocagelaw16_to.calls _ _ _ _ _ _ _ _ _ A1.out) fun w23 hb => ?_; replace HB := bst HB hb; (try clear hb); (try clear hb2); (try clear hk); (try clear hi)) | ((with_reducible refine gate_dst (N := 6) rfl ?_); (try (refine gate_guard (by rfl) ?_; dsimp only)); refine Kd.R_lit k37 _ 37 ?hg (N := 6) ?hd (xs := ([(⟨(⟨(⟨t292, t293⟩ : S33), (⟨t294, t295⟩ : S33)⟩ : S35), t296⟩ : S37)] : List (S37))) (inner := [.int .i64 t292, .int .i64 t293, .int .i64 t294, .int .i64 t295, .int .i64 t296]) (ok := fun _ => True) (okp := fun _ => True) ?hr ?hp (fun _ hk => hk) trivial (Below.refl _ _) (Nat.le_refl _) (by simp) ?_; (case hd => rfl); (case hg => rfl); (case hr => first | (go_simp; done) | (go_simp; rfl)); (case hp => exact (Reps.c5 (show Kd.M k37 _ _ _ (⟨(⟨(⟨t292, t293⟩ : S33), (⟨t294, t295⟩ : S33)⟩ : S35), t296⟩ : S37) [.int .i64 t292, .int .i64 t293, .int .i64 t294, .int .i64 t295, .int .i64 t296] from (k37_mkM _ _ _ (⟨(⟨(⟨t292, t293⟩ : S33), (⟨t294, t295⟩ : S33)⟩ : S35), t296⟩ : S37) )) (Reps.none _ _))); intro v298 w24 ho25 hb hg_ hnew_; clear hg_ hnew_; (first | rw [← Ny297.out] at ho25 | (simp only [Int.reduceToNat] at ho25; rw [← Ny297.out] at ho25)); have HO299 := kw ho25 HB; replace HB := bst HB hb; clear hb ho25) | ((with_reducible refine gate_callee (f := 42) rfl ?_); refine gob Tryz.func42 (bocagelaw16_to.calls _ _ _ _ _ _ _ _ _ A2.out) fun w26 hb => ?_; replace HO299 := krb HO299 hb; replace HB := bst HB hb; (try clear hb); (try clear hb2); (try clear hk); (try clear hi)) | ((with_reducible refine gate_dst (N := 8) rfl ?_); (try (refine gate_guard (by rfl) ?_; dsimp only)); refine Kd.R_lit k37 _ 37 ?hg (N := 8) ?hd (xs := ([(⟨(⟨(⟨t300, t301⟩ : S33), (⟨t302, t303⟩ : S33)⟩ : S35), t304⟩ : S37)] : List (S37))) (inner := [.int .i64 t300, .int .i64 t301, .int .i64 t302, .int .i64 t303, .int .i64 t304]) (ok := fun _ => True) (okp := fun _ => True) ?hr ?hp (fun _ hk => hk) trivial (Below.refl _ _) (Nat.le_refl _) (by simp) ?_; (case hd => rfl); (case hg => rfl); (case hr => first | (go_simp; done) | (go_simp; rfl)); (case hp => exact (Reps.c5 (show Kd.M k37 _ _ _ (⟨(⟨(⟨t300, t301⟩ : S33), (⟨t302, t303⟩ : S33)⟩ : S35), t304⟩ : S37) [.int .i64 t300, .int .i64 t301, .int .i64 t302, .int .i64 t303, .int .i64 t304] from (k37_mkM _ _ _ (⟨(⟨(⟨t300, t301⟩ : S33), (⟨t302, t303⟩ : S33)⟩ : S35), t304⟩ : S37) )) (Reps.none _ _))); intro v306 w27 ho28 hb hg_ hnew_; clear hg_ hnew_; (first | rw [← Ny305.out] at ho28 | (simp only [Int.reduceToNat] at ho28; rw [← Ny305.out] at ho28)); have HO307 := kw (kz ho28 HO299) HB; replace HO299 := ke HO299 ho28 hb; replace HB := bst HB hb; clear hb ho28; obtain ⟨Ao29, co29, rfl⟩ := Kd.R_slice HO299.out; obtain ⟨Ao30, co30, rfl⟩ := Kd.R_slice HO307.out) | ((with_reducible refine gate_callee (f := 13) rfl ?_); refine gol (some 12) Tryz.func13 #[.int .i64 2, .slice Ao29 y297.length co29, .slice Ao30 y305.length co30] ?_; (with_reducible refine (mapalg_Both.calls _ _ _ _ _ _ _ _ _ _ (cr HO299) (cv HO299) (cr HO307) (cv HO307) A3.out).mono ?_); rintro e w31 ⟨v309, rfl, ho0, hb⟩; refine ⟨_, rfl, ?_⟩; have HO310 := kw (kz (kz ho0 HO299) HO307) HB; replace HO299 := ke HO299 ho0 hb; replace HO307 := ke HO307 ho0 hb; replace HB := bst HB hb; clear hb ho0; obtain ⟨Ao32, co32, rfl⟩ := Kd.R_slice HO310.out) | ((with_reducible refine gate_callee (f := 35) rfl ?_); refine gol (some 13) Tryz.func35 #[.slice Ao32 t308.length co32] ?_; (with_reducible refine (mapalg_Group.calls _ _ _ _ _ _ _ (cr HO310) (cv HO310) A4.out).mono ?_); rintro e w33 ⟨v313, v315, rfl, ho0, ho1, hb⟩; refine ⟨_, rfl, ?_⟩; replace HO299 := krb HO299 hb; replace HO307 := krb HO307 hb; replace HO310 := krb HO310 hb; have HO314 := kw ho0 HB; have HO316 := am (Kd.S_lower ho1 (below_size (bl HB))); replace HB := bst HB hb; clear hb ho0 ho1) | ((with_reducible refine gate_callee (f := 13) rfl ?_); refine gol (some 18) Tryz.func13 #[.int .i64 2, .slice Ao29 y297.length co29, .slice Ao30 y305.length co30] ?_; (with_reducible refine (mapalg_Both.calls _ _ _ _ _ _ _ _ _ _ (cr HO299) (cv HO299) (cr HO307) (cv HO307) A5.out).mono ?_); rintro e w34 ⟨v318, rfl, ho0, hb⟩; refine ⟨_, rfl, ?_⟩; replace HO314 := krb HO314 hb; replace HO316 := sb HO316 hb; have HO319 := kw (kz (kz (kz ho0 HO299) HO307) HO310) HB; replace HO299 := ke HO299 ho0 hb; replace HO307 := ke HO307 ho0 hb; replace HO310 := ke HO310 ho0 hb; replace HB := bst HB hb; clear hb ho0) | ((with_reducible refine gate_callee (f := 42) rfl ?_); refine gob Tryz.func42 (bocagelaw16_to.calls _ _ _ _ _ _ _ _ _ A6.out) fun w35 hb => ?_; replace HO299 := krb HO299 hb; replace HO307 := krb HO307 hb; replace HO310 := krb HO310 hb; replace HO314 := krb HO314 hb; replace HO316 := sb HO316 hb; replace HO319 := krb HO319 hb; replace HB := bst HB hb; (try clear hb); (try clear hb2); (try clear hk); (try clear hi)) | ((with_reducible refine gate_callee (f := 42) rfl ?_); refine gob Tryz.func42 (bocagelaw16_to.calls _ _ _ _ _ _ _ _ _ A7.out) fun w36 hb => ?_; replace HO299 := krb HO299 hb; replace HO307 := krb HO307 hb; replace HO310 := krb HO310 hb; replace HO314 := krb HO314 hb; replace HO316 := sb HO316 hb; replace HO319 := krb HO319 hb; replace HB := bst HB hb; (try clear hb); (try clear hb2); (try clear hk); (try clear hi)) | ((with_reducible refine gate_callee (f := 42) rfl ?_); refine gob Tryz.func42 (bocagelaw16_to.calls _ _ _ _ _ _ _ _ _ A8.out) fun w37 hb => ?_; replace HO299 := krb HO299 hb; replace HO307 := krb HO307 hb; replace HO310 := krb HO310 hb; replace HO314 := krb HO314 hb; replace HO316 := sb HO316 hb; replace HO319 := krb HO319 hb; replace HB := bst HB hb; (try clear hb); (try clear hb2); (try clear hk); (try clear hi)) | ((with_reducible refine gate_dst (N := 22) rfl ?_); (try (refine gate_guard (by rfl) ?_; dsimp only)); refine Kd.R_lit k37 _ 37 ?hg (N := 22) ?hd (xs := ([(⟨(⟨(⟨t320, t321⟩ : S33), (⟨t322, t323⟩ : S33)⟩ : S35), t324⟩ : S37), (⟨(⟨(⟨t325, t326⟩ : S33), (⟨t327, t328⟩ : S33)⟩ : S35), t329⟩ : S37), (⟨(⟨(⟨t330, t331⟩ : S33), (⟨t332, t333⟩ : S33)⟩ : S35), t334⟩ : S37)] : List (S37))) (inner := [.int .i64 t320, .int .i64 t321, .int .i64 t322, .int .i64 t323, .int .i64 t324, .int .i64 t325, .int .i64 t326, .int .i64 t327, .int .i64 t328, .int .i64 t329, .int .i64 t330, .int .i64 t331, .int .i64 t332, .int .i64 t333, .int .i64 t334]) (ok := fun _ => True) (okp := fun _ => True) ?hr ?hp (fun _ hk => hk) trivial (Below.refl _ _) (Nat.le_refl _) (by simp) ?_; (case hd => rfl); (case hg => rfl); (case hr => first | (go_simp; done) | (go_simp; rfl)); (case hp => exact (Reps.c5 (show Kd.M k37 _ _ _ (⟨(⟨(⟨t320, t321⟩ : S33), (⟨t322, t323⟩ : S33)⟩ : S35), t324⟩ : S37) [.int .i64 t320, .int .i64 t321, .int .i64 t322, .int .i64 t323, .int .i64 t324] from (k37_mkM _ _ _ (⟨(⟨(⟨t320, t321⟩ : S33), (⟨t322, t323⟩ : S33)⟩ : S35), t324⟩ : S37) )) (Reps.c5 (show Kd.M k37 _ _ _ (⟨(⟨(⟨t325, t326⟩ : S33), (⟨t327, t328⟩ : S33)⟩ : S35), t329⟩ : S37) [.int .i64 t325, .int .i64 t326, .int .i64 t327, .int .i64 t328, .int .i64 t329] from (k37_mkM _ _ _ (⟨(⟨(⟨t325, t326⟩ : S33), (⟨t327, t328⟩ : S33)⟩ : S35), t329⟩ : S37) )) (Reps.c5 (show Kd.M k37 _ _ _ (⟨(⟨(⟨t330, t331⟩ : S33), (⟨t332, t333⟩ : S33)⟩ : S35), t334⟩ : S37) [.int .i64 t330, .int .i64 t331, .int .i64 t332, .int .i64 t333, .int .i64 t334] from (k37_mkM _ _ _ (⟨(⟨(⟨t330, t331⟩ : S33), (⟨t332, t333⟩ : S33)⟩ : S35), t334⟩ : S37) )) (Reps.none _ _))))); intro v336 w38 ho39 hb hg_ hnew_; clear hg_ hnew_; (first | rw [← Ny335.out] at ho39 | (simp only [Int.reduceToNat] at ho39; rw [← Ny335.out] at ho39)); replace HO314 := krb HO314 hb; replace HO316 := sb HO316 hb; have HO337 := kw (kz (kz (kz (kz ho39 HO299) HO307) HO310) HO319) HB; replace HO299 := ke HO299 ho39 hb; replace HO307 := ke HO307 ho39 hb; replace HO310 := ke HO310 ho39 hb; replace HO319 := ke HO319 ho39 hb; replace HB := bst HB hb; clear hb ho39; obtain ⟨Ao40, co40, rfl⟩ := Kd.R_slice HO319.out; obtain ⟨Ao41, co41, rfl⟩ := Kd.R_slice HO337.out) | ((with_reducible refine gate_callee (f := 14) rfl ?_); refine gol (some 23) Tryz.func14 #[.slice Ao40 t317.length co40, .slice Ao41 y335.length co41] ?_; (with_reducible refine (bocageref14_Same.calls _ _ _ _ _ _ _ _ _ (cr HO319) (cv HO319) (cr HO337) (cv HO337) A9.out).mono ?_); rintro e w' ⟨rfl, ⟨nd, rfl⟩⟩; refine ⟨_, rfl, ?_⟩) | (go_at_call 42; (with_reducible refine (bocagelaw16_to.calls _ _ _ _ _ _ _ _ _ A11.out).mono ?_); rintro e w42 ⟨rfl, hb⟩; replace HO299 := krb HO299 hb; replace HO307 := krb HO307 hb; replace HO310 := krb HO310 hb; replace HO314 := krb HO314 hb; replace HO316 := sb HO316 hb; replace HO319 := krb HO319 hb; replace HO337 := krb HO337 hb; replace HB := bst HB hb) | (go_at_call 23; (with_reducible refine (mapalg_Sum.calls _ _ _ _ _ _ _ _ _ _ (cr HO299) (cv HO299) A12.out).mono ?_); rintro e w43 ⟨rfl, hb⟩; replace HO299 := krb HO299 hb; replace HO307 := krb HO307 hb; replace HO310 := krb HO310 hb; replace HO314 := krb HO314 hb; replace HO316 := sb HO316 hb; replace HO319 := krb HO319 hb; replace HO337 := krb HO337 hb; replace HB := bst HB hb; clear hb; obtain ⟨Ao44, co44, rfl⟩ := Kd.R_slice HO314.out; have p345 : 0 ≤ (0 : Int) := (by omega); have q345 : 0 < (t311.length : Int) := pd; obtain ⟨ad345, e345, hx345_0⟩ := Kd.at_int (Kd.R_reads' HO314.out).2.2 0 p345 q345; cases e345; have qi345 : (0 < t311.length) = True := eq_true (by omega); (try rw [show ((0 : Int)).toNat = 0 from rfl] at hx345_0); (try rw [Addr.add_zero'] at hx345_0); replace p345 := eq_true p345; replace q345 := eq_true q345; obtain ⟨Ao45, co45, rfl⟩ := Kd.S_slice HO316.out) | (go_at_call 31; (with_reducible refine (mapalg_Domain.calls _ _ _ _ _ _ (cr HO307) (cv HO307) A18.out).mono ?_); rintro e w46 ⟨v347, rfl, ho0, hb⟩; replace HO299 := krb HO299 hb; replace HO307 := krb HO307 hb; replace HO310 := krb HO310 hb; replace HO314 := krb HO314 hb; replace HO316 := se HO316 ho0 hb; replace HO319 := krb HO319 hb; replace HO337 := krb HO337 hb; have HO348 := kw ho0 HB; replace HB := bst HB hb; clear hb ho0) | (go_at_call 26; (with_reducible refine (bocageref09_Spans.calls _ _ _ _ _ _ (cr HO307) (cv HO307) A19.out).mono ?_); rintro e w47 ⟨v350, rfl, ho0, hb⟩; replace HO299 := krb HO299 hb; replace HO307 := krb HO307 hb; replace HO310 := krb HO310 hb; replace HO314 := krb HO314 hb; replace HO316 := se HO316 ho0 hb; replace HO319 := krb HO319 hb; replace HO337 := krb HO337 hb; have HO351 := kw (kz ho0 HO348) HB; replace HO348 := ke HO348 ho0 hb; replace HB := bst HB hb; clear hb ho0; obtain ⟨Ao48, co48, rfl⟩ := Kd.R_slice HO348.out; obtain ⟨Ao49, co49, rfl⟩ := Kd.R_slice HO351.out) | (go_at_call 21; (with_reducible refine (bocageref03_Same.calls _ _ _ _ _ _ _ _ _ (cr HO348) (cv HO348) (cr HO351) (cv HO351) A20.out).mono ?_); rintro e w' ⟨rfl, ⟨nd, rfl⟩⟩) | (go_at_call 18; (with_reducible refine (mapalg_Diff.calls _ _ _ _ _ _ _ _ _ (cr HO299) (cv HO299) (cr HO307) (cv HO307) A22.out).mono ?_); rintro e w50 ⟨v354, rfl, ho0, hb⟩; replace HO299 := krb HO299 hb; replace HO307 := krb HO307 hb; replace HO310 := krb HO310 hb; replace HO314 := krb HO314 hb; replace HO316 := se HO316 ho0 hb; replace HO319 := krb HO319 hb; replace HO337 := krb HO337 hb; have HO355 := kw (kz (kz ho0 HO348) HO351) HB; replace HO348 := ke HO348 ho0 hb; replace HO351 := ke HO351 ho0 hb; replace HB := bst HB hb; obtain ⟨Ao51, co51, rfl⟩ := Kd.R_slice HO355.out))
        go_ret; exact endB HB
       ·replace c21 := Bool.eq_false_iff.mpr c21
        subst c21
        have H1 : (some false) = some r := by rw [if_neg (show ¬ (false = true) by decide)] at H; exact H
        exact absurd ((Option.some.inj H1).trans HRT.out) Bool.false_ne_true
      ·rw [if_neg c17] at H
       exact absurd ((Option.some.inj H).trans HRT.out) Bool.false_ne_true
     ·rw [if_neg c16] at H
      exact absurd ((Option.some.inj H).trans HRT.out) Bool.false_ne_true
    ·rw [if_neg c15] at H
     exact absurd H (by simp)
   ·rw [if_neg c14] at H
    exact absurd ((Option.some.inj H).trans HRT.out) Bool.false_ne_true
  ·rw [if_neg c13] at H
   exact absurd ((Option.some.inj H).trans HRT.out) Bool.false_ne_true
 ·replace c10 := Bool.eq_false_iff.mpr c10
  subst c10
  have H1 : (some false) = some r := by rw [if_neg (show ¬ (false = true) by decide)] at H; exact H
  exact absurd ((Option.some.inj H1).trans HRT.out) Bool.false_ne_true
def bocageref02_Least64.f  : Option (Int) := some (-9223372036854775808)
theorem bocageref02_Least64.calls  (r : Int) (w : World) (h : bocageref02_Least64.f  = some r) :
 Calls Tryz.prog 78 #[] w fun e w' => e = .returned (.int .i64 r) ∧ Drawn0 w w' := by
 unfold bocageref02_Least64.f at h; have H := h; clear h; obtain rfl := Option.some.inj H; go_enter Tryz.func78, Tryz.ntmps78; go_wp2; go_ret
 exact ⟨rs, dn⟩
def bocageref02_Canon.j0 : Nat → Bool → Int → Int → Option (Int × Int)
  | 0, _, _, _ => none
  | k + 1, x16, x357000, x357001 => if x16 = true then (some ((-1), 0)) else (if x357000 > 0 then (some (1, 0)) else (some (x357000, x357001)))
def bocageref02_Canon.f (k : Nat) (a0_0 : Int) (a0_1 : Int) : Option (Int × Int) := if a0_0 < 0 then (bocageref02_Canon.j0 k true a0_0 a0_1) else (if a0_0 = 0 then ((bocageref02_Least64.f).bind fun t358 => (bocageref02_Canon.j0 k (a0_1 == t358) a0_0 a0_1)) else (bocageref02_Canon.j0 k false a0_0 a0_1))
theorem bocageref02_Canon.mono_l : ∀ k, (∀ y0 y1 y2, LeO (bocageref02_Canon.j0 k y0 y1 y2) (bocageref02_Canon.j0 (k + 1) y0 y1 y2))
 | 0 => fun _ _ _ r h => by simp [bocageref02_Canon.j0] at h
 | k + 1 => by
  have ih0 := bocageref02_Canon.mono_l k
  ·intro y0 y1 y2
   unfold bocageref02_Canon.j0
   repeat' with_reducible first | apply ih0 | apply lr | apply ln | apply li | refine lb ?_ fun _ => ?_
theorem bocageref02_Canon.mono : ∀ a0 a1 k, LeO (bocageref02_Canon.f k a0 a1) (bocageref02_Canon.f (k + 1) a0 a1) := by
 intro a0 a1 k
 have ih0 := bocageref02_Canon.mono_l k
 unfold bocageref02_Canon.f
 repeat' with_reducible first | apply ih0 | apply lr | apply ln | apply li | refine lb ?_ fun _ => ?_
theorem bocageref02_Canon.calls (k : Nat) (a0_0 : Int) (a0_1 : Int) (r1 : Int) (r2 : Int) (w : World) (h : bocageref02_Canon.f k a0_0 a0_1 = some (r1, r2)) :
 Calls Tryz.prog 77 #[.agg #[.int .i64 a0_0, .int .i64 a0_1]] w fun e w' => e = .returned (.agg #[.int .i64 r1, .int .i64 r2]) ∧ Below w.heap.size w w' := by
 have hu33 := Tryz.underlying33
 have HB := am (Below.refl w.heap.size w)
 unfold bocageref02_Canon.f at h; have H := h; clear h; have HC2 := am H; clear H; go_enter Tryz.func77, Tryz.ntmps77
 go_upto_region 1 with (first | ((with_reducible refine gate_dst (N := 1) rfl ?_); refine bxf #[.int .i64 a0_0, .int .i64 a0_1] 33 HB fun gb356 w3 BK356 GW356 HB hg hb => ?_; have GE356 := GW356; clear hb hg) | ((with_reducible refine gate_dst (N := 2) rfl ?_); refine bxf #[.int .i64 0, .int .i64 0] 33 HB fun gb357 w4 BK357 GW357 HB hg hb => ?_; have GE357 := GW357; have NB356_357 := nlt hg BK356; have NB357_356 := ngt hg BK356; replace BK356 := bkb BK356 hb; clear hb hg))
 repeat (go_quiet (first | ((with_reducible refine gate_dst (N := 1) rfl ?_); refine bxf #[.int .i64 a0_0, .int .i64 a0_1] 33 HB fun gb356 w3 BK356 GW356 HB hg hb => ?_; have GE356 := GW356; clear hb hg) | ((with_reducible refine gate_dst (N := 2) rfl ?_); refine bxf #[.int .i64 0, .int .i64 0] 33 HB fun gb357 w4 BK357 GW357 HB hg hb => ?_; have GE357 := GW357; have NB356_357 := nlt hg BK356; have NB357_356 := ngt hg BK356; replace BK356 := bkb BK356 hb; clear hb hg)); go_upto_region 1 with (first | ((with_reducible refine gate_dst (N := 1) rfl ?_); refine bxf #[.int .i64 a0_0, .int .i64 a0_1] 33 HB fun gb356 w3 BK356 GW356 HB hg hb => ?_; have GE356 := GW356; clear hb hg) | ((with_reducible refine gate_dst (N := 2) rfl ?_); refine bxf #[.int .i64 0, .int .i64 0] 33 HB fun gb357 w4 BK357 GW357 HB hg hb => ?_; have GE357 := GW357; have NB356_357 := nlt hg BK356; have NB357_356 := ngt hg BK356; replace BK356 := bkb BK356 hb; clear hb hg)))
 (try simp only [Act.put, List.setIfInBounds_toArray, List.set_cons_zero, List.set_cons_succ])
 go_cut [16] (fun v16 wc => ∃ (kq : Nat) (x16_1 : Bool), v16 = .bool x16_1 ∧ Aside0 (bocageref02_Canon.j0 kq x16_1 a0_0 a0_1 = some (r1, r2)) ∧ Aside0 (kq ≤ k) ∧ Aside0 (wc.heap[gb356]? = some (.cells #[.int .i64 a0_0, .int .i64 a0_1] 33 (0, 0))) ∧ Aside0 (wc.heap[gb357]? = some (.cells #[.int .i64 0, .int .i64 0] 33 (0, 0))) ∧ Aside0 (Below w.heap.size w wc))
 case first =>
  have H := HC2.out; clear HC2; revert H; refine itc (fun c5b0 H => ?_) fun c5b0 H => ?_
  ·(first | rw [c5b0] | (simp only [i64_w, i32_w]; rw [c5b0]) | skip)
   have H' := am H; clear H; have hnb6 := NB356_357.out; have hnc6 := NB357_356.out; obtain ⟨hcz7_0, hcz7_1, hfz7_0, hfz7_1⟩ := s2 BK356; go_wp2
   repeat (go_quiet (fail); try go_wp2)
   go_meet
   case rel => exact ⟨_, (true), rs, H', ⟨by first | omega | exact Nat.le_refl _⟩, ⟨bk BK356⟩, ⟨bk BK357⟩, ⟨bl HB⟩⟩
  ·(first | rw [c5b0] | (simp only [i64_w, i32_w]; rw [c5b0]) | skip)
   by_cases c8 : a0_0 = 0
   ·rw [if_pos c8] at H
    have c8b0 : (a0_0 == 0) = true := beq_iff_eq.mpr c8
    have c8b1 : (a0_0 != 0) = false := bne_eq_false_iff_eq.mpr c8
    clear c8; revert H; refine bnd fun t358 A9 H => ?_
    have H' := am H; clear H; have hnb10 := NB356_357.out; have hnc10 := NB357_356.out; obtain ⟨hcz11_0, hcz11_1, hfz11_0, hfz11_1⟩ := s2 BK356
    go_wp2_with (first | (go_at_call 78; (with_reducible refine (bocageref02_Least64.calls _ _ A9.out).mono ?_); rintro e w' ⟨rfl, ⟨nd, rfl⟩⟩; (try first | exact ⟨rfl, _, World.drewN_drewN _ _ _⟩ | exact ⟨rfl, _, Eq.trans (World.drewN_drewN _ _ _) (congrArg (World.drewN _) (Nat.add_assoc _ _ _))⟩)))
    repeat (go_quiet (first | (go_at_call 78; (with_reducible refine (bocageref02_Least64.calls _ _ A9.out).mono ?_); rintro e w' ⟨rfl, ⟨nd, rfl⟩⟩; (try first | exact ⟨rfl, _, World.drewN_drewN _ _ _⟩ | exact ⟨rfl, _, Eq.trans (World.drewN_drewN _ _ _) (congrArg (World.drewN _) (Nat.add_assoc _ _ _))⟩))); try go_wp2_with (first | (go_at_call 78; (with_reducible refine (bocageref02_Least64.calls _ _ A9.out).mono ?_); rintro e w' ⟨rfl, ⟨nd, rfl⟩⟩; (try first | exact ⟨rfl, _, World.drewN_drewN _ _ _⟩ | exact ⟨rfl, _, Eq.trans (World.drewN_drewN _ _ _) (congrArg (World.drewN _) (Nat.add_assoc _ _ _))⟩))))
    go_meet
    case rel => exact ⟨_, ((a0_1 == t358)), rs, H', ⟨by first | omega | exact Nat.le_refl _⟩, ⟨bk BK356⟩, ⟨bk BK357⟩, ⟨bl HB⟩⟩
   ·rw [if_neg c8] at H
    have c8b0 : (a0_0 == 0) = false := beq_eq_false_iff_ne.mpr c8
    have c8b1 : (a0_0 != 0) = true := bne_iff_ne.mpr c8
    have H' := am H; clear H; have hnb12 := NB356_357.out; have hnc12 := NB357_356.out; obtain ⟨hcz13_0, hcz13_1, hfz13_0, hfz13_1⟩ := s2 BK356; go_wp2
    repeat (go_quiet (fail); try go_wp2)
    go_meet
    case rel => exact ⟨_, (false), rs, H', ⟨by first | omega | exact Nat.le_refl _⟩, ⟨bk BK356⟩, ⟨bk BK357⟩, ⟨bl HB⟩⟩
 case rest =>
  clear HC2
  try clear c1
  try clear p2
  try clear c5
  try clear c5b0
  try clear c6
  try clear c7
  try clear c8
  try clear c8b0
  try clear c8b1
  try clear c10
  try clear c12
  try clear hcz11_0
  try clear hcz11_1
  try clear hcz13_0
  try clear hcz13_1
  try clear hcz7_0
  try clear hcz7_1
  try clear hfz11_0
  try clear hfz11_1
  try clear hfz13_0
  try clear hfz13_1
  try clear hfz7_0
  try clear hfz7_1
  obtain ⟨kq, x16_1, rfl, HA, HJ1, BK356, BK357, HB⟩ := hcut
  cases kq with
  | zero => exact absurd HA.out (by simp [bocageref02_Canon.j0])
  | succ kj1 =>
   have H := HA.out; clear HA
   simp only [bocageref02_Canon.j0] at H
   cases x16_1; rotate_left
   ·replace H := itt H
    simp only [Option.some.injEq, Prod.mk.injEq] at H
    obtain ⟨rfl, rfl⟩ := H
    have hnb15 := NB357_356.out; have hnc15 := NB356_357.out; obtain ⟨_, _, _, _⟩ := s2 BK357; go_wp2
    repeat (go_quiet (fail); try go_wp2)
    refine bodyPost_ret (results_cell_row rfl _ _ gb357 33 #[.int .i64 (-1), .int .i64 0] (0, 0) _ rfl (bkp BK357) Tryz.underlying33 rfl (by kernel_rfl)) rfl ?_
    exact endB HB
   ·replace H := itf H; revert H; refine itc (fun (c17b0 : decide (0 < a0_0) = true) H => ?_) fun (c17b0 : decide (0 < a0_0) = false) H => ?_
    ·simp only [Option.some.injEq, Prod.mk.injEq] at H
     obtain ⟨rfl, rfl⟩ := H
     have hnb18 := NB356_357.out; have hnc18 := NB357_356.out; obtain ⟨_, _, _, _⟩ := s2 BK356; obtain ⟨_, _, _, _⟩ := s2 BK357; go_wp2
     repeat (go_quiet (fail); try go_wp2)
     refine bodyPost_ret (results_cell_row rfl _ _ gb357 33 #[.int .i64 1, .int .i64 0] (0, 0) _ rfl (bkp BK357) Tryz.underlying33 rfl (by kernel_rfl)) rfl ?_
     exact endB HB
    ·simp only [Option.some.injEq, Prod.mk.injEq] at H
     obtain ⟨rfl, rfl⟩ := H
     have hnb21 := NB356_357.out; have hnc21 := NB357_356.out; obtain ⟨_, _, _, _⟩ := s2 BK356; obtain ⟨_, _, _, _⟩ := s2 BK357; go_wp2
     repeat (go_quiet (fail); try go_wp2)
     refine bodyPost_ret (results_cell_row rfl _ _ gb357 33 #[.int .i64 a0_0, .int .i64 a0_1] (0, 0) _ rfl (bkp BK357) Tryz.underlying33 rfl (by kernel_rfl)) rfl ?_
     exact endB HB
def bocageref02_Less.f (k : Nat) (a0_0 : Int) (a0_1 : Int) (a1_0 : Int) (a1_1 : Int) : Option (Bool) := (bocageref02_Canon.f k a0_0 a0_1).bind fun bt361 => ((bocageref02_Canon.f k a1_0 a1_1).bind fun bt363 => (if bt361.1 = bt363.1 then (some (decide (bt361.2 < bt363.2))) else (some (decide (bt361.1 < bt363.1)))))
theorem bocageref02_Less.calls (k : Nat) (a0_0 : Int) (a0_1 : Int) (a1_0 : Int) (a1_1 : Int) (r : Bool) (w : World) (h : bocageref02_Less.f k a0_0 a0_1 a1_0 a1_1 = some r) :
 Calls Tryz.prog 87 #[.agg #[.int .i64 a0_0, .int .i64 a0_1], .agg #[.int .i64 a1_0, .int .i64 a1_1]] w fun e w' => e = .returned (.bool r) ∧ Below w.heap.size w w' := by
 have hu33 := Tryz.underlying33
 have HB := am (Below.refl w.heap.size w)
 unfold bocageref02_Less.f at h; have H := h; clear h; revert H; refine bnd2 fun t361 t362 A3 H => ?_; dsimp only at H
 revert H; refine bnd2 fun t363 t364 A4 H => ?_; dsimp only at H
 by_cases c5 : t361 = t363
 ·rw [if_pos c5] at H
  have c5b0 : (t361 == t363) = true := beq_iff_eq.mpr c5
  have c5b1 : (t361 != t363) = false := bne_eq_false_iff_eq.mpr c5
  clear c5; obtain rfl := Option.some.inj H; go_enter Tryz.func87, Tryz.ntmps87
  go_wp2_with (first | ((with_reducible refine gate_dst (N := 2) rfl ?_); refine bxf #[.int .i64 a0_0, .int .i64 a0_1] 33 HB fun gb359 w6 BK359 GW359 HB hg hb => ?_; have GE359 := GW359; clear hb hg) | ((with_reducible refine gate_dst (N := 3) rfl ?_); refine bxf #[.int .i64 a1_0, .int .i64 a1_1] 33 HB fun gb360 w7 BK360 GW360 HB hg hb => ?_; have GE360 := GW360; have NB359_360 := nlt hg BK359; have NB360_359 := ngt hg BK359; replace BK359 := bkb BK359 hb; clear hb hg; have hnb8 := NB359_360.out; have hnc8 := NB360_359.out; obtain ⟨_, _, _, _⟩ := s2 BK359) | ((with_reducible refine gate_callee (f := 77) rfl ?_); refine gob Tryz.func77 (bocageref02_Canon.calls _ _ _ _ _ _ A3.out) fun w10 hb => ?_; replace BK359 := bkb BK359 hb; replace BK360 := bkb BK360 hb; replace HB := bst HB hb; (try clear hb); (try clear hb2); (try clear hk); (try clear hi); obtain ⟨_, _, _, _⟩ := s2 BK359; obtain ⟨_, _, _, _⟩ := s2 BK360) | ((with_reducible refine gate_callee (f := 77) rfl ?_); refine gob Tryz.func77 (bocageref02_Canon.calls _ _ _ _ _ _ A4.out) fun w13 hb => ?_; replace BK359 := am (blk_below (g := gb359) (o := .cells #[.int .i64 t361, .int .i64 t362] 33 (0, 0)) (bkp BK359) hb); replace BK360 := am (blk_below (bkf BK360 NB360_359) hb); replace HB := bst HB hb; (try clear hb); (try clear hb2); (try clear hk); (try clear hi); obtain ⟨_, _, _, _⟩ := s2 BK360; obtain ⟨_, _, _, _⟩ := s2 BK359)); go_ret; exact endB HB
 ·rw [if_neg c5] at H
  have c5b0 : (t361 == t363) = false := beq_eq_false_iff_ne.mpr c5
  have c5b1 : (t361 != t363) = true := bne_iff_ne.mpr c5
  obtain rfl := Option.some.inj H; go_enter Tryz.func87, Tryz.ntmps87
  go_wp2_with (first | ((with_reducible refine gate_dst (N := 2) rfl ?_); refine bxf #[.int .i64 a0_0, .int .i64 a0_1] 33 HB fun gb359 w16 BK359 GW359 HB hg hb => ?_; have GE359 := GW359; clear hb hg) | ((with_reducible refine gate_dst (N := 3) rfl ?_); refine bxf #[.int .i64 a1_0, .int .i64 a1_1] 33 HB fun gb360 w17 BK360 GW360 HB hg hb => ?_; have GE360 := GW360; have NB359_360 := nlt hg BK359; have NB360_359 := ngt hg BK359; replace BK359 := bkb BK359 hb; clear hb hg; have hnb18 := NB359_360.out; have hnc18 := NB360_359.out; obtain ⟨_, _, _, _⟩ := s2 BK359) | ((with_reducible refine gate_callee (f := 77) rfl ?_); refine gob Tryz.func77 (bocageref02_Canon.calls _ _ _ _ _ _ A3.out) fun w20 hb => ?_; replace BK359 := bkb BK359 hb; replace BK360 := bkb BK360 hb; replace HB := bst HB hb; (try clear hb); (try clear hb2); (try clear hk); (try clear hi); obtain ⟨_, _, _, _⟩ := s2 BK359; obtain ⟨_, _, _, _⟩ := s2 BK360) | ((with_reducible refine gate_callee (f := 77) rfl ?_); refine gob Tryz.func77 (bocageref02_Canon.calls _ _ _ _ _ _ A4.out) fun w23 hb => ?_; replace BK359 := am (blk_below (g := gb359) (o := .cells #[.int .i64 t361, .int .i64 t362] 33 (0, 0)) (bkp BK359) hb); replace BK360 := am (blk_below (bkf BK360 NB360_359) hb); replace HB := bst HB hb; (try clear hb); (try clear hb2); (try clear hk); (try clear hi); obtain ⟨_, _, _, _⟩ := s2 BK360; obtain ⟨_, _, _, _⟩ := s2 BK359)); go_ret; exact endB HB
end Go.Proofs.YtbcpnejdbookkaaGreat.Print
namespace Go.Proofs.YtbcpnejdbookkaaGreat.Print
open Go.RowKit Go.Proofs.YtbcpnejdbookkaaGreatW.PrintWords Go.Proofs.YtbcpnejdbookkaaGreatW.PrintLast Go.Proofs.YtbcpnejdbookkaaGreatW.PrintMore
attribute [local go_sem] max2_int min2_int max_two min_two max_three min_three max_four min_four   -- for this text's walks alone
attribute [local go_sem high] eqA33
def bocageref03_Right.f (k : Nat) (a0_0 : Int) (a0_1 : Int) (a0_2 : Int) (a0_3 : Int) : Option (Bool) := (bocageref02_Canon.f k a0_0 a0_1).bind fun bt366 => (if (bt366.1 == a0_0 && (bt366.2 == a0_1)) = true then ((bocageref02_Canon.f k a0_2 a0_3).bind fun bt368 => (if (bt368.1 == a0_2 && (bt368.2 == a0_3)) = true then ((bocageref02_Less.f k a0_0 a0_1 a0_2 a0_3).bind fun t370 => (some t370)) else (some false))) else (some false))
def bocageref03_Right.T1 : Bool × List (List Nat × List Nat) := (true, [([], []), ([0], [0]), ([1], [1]), ([], []), ([3], [3]), ([2, 4], [2, 4]), ([5, 2], [5]), ([6], [6]), ([7, 6], [6, 7]), ([8, 6, 6], [6, 8]), ([6], [6]), ([10, 6], [6, 10]), ([9, 11, 6], [6, 9, 11]), ([6, 12], [6, 12]), ([13, 9], [13]), ([14], [14]), ([15, 14], [14, 15]), ([14], [14]), ([17, 14], [14, 17]), ([16, 18, 14, 14], [14, 16, 18]), ([14, 19], [14, 19]), ([20, 19, 0, 1, 2, 3, 4, 5, 6, 7, 8, 9, 10, 11, 12, 13, 14, 15, 16, 17, 18, 19, 20], [20])])
def bocageref03_Right.B1 : List Nat := [0, 1, 3, 0, 8, 31, 63, 127, 255, 511, 127, 1151, 4095, 8191, 16383, 32767, 65535, 32767, 163839, 524287, 1048575, 2097151]
theorem bocageref03_Right.tab1 : rtab .any (opsOf Tryz.f86 1) = bocageref03_Right.T1 := by kernel_rfl
theorem bocageref03_Right.bits1 : waitsOk bocageref03_Right.T1.2 bocageref03_Right.B1 = true := by kernel_rfl
theorem bocageref03_Right.calls (k : Nat) (a0_0 : Int) (a0_1 : Int) (a0_2 : Int) (a0_3 : Int) (r : Bool) (w : World) (h : bocageref03_Right.f k a0_0 a0_1 a0_2 a0_3 = some r) :
 Calls Tryz.prog 86 #[.agg #[.int .i64 a0_0, .int .i64 a0_1, .int .i64 a0_2, .int .i64 a0_3]] w fun e w' => e = .returned (.bool r) ∧ Below w.heap.size w w' := by
 have hu35 := Tryz.underlying35; have hu33 := Tryz.underlying33
 have HB := am (Below.refl w.heap.size w)
 unfold bocageref03_Right.f at h; have H := h; clear h; revert H; refine bnd2 fun t366 t367 A2 H => ?_; dsimp only at H
 by_cases c3 : (t366 == a0_0 && (t367 == a0_1)) = true
 ·rw [if_pos c3] at H
  have c3b0 : (t366 == a0_0 && (t367 == a0_1)) = true := c3
  (try (have c3b1 : decide (t366 = a0_0 && (t367 == a0_1)) = true := by simpa using c3))
  (try (have c3b2 : (t366 == a0_0 && (t367 == a0_1)) = true := by simpa using c3))
  clear c3; revert H; refine bnd2 fun t368 t369 A4 H => ?_; dsimp only at H
  by_cases c5 : (t368 == a0_2 && (t369 == a0_3)) = true
  ·rw [if_pos c5] at H
   have c5b0 : (t368 == a0_2 && (t369 == a0_3)) = true := c5
   (try (have c5b1 : decide (t368 = a0_2 && (t369 == a0_3)) = true := by simpa using c5))
   (try (have c5b2 : (t368 == a0_2 && (t369 == a0_3)) = true := by simpa using c5))
   clear c5; revert H; refine bnd fun t370 A6 H => ?_
   obtain rfl := Option.some.inj H; go_enter Tryz.func86, Tryz.ntmps86
   try go_wp2_with (first | ((with_reducible refine gate_dst (N := 1) rfl ?_); refine bxf #[.int .i64 a0_0, .int .i64 a0_1, .int .i64 a0_2, .int .i64 a0_3] 35 HB fun gb365 w7 BK365 GW365 HB hg hb => ?_; have GE365 := GW365; clear hb hg))
   replace BK365 := am (blk_drew BK365.out); replace HB := am (below_drew1 HB.out)
   refine st F22 [] (h4 BK365) fun hHeld => ?_; refine with_tabW bocageref03_Right.tab1 bocageref03_Right.bits1 (fun HT_ HW_ => ?_)
   generalize w7.drew = w8 at BK365 HB hHeld ⊢; refine pw 0 3 HT_ ?_; refine pw 3 6 HT_ ?_; refine tw4 1 4 HT_ HW_ hHeld ?_; refine tw4 4 7 HT_ HW_ hHeld ?_
   refine ca 2 HT_ Tryz.func77 (bocageref02_Canon.calls _ _ _ _ _ _ A2.out) hHeld fun w9 hb hHeld => ?_
   replace BK365 := bkb BK365 hb; replace HB := bst HB hb; clear hb; refine pw 5 8 HT_ ?_; refine pw 6 9 HT_ ?_; refine pw 7 10 HT_ ?_; refine pw 10 13 HT_ ?_; refine tw4 8 11 HT_ HW_ hHeld ?_; refine tw4 11 14 HT_ HW_ hHeld ?_
   refine ca 9 HT_ Tryz.func77 (bocageref02_Canon.calls _ _ _ _ _ _ A4.out) hHeld fun w10 hb hHeld => ?_
   replace BK365 := bkb BK365 hb; replace HB := bst HB hb; clear hb; refine pw 12 15 HT_ ?_; refine pw 13 16 HT_ ?_; refine pw 14 17 HT_ ?_; refine pw 15 18 HT_ ?_; refine pw 17 20 HT_ ?_; refine tw4 16 19 HT_ HW_ hHeld ?_; refine tw4 18 21 HT_ HW_ hHeld ?_
   refine ca 19 HT_ Tryz.func87 (bocageref02_Less.calls _ _ _ _ _ _ _ A6.out) hHeld fun w11 hb hHeld => ?_
   replace BK365 := bkb BK365 hb; replace HB := bst HB hb; clear hb; refine pw 20 23 HT_ ?_; refine pw 21 2 HT_ ?_
   refine dt HT_ ?_
   try go_wp2
   go_ret; exact endB HB
  ·rw [if_neg c5] at H
   have c5b0 : (t368 == a0_2 && (t369 == a0_3)) = false := by simpa using c5
   (try (have c5b1 : decide (t368 = a0_2 && (t369 == a0_3)) = false := by simpa using c5))
   (try (have c5b2 : (t368 == a0_2 && (t369 == a0_3)) = false := by simpa using c5))
   (try (have c5b3 : ¬ (t368 = a0_2 && (t369 == a0_3)) := by simpa using c5))
   clear c5; obtain rfl := Option.some.inj H; go_enter Tryz.func86, Tryz.ntmps86
   try go_wp2_with (first | ((with_reducible refine gate_dst (N := 1) rfl ?_); refine bxf #[.int .i64 a0_0, .int .i64 a0_1, .int .i64 a0_2, .int .i64 a0_3] 35 HB fun gb365 w12 BK365 GW365 HB hg hb => ?_; have GE365 := GW365; clear hb hg))
   replace BK365 := am (blk_drew BK365.out); replace HB := am (below_drew1 HB.out)
   refine st F22 [] (h4 BK365) fun hHeld => ?_; refine with_tabW bocageref03_Right.tab1 bocageref03_Right.bits1 (fun HT_ HW_ => ?_)
   generalize w12.drew = w13 at BK365 HB hHeld ⊢; refine pw 0 3 HT_ ?_; refine pw 3 6 HT_ ?_; refine tw4 1 4 HT_ HW_ hHeld ?_; refine tw4 4 7 HT_ HW_ hHeld ?_
   refine ca 2 HT_ Tryz.func77 (bocageref02_Canon.calls _ _ _ _ _ _ A2.out) hHeld fun w14 hb hHeld => ?_
   replace BK365 := bkb BK365 hb; replace HB := bst HB hb; clear hb; refine pw 5 8 HT_ ?_; refine pw 6 9 HT_ ?_; refine pw 7 10 HT_ ?_; refine pw 10 13 HT_ ?_; refine tw4 8 11 HT_ HW_ hHeld ?_; refine tw4 11 14 HT_ HW_ hHeld ?_
   refine ca 9 HT_ Tryz.func77 (bocageref02_Canon.calls _ _ _ _ _ _ A4.out) hHeld fun w15 hb hHeld => ?_
   replace BK365 := bkb BK365 hb; replace HB := bst HB hb; clear hb; refine pw 12 15 HT_ ?_; refine pw 13 16 HT_ ?_; refine pw 14 17 HT_ ?_; refine px 15 18 HT_ ?_; refine px 16 19 HT_ ?_; refine px 17 20 HT_ ?_; refine px 18 21 HT_ ?_; refine px 19 22 HT_ ?_; refine pw 20 23 HT_ ?_; refine pw 21 2 HT_ ?_
   refine dt HT_ ?_
   try go_wp2
   go_ret; exact endB HB
 ·rw [if_neg c3] at H
  have c3b0 : (t366 == a0_0 && (t367 == a0_1)) = false := by simpa using c3
  (try (have c3b1 : decide (t366 = a0_0 && (t367 == a0_1)) = false := by simpa using c3))
  (try (have c3b2 : (t366 == a0_0 && (t367 == a0_1)) = false := by simpa using c3))
  (try (have c3b3 : ¬ (t366 = a0_0 && (t367 == a0_1)) := by simpa using c3))
  clear c3; obtain rfl := Option.some.inj H; go_enter Tryz.func86, Tryz.ntmps86
  try go_wp2_with (first | ((with_reducible refine gate_dst (N := 1) rfl ?_); refine bxf #[.int .i64 a0_0, .int .i64 a0_1, .int .i64 a0_2, .int .i64 a0_3] 35 HB fun gb365 w16 BK365 GW365 HB hg hb => ?_; have GE365 := GW365; clear hb hg))
  replace BK365 := am (blk_drew BK365.out); replace HB := am (below_drew1 HB.out)
  refine st F22 [] (h4 BK365) fun hHeld => ?_; refine with_tabW bocageref03_Right.tab1 bocageref03_Right.bits1 (fun HT_ HW_ => ?_)
  generalize w16.drew = w17 at BK365 HB hHeld ⊢; refine pw 0 3 HT_ ?_; refine pw 3 6 HT_ ?_; refine tw4 1 4 HT_ HW_ hHeld ?_; refine tw4 4 7 HT_ HW_ hHeld ?_
  refine ca 2 HT_ Tryz.func77 (bocageref02_Canon.calls _ _ _ _ _ _ A2.out) hHeld fun w18 hb hHeld => ?_
  replace BK365 := bkb BK365 hb; replace HB := bst HB hb; clear hb; refine pw 5 8 HT_ ?_; refine pw 6 9 HT_ ?_; refine px 7 10 HT_ ?_; refine px 8 11 HT_ ?_; refine px 9 12 HT_ ?_; refine px 10 13 HT_ ?_; refine px 11 14 HT_ ?_; refine px 12 15 HT_ ?_; refine pw 13 16 HT_ ?_; refine pw 14 17 HT_ ?_; refine px 15 18 HT_ ?_; refine px 16 19 HT_ ?_; refine px 17 20 HT_ ?_; refine px 18 21 HT_ ?_; refine px 19 22 HT_ ?_; refine pw 20 23 HT_ ?_; refine pw 21 2 HT_ ?_
  refine dt HT_ ?_
  try go_wp2
  go_ret; exact endB HB
end Go.Proofs.YtbcpnejdbookkaaGreat.Print
namespace Go.Proofs.YtbcpnejdbookkaaGreat.Print
open Go.RowKit Go.Proofs.YtbcpnejdbookkaaGreatW.PrintWords Go.Proofs.YtbcpnejdbookkaaGreatW.PrintLast Go.Proofs.YtbcpnejdbookkaaGreatW.PrintMore
attribute [local go_sem] max2_int min2_int max_two min_two max_three min_three max_four min_four   -- for this text's walks alone
def bocageref03_Sorted.l0 : Nat → List (S35) → Int → Option (Bool)
  | 0, _, _ => none
  | k + 1, x0, x3 => if x3 < (x0.length : Int) then (if 0 ≤ x3 then ((bocageref03_Right.f k ((rd_T35 x0 x3).f0.f0) ((rd_T35 x0 x3).f0.f1) ((rd_T35 x0 x3).f1.f0) ((rd_T35 x0 x3).f1.f1)).bind fun t372 => (if t372 = true then (if x3 > 0 then (if 0 ≤ (wrap64 (x3 - 1)) then (if (wrap64 (x3 - 1)) < (x0.length : Int) then ((bocageref02_Less.f k ((rd_T35 x0 x3).f0.f0) ((rd_T35 x0 x3).f0.f1) ((rd_T35 x0 (wrap64 (x3 - 1))).f1.f0) ((rd_T35 x0 (wrap64 (x3 - 1))).f1.f1)).bind fun t375 => (if t375 = true then (some false) else (bocageref03_Sorted.l0 k x0 (wrap64 (x3 + 1))))) else (none)) else (none)) else (bocageref03_Sorted.l0 k x0 (wrap64 (x3 + 1)))) else (some false))) else (none)) else (some true)
def bocageref03_Sorted.f (k : Nat) (l0 : List (S35)) : Option (Bool) := bocageref03_Sorted.l0 k l0 0
def bocageref03_Sorted.T4 : Bool × List (List Nat × List Nat) := (true, [([], []), ([], []), ([0, 1], [0, 1]), ([2], [2]), ([3], [3]), ([4], [4]), ([5, 4], [5]), ([6], [6]), ([7, 6], [6, 7]), ([8, 6, 6], [6, 8]), ([9], [9]), ([9], [9]), ([10, 11, 9], [9, 10, 11]), ([12, 9], [9, 12]), ([13, 9], [9, 13]), ([9], [9]), ([9], [9]), ([16, 9], [9, 16]), ([15, 17, 9], [9, 15, 17]), ([18, 9], [9, 18]), ([19, 9], [9, 19]), ([14, 20, 9, 9], [9, 14, 20]), ([9, 21, 6], [6, 9, 21]), ([6, 22], [6, 22])])
def bocageref03_Sorted.B4 : List Nat := [0, 0, 3, 7, 15, 31, 63, 127, 255, 511, 1023, 1023, 4095, 8191, 16383, 1023, 1023, 66559, 230399, 492543, 1016831, 2097151, 4194303, 8388607]
theorem bocageref03_Sorted.tab4 : rtab .any (opsOf Tryz.f117 4) = bocageref03_Sorted.T4 := by kernel_rfl
theorem bocageref03_Sorted.bits4 : waitsOk bocageref03_Sorted.T4.2 bocageref03_Sorted.B4 = true := by kernel_rfl
theorem bocageref03_Sorted.calls (k : Nat) (A0 : Option Addr) (c0 : Nat) (l0 : List (S35)) (r : Bool) (w : World) (hr0 : Kd.C k35 w A0 l0.length l0) (hc0 : l0.length ≤ c0) (h : bocageref03_Sorted.f k l0 = some r) :
 Calls Tryz.prog 117 #[.slice A0 l0.length c0] w fun e w' => e = .returned (.bool r) ∧ Below w.heap.size w w' := by
 have hu35 := Tryz.underlying35; have hu33 := Tryz.underlying33; have HR0 := am hr0; have HC0 := am hc0; clear hr0 hc0
 have HB := am (Below.refl w.heap.size w)
 have H : (bocageref03_Sorted.l0 k l0 0) = some r := h
 clear h; have H' := am H; clear H; go_enter Tryz.func117, Tryz.ntmps117; go_wp2
 go_loopg [3] k (fun kq v3 w' => ∃ (x3_1 : Int), v3 = .int .i64 x3_1 ∧ Aside0 (bocageref03_Sorted.l0 kq l0 x3_1 = some r) ∧ Aside0 (kq ≤ k) ∧ Aside0 (Below w.heap.size w w'))
 case atStart => exact ⟨_, rs, H', ⟨Nat.le_refl _⟩, ⟨bl HB⟩⟩
 case round =>
  clear H'
  try clear c1
  obtain ⟨x3_1, rfl, HA, HK1, HB⟩ := hrel
  cases gk with
  | zero => exact absurd HA.out (by simp [bocageref03_Sorted.l0])
  | succ k1 =>
   have H := HA.out; clear HA
   simp only [bocageref03_Sorted.l0] at H
   revert H; refine itc (fun c2b0 H => ?_) fun c2b0 H => ?_
   ·revert H; refine its fun c3b0 H => ?_
    revert H; refine bnd fun t372 A4 H => ?_
    cases t372; rotate_left
    ·replace H := itt H; revert H; refine itc (fun (c6b0 : decide (0 < x3_1) = true) H => ?_) fun (c6b0 : decide (0 < x3_1) = false) H => ?_
     ·obtain ⟨ji7, hji7⟩ : ∃ j_ : Int, (wrap64 (x3_1 - 1)) = j_ := ⟨_, rfl⟩
      (first | rw [hji7] at H | simp only [hji7] at H)
      (try rw [hji7] at A4)
      have hji7w : (IntKind.i64.wrap (x3_1 - 1)) = ji7 := (i64_w _).trans hji7
      revert H; refine its fun c8b0 H => ?_
      revert H; refine its fun c9b0 H => ?_
      revert H; refine bnd fun t375 A10 H => ?_
      cases t375; rotate_left
      ·replace H := itt H; obtain rfl := Option.some.inj H
       try go_wp2
       replace HB := am (below_drew1 HB.out); have p371 : 0 ≤ (x3_1 : Int) := pd; have q371 : x3_1 < (l0.length : Int) := pd; obtain ⟨ad371, e371, hx371_0, hx371_1, hx371_2, hx371_3⟩ := at_T35 HR0.out x3_1 p371 q371
       have hw371_3 := hx371_3
       have hw371_2 := hx371_2
       have hw371_1 := hx371_1
       have hw371_0 := hx371_0
       cases e371; replace hx371_0 := cl HB hx371_0; replace hx371_1 := cl HB hx371_1; replace hx371_2 := cl HB hx371_2; replace hx371_3 := cl HB hx371_3; replace p371 := eq_true p371; replace q371 := eq_true q371; have p373 : 0 ≤ (x3_1 : Int) := pd; have q373 : x3_1 < (l0.length : Int) := pd; obtain ⟨ad373, e373, hx373_0, hx373_1, hx373_2, hx373_3⟩ := at_T35 HR0.out x3_1 p373 q373
       have hw373_3 := hx373_3
       have hw373_2 := hx373_2
       have hw373_1 := hx373_1
       have hw373_0 := hx373_0
       obtain rfl : ad371 = ad373 := (by injection e373)
       replace hx373_0 := cl HB hx373_0; replace hx373_1 := cl HB hx373_1; replace hx373_2 := cl HB hx373_2; replace hx373_3 := cl HB hx373_3; replace p373 := eq_true p373; replace q373 := eq_true q373; have p374 : 0 ≤ ((ji7) : Int) := pd; have q374 : (ji7) < (l0.length : Int) := pd; obtain ⟨ad374, e374, hx374_0, hx374_1, hx374_2, hx374_3⟩ := at_T35 HR0.out (ji7) p374 q374
       have hw374_3 := hx374_3
       have hw374_2 := hx374_2
       have hw374_1 := hx374_1
       have hw374_0 := hx374_0
       obtain rfl : ad371 = ad374 := (by injection e374)
       replace hx374_0 := cl HB hx374_0; replace hx374_1 := cl HB hx374_1; replace hx374_2 := cl HB hx374_2; replace hx374_3 := cl HB hx374_3; replace p374 := eq_true p374; replace q374 := eq_true q374
       refine st F24 [] (g1 (cl HB hw371_0) (g1 (cl HB hw371_1) (g1 (cl HB hw371_2) (g1 (cl HB hw371_3) (g1 (cl HB hw373_0) (g1 (cl HB hw373_1) (g1 (cl HB hw373_2) (g1 (cl HB hw373_3) (g1 (cl HB hw374_0) (g1 (cl HB hw374_1) (g1 (cl HB hw374_2) (h1 (cl HB hw374_3))))))))))))) fun hHeld => ?_; refine with_tabW bocageref03_Sorted.tab4 bocageref03_Sorted.bits4 (fun HT_ HW_ => ?_)
       generalize wr.drew = w12 at HB hx371_0 hx371_1 hx371_2 hx371_3 hx373_0 hx373_1 hx373_2 hx373_3 hx374_0 hx374_1 hx374_2 hx374_3 hHeld ⊢; refine pw 0 10 HT_ ?_; refine pw 1 11 HT_ ?_; refine pw 2 12 HT_ ?_; refine tw12 3 13 HT_ HW_ hHeld ?_
       refine ca 4 HT_ Tryz.func86 (bocageref03_Right.calls _ _ _ _ _ _ _ A4.out) hHeld fun w13 hb hHeld => ?_
       replace HB := bst HB hb; clear hb; refine pw 5 15 HT_ ?_; refine pw 6 16 HT_ ?_; refine pw 7 17 HT_ ?_; refine pw 8 18 HT_ ?_; refine pw 9 19 HT_ ?_; refine pw 10 20 HT_ ?_; refine pw 11 21 HT_ ?_; refine pw 12 22 HT_ ?_; refine pw 13 23 HT_ ?_; refine pw 15 25 HT_ ?_; refine pw 16 26 HT_ ?_; refine pw 17 27 HT_ ?_; refine pw 18 28 HT_ ?_; refine pw 19 29 HT_ ?_; refine tw12 14 24 HT_ HW_ hHeld ?_; refine tw12 20 30 HT_ HW_ hHeld ?_
       refine ca 21 HT_ Tryz.func87 (bocageref02_Less.calls _ _ _ _ _ _ _ A10.out) hHeld fun w14 hb hHeld => ?_
       replace HB := bst HB hb; clear hb; refine pw 22 32 HT_ ?_; refine pw 23 33 HT_ ?_
       refine dt HT_ ?_
       try go_wp2
       go_ret
       exact ⟨by first | rfl | (simp [errW_none, errW_some] <;> rfl) | (simp only [← hji7]; first | rfl | (simp [errW_none, errW_some] <;> rfl)) | (simp [*, errW_none, errW_some] <;> rfl), by repeat (first | (with_reducible first | exact HB.out | apply below_alloc | apply pw_below_drewN | apply below_drew1) | exact HB.out)⟩
      ·replace H := itf H; have H' := am H; clear H
       try go_wp2
       replace HB := am (below_drew1 HB.out); have p371 : 0 ≤ (x3_1 : Int) := pd; have q371 : x3_1 < (l0.length : Int) := pd; obtain ⟨ad371, e371, hx371_0, hx371_1, hx371_2, hx371_3⟩ := at_T35 HR0.out x3_1 p371 q371
       have hw371_3 := hx371_3
       have hw371_2 := hx371_2
       have hw371_1 := hx371_1
       have hw371_0 := hx371_0
       cases e371; replace hx371_0 := cl HB hx371_0; replace hx371_1 := cl HB hx371_1; replace hx371_2 := cl HB hx371_2; replace hx371_3 := cl HB hx371_3; replace p371 := eq_true p371; replace q371 := eq_true q371; have p373 : 0 ≤ (x3_1 : Int) := pd; have q373 : x3_1 < (l0.length : Int) := pd; obtain ⟨ad373, e373, hx373_0, hx373_1, hx373_2, hx373_3⟩ := at_T35 HR0.out x3_1 p373 q373
       have hw373_3 := hx373_3
       have hw373_2 := hx373_2
       have hw373_1 := hx373_1
       have hw373_0 := hx373_0
       obtain rfl : ad371 = ad373 := (by injection e373)
       replace hx373_0 := cl HB hx373_0; replace hx373_1 := cl HB hx373_1; replace hx373_2 := cl HB hx373_2; replace hx373_3 := cl HB hx373_3; replace p373 := eq_true p373; replace q373 := eq_true q373; have p374 : 0 ≤ ((ji7) : Int) := pd; have q374 : (ji7) < (l0.length : Int) := pd; obtain ⟨ad374, e374, hx374_0, hx374_1, hx374_2, hx374_3⟩ := at_T35 HR0.out (ji7) p374 q374
       have hw374_3 := hx374_3
       have hw374_2 := hx374_2
       have hw374_1 := hx374_1
       have hw374_0 := hx374_0
       obtain rfl : ad371 = ad374 := (by injection e374)
       replace hx374_0 := cl HB hx374_0; replace hx374_1 := cl HB hx374_1; replace hx374_2 := cl HB hx374_2; replace hx374_3 := cl HB hx374_3; replace p374 := eq_true p374; replace q374 := eq_true q374
       refine st F24 [] (g1 (cl HB hw371_0) (g1 (cl HB hw371_1) (g1 (cl HB hw371_2) (g1 (cl HB hw371_3) (g1 (cl HB hw373_0) (g1 (cl HB hw373_1) (g1 (cl HB hw373_2) (g1 (cl HB hw373_3) (g1 (cl HB hw374_0) (g1 (cl HB hw374_1) (g1 (cl HB hw374_2) (h1 (cl HB hw374_3))))))))))))) fun hHeld => ?_; refine with_tabW bocageref03_Sorted.tab4 bocageref03_Sorted.bits4 (fun HT_ HW_ => ?_)
       generalize wr.drew = w15 at HB hx371_0 hx371_1 hx371_2 hx371_3 hx373_0 hx373_1 hx373_2 hx373_3 hx374_0 hx374_1 hx374_2 hx374_3 hHeld ⊢; refine pw 0 10 HT_ ?_; refine pw 1 11 HT_ ?_; refine pw 2 12 HT_ ?_; refine tw12 3 13 HT_ HW_ hHeld ?_
       refine ca 4 HT_ Tryz.func86 (bocageref03_Right.calls _ _ _ _ _ _ _ A4.out) hHeld fun w16 hb hHeld => ?_
       replace HB := bst HB hb; clear hb; refine pw 5 15 HT_ ?_; refine pw 6 16 HT_ ?_; refine pw 7 17 HT_ ?_; refine pw 8 18 HT_ ?_; refine pw 9 19 HT_ ?_; refine pw 10 20 HT_ ?_; refine pw 11 21 HT_ ?_; refine pw 12 22 HT_ ?_; refine pw 13 23 HT_ ?_; refine pw 15 25 HT_ ?_; refine pw 16 26 HT_ ?_; refine pw 17 27 HT_ ?_; refine pw 18 28 HT_ ?_; refine pw 19 29 HT_ ?_; refine tw12 14 24 HT_ HW_ hHeld ?_; refine tw12 20 30 HT_ HW_ hHeld ?_
       refine ca 21 HT_ Tryz.func87 (bocageref02_Less.calls _ _ _ _ _ _ _ A10.out) hHeld fun w17 hb hHeld => ?_
       replace HB := bst HB hb; clear hb; refine pw 22 32 HT_ ?_; refine pw 23 33 HT_ ?_
       refine dt HT_ ?_
       try go_wp2
       go_roundg k1
       case measure => have := HK1.out; omega
       case rel => exact ⟨_, rs, H', kl HK1, ⟨bl HB⟩⟩
     ·have H' := am H; clear H
      try go_wp2
      replace HB := am (below_drew1 HB.out); have p371 : 0 ≤ (x3_1 : Int) := pd; have q371 : x3_1 < (l0.length : Int) := pd; obtain ⟨ad371, e371, hx371_0, hx371_1, hx371_2, hx371_3⟩ := at_T35 HR0.out x3_1 p371 q371
      have hw371_3 := hx371_3
      have hw371_2 := hx371_2
      have hw371_1 := hx371_1
      have hw371_0 := hx371_0
      cases e371; replace hx371_0 := cl HB hx371_0; replace hx371_1 := cl HB hx371_1; replace hx371_2 := cl HB hx371_2; replace hx371_3 := cl HB hx371_3; replace p371 := eq_true p371; replace q371 := eq_true q371
      refine st F24 [] (g1 (cl HB hw371_0) (g1 (cl HB hw371_1) (g1 (cl HB hw371_2) (h1 (cl HB hw371_3))))) fun hHeld => ?_; refine with_tabW bocageref03_Sorted.tab4 bocageref03_Sorted.bits4 (fun HT_ HW_ => ?_)
      generalize wr.drew = w18 at HB hx371_0 hx371_1 hx371_2 hx371_3 hHeld ⊢; refine pw 0 10 HT_ ?_; refine pw 1 11 HT_ ?_; refine pw 2 12 HT_ ?_; refine tw4 3 13 HT_ HW_ hHeld ?_
      refine ca 4 HT_ Tryz.func86 (bocageref03_Right.calls _ _ _ _ _ _ _ A4.out) hHeld fun w19 hb hHeld => ?_
      replace HB := bst HB hb; clear hb; refine pw 5 15 HT_ ?_; refine pw 6 16 HT_ ?_; refine pw 7 17 HT_ ?_; refine pw 8 18 HT_ ?_; refine pw 9 19 HT_ ?_; refine px 10 20 HT_ ?_; refine px 11 21 HT_ ?_; refine px 12 22 HT_ ?_; refine px 13 23 HT_ ?_; refine px 14 24 HT_ ?_; refine px 15 25 HT_ ?_; refine px 16 26 HT_ ?_; refine px 17 27 HT_ ?_; refine px 18 28 HT_ ?_; refine px 19 29 HT_ ?_; refine px 20 30 HT_ ?_; refine px 21 31 HT_ ?_; refine pw 22 32 HT_ ?_; refine pw 23 33 HT_ ?_
      refine dt HT_ ?_
      try go_wp2
      go_roundg k1
      case measure => have := HK1.out; omega
      case rel => exact ⟨_, rs, H', kl HK1, ⟨bl HB⟩⟩
    ·replace H := itf H; obtain rfl := Option.some.inj H
     try go_wp2
     replace HB := am (below_drew1 HB.out); have p371 : 0 ≤ (x3_1 : Int) := pd; have q371 : x3_1 < (l0.length : Int) := pd; obtain ⟨ad371, e371, hx371_0, hx371_1, hx371_2, hx371_3⟩ := at_T35 HR0.out x3_1 p371 q371
     have hw371_3 := hx371_3
     have hw371_2 := hx371_2
     have hw371_1 := hx371_1
     have hw371_0 := hx371_0
     cases e371; replace hx371_0 := cl HB hx371_0; replace hx371_1 := cl HB hx371_1; replace hx371_2 := cl HB hx371_2; replace hx371_3 := cl HB hx371_3; replace p371 := eq_true p371; replace q371 := eq_true q371
     refine st F24 [] (g1 (cl HB hw371_0) (g1 (cl HB hw371_1) (g1 (cl HB hw371_2) (h1 (cl HB hw371_3))))) fun hHeld => ?_; refine with_tabW bocageref03_Sorted.tab4 bocageref03_Sorted.bits4 (fun HT_ HW_ => ?_)
     generalize wr.drew = w20 at HB hx371_0 hx371_1 hx371_2 hx371_3 hHeld ⊢; refine pw 0 10 HT_ ?_; refine pw 1 11 HT_ ?_; refine pw 2 12 HT_ ?_; refine tw4 3 13 HT_ HW_ hHeld ?_
     refine ca 4 HT_ Tryz.func86 (bocageref03_Right.calls _ _ _ _ _ _ _ A4.out) hHeld fun w21 hb hHeld => ?_
     replace HB := bst HB hb; clear hb; refine pw 5 15 HT_ ?_; refine pw 6 16 HT_ ?_; refine px 7 17 HT_ ?_; refine px 8 18 HT_ ?_; refine px 9 19 HT_ ?_; refine px 10 20 HT_ ?_; refine px 11 21 HT_ ?_; refine px 12 22 HT_ ?_; refine px 13 23 HT_ ?_; refine px 14 24 HT_ ?_; refine px 15 25 HT_ ?_; refine px 16 26 HT_ ?_; refine px 17 27 HT_ ?_; refine px 18 28 HT_ ?_; refine px 19 29 HT_ ?_; refine px 20 30 HT_ ?_; refine px 21 31 HT_ ?_; refine px 22 32 HT_ ?_; refine pw 23 33 HT_ ?_
     refine dt HT_ ?_
     try go_wp2
     go_ret; exact endB HB
   ·obtain rfl := Option.some.inj H; go_wp2; go_ret; exact endB HB
def bocageref09_Sound.f (k : Nat) (l0 : List (S37)) : Option (Bool) := (bocageref09_Spans.f k l0).bind fun t376 => ((bocageref03_Sorted.f k t376).bind fun t379 => (some t379))
theorem bocageref09_Sound.calls (k : Nat) (A0 : Option Addr) (c0 : Nat) (l0 : List (S37)) (r : Bool) (w : World) (hr0 : Kd.C k37 w A0 l0.length l0) (hc0 : l0.length ≤ c0) (h : bocageref09_Sound.f k l0 = some r) :
 Calls Tryz.prog 84 #[.slice A0 l0.length c0] w fun e w' => e = .returned (.bool r) ∧ Below w.heap.size w w' := by
 have HR0 := am hr0; have HC0 := am hc0; clear hr0 hc0
 have HB := am (Below.refl w.heap.size w)
 unfold bocageref09_Sound.f at h; have H := h; clear h; revert H; refine bnd fun t376 A2 H => ?_
 revert H; refine bnd fun t379 A3 H => ?_
 obtain rfl := Option.some.inj H; go_enter Tryz.func84, Tryz.ntmps84
 go_wp2_with (first | ((with_reducible refine gate_callee (f := 26) rfl ?_); refine gol (some 4) Tryz.func26 #[.slice A0 l0.length c0] ?_; (with_reducible refine (bocageref09_Spans.calls _ _ _ _ _ _ ?side1 ?side2 A2.out).mono ?_); (case side1 => repeat (first | exact HR0.out | (with_reducible refine Kd.C_alloc ?_ _) | (with_reducible refine Kd.C_drewN ?_ _) | (with_reducible refine Kd.C_drew ?_))); (case side2 => exact HC0.out); rintro e w4 ⟨v377, rfl, ho0, hb⟩; refine ⟨_, rfl, ?_⟩; have HO378 := kw ho0 HB; replace HB := bst HB hb; clear hb ho0; obtain ⟨Ao5, co5, rfl⟩ := Kd.R_slice HO378.out) | ((with_reducible refine gate_callee (f := 117) rfl ?_); refine gol (some 5) Tryz.func117 #[.slice Ao5 t376.length co5] ?_; (with_reducible refine (bocageref03_Sorted.calls _ _ _ _ _ _ (cr HO378) (cv HO378) A3.out).mono ?_); rintro e w6 ⟨rfl, hb⟩; refine ⟨_, rfl, ?_⟩; replace HO378 := krb HO378 hb; replace HB := bst HB hb; clear hb))
 go_ret; exact endB HB
end Go.Proofs.YtbcpnejdbookkaaGreat.Print
namespace Go.Proofs.YtbcpnejdbookkaaGreat.Print
open Go.RowKit Go.Proofs.YtbcpnejdbookkaaGreatW.PrintWords Go.Proofs.YtbcpnejdbookkaaGreatW.PrintLast Go.Proofs.YtbcpnejdbookkaaGreatW.PrintMore
attribute [local go_sem] max2_int min2_int max_two min_two max_three min_three max_four min_four   -- for this text's walks alone
attribute [local go_sem high] eqA33
mutual
def bocageref14_Tidy.l0 : Nat → List (S37) → List (S37) → Int → Int → Bool → Int → Option ((List (S37)))
  | 0, _, _, _, _, _, _ => none
  | k + 1, x1, x5, x6, x381000, x381001, x381002 => if x6 < (x1.length : Int) then (if x381001 = true then (if 0 ≤ x6 then (bocageref14_Tidy.j1 k x1 x5 x6 (((rd_T37 x1 x6).f1) == x381002) x381000 x381001 x381002) else (none)) else (bocageref14_Tidy.j1 k x1 x5 x6 false x381000 x381001 x381002)) else (some x5)
def bocageref14_Tidy.j1 : Nat → List (S37) → List (S37) → Int → Bool → Int → Bool → Int → Option ((List (S37)))
  | 0, _, _, _, _, _, _, _ => none
  | k + 1, x1, x5, x6, x28, x381000, x381001, x381002 => if x28 = true then (bocageref14_Tidy.l0 k x1 x5 (wrap64 (x6 + 1)) x381000 x381001 x381002) else (if x381000 = 0 then (if (wrap64 ((x5.length : Int) - 1)) ≥ 0 then (if 0 ≤ (wrap64 ((x5.length : Int) - 1)) then (if (wrap64 ((x5.length : Int) - 1)) < (x5.length : Int) then (if 0 ≤ x6 then (if x6 < (x1.length : Int) then (if ((rd_T37 x5 (wrap64 ((x5.length : Int) - 1))).f1) = ((rd_T37 x1 x6).f1) then (if (((rd_T37 x5 (wrap64 ((x5.length : Int) - 1))).f0.f1.f0) == ((rd_T37 x1 x6).f0.f0.f0) && (((rd_T37 x5 (wrap64 ((x5.length : Int) - 1))).f0.f1.f1) == ((rd_T37 x1 x6).f0.f0.f1))) = true then (bocageref14_Tidy.l0 k x1 (x5.set ((wrap64 ((x5.length : Int) - 1)) : Int).toNat (⟨(⟨(⟨(rd_T37 x5 (wrap64 ((x5.length : Int) - 1))).f0.f0.f0, (rd_T37 x5 (wrap64 ((x5.length : Int) - 1))).f0.f0.f1⟩ : S33), (⟨(rd_T37 x1 x6).f0.f1.f0, (rd_T37 x1 x6).f0.f1.f1⟩ : S33)⟩ : S35), (rd_T37 x5 (wrap64 ((x5.length : Int) - 1))).f1⟩ : S37)) (wrap64 (x6 + 1)) x381000 x381001 x381002) else (if x5.length < 3518437208883 then (bocageref14_Tidy.l0 k x1 (x5 ++ [(⟨(⟨(⟨(rd_T37 x1 x6).f0.f0.f0, (rd_T37 x1 x6).f0.f0.f1⟩ : S33), (⟨(rd_T37 x1 x6).f0.f1.f0, (rd_T37 x1 x6).f0.f1.f1⟩ : S33)⟩ : S35), (rd_T37 x1 x6).f1⟩ : S37)]) (wrap64 (x6 + 1)) x381000 x381001 x381002) else (none))) else (if x5.length < 3518437208883 then (bocageref14_Tidy.l0 k x1 (x5 ++ [(⟨(⟨(⟨(rd_T37 x1 x6).f0.f0.f0, (rd_T37 x1 x6).f0.f0.f1⟩ : S33), (⟨(rd_T37 x1 x6).f0.f1.f0, (rd_T37 x1 x6).f0.f1.f1⟩ : S33)⟩ : S35), (rd_T37 x1 x6).f1⟩ : S37)]) (wrap64 (x6 + 1)) x381000 x381001 x381002) else (none))) else (none)) else (none)) else (none)) else (none)) else (if 0 ≤ x6 then (if x6 < (x1.length : Int) then (if x5.length < 3518437208883 then (bocageref14_Tidy.l0 k x1 (x5 ++ [(⟨(⟨(⟨(rd_T37 x1 x6).f0.f0.f0, (rd_T37 x1 x6).f0.f0.f1⟩ : S33), (⟨(rd_T37 x1 x6).f0.f1.f0, (rd_T37 x1 x6).f0.f1.f1⟩ : S33)⟩ : S35), (rd_T37 x1 x6).f1⟩ : S37)]) (wrap64 (x6 + 1)) x381000 x381001 x381002) else (none)) else (none)) else (none))) else (if 0 ≤ x6 then (if x6 < (x1.length : Int) then (if x5.length < 3518437208883 then (bocageref14_Tidy.l0 k x1 (x5 ++ [(⟨(⟨(⟨(rd_T37 x1 x6).f0.f0.f0, (rd_T37 x1 x6).f0.f0.f1⟩ : S33), (⟨(rd_T37 x1 x6).f0.f1.f0, (rd_T37 x1 x6).f0.f1.f1⟩ : S33)⟩ : S35), (rd_T37 x1 x6).f1⟩ : S37)]) (wrap64 (x6 + 1)) x381000 x381001 x381002) else (none)) else (none)) else (none)))
end
def bocageref14_Tidy.f (k : Nat) (a0_0 : Int) (a0_1 : Bool) (a0_2 : Int) (l1 : List (S37)) : Option ((List (S37))) := (bocageref09_Sound.f k l1).bind fun t381 => (if t381 = true then (bocageref14_Tidy.l0 k l1 ([] : List (S37)) 0 a0_0 a0_1 a0_2) else (some ([] : List (S37))))
def bocageref14_Tidy.T7 : Bool × List (List Nat × List Nat) := (true, [([], []), ([0], [0]), ([1], [1]), ([2], [2]), ([2], [2]), ([3, 4, 2], [2, 3, 4]), ([5, 2], [2, 5]), ([6, 2], [2, 6]), ([2], [2]), ([8, 2], [2, 8]), ([7, 9, 2], [2, 7, 9]), ([2, 10], [2, 10])])
def bocageref14_Tidy.B7 : List Nat := [0, 1, 3, 7, 7, 31, 63, 127, 7, 263, 1023, 2047]
theorem bocageref14_Tidy.tab7 : rtab .any (opsOf Tryz.f53 7) = bocageref14_Tidy.T7 := by kernel_rfl
theorem bocageref14_Tidy.bits7 : waitsOk bocageref14_Tidy.T7.2 bocageref14_Tidy.B7 = true := by kernel_rfl
def bocageref14_Tidy.T9 : Bool × List (List Nat × List Nat) := (true, [([], []), ([0], [0]), ([1], [1]), ([2], [2]), ([3], [3]), ([4, 3], [3, 4]), ([3, 5], [3, 5]), ([6, 3], [6]), ([7], [7]), ([7], [7]), ([8, 9, 7], [7, 8, 9]), ([10, 7], [7, 10]), ([11, 7], [7, 11]), ([7], [7]), ([7], [7]), ([13, 14, 7], [7, 13, 14]), ([15, 7], [7, 15]), ([16, 7], [7, 16]), ([12, 17, 7], [7, 12, 17]), ([7, 18], [7, 18]), ([19, 7], [19]), ([20], [20]), ([20], [20]), ([21, 22, 20], [20, 21, 22]), ([23, 20], [20, 23]), ([24, 20], [20, 24]), ([25, 20], [20, 25]), ([20], [20]), ([20], [20]), ([27, 28, 20], [20, 27, 28]), ([29, 20], [20, 29]), ([30, 20], [20, 30]), ([31, 20], [20, 31]), ([26, 32, 20], [20, 26, 32]), ([20, 33], [20, 33])])
def bocageref14_Tidy.B9 : List Nat := [0, 1, 3, 7, 15, 31, 63, 127, 255, 255, 1023, 2047, 4095, 255, 255, 24831, 57599, 123135, 262143, 524287, 1048575, 2097151, 2097151, 8388607, 16777215, 33554431, 67108863, 2097151, 2097151, 404750335, 941621247, 2015363071, 4162846719, 8589934591, 17179869183]
theorem bocageref14_Tidy.tab9 : rtab .any (opsOf Tryz.f53 9) = bocageref14_Tidy.T9 := by kernel_rfl
theorem bocageref14_Tidy.bits9 : waitsOk bocageref14_Tidy.T9.2 bocageref14_Tidy.B9 = true := by kernel_rfl
def bocageref14_Tidy.T10 : Bool × List (List Nat × List Nat) := (true, [([], []), ([], []), ([], []), ([], []), ([2, 3], [2, 3]), ([4], [4]), ([5], [5]), ([6], [6]), ([], []), ([], []), ([8, 9], [8, 9]), ([10], [10]), ([11], [11]), ([12], [12]), ([7, 13], [7, 13]), ([0, 1, 0, 1, 2, 3, 4, 5, 6, 7, 8, 9, 10, 11, 12, 13, 14], [0, 1]), ([15, 0, 1, 2, 3, 4, 5, 6, 7, 8, 9, 10, 11, 12, 13, 14], [15]), ([16, 14, 0, 1, 2, 3, 4, 5, 6, 7, 8, 9, 10, 11, 12, 13, 14], [14, 16])])
def bocageref14_Tidy.B10 : List Nat := [0, 0, 0, 0, 12, 28, 60, 124, 0, 0, 768, 1792, 3840, 7936, 16380, 32767, 65535, 131071]
theorem bocageref14_Tidy.tab10 : rtab .any (opsOf Tryz.f53 10) = bocageref14_Tidy.T10 := by kernel_rfl
theorem bocageref14_Tidy.bits10 : waitsOk bocageref14_Tidy.T10.2 bocageref14_Tidy.B10 = true := by kernel_rfl
theorem bocageref14_Tidy.calls (k : Nat) (a0_0 : Int) (a0_1 : Bool) (a0_2 : Int) (A1 : Option Addr) (c1 : Nat) (l1 : List (S37)) (r : List (S37)) (w : World) (hr1 : Kd.C k37 w A1 l1.length l1) (hc1 : l1.length ≤ c1) (h : bocageref14_Tidy.f k a0_0 a0_1 a0_2 l1 = some r) :
 Calls Tryz.prog 53 #[.agg #[.int .i64 a0_0, .bool a0_1, .int .i64 a0_2], .slice A1 l1.length c1] w fun e w' => ∃ v0_ : Value, e = .returned (v0_) ∧ Kd.R k37 37 w' w.heap.size (fun _ => True) v0_ r ∧ Below w.heap.size w w' := by
 have hu79 := Tryz.underlying79; have hu33 := Tryz.underlying33; have hu35 := Tryz.underlying35; have hu37 := Tryz.underlying37; have HR1 := am hr1; have HC1 := am hc1; clear hr1 hc1
 have HB := am (Below.refl w.heap.size w)
 unfold bocageref14_Tidy.f at h; have H := h; clear h
 replace H := Option.bind_eq_some_iff.mp H
 obtain ⟨t381, A30, H⟩ := H
 (try (set_option simprocs false in dsimp only at H))
 have A3 := am A30; clear A30; cases t381; rotate_left
 ·replace H := itt H; have H' := am H; clear H; go_enter Tryz.func53, Tryz.ntmps53
  go_wp2_with (first | ((with_reducible refine gate_dst (N := 2) rfl ?_); refine bxf #[.int .i64 a0_0, .bool a0_1, .int .i64 a0_2] 79 HB fun gb380 w5 BK380 GW380 HB hg hb => ?_; have GE380 := GW380; clear hb hg) | ((with_reducible refine gate_callee (f := 84) rfl ?_); refine gol (some 9) Tryz.func84 #[.slice A1 l1.length c1] ?_; (with_reducible refine (bocageref09_Sound.calls _ _ _ _ _ _ ?side1 ?side2 A3.out).mono ?_); (case side1 => repeat (first | exact (Kd.C_below HR1.out HB.out) | (with_reducible refine Kd.C_alloc ?_ _) | (with_reducible refine Kd.C_drewN ?_ _) | (with_reducible refine Kd.C_drew ?_))); (case side2 => exact HC1.out); rintro e w6 ⟨rfl, hb⟩; refine ⟨_, rfl, ?_⟩; replace BK380 := bkb BK380 hb; replace HB := bst HB hb; clear hb))
  go_loopg [5, 6] k (fun kq v5 v6 w' => ∃ (x5_1 : List (S37)) (x6_1 : Int), v6 = .int .i64 x6_1 ∧ Aside0 (bocageref14_Tidy.l0 kq l1 x5_1 x6_1 a0_0 a0_1 a0_2 = some r) ∧ Aside0 (kq ≤ k) ∧ Aside0 (Kd.R k37 37 w' w.heap.size (fun _ => True) v5 x5_1) ∧ Aside0 (w'.heap[gb380]? = some (.cells #[.int .i64 a0_0, .bool a0_1, .int .i64 a0_2] 79 (0, 0))) ∧ Aside0 (Below w.heap.size w w'))
  case atStart => exact ⟨_, _, rs, H', ⟨Nat.le_refl _⟩, kn, ⟨bk BK380⟩, ⟨bl HB⟩⟩
  case round =>
   clear H'
   try clear c1
   try clear p2
   try clear c4
   try clear c5
   obtain ⟨x5_1, x6_1, rfl, HA, HK1, HO_5, BK380, HB⟩ := hrel
   cases gk with
   | zero => exact absurd HA.out (by simp [bocageref14_Tidy.l0])
   | succ k1 =>
    have H := HA.out; clear HA
    simp only [bocageref14_Tidy.l0] at H
    revert H; refine itc (fun c7b0 H => ?_) fun c7b0 H => ?_
    ·have HC8 := am H; clear H
     go_upto_region 7 with (fail)
     go_cut [28] (fun v28 wc => ∃ (kq : Nat) (x28_7 : Bool), v28 = .bool x28_7 ∧ Aside0 (bocageref14_Tidy.j1 kq l1 x5_1 x6_1 x28_7 a0_0 a0_1 a0_2 = some r) ∧ Aside0 (kq ≤ k1) ∧ Aside0 (Kd.R k37 37 wc w.heap.size (fun _ => True) u5 x5_1) ∧ Aside0 (wc.heap[gb380]? = some (.cells #[.int .i64 a0_0, .bool a0_1, .int .i64 a0_2] 79 (0, 0))) ∧ Aside0 (Below w.heap.size w wc))
     case first =>
      have H := HC8.out; clear HC8; cases a0_1; rotate_left
      ·replace H := itt H; revert H; refine its fun c10b0 H => ?_
       (first | rw [c10b0] | (simp only [i64_w, i32_w]; rw [c10b0]) | skip)
       have H' := am H; clear H
       try go_wp2
       replace HO_5 := am (Kd.R_drew HO_5.out); replace BK380 := am (blk_drew BK380.out); replace HB := am (below_drew1 HB.out); have p382 : 0 ≤ (x6_1 : Int) := pd; have q382 : x6_1 < (l1.length : Int) := pd; obtain ⟨ad382, e382, hx382_0, hx382_1, hx382_2, hx382_3, hx382_4⟩ := at_T37 HR1.out x6_1 p382 q382
       have hw382_4 := hx382_4
       have hw382_3 := hx382_3
       have hw382_2 := hx382_2
       have hw382_1 := hx382_1
       have hw382_0 := hx382_0
       cases e382; replace hx382_0 := cl HB hx382_0; replace hx382_1 := cl HB hx382_1; replace hx382_2 := cl HB hx382_2; replace hx382_3 := cl HB hx382_3; replace hx382_4 := cl HB hx382_4; replace p382 := eq_true p382; replace q382 := eq_true q382
       refine st F12 [] (g3 BK380 (g1 (cl HB hw382_0) (g1 (cl HB hw382_1) (g1 (cl HB hw382_2) (g1 (cl HB hw382_3) (h1 (cl HB hw382_4))))))) fun hHeld => ?_; refine with_tabW bocageref14_Tidy.tab7 bocageref14_Tidy.bits7 (fun HT_ HW_ => ?_)
       generalize wr.drew = w11 at HO_5 BK380 HB hx382_0 hx382_1 hx382_2 hx382_3 hx382_4 hHeld ⊢; refine pw 0 17 HT_ ?_; refine tw8 1 18 HT_ HW_ hHeld ?_; refine pw 2 19 HT_ ?_; refine pw 3 20 HT_ ?_; refine pw 4 21 HT_ ?_; refine pw 5 22 HT_ ?_; refine pw 6 23 HT_ ?_; refine pw 8 25 HT_ ?_; refine tw8 7 24 HT_ HW_ hHeld ?_; refine tw8 9 26 HT_ HW_ hHeld ?_; refine pw 10 27 HT_ ?_; refine pw 11 28 HT_ ?_
       refine dt HT_ ?_
       try go_wp2
       go_meet
       case rel => exact ⟨_, ((((rd_T37 l1 x6_1).f1) == a0_2)), rs, H', ⟨by have := HK1.out; first | omega | exact Nat.le_refl _⟩, ⟨kr HO_5⟩, ⟨bk BK380⟩, ⟨bl HB⟩⟩
      ·replace H := itf H; have H' := am H; clear H
       try go_wp2
       replace HO_5 := am (Kd.R_drew HO_5.out); replace BK380 := am (blk_drew BK380.out); replace HB := am (below_drew1 HB.out)
       refine st F12 [] (h3 BK380) fun hHeld => ?_; refine with_tabW bocageref14_Tidy.tab7 bocageref14_Tidy.bits7 (fun HT_ HW_ => ?_)
       generalize wr.drew = w12 at HO_5 BK380 HB hHeld ⊢; refine pw 0 17 HT_ ?_; refine tw3 1 18 HT_ HW_ hHeld ?_; refine pw 2 19 HT_ ?_; refine px 3 20 HT_ ?_; refine px 4 21 HT_ ?_; refine px 5 22 HT_ ?_; refine px 6 23 HT_ ?_; refine px 7 24 HT_ ?_; refine px 8 25 HT_ ?_; refine px 9 26 HT_ ?_; refine px 10 27 HT_ ?_; refine pw 11 28 HT_ ?_
       refine dt HT_ ?_
       try go_wp2
       go_meet
       case rel => exact ⟨_, (false), rs, H', ⟨by have := HK1.out; first | omega | exact Nat.le_refl _⟩, ⟨kr HO_5⟩, ⟨bk BK380⟩, ⟨bl HB⟩⟩
     case rest =>
      clear HC8
      try clear c1
      try clear p2
      try clear p3
      try clear q3
      try clear hx3
      try clear c4
      try clear c5
      try clear c7
      try clear c7b0
      try clear c8
      try clear c9
      try clear c10
      try clear c10b0
      try clear hx382_0
      try clear hx382_1
      try clear hx382_2
      try clear hx382_3
      try clear hx382_4
      try clear p2
      try clear p382
      try clear q382
      obtain ⟨kq, x28_7, rfl, HA, HJ7, HO_5, BK380, HB⟩ := hcut
      cases kq with
      | zero => exact absurd HA.out (by simp [bocageref14_Tidy.j1])
      | succ kj7 =>
       have H := HA.out; clear HA
       simp only [bocageref14_Tidy.j1] at H
       cases x28_7; rotate_left
       ·replace H := itt H; have H' := am H; clear H; go_wp2
        go_roundg kj7
        case measure => have := HK1.out; have := HJ7.out; omega
        case rel => exact ⟨_, _, rs, H', ⟨by have := HK1.out; have := HJ7.out; omega⟩, ⟨kr HO_5⟩, ⟨bk BK380⟩, ⟨bl HB⟩⟩
       ·replace H := itf H
        by_cases c14 : a0_0 = 0
        ·rw [if_pos c14] at H
         have c14b0 : (a0_0 == 0) = true := beq_iff_eq.mpr c14
         have c14b1 : (a0_0 != 0) = false := bne_eq_false_iff_eq.mpr c14
         clear c14; revert H; refine itc (fun (c15b0 : decide (0 ≤ (wrap64 ((x5_1.length : Int) - 1))) = true) H => ?_) fun (c15b0 : decide (0 ≤ (wrap64 ((x5_1.length : Int) - 1))) = false) H => ?_
         ·obtain ⟨ji16, hji16⟩ : ∃ j_ : Int, (wrap64 ((x5_1.length : Int) - 1)) = j_ := ⟨_, rfl⟩
          (first | rw [hji16] at H | simp only [hji16] at H)
          (try rw [hji16] at c15b0)
          have hji16w : (IntKind.i64.wrap ((x5_1.length : Int) - 1)) = ji16 := (i64_w _).trans hji16
          revert H; refine its fun c17b0 H => ?_
          revert H; refine its fun c18b0 H => ?_
          revert H; refine its fun c19b0 H => ?_
          revert H; refine its fun c20b0 H => ?_
          by_cases c21 : ((rd_T37 x5_1 (ji16)).f1) = ((rd_T37 l1 x6_1).f1)
          ·rw [if_pos c21] at H
           have c21b0 : (((rd_T37 x5_1 (ji16)).f1) == ((rd_T37 l1 x6_1).f1)) = true := beq_iff_eq.mpr c21
           have c21b1 : (((rd_T37 x5_1 (ji16)).f1) != ((rd_T37 l1 x6_1).f1)) = false := bne_eq_false_iff_eq.mpr c21
           clear c21
           by_cases c22 : (((rd_T37 x5_1 (ji16)).f0.f1.f0) == ((rd_T37 l1 x6_1).f0.f0.f0) && (((rd_T37 x5_1 (ji16)).f0.f1.f1) == ((rd_T37 l1 x6_1).f0.f0.f1))) = true
           ·rw [if_pos c22] at H
            have c22b0 : (((rd_T37 x5_1 (ji16)).f0.f1.f0) == ((rd_T37 l1 x6_1).f0.f0.f0) && (((rd_T37 x5_1 (ji16)).f0.f1.f1) == ((rd_T37 l1 x6_1).f0.f0.f1))) = true := c22
            (try (have c22b1 : decide (((rd_T37 x5_1 (ji16)).f0.f1.f0) = ((rd_T37 l1 x6_1).f0.f0.f0) && (((rd_T37 x5_1 (ji16)).f0.f1.f1) == ((rd_T37 l1 x6_1).f0.f0.f1))) = true := by simpa using c22))
            (try (have c22b2 : (((rd_T37 x5_1 (ji16)).f0.f1.f0) == ((rd_T37 l1 x6_1).f0.f0.f0) && (((rd_T37 x5_1 (ji16)).f0.f1.f1) == ((rd_T37 l1 x6_1).f0.f0.f1))) = true := by simpa using c22))
            clear c22; generalize hy389 : x5_1.set ((ji16) : Int).toNat (⟨(⟨(⟨(rd_T37 x5_1 (ji16)).f0.f0.f0, (rd_T37 x5_1 (ji16)).f0.f0.f1⟩ : S33), (⟨(rd_T37 l1 x6_1).f0.f1.f0, (rd_T37 l1 x6_1).f0.f1.f1⟩ : S33)⟩ : S35), (rd_T37 x5_1 (ji16)).f1⟩ : S37) = y389 at H; have Ny389 := am hy389.symm; clear hy389; have H' := am H; clear H
            obtain ⟨Ao24, co24, eo24⟩ := Kd.R_slice HO_5.out
            subst eo24
            try go_wp2
            replace HO_5 := am (Kd.R_drew HO_5.out); replace BK380 := am (blk_drew BK380.out); replace HB := am (below_drew1 HB.out)
            obtain ⟨ad383, e383, hx383_0, hx383_1, hx383_2, hx383_3, hx383_4, p383, q383⟩ := ay37 (Kd.R_reads' HO_5.out).2.2 (ji16)
            cases e383; have p384 : 0 ≤ (x6_1 : Int) := pd; have q384 : x6_1 < (l1.length : Int) := pd; obtain ⟨ad384, e384, hx384_0, hx384_1, hx384_2, hx384_3, hx384_4⟩ := at_T37 HR1.out x6_1 p384 q384
            have hw384_4 := hx384_4
            have hw384_3 := hx384_3
            have hw384_2 := hx384_2
            have hw384_1 := hx384_1
            have hw384_0 := hx384_0
            cases e384; replace hx384_0 := cl HB hx384_0; replace hx384_1 := cl HB hx384_1; replace hx384_2 := cl HB hx384_2; replace hx384_3 := cl HB hx384_3; replace hx384_4 := cl HB hx384_4; replace p384 := eq_true p384; replace q384 := eq_true q384
            obtain ⟨ad385, e385, hx385_0, hx385_1, hx385_2, hx385_3, hx385_4, p385, q385⟩ := ay37 (Kd.R_reads' HO_5.out).2.2 (ji16)
            obtain rfl : ad383 = ad385 := (by injection e385)
            have p386 : 0 ≤ (x6_1 : Int) := pd; have q386 : x6_1 < (l1.length : Int) := pd; obtain ⟨ad386, e386, hx386_0, hx386_1, hx386_2, hx386_3, hx386_4⟩ := at_T37 HR1.out x6_1 p386 q386
            have hw386_4 := hx386_4
            have hw386_3 := hx386_3
            have hw386_2 := hx386_2
            have hw386_1 := hx386_1
            have hw386_0 := hx386_0
            obtain rfl : ad384 = ad386 := (by injection e386)
            replace hx386_0 := cl HB hx386_0; replace hx386_1 := cl HB hx386_1; replace hx386_2 := cl HB hx386_2; replace hx386_3 := cl HB hx386_3; replace hx386_4 := cl HB hx386_4; replace p386 := eq_true p386; replace q386 := eq_true q386
            refine st F35 [] (g3 BK380 (g1 hx383_0 (g1 hx383_1 (g1 hx383_2 (g1 hx383_3 (g1 hx383_4 (g1 (cl HB hw384_0) (g1 (cl HB hw384_1) (g1 (cl HB hw384_2) (g1 (cl HB hw384_3) (g1 (cl HB hw384_4) (g1 hx385_0 (g1 hx385_1 (g1 hx385_2 (g1 hx385_3 (g1 hx385_4 (g1 (cl HB hw386_0) (g1 (cl HB hw386_1) (g1 (cl HB hw386_2) (g1 (cl HB hw386_3) (h1 (cl HB hw386_4)))))))))))))))))))))) fun hHeld => ?_; refine with_tabW bocageref14_Tidy.tab9 bocageref14_Tidy.bits9 (fun HT_ HW_ => ?_)
            generalize wc.drew = w25 at HO_5 BK380 HB hx383_0 hx383_1 hx383_2 hx383_3 hx383_4 hx384_0 hx384_1 hx384_2 hx384_3 hx384_4 hx385_0 hx385_1 hx385_2 hx385_3 hx385_4 hx386_0 hx386_1 hx386_2 hx386_3 hx386_4 hHeld ⊢; refine pw 0 32 HT_ ?_
            refine take_ (i := 1) (N := some 33) (v := ?_) (a' := ?_) #[true, true, false, false, false, false, false, false, false, false, false, false, false, false, false, false, false, false, false, false, false, false, false, false, false, false, false, false, false, false, false, false, false, false, false] rfl rfl (take_ofW HT_.out HW_.out (by kernel_rfl)) (fun _ _ _ h => h) (Or.inl ⟨by rfl, ?_⟩) hHeld ?_ ?_
            rotate_left
            ·rintro w' ⟨s0, s1, s2, s3, s4, s5, s6, s7, s8, s9, s10, s11, s12, s13, s14, s15, s16, s17, s18, s19, s20, s21, s22⟩
             go_simp
             with_reducible rfl
            rotate_left
            ·simp only [Act.put, List.setIfInBounds_toArray, List.set_cons_zero, List.set_cons_succ, i64_w, i32_w]
             rfl
            refine pw 2 34 HT_ ?_; refine pw 3 35 HT_ ?_; refine pw 4 36 HT_ ?_; refine pw 5 37 HT_ ?_; refine pw 6 38 HT_ ?_; refine pw 7 39 HT_ ?_; refine pw 8 40 HT_ ?_; refine pw 9 41 HT_ ?_; refine pw 10 42 HT_ ?_; refine pw 11 43 HT_ ?_; refine pw 13 45 HT_ ?_; refine pw 14 46 HT_ ?_; refine pw 15 47 HT_ ?_; refine pw 16 48 HT_ ?_
            refine take_ (i := 12) (N := some 44) (v := ?_) (a' := ?_) #[true, true, true, true, true, true, true, true, true, true, true, true, true, true, true, true, true, false, false, false, false, false, false, false, false, false, false, false, false, false, false, false, false, false, false] rfl rfl (take_ofW HT_.out HW_.out (by kernel_rfl)) (fun _ _ _ h => h) (Or.inl ⟨by rfl, ?_⟩) hHeld ?_ ?_
            rotate_left
            ·rintro w' ⟨s0, s1, s2, s3, s4, s5, s6, s7, s8, s9, s10, s11, s12, s13, s14, s15, s16, s17, s18, s19, s20, s21, s22⟩
             go_simp
             with_reducible rfl
            rotate_left
            ·simp only [Act.put, List.setIfInBounds_toArray, List.set_cons_zero, List.set_cons_succ, i64_w, i32_w]
             rfl
            refine take_ (i := 17) (N := some 49) (v := ?_) (a' := ?_) #[true, true, true, true, true, true, true, true, true, true, true, true, true, true, true, true, true, true, false, false, false, false, false, false, false, false, false, false, false, false, false, false, false, false, false] rfl rfl (take_ofW HT_.out HW_.out (by kernel_rfl)) (fun _ _ _ h => h) (Or.inl ⟨by rfl, ?_⟩) hHeld ?_ ?_
            rotate_left
            ·rintro w' ⟨s0, s1, s2, s3, s4, s5, s6, s7, s8, s9, s10, s11, s12, s13, s14, s15, s16, s17, s18, s19, s20, s21, s22⟩
             go_simp
             with_reducible rfl
            rotate_left
            ·simp only [Act.put, List.setIfInBounds_toArray, List.set_cons_zero, List.set_cons_succ, i64_w, i32_w]
             rfl
            refine pw 18 50 HT_ ?_; refine pw 19 51 HT_ ?_; refine pw 20 52 HT_ ?_; refine pw 21 53 HT_ ?_; refine pw 22 54 HT_ ?_; refine pw 23 55 HT_ ?_; refine pw 24 56 HT_ ?_; refine pw 25 57 HT_ ?_; refine pw 27 59 HT_ ?_; refine pw 28 60 HT_ ?_; refine pw 29 61 HT_ ?_; refine pw 30 62 HT_ ?_; refine pw 31 63 HT_ ?_
            refine take_ (i := 26) (N := some 58) (v := ?_) (a' := ?_) #[true, true, true, true, true, true, true, true, true, true, true, true, true, true, true, true, true, true, true, true, true, true, true, true, true, true, true, true, true, true, true, true, false, false, false] rfl rfl (take_ofW HT_.out HW_.out (by kernel_rfl)) (fun _ _ _ h => h) (Or.inl ⟨by rfl, ?_⟩) hHeld ?_ ?_
            rotate_left
            ·rintro w' ⟨s0, s1, s2, s3, s4, s5, s6, s7, s8, s9, s10, s11, s12, s13, s14, s15, s16, s17, s18, s19, s20, s21, s22⟩
             go_simp
             with_reducible rfl
            rotate_left
            ·simp only [Act.put, List.setIfInBounds_toArray, List.set_cons_zero, List.set_cons_succ, i64_w, i32_w]
             rfl
            refine take_ (i := 32) (N := some 64) (v := ?_) (a' := ?_) #[true, true, true, true, true, true, true, true, true, true, true, true, true, true, true, true, true, true, true, true, true, true, true, true, true, true, true, true, true, true, true, true, true, false, false] rfl rfl (take_ofW HT_.out HW_.out (by kernel_rfl)) (fun _ _ _ h => h) (Or.inl ⟨by rfl, ?_⟩) hHeld ?_ ?_
            rotate_left
            ·rintro w' ⟨s0, s1, s2, s3, s4, s5, s6, s7, s8, s9, s10, s11, s12, s13, s14, s15, s16, s17, s18, s19, s20, s21, s22⟩
             go_simp
             with_reducible rfl
            rotate_left
            ·simp only [Act.put, List.setIfInBounds_toArray, List.set_cons_zero, List.set_cons_succ, i64_w, i32_w]
             rfl
            refine pw 33 65 HT_ ?_; refine pw 34 66 HT_ ?_
            refine dt HT_ ?_
            try go_wp2
            replace HO_5 := am (Kd.R_drew HO_5.out); replace BK380 := am (blk_drew BK380.out); replace HB := am (below_drew1 HB.out)
            obtain ⟨ad387, e387, hx387_0, hx387_1, hx387_2, hx387_3, hx387_4, p387, q387⟩ := ay37 (Kd.R_reads' HO_5.out).2.2 (ji16)
            obtain rfl : ad383 = ad387 := (by injection e387)
            have p388 : 0 ≤ (x6_1 : Int) := pd; have q388 : x6_1 < (l1.length : Int) := pd; obtain ⟨ad388, e388, hx388_0, hx388_1, hx388_2, hx388_3, hx388_4⟩ := at_T37 HR1.out x6_1 p388 q388
            have hw388_4 := hx388_4
            have hw388_3 := hx388_3
            have hw388_2 := hx388_2
            have hw388_1 := hx388_1
            have hw388_0 := hx388_0
            obtain rfl : ad384 = ad388 := (by injection e388)
            replace hx388_0 := cl HB hx388_0; replace hx388_1 := cl HB hx388_1; replace hx388_2 := cl HB hx388_2; replace hx388_3 := cl HB hx388_3; replace hx388_4 := cl HB hx388_4; replace p388 := eq_true p388; replace q388 := eq_true q388; have p23 : 0 ≤ ((ji16) : Int) := pd; have q23 : ((ji16) : Int) < ((x5_1.length : Int) : Int) := pd
            obtain ⟨go23, co23, eo23, gb23, gl23, cl23, HG23⟩ := Kd.R_form HO_5.out (by omega)
            (first | cases eo23 | (injection eo23 with ea_ en_ ec_; (first | subst ea_ | (injection ea_ with ea_; subst ea_)); subst ec_; clear en_))
            have GB23 := am gb23; have GG23 := am HG23; clear gb23 gl23 HG23
            (first | simp only [add_plain] at hx383_0 | skip)
            (first | simp only [add_plain] at hx383_1 | skip)
            (first | simp only [add_plain] at hx383_2 | skip)
            (first | simp only [add_plain] at hx383_3 | skip)
            (first | simp only [add_plain] at hx383_4 | skip)
            (first | simp only [add_plain] at hx385_0 | skip)
            (first | simp only [add_plain] at hx385_1 | skip)
            (first | simp only [add_plain] at hx385_2 | skip)
            (first | simp only [add_plain] at hx385_3 | skip)
            (first | simp only [add_plain] at hx385_4 | skip)
            (first | simp only [add_plain] at hx387_0 | skip)
            (first | simp only [add_plain] at hx387_1 | skip)
            (first | simp only [add_plain] at hx387_2 | skip)
            (first | simp only [add_plain] at hx387_3 | skip)
            (first | simp only [add_plain] at hx387_4 | skip)
            obtain ⟨ce23, hcl23, hM23, hcc23, hfr23⟩ := Kd.R_elem HO_5.out z37 ((ji16) : Int) p23 q23
            obtain rfl := k37_openM hM23
            have hx23_0 : World.cell? _ ⟨go23, ((ji16) : Int).toNat * 5, none⟩ = some (.int .i64 ((rd_T37 x5_1 (ji16)).f0.f0.f0)) := hcc23 0 _ rfl
            have hx23_1 : World.cell? _ ⟨go23, ((ji16) : Int).toNat * 5 + 1, none⟩ = some (.int .i64 ((rd_T37 x5_1 (ji16)).f0.f0.f1)) := hcc23 1 _ rfl
            have hx23_2 : World.cell? _ ⟨go23, ((ji16) : Int).toNat * 5 + 2, none⟩ = some (.int .i64 ((rd_T37 x5_1 (ji16)).f0.f1.f0)) := hcc23 2 _ rfl
            have hx23_3 : World.cell? _ ⟨go23, ((ji16) : Int).toNat * 5 + 3, none⟩ = some (.int .i64 ((rd_T37 x5_1 (ji16)).f0.f1.f1)) := hcc23 3 _ rfl
            have hx23_4 : World.cell? _ ⟨go23, ((ji16) : Int).toNat * 5 + 4, none⟩ = some (.int .i64 ((rd_T37 x5_1 (ji16)).f1)) := hcc23 4 _ rfl
            have hf23_0 : World.frozen? _ ⟨go23, ((ji16) : Int).toNat * 5, none⟩ = false := hfr23 0
            have hf23_1 : World.frozen? _ ⟨go23, ((ji16) : Int).toNat * 5 + 1, none⟩ = false := hfr23 1
            have hf23_2 : World.frozen? _ ⟨go23, ((ji16) : Int).toNat * 5 + 2, none⟩ = false := hfr23 2
            have hf23_3 : World.frozen? _ ⟨go23, ((ji16) : Int).toNat * 5 + 3, none⟩ = false := hfr23 3
            have hf23_4 : World.frozen? _ ⟨go23, ((ji16) : Int).toNat * 5 + 4, none⟩ = false := hfr23 4
            clear hcl23 hcc23 hfr23 hM23; replace p23 := eq_true p23; replace q23 := eq_true q23
            obtain ⟨ce27, hcl27, hM27, hcc27, hfr27⟩ := Kd.R_elem HO_5.out z37 ((ji16) : Int) pd (by have h_ : ((ji16) : Int) < ((x5_1.length : Int) : Int) := pd; first | exact h_ | (have e_ := (Kd.R_reads' HO_5.out).1; omega) | simpa using h_)
            obtain rfl := k37_openM hM27
            have HP27 := (Kd.R_seg HO_5.out ((ji16) : Int) pd (by have h_ : ((ji16) : Int) < ((x5_1.length : Int) : Int) := pd; first | exact h_ | (have e_ := (Kd.R_reads' HO_5.out).1; omega) | simpa using h_) (seg := [.int .i64 ((rd_T37 x5_1 (ji16)).f0.f0.f0), .int .i64 ((rd_T37 x5_1 (ji16)).f0.f0.f1), .int .i64 ((rd_T37 l1 x6_1).f0.f1.f0), .int .i64 ((rd_T37 l1 x6_1).f0.f1.f1)]) (j := 0) hcl27 hcc27 (show 4 ≤ 5 from by decide) (x' := (⟨(⟨(⟨(rd_T37 x5_1 (ji16)).f0.f0.f0, (rd_T37 x5_1 (ji16)).f0.f0.f1⟩ : S33), (⟨(rd_T37 l1 x6_1).f0.f1.f0, (rd_T37 l1 x6_1).f0.f1.f1⟩ : S33)⟩ : S35), (rd_T37 x5_1 (ji16)).f1⟩ : S37)) (k37_mkM _ _ _ (⟨(⟨(⟨(rd_T37 x5_1 (ji16)).f0.f0.f0, (rd_T37 x5_1 (ji16)).f0.f0.f1⟩ : S33), (⟨(rd_T37 l1 x6_1).f0.f1.f0, (rd_T37 l1 x6_1).f0.f1.f1⟩ : S33)⟩ : S35), (rd_T37 x5_1 (ji16)).f1⟩ : S37) ) (fun _ hk => hk)).1
            rw [← Ny389.out] at HP27
            have HQ27 := am HP27; clear hcl27 hcc27 hfr27 hM27 HP27
            refine st F18 [17] (g1 hx387_0 (g1 hx387_1 (g1 hx387_2 (g1 hx387_3 (g1 hx387_4 (g1 (cl HB hw388_0) (g1 (cl HB hw388_1) (g1 (cl HB hw388_2) (g1 (cl HB hw388_3) (h1 (cl HB hw388_4))))))))))) fun hHeld => ?_; refine with_tabW bocageref14_Tidy.tab10 bocageref14_Tidy.bits10 (fun HT_ HW_ => ?_)
            generalize w25.drew = w26 at HO_5 BK380 HB GG23 HQ27 hf23_0 hf23_1 hf23_2 hf23_3 hf23_4 hx23_0 hx23_1 hx23_2 hx23_3 hx23_4 hx383_0 hx383_1 hx383_2 hx383_3 hx383_4 hx385_0 hx385_1 hx385_2 hx385_3 hx385_4 hx387_0 hx387_1 hx387_2 hx387_3 hx387_4 hx388_0 hx388_1 hx388_2 hx388_3 hx388_4 hHeld ⊢; refine pw 0 67 HT_ ?_; refine pw 1 68 HT_ ?_; refine pw 2 69 HT_ ?_; refine pw 3 70 HT_ ?_; refine pw 4 71 HT_ ?_; refine pw 5 72 HT_ ?_; refine pw 6 73 HT_ ?_; refine pw 8 75 HT_ ?_; refine pw 9 76 HT_ ?_; refine pw 10 77 HT_ ?_; refine pw 11 78 HT_ ?_; refine pw 12 79 HT_ ?_; refine tw10 7 74 HT_ HW_ hHeld ?_; refine tw10 13 80 HT_ HW_ hHeld ?_; refine pw 14 81 HT_ ?_; refine pw 15 82 HT_ ?_; refine pw 16 83 HT_ ?_
            refine la 17 HT_ fun K hK => ?_
            refine skip_ (w1 := ?_) (by rfl) rfl ?_ ?_
            rotate_left
            ·go_simp
             rfl
            refine hK.out _ _ ?_; clear hK K
            refine dt HT_ ?_
            try go_wp2
            go_roundg kj7
            case measure => have := HK1.out; have := HJ7.out; omega
            case rel => exact ⟨_, _, rs, H', ⟨by have := HK1.out; have := HJ7.out; omega⟩, ⟨kr HQ27⟩, ⟨by (with_reducible repeat (first | refine blk_drewN ?_ _ | refine blk_drew ?_ | refine blk_alloc ?_ _)); refine blk_far ?_ (by have h_ := Kd.R_ne HO_5.out BK380.out (by decide); intro e_; exact h_ (by rw [e_]; rfl)) _; (with_reducible repeat (first | refine blk_drewN ?_ _ | refine blk_drew ?_ | refine blk_alloc ?_ _)); refine blk_far ?_ (by have h_ := Kd.R_ne HO_5.out BK380.out (by decide); intro e_; exact h_ (by rw [e_]; rfl)) _; (with_reducible repeat (first | refine blk_drewN ?_ _ | refine blk_drew ?_ | refine blk_alloc ?_ _)); refine blk_far ?_ (by have h_ := Kd.R_ne HO_5.out BK380.out (by decide); intro e_; exact h_ (by rw [e_]; rfl)) _; (with_reducible repeat (first | refine blk_drewN ?_ _ | refine blk_drew ?_ | refine blk_alloc ?_ _)); refine blk_far ?_ (by have h_ := Kd.R_ne HO_5.out BK380.out (by decide); intro e_; exact h_ (by rw [e_]; rfl)) _; (with_reducible repeat (first | refine blk_drewN ?_ _ | refine blk_drew ?_ | refine blk_alloc ?_ _)); exact BK380.out⟩, ⟨bl HB⟩⟩
           ·rw [if_neg c22] at H
            have c22b0 : (((rd_T37 x5_1 (ji16)).f0.f1.f0) == ((rd_T37 l1 x6_1).f0.f0.f0) && (((rd_T37 x5_1 (ji16)).f0.f1.f1) == ((rd_T37 l1 x6_1).f0.f0.f1))) = false := by simpa using c22
            (try (have c22b1 : decide (((rd_T37 x5_1 (ji16)).f0.f1.f0) = ((rd_T37 l1 x6_1).f0.f0.f0) && (((rd_T37 x5_1 (ji16)).f0.f1.f1) == ((rd_T37 l1 x6_1).f0.f0.f1))) = false := by simpa using c22))
            (try (have c22b2 : (((rd_T37 x5_1 (ji16)).f0.f1.f0) == ((rd_T37 l1 x6_1).f0.f0.f0) && (((rd_T37 x5_1 (ji16)).f0.f1.f1) == ((rd_T37 l1 x6_1).f0.f0.f1))) = false := by simpa using c22))
            (try (have c22b3 : ¬ (((rd_T37 x5_1 (ji16)).f0.f1.f0) = ((rd_T37 l1 x6_1).f0.f0.f0) && (((rd_T37 x5_1 (ji16)).f0.f1.f1) == ((rd_T37 l1 x6_1).f0.f0.f1))) := by simpa using c22))
            clear c22; revert H; refine itl fun LMc28 H => ?_
            generalize hy391 : x5_1 ++ [(⟨(⟨(⟨(rd_T37 l1 x6_1).f0.f0.f0, (rd_T37 l1 x6_1).f0.f0.f1⟩ : S33), (⟨(rd_T37 l1 x6_1).f0.f1.f0, (rd_T37 l1 x6_1).f0.f1.f1⟩ : S33)⟩ : S35), (rd_T37 l1 x6_1).f1⟩ : S37)] = y391 at H; have Ny391 := am hy391.symm; clear hy391; have H' := am H; clear H
            obtain ⟨Ao29, co29, eo29⟩ := Kd.R_slice HO_5.out
            subst eo29
            try go_wp2
            replace HO_5 := am (Kd.R_drew HO_5.out); replace BK380 := am (blk_drew BK380.out); replace HB := am (below_drew1 HB.out)
            obtain ⟨ad383, e383, hx383_0, hx383_1, hx383_2, hx383_3, hx383_4, p383, q383⟩ := ay37 (Kd.R_reads' HO_5.out).2.2 (ji16)
            cases e383; have p384 : 0 ≤ (x6_1 : Int) := pd; have q384 : x6_1 < (l1.length : Int) := pd; obtain ⟨ad384, e384, hx384_0, hx384_1, hx384_2, hx384_3, hx384_4⟩ := at_T37 HR1.out x6_1 p384 q384
            have hw384_4 := hx384_4
            have hw384_3 := hx384_3
            have hw384_2 := hx384_2
            have hw384_1 := hx384_1
            have hw384_0 := hx384_0
            cases e384; replace hx384_0 := cl HB hx384_0; replace hx384_1 := cl HB hx384_1; replace hx384_2 := cl HB hx384_2; replace hx384_3 := cl HB hx384_3; replace hx384_4 := cl HB hx384_4; replace p384 := eq_true p384; replace q384 := eq_true q384
            obtain ⟨ad385, e385, hx385_0, hx385_1, hx385_2, hx385_3, hx385_4, p385, q385⟩ := ay37 (Kd.R_reads' HO_5.out).2.2 (ji16)
            obtain rfl : ad383 = ad385 := (by injection e385)
            have p386 : 0 ≤ (x6_1 : Int) := pd; have q386 : x6_1 < (l1.length : Int) := pd; obtain ⟨ad386, e386, hx386_0, hx386_1, hx386_2, hx386_3, hx386_4⟩ := at_T37 HR1.out x6_1 p386 q386
            have hw386_4 := hx386_4
            have hw386_3 := hx386_3
            have hw386_2 := hx386_2
            have hw386_1 := hx386_1
            have hw386_0 := hx386_0
            obtain rfl : ad384 = ad386 := (by injection e386)
            replace hx386_0 := cl HB hx386_0; replace hx386_1 := cl HB hx386_1; replace hx386_2 := cl HB hx386_2; replace hx386_3 := cl HB hx386_3; replace hx386_4 := cl HB hx386_4; replace p386 := eq_true p386; replace q386 := eq_true q386
            refine st F35 [] (g3 BK380 (g1 hx383_0 (g1 hx383_1 (g1 hx383_2 (g1 hx383_3 (g1 hx383_4 (g1 (cl HB hw384_0) (g1 (cl HB hw384_1) (g1 (cl HB hw384_2) (g1 (cl HB hw384_3) (g1 (cl HB hw384_4) (g1 hx385_0 (g1 hx385_1 (g1 hx385_2 (g1 hx385_3 (g1 hx385_4 (g1 (cl HB hw386_0) (g1 (cl HB hw386_1) (g1 (cl HB hw386_2) (g1 (cl HB hw386_3) (h1 (cl HB hw386_4)))))))))))))))))))))) fun hHeld => ?_; refine with_tabW bocageref14_Tidy.tab9 bocageref14_Tidy.bits9 (fun HT_ HW_ => ?_)
            generalize wc.drew = w30 at HO_5 BK380 HB hx383_0 hx383_1 hx383_2 hx383_3 hx383_4 hx384_0 hx384_1 hx384_2 hx384_3 hx384_4 hx385_0 hx385_1 hx385_2 hx385_3 hx385_4 hx386_0 hx386_1 hx386_2 hx386_3 hx386_4 hHeld ⊢; refine pw 0 32 HT_ ?_
            refine take_ (i := 1) (N := some 33) (v := ?_) (a' := ?_) #[true, true, false, false, false, false, false, false, false, false, false, false, false, false, false, false, false, false, false, false, false, false, false, false, false, false, false, false, false, false, false, false, false, false, false] rfl rfl (take_ofW HT_.out HW_.out (by kernel_rfl)) (fun _ _ _ h => h) (Or.inl ⟨by rfl, ?_⟩) hHeld ?_ ?_
            rotate_left
            ·rintro w' ⟨s0, s1, s2, s3, s4, s5, s6, s7, s8, s9, s10, s11, s12, s13, s14, s15, s16, s17, s18, s19, s20, s21, s22⟩
             go_simp
             with_reducible rfl
            rotate_left
            ·simp only [Act.put, List.setIfInBounds_toArray, List.set_cons_zero, List.set_cons_succ, i64_w, i32_w]
             rfl
            refine pw 2 34 HT_ ?_; refine pw 3 35 HT_ ?_; refine pw 4 36 HT_ ?_; refine pw 5 37 HT_ ?_; refine pw 6 38 HT_ ?_; refine pw 7 39 HT_ ?_; refine pw 8 40 HT_ ?_; refine pw 9 41 HT_ ?_; refine pw 10 42 HT_ ?_; refine pw 11 43 HT_ ?_; refine pw 13 45 HT_ ?_; refine pw 14 46 HT_ ?_; refine pw 15 47 HT_ ?_; refine pw 16 48 HT_ ?_
            refine take_ (i := 12) (N := some 44) (v := ?_) (a' := ?_) #[true, true, true, true, true, true, true, true, true, true, true, true, true, true, true, true, true, false, false, false, false, false, false, false, false, false, false, false, false, false, false, false, false, false, false] rfl rfl (take_ofW HT_.out HW_.out (by kernel_rfl)) (fun _ _ _ h => h) (Or.inl ⟨by rfl, ?_⟩) hHeld ?_ ?_
            rotate_left
            ·rintro w' ⟨s0, s1, s2, s3, s4, s5, s6, s7, s8, s9, s10, s11, s12, s13, s14, s15, s16, s17, s18, s19, s20, s21, s22⟩
             go_simp
             with_reducible rfl
            rotate_left
            ·simp only [Act.put, List.setIfInBounds_toArray, List.set_cons_zero, List.set_cons_succ, i64_w, i32_w]
             rfl
            refine take_ (i := 17) (N := some 49) (v := ?_) (a' := ?_) #[true, true, true, true, true, true, true, true, true, true, true, true, true, true, true, true, true, true, false, false, false, false, false, false, false, false, false, false, false, false, false, false, false, false, false] rfl rfl (take_ofW HT_.out HW_.out (by kernel_rfl)) (fun _ _ _ h => h) (Or.inl ⟨by rfl, ?_⟩) hHeld ?_ ?_
            rotate_left
            ·rintro w' ⟨s0, s1, s2, s3, s4, s5, s6, s7, s8, s9, s10, s11, s12, s13, s14, s15, s16, s17, s18, s19, s20, s21, s22⟩
             go_simp
             with_reducible rfl
            rotate_left
            ·simp only [Act.put, List.setIfInBounds_toArray, List.set_cons_zero, List.set_cons_succ, i64_w, i32_w]
             rfl
            refine pw 18 50 HT_ ?_; refine pw 19 51 HT_ ?_; refine pw 20 52 HT_ ?_; refine pw 21 53 HT_ ?_; refine pw 22 54 HT_ ?_; refine pw 23 55 HT_ ?_; refine pw 24 56 HT_ ?_; refine pw 25 57 HT_ ?_; refine pw 27 59 HT_ ?_; refine pw 28 60 HT_ ?_; refine pw 29 61 HT_ ?_; refine pw 30 62 HT_ ?_; refine pw 31 63 HT_ ?_
            refine take_ (i := 26) (N := some 58) (v := ?_) (a' := ?_) #[true, true, true, true, true, true, true, true, true, true, true, true, true, true, true, true, true, true, true, true, true, true, true, true, true, true, true, true, true, true, true, true, false, false, false] rfl rfl (take_ofW HT_.out HW_.out (by kernel_rfl)) (fun _ _ _ h => h) (Or.inl ⟨by rfl, ?_⟩) hHeld ?_ ?_
            rotate_left
            ·rintro w' ⟨s0, s1, s2, s3, s4, s5, s6, s7, s8, s9, s10, s11, s12, s13, s14, s15, s16, s17, s18, s19, s20, s21, s22⟩
             go_simp
             with_reducible rfl
            rotate_left
            ·simp only [Act.put, List.setIfInBounds_toArray, List.set_cons_zero, List.set_cons_succ, i64_w, i32_w]
             rfl
            refine take_ (i := 32) (N := some 64) (v := ?_) (a' := ?_) #[true, true, true, true, true, true, true, true, true, true, true, true, true, true, true, true, true, true, true, true, true, true, true, true, true, true, true, true, true, true, true, true, true, false, false] rfl rfl (take_ofW HT_.out HW_.out (by kernel_rfl)) (fun _ _ _ h => h) (Or.inl ⟨by rfl, ?_⟩) hHeld ?_ ?_
            rotate_left
            ·rintro w' ⟨s0, s1, s2, s3, s4, s5, s6, s7, s8, s9, s10, s11, s12, s13, s14, s15, s16, s17, s18, s19, s20, s21, s22⟩
             go_simp
             with_reducible rfl
            rotate_left
            ·simp only [Act.put, List.setIfInBounds_toArray, List.set_cons_zero, List.set_cons_succ, i64_w, i32_w]
             rfl
            refine pw 33 65 HT_ ?_; refine pw 34 66 HT_ ?_
            refine dt HT_ ?_
            obtain ⟨ad390, e390, hx390_0, hx390_1, hx390_2, hx390_3, hx390_4, p390, q390⟩ := ax37 HR1 HB x6_1
            obtain rfl : ad384 = ad390 := (by injection e390)
            try go_wp2_with (first | ((with_reducible refine gate_builtin (b := .append) (xs := #[.tmp 84, .tmp 89]) rfl ?_); at_builtin; refine Kd.R_append k37 (w0 := w) w.heap.size rfl (.tmp 84) (.tmp 89) 22 37 (.agg #[(.int .i64 0), (.int .i64 0), (.int .i64 0), (.int .i64 0), (.int .i64 0)]) 40 rfl Tryz.underlying22 info37 rfl (by decide) (by omega) (.slice (some ad383) x5_1.length co29) x5_1 (⟨(⟨(⟨(rd_T37 l1 x6_1).f0.f0.f0, (rd_T37 l1 x6_1).f0.f0.f1⟩ : S33), (⟨(rd_T37 l1 x6_1).f0.f1.f0, (rd_T37 l1 x6_1).f0.f1.f1⟩ : S33)⟩ : S35), (rd_T37 l1 x6_1).f1⟩ : S37) [.int .i64 ((rd_T37 l1 x6_1).f0.f0.f0), .int .i64 ((rd_T37 l1 x6_1).f0.f0.f1), .int .i64 ((rd_T37 l1 x6_1).f0.f1.f0), .int .i64 ((rd_T37 l1 x6_1).f0.f1.f1), .int .i64 ((rd_T37 l1 x6_1).f1)] (fun _ => True) (fun _ => False) rfl rfl ?aP (fun _ hk => hk.elim) ?aF ?aO ?aB ?aS ?aL ?_; (case aP => exact k37_mkM _ _ _ (⟨(⟨(⟨(rd_T37 l1 x6_1).f0.f0.f0, (rd_T37 l1 x6_1).f0.f0.f1⟩ : S33), (⟨(rd_T37 l1 x6_1).f0.f1.f0, (rd_T37 l1 x6_1).f0.f1.f1⟩ : S33)⟩ : S35), (rd_T37 l1 x6_1).f1⟩ : S37)); (case aB => exact (bl HB)); (case aF => exact (fun _ _ => trivial)); (case aO => exact (kr HO_5)); (case aS => exact (below_size (bl HB))); (case aL => have := LMc28.out; omega); intro v392 w31 ho hb hg hat; rw [← Ny391.out] at ho; replace BK380 := am (blk_grown (bk BK380) hg (Kd.R_ne HO_5.out BK380.out (by decide))); replace HB := am hb; have HO393 := am ho; clear HO_5; clear ho hb hg hat))
            go_roundg kj7
            case measure => have := HK1.out; have := HJ7.out; omega
            case rel => exact ⟨_, _, rs, H', ⟨by have := HK1.out; have := HJ7.out; omega⟩, ⟨kr HO393⟩, ⟨bk BK380⟩, ⟨bl HB⟩⟩
          ·rw [if_neg c21] at H
           have c21b0 : (((rd_T37 x5_1 (ji16)).f1) == ((rd_T37 l1 x6_1).f1)) = false := beq_eq_false_iff_ne.mpr c21
           have c21b1 : (((rd_T37 x5_1 (ji16)).f1) != ((rd_T37 l1 x6_1).f1)) = true := bne_iff_ne.mpr c21
           revert H; refine itl fun LMc32 H => ?_
           generalize hy395 : x5_1 ++ [(⟨(⟨(⟨(rd_T37 l1 x6_1).f0.f0.f0, (rd_T37 l1 x6_1).f0.f0.f1⟩ : S33), (⟨(rd_T37 l1 x6_1).f0.f1.f0, (rd_T37 l1 x6_1).f0.f1.f1⟩ : S33)⟩ : S35), (rd_T37 l1 x6_1).f1⟩ : S37)] = y395 at H; have Ny395 := am hy395.symm; clear hy395; have H' := am H; clear H
           obtain ⟨Ao33, co33, eo33⟩ := Kd.R_slice HO_5.out
           subst eo33
           try go_wp2
           replace HO_5 := am (Kd.R_drew HO_5.out); replace BK380 := am (blk_drew BK380.out); replace HB := am (below_drew1 HB.out)
           obtain ⟨ad383, e383, hx383_0, hx383_1, hx383_2, hx383_3, hx383_4, p383, q383⟩ := ay37 (Kd.R_reads' HO_5.out).2.2 (ji16)
           cases e383; have p384 : 0 ≤ (x6_1 : Int) := pd; have q384 : x6_1 < (l1.length : Int) := pd; obtain ⟨ad384, e384, hx384_0, hx384_1, hx384_2, hx384_3, hx384_4⟩ := at_T37 HR1.out x6_1 p384 q384
           have hw384_4 := hx384_4
           have hw384_3 := hx384_3
           have hw384_2 := hx384_2
           have hw384_1 := hx384_1
           have hw384_0 := hx384_0
           cases e384; replace hx384_0 := cl HB hx384_0; replace hx384_1 := cl HB hx384_1; replace hx384_2 := cl HB hx384_2; replace hx384_3 := cl HB hx384_3; replace hx384_4 := cl HB hx384_4; replace p384 := eq_true p384; replace q384 := eq_true q384
           refine st F35 [] (g3 BK380 (g1 hx383_0 (g1 hx383_1 (g1 hx383_2 (g1 hx383_3 (g1 hx383_4 (g1 (cl HB hw384_0) (g1 (cl HB hw384_1) (g1 (cl HB hw384_2) (g1 (cl HB hw384_3) (h1 (cl HB hw384_4)))))))))))) fun hHeld => ?_; refine with_tabW bocageref14_Tidy.tab9 bocageref14_Tidy.bits9 (fun HT_ HW_ => ?_)
           generalize wc.drew = w34 at HO_5 BK380 HB hx383_0 hx383_1 hx383_2 hx383_3 hx383_4 hx384_0 hx384_1 hx384_2 hx384_3 hx384_4 hHeld ⊢; refine pw 0 32 HT_ ?_
           refine take_ (i := 1) (N := some 33) (v := ?_) (a' := ?_) #[true, true, false, false, false, false, false, false, false, false, false, false, false, false, false, false, false, false, false, false, false, false, false, false, false, false, false, false, false, false, false, false, false, false, false] rfl rfl (take_ofW HT_.out HW_.out (by kernel_rfl)) (fun _ _ _ h => h) (Or.inl ⟨by rfl, ?_⟩) hHeld ?_ ?_
           rotate_left
           ·rintro w' ⟨s0, s1, s2, s3, s4, s5, s6, s7, s8, s9, s10, s11, s12⟩
            go_simp
            with_reducible rfl
           rotate_left
           ·simp only [Act.put, List.setIfInBounds_toArray, List.set_cons_zero, List.set_cons_succ, i64_w, i32_w]
            rfl
           refine pw 2 34 HT_ ?_; refine pw 3 35 HT_ ?_; refine pw 4 36 HT_ ?_; refine pw 5 37 HT_ ?_; refine pw 6 38 HT_ ?_; refine pw 7 39 HT_ ?_; refine pw 8 40 HT_ ?_; refine pw 9 41 HT_ ?_; refine pw 10 42 HT_ ?_; refine pw 11 43 HT_ ?_; refine pw 13 45 HT_ ?_; refine pw 14 46 HT_ ?_; refine pw 15 47 HT_ ?_; refine pw 16 48 HT_ ?_
           refine take_ (i := 12) (N := some 44) (v := ?_) (a' := ?_) #[true, true, true, true, true, true, true, true, true, true, true, true, true, true, true, true, true, false, false, false, false, false, false, false, false, false, false, false, false, false, false, false, false, false, false] rfl rfl (take_ofW HT_.out HW_.out (by kernel_rfl)) (fun _ _ _ h => h) (Or.inl ⟨by rfl, ?_⟩) hHeld ?_ ?_
           rotate_left
           ·rintro w' ⟨s0, s1, s2, s3, s4, s5, s6, s7, s8, s9, s10, s11, s12⟩
            go_simp
            with_reducible rfl
           rotate_left
           ·simp only [Act.put, List.setIfInBounds_toArray, List.set_cons_zero, List.set_cons_succ, i64_w, i32_w]
            rfl
           refine take_ (i := 17) (N := some 49) (v := ?_) (a' := ?_) #[true, true, true, true, true, true, true, true, true, true, true, true, true, true, true, true, true, true, false, false, false, false, false, false, false, false, false, false, false, false, false, false, false, false, false] rfl rfl (take_ofW HT_.out HW_.out (by kernel_rfl)) (fun _ _ _ h => h) (Or.inl ⟨by rfl, ?_⟩) hHeld ?_ ?_
           rotate_left
           ·rintro w' ⟨s0, s1, s2, s3, s4, s5, s6, s7, s8, s9, s10, s11, s12⟩
            go_simp
            with_reducible rfl
           rotate_left
           ·simp only [Act.put, List.setIfInBounds_toArray, List.set_cons_zero, List.set_cons_succ, i64_w, i32_w]
            rfl
           refine pw 18 50 HT_ ?_; refine pw 19 51 HT_ ?_; refine pw 20 52 HT_ ?_; refine px 21 53 HT_ ?_; refine px 22 54 HT_ ?_; refine px 23 55 HT_ ?_; refine px 24 56 HT_ ?_; refine px 25 57 HT_ ?_; refine px 26 58 HT_ ?_; refine px 27 59 HT_ ?_; refine px 28 60 HT_ ?_; refine px 29 61 HT_ ?_; refine px 30 62 HT_ ?_; refine px 31 63 HT_ ?_; refine px 32 64 HT_ ?_; refine px 33 65 HT_ ?_; refine pw 34 66 HT_ ?_
           refine dt HT_ ?_
           obtain ⟨ad394, e394, hx394_0, hx394_1, hx394_2, hx394_3, hx394_4, p394, q394⟩ := ax37 HR1 HB x6_1
           obtain rfl : ad384 = ad394 := (by injection e394)
           try go_wp2_with (first | ((with_reducible refine gate_builtin (b := .append) (xs := #[.tmp 84, .tmp 89]) rfl ?_); at_builtin; refine Kd.R_append k37 (w0 := w) w.heap.size rfl (.tmp 84) (.tmp 89) 22 37 (.agg #[(.int .i64 0), (.int .i64 0), (.int .i64 0), (.int .i64 0), (.int .i64 0)]) 40 rfl Tryz.underlying22 info37 rfl (by decide) (by omega) (.slice (some ad383) x5_1.length co33) x5_1 (⟨(⟨(⟨(rd_T37 l1 x6_1).f0.f0.f0, (rd_T37 l1 x6_1).f0.f0.f1⟩ : S33), (⟨(rd_T37 l1 x6_1).f0.f1.f0, (rd_T37 l1 x6_1).f0.f1.f1⟩ : S33)⟩ : S35), (rd_T37 l1 x6_1).f1⟩ : S37) [.int .i64 ((rd_T37 l1 x6_1).f0.f0.f0), .int .i64 ((rd_T37 l1 x6_1).f0.f0.f1), .int .i64 ((rd_T37 l1 x6_1).f0.f1.f0), .int .i64 ((rd_T37 l1 x6_1).f0.f1.f1), .int .i64 ((rd_T37 l1 x6_1).f1)] (fun _ => True) (fun _ => False) rfl rfl ?aP (fun _ hk => hk.elim) ?aF ?aO ?aB ?aS ?aL ?_; (case aP => exact k37_mkM _ _ _ (⟨(⟨(⟨(rd_T37 l1 x6_1).f0.f0.f0, (rd_T37 l1 x6_1).f0.f0.f1⟩ : S33), (⟨(rd_T37 l1 x6_1).f0.f1.f0, (rd_T37 l1 x6_1).f0.f1.f1⟩ : S33)⟩ : S35), (rd_T37 l1 x6_1).f1⟩ : S37)); (case aB => exact (bl HB)); (case aF => exact (fun _ _ => trivial)); (case aO => exact (kr HO_5)); (case aS => exact (below_size (bl HB))); (case aL => have := LMc32.out; omega); intro v396 w35 ho hb hg hat; rw [← Ny395.out] at ho; replace BK380 := am (blk_grown (bk BK380) hg (Kd.R_ne HO_5.out BK380.out (by decide))); replace HB := am hb; have HO397 := am ho; clear HO_5; clear ho hb hg hat))
           go_roundg kj7
           case measure => have := HK1.out; have := HJ7.out; omega
           case rel => exact ⟨_, _, rs, H', ⟨by have := HK1.out; have := HJ7.out; omega⟩, ⟨kr HO397⟩, ⟨bk BK380⟩, ⟨bl HB⟩⟩
         ·revert H; refine its fun c36b0 H => ?_
          revert H; refine its fun c37b0 H => ?_
          revert H; refine itl fun LMc38 H => ?_
          generalize hy399 : x5_1 ++ [(⟨(⟨(⟨(rd_T37 l1 x6_1).f0.f0.f0, (rd_T37 l1 x6_1).f0.f0.f1⟩ : S33), (⟨(rd_T37 l1 x6_1).f0.f1.f0, (rd_T37 l1 x6_1).f0.f1.f1⟩ : S33)⟩ : S35), (rd_T37 l1 x6_1).f1⟩ : S37)] = y399 at H; have Ny399 := am hy399.symm; clear hy399; have H' := am H; clear H
          obtain ⟨Ao39, co39, eo39⟩ := Kd.R_slice HO_5.out
          subst eo39
          try go_wp2
          replace HO_5 := am (Kd.R_drew HO_5.out); replace BK380 := am (blk_drew BK380.out); replace HB := am (below_drew1 HB.out)
          refine st F35 [] (h3 BK380) fun hHeld => ?_; refine with_tabW bocageref14_Tidy.tab9 bocageref14_Tidy.bits9 (fun HT_ HW_ => ?_)
          generalize wc.drew = w40 at HO_5 BK380 HB hHeld ⊢; refine pw 0 32 HT_ ?_; refine tw3 1 33 HT_ HW_ hHeld ?_; refine pw 2 34 HT_ ?_; refine pw 3 35 HT_ ?_; refine pw 4 36 HT_ ?_; refine pw 5 37 HT_ ?_; refine pw 6 38 HT_ ?_; refine pw 7 39 HT_ ?_; refine px 8 40 HT_ ?_; refine px 9 41 HT_ ?_; refine px 10 42 HT_ ?_; refine px 11 43 HT_ ?_; refine px 12 44 HT_ ?_; refine px 13 45 HT_ ?_; refine px 14 46 HT_ ?_; refine px 15 47 HT_ ?_; refine px 16 48 HT_ ?_; refine px 17 49 HT_ ?_; refine px 18 50 HT_ ?_; refine pw 19 51 HT_ ?_; refine pw 20 52 HT_ ?_; refine px 21 53 HT_ ?_; refine px 22 54 HT_ ?_; refine px 23 55 HT_ ?_; refine px 24 56 HT_ ?_; refine px 25 57 HT_ ?_; refine px 26 58 HT_ ?_; refine px 27 59 HT_ ?_; refine px 28 60 HT_ ?_; refine px 29 61 HT_ ?_; refine px 30 62 HT_ ?_; refine px 31 63 HT_ ?_; refine px 32 64 HT_ ?_; refine px 33 65 HT_ ?_; refine pw 34 66 HT_ ?_
          refine dt HT_ ?_
          obtain ⟨ad398, e398, hx398_0, hx398_1, hx398_2, hx398_3, hx398_4, p398, q398⟩ := ax37 HR1 HB x6_1
          cases e398
          try go_wp2_with (first | ((with_reducible refine gate_builtin (b := .append) (xs := #[.tmp 84, .tmp 89]) rfl ?_); at_builtin; refine Kd.R_append k37 (w0 := w) w.heap.size rfl (.tmp 84) (.tmp 89) 22 37 (.agg #[(.int .i64 0), (.int .i64 0), (.int .i64 0), (.int .i64 0), (.int .i64 0)]) 40 rfl Tryz.underlying22 info37 rfl (by decide) (by omega) (.slice Ao39 x5_1.length co39) x5_1 (⟨(⟨(⟨(rd_T37 l1 x6_1).f0.f0.f0, (rd_T37 l1 x6_1).f0.f0.f1⟩ : S33), (⟨(rd_T37 l1 x6_1).f0.f1.f0, (rd_T37 l1 x6_1).f0.f1.f1⟩ : S33)⟩ : S35), (rd_T37 l1 x6_1).f1⟩ : S37) [.int .i64 ((rd_T37 l1 x6_1).f0.f0.f0), .int .i64 ((rd_T37 l1 x6_1).f0.f0.f1), .int .i64 ((rd_T37 l1 x6_1).f0.f1.f0), .int .i64 ((rd_T37 l1 x6_1).f0.f1.f1), .int .i64 ((rd_T37 l1 x6_1).f1)] (fun _ => True) (fun _ => False) rfl rfl ?aP (fun _ hk => hk.elim) ?aF ?aO ?aB ?aS ?aL ?_; (case aP => exact k37_mkM _ _ _ (⟨(⟨(⟨(rd_T37 l1 x6_1).f0.f0.f0, (rd_T37 l1 x6_1).f0.f0.f1⟩ : S33), (⟨(rd_T37 l1 x6_1).f0.f1.f0, (rd_T37 l1 x6_1).f0.f1.f1⟩ : S33)⟩ : S35), (rd_T37 l1 x6_1).f1⟩ : S37)); (case aB => exact (bl HB)); (case aF => exact (fun _ _ => trivial)); (case aO => exact (kr HO_5)); (case aS => exact (below_size (bl HB))); (case aL => have := LMc38.out; omega); intro v400 w41 ho hb hg hat; rw [← Ny399.out] at ho; replace BK380 := am (blk_grown (bk BK380) hg (Kd.R_ne HO_5.out BK380.out (by decide))); replace HB := am hb; have HO401 := am ho; clear HO_5; clear ho hb hg hat))
          go_roundg kj7
          case measure => have := HK1.out; have := HJ7.out; omega
          case rel => exact ⟨_, _, rs, H', ⟨by have := HK1.out; have := HJ7.out; omega⟩, ⟨kr HO401⟩, ⟨bk BK380⟩, ⟨bl HB⟩⟩
        ·rw [if_neg c14] at H
         have c14b0 : (a0_0 == 0) = false := beq_eq_false_iff_ne.mpr c14
         have c14b1 : (a0_0 != 0) = true := bne_iff_ne.mpr c14
         revert H; refine its fun c42b0 H => ?_
         revert H; refine its fun c43b0 H => ?_
         revert H; refine itl fun LMc44 H => ?_
         generalize hy403 : x5_1 ++ [(⟨(⟨(⟨(rd_T37 l1 x6_1).f0.f0.f0, (rd_T37 l1 x6_1).f0.f0.f1⟩ : S33), (⟨(rd_T37 l1 x6_1).f0.f1.f0, (rd_T37 l1 x6_1).f0.f1.f1⟩ : S33)⟩ : S35), (rd_T37 l1 x6_1).f1⟩ : S37)] = y403 at H; have Ny403 := am hy403.symm; clear hy403; have H' := am H; clear H
         obtain ⟨Ao45, co45, eo45⟩ := Kd.R_slice HO_5.out
         subst eo45
         try go_wp2
         replace HO_5 := am (Kd.R_drew HO_5.out); replace BK380 := am (blk_drew BK380.out); replace HB := am (below_drew1 HB.out)
         refine st F35 [] (h3 BK380) fun hHeld => ?_; refine with_tabW bocageref14_Tidy.tab9 bocageref14_Tidy.bits9 (fun HT_ HW_ => ?_)
         generalize wc.drew = w46 at HO_5 BK380 HB hHeld ⊢; refine pw 0 32 HT_ ?_; refine tw3 1 33 HT_ HW_ hHeld ?_; refine pw 2 34 HT_ ?_; refine pw 3 35 HT_ ?_; refine px 4 36 HT_ ?_; refine px 5 37 HT_ ?_; refine pw 6 38 HT_ ?_; refine pw 7 39 HT_ ?_; refine px 8 40 HT_ ?_; refine px 9 41 HT_ ?_; refine px 10 42 HT_ ?_; refine px 11 43 HT_ ?_; refine px 12 44 HT_ ?_; refine px 13 45 HT_ ?_; refine px 14 46 HT_ ?_; refine px 15 47 HT_ ?_; refine px 16 48 HT_ ?_; refine px 17 49 HT_ ?_; refine px 18 50 HT_ ?_; refine pw 19 51 HT_ ?_; refine pw 20 52 HT_ ?_; refine px 21 53 HT_ ?_; refine px 22 54 HT_ ?_; refine px 23 55 HT_ ?_; refine px 24 56 HT_ ?_; refine px 25 57 HT_ ?_; refine px 26 58 HT_ ?_; refine px 27 59 HT_ ?_; refine px 28 60 HT_ ?_; refine px 29 61 HT_ ?_; refine px 30 62 HT_ ?_; refine px 31 63 HT_ ?_; refine px 32 64 HT_ ?_; refine px 33 65 HT_ ?_; refine pw 34 66 HT_ ?_
         refine dt HT_ ?_
         obtain ⟨ad402, e402, hx402_0, hx402_1, hx402_2, hx402_3, hx402_4, p402, q402⟩ := ax37 HR1 HB x6_1
         cases e402
         try go_wp2_with (first | ((with_reducible refine gate_builtin (b := .append) (xs := #[.tmp 84, .tmp 89]) rfl ?_); at_builtin; refine Kd.R_append k37 (w0 := w) w.heap.size rfl (.tmp 84) (.tmp 89) 22 37 (.agg #[(.int .i64 0), (.int .i64 0), (.int .i64 0), (.int .i64 0), (.int .i64 0)]) 40 rfl Tryz.underlying22 info37 rfl (by decide) (by omega) (.slice Ao45 x5_1.length co45) x5_1 (⟨(⟨(⟨(rd_T37 l1 x6_1).f0.f0.f0, (rd_T37 l1 x6_1).f0.f0.f1⟩ : S33), (⟨(rd_T37 l1 x6_1).f0.f1.f0, (rd_T37 l1 x6_1).f0.f1.f1⟩ : S33)⟩ : S35), (rd_T37 l1 x6_1).f1⟩ : S37) [.int .i64 ((rd_T37 l1 x6_1).f0.f0.f0), .int .i64 ((rd_T37 l1 x6_1).f0.f0.f1), .int .i64 ((rd_T37 l1 x6_1).f0.f1.f0), .int .i64 ((rd_T37 l1 x6_1).f0.f1.f1), .int .i64 ((rd_T37 l1 x6_1).f1)] (fun _ => True) (fun _ => False) rfl rfl ?aP (fun _ hk => hk.elim) ?aF ?aO ?aB ?aS ?aL ?_; (case aP => exact k37_mkM _ _ _ (⟨(⟨(⟨(rd_T37 l1 x6_1).f0.f0.f0, (rd_T37 l1 x6_1).f0.f0.f1⟩ : S33), (⟨(rd_T37 l1 x6_1).f0.f1.f0, (rd_T37 l1 x6_1).f0.f1.f1⟩ : S33)⟩ : S35), (rd_T37 l1 x6_1).f1⟩ : S37)); (case aB => exact (bl HB)); (case aF => exact (fun _ _ => trivial)); (case aO => exact (kr HO_5)); (case aS => exact (below_size (bl HB))); (case aL => have := LMc44.out; omega); intro v404 w47 ho hb hg hat; rw [← Ny403.out] at ho; replace BK380 := am (blk_grown (bk BK380) hg (Kd.R_ne HO_5.out BK380.out (by decide))); replace HB := am hb; have HO405 := am ho; clear HO_5; clear ho hb hg hat))
         go_roundg kj7
         case measure => have := HK1.out; have := HJ7.out; omega
         case rel => exact ⟨_, _, rs, H', ⟨by have := HK1.out; have := HJ7.out; omega⟩, ⟨kr HO405⟩, ⟨bk BK380⟩, ⟨bl HB⟩⟩
    ·obtain rfl := Option.some.inj H; go_wp2; go_ret
     exact ⟨_, by first | rfl | (simp [errW_none, errW_some] <;> rfl) | (simp [*, errW_none, errW_some] <;> rfl), by (with_reducible repeat (first | apply Kd.R_alloc | apply Kd.R_drewN | apply Kd.R_drew)); exact HO_5.out, by repeat (first | (with_reducible first | exact HB.out | apply below_alloc | apply pw_below_drewN | apply below_drew1 | refine below_set ?_ GE380.out) | exact HB.out)⟩
 ·replace H := itf H; obtain rfl := Option.some.inj H; go_enter Tryz.func53, Tryz.ntmps53
  go_wp2_with (first | ((with_reducible refine gate_dst (N := 2) rfl ?_); refine bxf #[.int .i64 a0_0, .bool a0_1, .int .i64 a0_2] 79 HB fun gb380 w48 BK380 GW380 HB hg hb => ?_; have GE380 := GW380; clear hb hg) | ((with_reducible refine gate_callee (f := 84) rfl ?_); refine gol (some 9) Tryz.func84 #[.slice A1 l1.length c1] ?_; (with_reducible refine (bocageref09_Sound.calls _ _ _ _ _ _ ?side1 ?side2 A3.out).mono ?_); (case side1 => repeat (first | exact (Kd.C_below HR1.out HB.out) | (with_reducible refine Kd.C_alloc ?_ _) | (with_reducible refine Kd.C_drewN ?_ _) | (with_reducible refine Kd.C_drew ?_))); (case side2 => exact HC1.out); rintro e w49 ⟨rfl, hb⟩; refine ⟨_, rfl, ?_⟩; replace BK380 := bkb BK380 hb; replace HB := bst HB hb; clear hb))
  go_ret
  exact ⟨_, by first | rfl | (simp [errW_none, errW_some] <;> rfl) | (simp [*, errW_none, errW_some] <;> rfl), by first | exact Kd.R_nil _ _ _ _ _ | exact Kd.N_nil _ _ _ _ _ | exact Kd.V_nil _ _ _ _ _ | exact Kd.Q_nil _ _ _ _ _ | exact Kd.S_nil _ _ _ _ _, by repeat (first | (with_reducible first | exact HB.out | apply below_alloc | apply pw_below_drewN | apply below_drew1 | refine below_set ?_ GE380.out) | exact HB.out)⟩
end Go.Proofs.YtbcpnejdbookkaaGreat.Print
namespace Go.Proofs.YtbcpnejdbookkaaGreat.Print
open Go.RowKit Go.Proofs.YtbcpnejdbookkaaGreatW.PrintWords Go.Proofs.YtbcpnejdbookkaaGreatW.PrintLast Go.Proofs.YtbcpnejdbookkaaGreatW.PrintMore
attribute [local go_sem] max2_int min2_int max_two min_two max_three min_three max_four min_four   -- for this text's walks alone
def bocageref16_Merge.f (k : Nat) (l0 : List (S37)) : Option ((List (S37))) := (bocageref14_Tidy.f k 0 false 0 l0).bind fun t406 => (some t406)
theorem bocageref16_Merge.calls (k : Nat) (A0 : Option Addr) (c0 : Nat) (l0 : List (S37)) (r : List (S37)) (w : World) (hr0 : Kd.C k37 w A0 l0.length l0) (hc0 : l0.length ≤ c0) (h : bocageref16_Merge.f k l0 = some r) :
 Calls Tryz.prog 17 #[.slice A0 l0.length c0] w fun e w' => ∃ v0_ : Value, e = .returned (v0_) ∧ Kd.R k37 37 w' w.heap.size (fun _ => True) v0_ r ∧ Below w.heap.size w w' := by
 have hu79 := Tryz.underlying79; have HR0 := am hr0; have HC0 := am hc0; clear hr0 hc0
 have HB := am (Below.refl w.heap.size w)
 unfold bocageref16_Merge.f at h; have H := h; clear h; revert H; refine bnd fun t406 A2 H => ?_
 obtain rfl := Option.some.inj H; go_enter Tryz.func17, Tryz.ntmps17
 go_wp2_with (first | ((with_reducible refine gate_callee (f := 53) rfl ?_); refine gol (some 5) Tryz.func53 #[.agg #[.int .i64 0, .bool false, .int .i64 0], .slice A0 l0.length c0] ?_; (with_reducible refine (bocageref14_Tidy.calls _ _ _ _ _ _ _ _ _ ?side1 ?side2 A2.out).mono ?_); (case side1 => repeat (first | exact HR0.out | (with_reducible refine Kd.C_alloc ?_ _) | (with_reducible refine Kd.C_drewN ?_ _) | (with_reducible refine Kd.C_drew ?_))); (case side2 => exact HC0.out); rintro e w3 ⟨v407, rfl, ho0, hb⟩; refine ⟨_, rfl, ?_⟩; have HO408 := kw ho0 HB; replace HB := bst HB hb; clear hb ho0))
 go_ret; exact endK HO408 HB
def bocageref02_Ahead.f (k : Nat) (a0 : Int) : Option (Int × Int) := (bocageref02_Canon.f k 0 a0).bind fun bt410 => (some (bt410.1, bt410.2))
theorem bocageref02_Ahead.calls (k : Nat) (a0 : Int) (r1 : Int) (r2 : Int) (w : World) (h : bocageref02_Ahead.f k a0 = some (r1, r2)) :
 Calls Tryz.prog 85 #[.int .i64 a0] w fun e w' => e = .returned (.agg #[.int .i64 r1, .int .i64 r2]) ∧ Below w.heap.size w w' := by
 have hu33 := Tryz.underlying33
 have HB := am (Below.refl w.heap.size w)
 unfold bocageref02_Ahead.f at h; have H := h; clear h; revert H; refine bnd2 fun t410 t411 A2 H => ?_; dsimp only at H
 simp only [Option.some.injEq, Prod.mk.injEq] at H
 obtain ⟨rfl, rfl⟩ := H
 go_enter Tryz.func85, Tryz.ntmps85
 go_wp2_with (first | ((with_reducible refine gate_dst (N := 2) rfl ?_); refine bxf #[.int .i64 0, .int .i64 0] 33 HB fun gb409 w3 BK409 GW409 HB hg hb => ?_; clear hb hg) | ((with_reducible refine gate_callee (f := 77) rfl ?_); refine gob Tryz.func77 (bocageref02_Canon.calls _ _ _ _ _ _ A2.out) fun w4 hb => ?_; replace BK409 := bkb BK409 hb; replace HB := bst HB hb; (try clear hb); (try clear hb2); (try clear hk); (try clear hi); obtain ⟨_, _, _, _⟩ := s2 BK409))
 refine bodyPost_ret (results_cell_row rfl _ _ gb409 33 #[.int .i64 t410, .int .i64 t411] (0, 0) _ rfl (bkp BK409) Tryz.underlying33 rfl (by kernel_rfl)) rfl ?_
 exact endB HB
def bocageref03_Has.f (k : Nat) (a0_0 : Int) (a0_1 : Int) (a0_2 : Int) (a0_3 : Int) (a1 : Int) : Option (Bool) := (bocageref02_Ahead.f k a1).bind fun bt413 => ((bocageref03_Right.f k a0_0 a0_1 a0_2 a0_3).bind fun t416 => (if t416 = true then ((bocageref02_Less.f k bt413.1 bt413.2 a0_0 a0_1).bind fun t417 => (if t417 = true then (some false) else ((bocageref02_Less.f k bt413.1 bt413.2 a0_2 a0_3).bind fun t418 => (some t418)))) else (some false)))
theorem bocageref03_Has.calls (k : Nat) (a0_0 : Int) (a0_1 : Int) (a0_2 : Int) (a0_3 : Int) (a1 : Int) (r : Bool) (w : World) (h : bocageref03_Has.f k a0_0 a0_1 a0_2 a0_3 a1 = some r) :
 Calls Tryz.prog 55 #[.agg #[.int .i64 a0_0, .int .i64 a0_1, .int .i64 a0_2, .int .i64 a0_3], .int .i64 a1] w fun e w' => e = .returned (.bool r) ∧ Below w.heap.size w w' := by
 have hu35 := Tryz.underlying35; have hu33 := Tryz.underlying33
 have HB := am (Below.refl w.heap.size w)
 unfold bocageref03_Has.f at h; have H := h; clear h; revert H; refine bnd2 fun t413 t414 A3 H => ?_; dsimp only at H
 revert H; refine bnd fun t416 A4 H => ?_
 cases t416; rotate_left
 ·replace H := itt H; revert H; refine bnd fun t417 A6 H => ?_
  cases t417; rotate_left
  ·replace H := itt H; obtain rfl := Option.some.inj H; go_enter Tryz.func55, Tryz.ntmps55
   go_wp2_with (first | ((with_reducible refine gate_dst (N := 2) rfl ?_); refine bxf #[.int .i64 a0_0, .int .i64 a0_1, .int .i64 a0_2, .int .i64 a0_3] 35 HB fun gb412 w8 BK412 GW412 HB hg hb => ?_; have GE412 := GW412; clear hb hg) | ((with_reducible refine gate_callee (f := 85) rfl ?_); refine gob Tryz.func85 (bocageref02_Ahead.calls _ _ _ _ _ A3.out) fun w9 hb => ?_; replace BK412 := bkb BK412 hb; replace HB := bst HB hb; (try clear hb); (try clear hb2); (try clear hk); (try clear hi)) | ((with_reducible refine gate_dst (N := 5) rfl ?_); refine bxf #[.int .i64 0, .int .i64 0] 33 HB fun gb415 w10 BK415 GW415 HB hg hb => ?_; have GE415 := GW415; have NB412_415 := nlt hg BK412; have NB415_412 := ngt hg BK412; replace BK412 := bkb BK412 hb; clear hb hg; have hnb11 := NB415_412.out; have hnc11 := NB412_415.out; obtain ⟨_, _, _, _⟩ := s2 BK415; obtain ⟨_, _, _, _, _, _, _, _⟩ := s4 BK412) | ((with_reducible refine gate_callee (f := 86) rfl ?_); refine gob Tryz.func86 (bocageref03_Right.calls _ _ _ _ _ _ _ A4.out) fun w14 hb => ?_; replace BK412 := am (blk_below (bkf BK412 NB412_415) hb); replace BK415 := am (blk_below (g := gb415) (o := .cells #[.int .i64 t413, .int .i64 t414] 33 (0, 0)) (bkp BK415) hb); replace HB := bst HB hb; (try clear hb); (try clear hb2); (try clear hk); (try clear hi); obtain ⟨_, _, _, _⟩ := s2 BK415; obtain ⟨_, _, _, _, _, _, _, _⟩ := s4 BK412) | (go_at_call 87; (with_reducible refine (bocageref02_Less.calls _ _ _ _ _ _ _ A6.out).mono ?_); rintro e w17 ⟨rfl, hb⟩; replace BK412 := bkb BK412 hb; replace BK415 := bkb BK415 hb; replace HB := bst HB hb; clear hb))
   go_ret; exact endB HB
  ·replace H := itf H; revert H; refine bnd fun t418 A18 H => ?_
   obtain rfl := Option.some.inj H; go_enter Tryz.func55, Tryz.ntmps55
   go_wp2_with (first | ((with_reducible refine gate_dst (N := 2) rfl ?_); refine bxf #[.int .i64 a0_0, .int .i64 a0_1, .int .i64 a0_2, .int .i64 a0_3] 35 HB fun gb412 w19 BK412 GW412 HB hg hb => ?_; have GE412 := GW412; clear hb hg) | ((with_reducible refine gate_callee (f := 85) rfl ?_); refine gob Tryz.func85 (bocageref02_Ahead.calls _ _ _ _ _ A3.out) fun w20 hb => ?_; replace BK412 := bkb BK412 hb; replace HB := bst HB hb; (try clear hb); (try clear hb2); (try clear hk); (try clear hi)) | ((with_reducible refine gate_dst (N := 5) rfl ?_); refine bxf #[.int .i64 0, .int .i64 0] 33 HB fun gb415 w21 BK415 GW415 HB hg hb => ?_; have GE415 := GW415; have NB412_415 := nlt hg BK412; have NB415_412 := ngt hg BK412; replace BK412 := bkb BK412 hb; clear hb hg; have hnb22 := NB415_412.out; have hnc22 := NB412_415.out; obtain ⟨_, _, _, _⟩ := s2 BK415; obtain ⟨_, _, _, _, _, _, _, _⟩ := s4 BK412) | ((with_reducible refine gate_callee (f := 86) rfl ?_); refine gob Tryz.func86 (bocageref03_Right.calls _ _ _ _ _ _ _ A4.out) fun w25 hb => ?_; replace BK412 := am (blk_below (bkf BK412 NB412_415) hb); replace BK415 := am (blk_below (g := gb415) (o := .cells #[.int .i64 t413, .int .i64 t414] 33 (0, 0)) (bkp BK415) hb); replace HB := bst HB hb; (try clear hb); (try clear hb2); (try clear hk); (try clear hi); obtain ⟨_, _, _, _⟩ := s2 BK415; obtain ⟨_, _, _, _, _, _, _, _⟩ := s4 BK412) | (go_at_call 87; (with_reducible refine (bocageref02_Less.calls _ _ _ _ _ _ _ A6.out).mono ?_); rintro e w28 ⟨rfl, hb⟩; replace BK412 := bkb BK412 hb; replace BK415 := bkb BK415 hb; replace HB := bst HB hb; clear hb; obtain ⟨_, _, _, _⟩ := s2 BK415; obtain ⟨_, _, _, _, _, _, _, _⟩ := s4 BK412) | (go_at_call 87; (with_reducible refine (bocageref02_Less.calls _ _ _ _ _ _ _ A18.out).mono ?_); rintro e w31 ⟨rfl, hb⟩; replace BK412 := bkb BK412 hb; replace BK415 := bkb BK415 hb; replace HB := bst HB hb; clear hb))
   go_ret; exact endB HB
 ·replace H := itf H; obtain rfl := Option.some.inj H; go_enter Tryz.func55, Tryz.ntmps55
  go_wp2_with (first | ((with_reducible refine gate_dst (N := 2) rfl ?_); refine bxf #[.int .i64 a0_0, .int .i64 a0_1, .int .i64 a0_2, .int .i64 a0_3] 35 HB fun gb412 w32 BK412 GW412 HB hg hb => ?_; have GE412 := GW412; clear hb hg) | ((with_reducible refine gate_callee (f := 85) rfl ?_); refine gob Tryz.func85 (bocageref02_Ahead.calls _ _ _ _ _ A3.out) fun w33 hb => ?_; replace BK412 := bkb BK412 hb; replace HB := bst HB hb; (try clear hb); (try clear hb2); (try clear hk); (try clear hi)) | ((with_reducible refine gate_dst (N := 5) rfl ?_); refine bxf #[.int .i64 0, .int .i64 0] 33 HB fun gb415 w34 BK415 GW415 HB hg hb => ?_; have GE415 := GW415; have NB412_415 := nlt hg BK412; have NB415_412 := ngt hg BK412; replace BK412 := bkb BK412 hb; clear hb hg; have hnb35 := NB415_412.out; have hnc35 := NB412_415.out; obtain ⟨_, _, _, _⟩ := s2 BK415; obtain ⟨_, _, _, _, _, _, _, _⟩ := s4 BK412) | ((with_reducible refine gate_callee (f := 86) rfl ?_); refine gob Tryz.func86 (bocageref03_Right.calls _ _ _ _ _ _ _ A4.out) fun w38 hb => ?_; replace BK412 := am (blk_below (bkf BK412 NB412_415) hb); replace BK415 := am (blk_below (g := gb415) (o := .cells #[.int .i64 t413, .int .i64 t414] 33 (0, 0)) (bkp BK415) hb); replace HB := bst HB hb; (try clear hb); (try clear hb2); (try clear hk); (try clear hi)))
  go_ret; exact endB HB
def bocageref14_Part.l0 : Nat → List (S37) → Int → Int → Option (Int)
  | 0, _, _, _ => none
  | k + 1, x0, x1, x5 => if x5 < (x0.length : Int) then (if 0 ≤ x5 then ((bocageref03_Has.f k ((rd_T37 x0 x5).f0.f0.f0) ((rd_T37 x0 x5).f0.f0.f1) ((rd_T37 x0 x5).f0.f1.f0) ((rd_T37 x0 x5).f0.f1.f1) x1).bind fun t420 => (if t420 = true then (some x5) else (bocageref14_Part.l0 k x0 x1 (wrap64 (x5 + 1))))) else (none)) else (some (-1))
def bocageref14_Part.f (k : Nat) (l0 : List (S37)) (a1 : Int) : Option (Int) := bocageref14_Part.l0 k l0 a1 0
theorem bocageref14_Part.calls (k : Nat) (A0 : Option Addr) (c0 : Nat) (l0 : List (S37)) (a1 : Int) (r : Int) (w : World) (hr0 : Kd.C k37 w A0 l0.length l0) (hc0 : l0.length ≤ c0) (h : bocageref14_Part.f k l0 a1 = some r) :
 Calls Tryz.prog 19 #[.slice A0 l0.length c0, .int .i64 a1] w fun e w' => e = .returned (.int .i64 r) ∧ Below w.heap.size w w' := by
 have hu35 := Tryz.underlying35; have HR0 := am hr0; have HC0 := am hc0; clear hr0 hc0
 have HB := am (Below.refl w.heap.size w)
 have H : (bocageref14_Part.l0 k l0 a1 0) = some r := h
 clear h; have H' := am H; clear H; go_enter Tryz.func19, Tryz.ntmps19; go_wp2
 go_loopg [5] k (fun kq v5 w' => ∃ (x5_1 : Int), v5 = .int .i64 x5_1 ∧ Aside0 (bocageref14_Part.l0 kq l0 a1 x5_1 = some r) ∧ Aside0 (kq ≤ k) ∧ Aside0 (Below w.heap.size w w'))
 case atStart => exact ⟨_, rs, H', ⟨Nat.le_refl _⟩, ⟨bl HB⟩⟩
 case round =>
  clear H'
  try clear c1
  try clear p2
  obtain ⟨x5_1, rfl, HA, HK1, HB⟩ := hrel
  cases gk with
  | zero => exact absurd HA.out (by simp [bocageref14_Part.l0])
  | succ k1 =>
   have H := HA.out; clear HA
   simp only [bocageref14_Part.l0] at H
   revert H; refine itc (fun c3b0 H => ?_) fun c3b0 H => ?_
   ·revert H; refine its fun c4b0 H => ?_
    revert H; refine bnd fun t420 A5 H => ?_
    cases t420; rotate_left
    ·replace H := itt H; obtain rfl := Option.some.inj H
     obtain ⟨ad419, e419, hx419_0, hx419_1, hx419_2, hx419_3, hx419_4, p419, q419⟩ := ax37 HR0 HB x5_1
     cases e419
     go_wp2_with (first | ((with_reducible refine gate_callee (f := 55) rfl ?_); refine gob Tryz.func55 (bocageref03_Has.calls _ _ _ _ _ _ _ _ A5.out) fun w7 hb => ?_; replace HB := bst HB hb; (try clear hb); (try clear hb2); (try clear hk); (try clear hi)))
     go_ret; exact endB HB
    ·replace H := itf H; have H' := am H; clear H
     obtain ⟨ad419, e419, hx419_0, hx419_1, hx419_2, hx419_3, hx419_4, p419, q419⟩ := ax37 HR0 HB x5_1
     cases e419
     go_wp2_with (first | ((with_reducible refine gate_callee (f := 55) rfl ?_); refine gob Tryz.func55 (bocageref03_Has.calls _ _ _ _ _ _ _ _ A5.out) fun w8 hb => ?_; replace HB := bst HB hb; (try clear hb); (try clear hb2); (try clear hk); (try clear hi)))
     go_roundg k1
     case measure => have := HK1.out; omega
     case rel => exact ⟨_, rs, H', kl HK1, ⟨bl HB⟩⟩
   ·obtain rfl := Option.some.inj H; go_wp2; go_ret; exact endB HB
mutual
def bocageref02_Sort.l0 : Nat → List (S33) → List (S33) → Option ((List (S33)))
  | 0, _, _ => none
  | k + 1, x0, x3 => bocageref02_Sort.l1 k x0 x3 false 0 0 0
def bocageref02_Sort.l1 : Nat → List (S33) → List (S33) → Bool → Int → Int → Int → Option ((List (S33)))
  | 0, _, _, _, _, _, _ => none
  | k + 1, x0, x3, x4, x6, x422000, x422001 => if x6 < (x0.length : Int) then (if (x3.length : Int) = 0 then (bocageref02_Sort.j2 k x0 x3 x4 x6 true x422000 x422001) else (if 0 ≤ (wrap64 ((x3.length : Int) - 1)) then (if (wrap64 ((x3.length : Int) - 1)) < (x3.length : Int) then (if 0 ≤ x6 then ((bocageref02_Less.f k ((rd_T33 x3 (wrap64 ((x3.length : Int) - 1))).f0) ((rd_T33 x3 (wrap64 ((x3.length : Int) - 1))).f1) ((rd_T33 x0 x6).f0) ((rd_T33 x0 x6).f1)).bind fun t427 => (bocageref02_Sort.j2 k x0 x3 x4 x6 t427 x422000 x422001)) else (none)) else (none)) else (none))) else (if x4 = true then (if x3.length < 8796093022208 then (bocageref02_Sort.l0 k x0 (x3 ++ [(⟨x422000, x422001⟩ : S33)])) else (none)) else (some x3))
def bocageref02_Sort.j2 : Nat → List (S33) → List (S33) → Bool → Int → Bool → Int → Int → Option ((List (S33)))
  | 0, _, _, _, _, _, _, _ => none
  | k + 1, x0, x3, x4, x6, x7, x422000, x422001 => if x7 = true then (if x4 = true then (if 0 ≤ x6 then (if x6 < (x0.length : Int) then ((bocageref02_Less.f k ((rd_T33 x0 x6).f0) ((rd_T33 x0 x6).f1) x422000 x422001).bind fun t429 => (if t429 = true then ((bocageref02_Canon.f k ((rd_T33 x0 x6).f0) ((rd_T33 x0 x6).f1)).bind fun bt431 => (bocageref02_Sort.l1 k x0 x3 true (wrap64 (x6 + 1)) bt431.1 bt431.2)) else (bocageref02_Sort.l1 k x0 x3 x4 (wrap64 (x6 + 1)) x422000 x422001))) else (none)) else (none)) else (if 0 ≤ x6 then (if x6 < (x0.length : Int) then ((bocageref02_Canon.f k ((rd_T33 x0 x6).f0) ((rd_T33 x0 x6).f1)).bind fun bt434 => (bocageref02_Sort.l1 k x0 x3 true (wrap64 (x6 + 1)) bt434.1 bt434.2)) else (none)) else (none))) else (bocageref02_Sort.l1 k x0 x3 x4 (wrap64 (x6 + 1)) x422000 x422001)
end
def bocageref02_Sort.f (k : Nat) (l0 : List (S33)) : Option ((List (S33))) := bocageref02_Sort.l0 k l0 ([] : List (S33))
def bocageref02_Sort.T7 : Bool × List (List Nat × List Nat) := (true, [([], []), ([0], [0]), ([1], [1]), ([2], [2]), ([3], [3]), ([3], [3]), ([5, 3], [3, 5]), ([6, 3], [3, 6]), ([4, 7, 3], [3, 4, 7]), ([8, 3], [3, 8]), ([3], [3]), ([3], [3]), ([10, 11, 3], [3, 10, 11]), ([12, 3], [3, 12]), ([9, 13, 3, 3], [3, 9, 13]), ([3, 14], [3, 14]), ([15, 14, 0, 1, 2, 3, 4, 5, 6, 7, 8, 9, 10, 11, 12, 13, 14, 15], [15])])
def bocageref02_Sort.B7 : List Nat := [0, 1, 3, 7, 15, 15, 47, 111, 255, 511, 15, 15, 3087, 7183, 16383, 32767, 65535]
theorem bocageref02_Sort.tab7 : rtab .any (opsOf Tryz.f99 7) = bocageref02_Sort.T7 := by kernel_rfl
theorem bocageref02_Sort.bits7 : waitsOk bocageref02_Sort.T7.2 bocageref02_Sort.B7 = true := by kernel_rfl
def bocageref02_Sort.T8 : Bool × List (List Nat × List Nat) := (true, [([], []), ([0], [0]), ([1], [1]), ([2, 1], [1, 2]), ([3, 1, 1], [1, 3]), ([4], [4]), ([4], [4]), ([5, 6, 4], [4, 5, 6]), ([7, 4], [4, 7]), ([4], [4]), ([8, 9, 4, 4], [4, 8, 9]), ([4, 10, 1], [1, 4, 10]), ([1, 11], [1, 11])])
def bocageref02_Sort.B8 : List Nat := [0, 1, 3, 7, 15, 31, 31, 127, 255, 31, 1023, 2047, 4095]
theorem bocageref02_Sort.tab8 : rtab .any (opsOf Tryz.f99 8) = bocageref02_Sort.T8 := by kernel_rfl
theorem bocageref02_Sort.bits8 : waitsOk bocageref02_Sort.T8.2 bocageref02_Sort.B8 = true := by kernel_rfl
theorem bocageref02_Sort.calls (k : Nat) (A0 : Option Addr) (c0 : Nat) (l0 : List (S33)) (r : List (S33)) (w : World) (hr0 : Kd.C k33 w A0 l0.length l0) (hc0 : l0.length ≤ c0) (h : bocageref02_Sort.f k l0 = some r) :
 Calls Tryz.prog 99 #[.slice A0 l0.length c0] w fun e w' => ∃ v0_ : Value, e = .returned (v0_) ∧ Kd.R k33 33 w' w.heap.size (fun _ => True) v0_ r ∧ Below w.heap.size w w' := by
 have hu33 := Tryz.underlying33; have HR0 := am hr0; have HC0 := am hc0; clear hr0 hc0
 have HB := am (Below.refl w.heap.size w)
 have H : (bocageref02_Sort.l0 k l0 ([] : List (S33))) = some r := h
 clear h; have H' := am H; clear H; go_enter Tryz.func99, Tryz.ntmps99; go_wp2
 go_loopg [3] k (fun kq v3 w' => ∃ (x3_1 : List (S33)), Aside0 (bocageref02_Sort.l0 kq l0 x3_1 = some r) ∧ Aside0 (kq ≤ k) ∧ Aside0 (Kd.R k33 33 w' w.heap.size (fun _ => True) v3 x3_1) ∧ Aside0 (Below w.heap.size w w'))
 case atStart => exact ⟨_, H', ⟨Nat.le_refl _⟩, kn, ⟨bl HB⟩⟩
 case round =>
  clear H'
  obtain ⟨x3_1, HA, HK1, HO_3, HB⟩ := hrel
  cases gk with
  | zero => exact absurd HA.out (by simp [bocageref02_Sort.l0])
  | succ k1 =>
   have H := HA.out; clear HA
   simp only [bocageref02_Sort.l0] at H
   have H' := am H; clear H
   go_wp2_with (first | ((with_reducible refine gate_dst (N := 5) rfl ?_); (try (refine gate_guard (by rfl) ?_; dsimp only)); refine bxf #[.int .i64 0, .int .i64 0] 33 HB fun gb421 w2 BK421 GW421 HB hg hb => ?_; replace HO_3 := am (Kd.R_below (Kd.R_elderB (kr HO_3) gb421 (Nat.le_of_eq hg.symm)) hb); have GE421 := GW421; clear hb hg))
   go_loopg [4, 6] k1 (fun kq v4 v6 w' => ∃ (x4_2 : Bool) (x6_2 : Int) (x422000_2 : Int) (x422001_2 : Int), v4 = .bool x4_2 ∧ v6 = .int .i64 x6_2 ∧ Aside0 (bocageref02_Sort.l1 kq l0 x3_1 x4_2 x6_2 x422000_2 x422001_2 = some r) ∧ Aside0 (kq ≤ k1) ∧ Aside0 (Kd.R k33 33 w' w.heap.size (fun k_ => k_ ≠ gb421) u3 x3_1) ∧ Aside0 (w'.heap[gb421]? = some (.cells #[.int .i64 x422000_2, .int .i64 x422001_2] 33 (0, 0))) ∧ Aside0 (Below w.heap.size w w'))
   case atStart => exact ⟨_, _, _, _, rs, rs, H', ⟨Nat.le_refl _⟩, ⟨by (with_reducible repeat (first | apply Kd.R_alloc | apply Kd.R_drewN | apply Kd.R_drew)); exact Kd.R_mono HO_3.out (fun _ hk => hk.2)⟩, ⟨bk BK421⟩, ⟨bl HB⟩⟩
   case round =>
    clear H'
    try clear p2
    obtain ⟨x4_2, x6_2, x422000_2, x422001_2, rfl, rfl, HA, HK2, HO_3, BK421, HB⟩ := hrel
    cases gk with
    | zero => exact absurd HA.out (by simp [bocageref02_Sort.l1])
    | succ k2 =>
     have H := HA.out; clear HA
     simp only [bocageref02_Sort.l1] at H
     revert H; refine itc (fun c3b0 H => ?_) fun c3b0 H => ?_
     ·have HC4 := am H; clear H
      go_upto_region 7 with (fail)
      go_cut [7] (fun v7 wc => ∃ (kq : Nat) (x7_3 : Bool), v7 = .bool x7_3 ∧ Aside0 (bocageref02_Sort.j2 kq l0 x3_1 x4_2 x6_2 x7_3 x422000_2 x422001_2 = some r) ∧ Aside0 (kq ≤ k2) ∧ Aside0 (Kd.R k33 33 wc w.heap.size (fun k_ => k_ ≠ gb421) u3 x3_1) ∧ Aside0 (wc.heap[gb421]? = some (.cells #[.int .i64 x422000_2, .int .i64 x422001_2] 33 (0, 0))) ∧ Aside0 (Below w.heap.size w wc))
      case first =>
       have H := HC4.out; clear HC4
       by_cases c5 : (x3_1.length : Int) = 0
       ·rw [if_pos c5] at H
        have c5b0 : ((x3_1.length : Int) == 0) = true := beq_iff_eq.mpr c5
        have c5b1 : ((x3_1.length : Int) != 0) = false := bne_eq_false_iff_eq.mpr c5
        clear c5
        (first | rw [c5b0] | (simp only [i64_w, i32_w]; rw [c5b0]) | skip)
        have H' := am H; clear H
        try go_wp2
        replace HO_3 := am (Kd.R_drew HO_3.out); replace BK421 := am (blk_drew BK421.out); replace HB := am (below_drew1 HB.out)
        obtain ⟨Ao7, co7, eo7⟩ := Kd.R_slice HO_3.out
        (first | subst eo7 | (injection eo7 with f1_ f2_ f3_; have f4_ := f1_.symm; have f5_ := f3_.symm; clear f1_ f2_ f3_; subst f4_; subst f5_))
        refine st F17 [] h0 fun hHeld => ?_; refine with_tabW bocageref02_Sort.tab7 bocageref02_Sort.bits7 (fun HT_ HW_ => ?_)
        generalize wr.drew = w6 at HO_3 BK421 HB hHeld ⊢; refine pw 0 14 HT_ ?_; refine pw 1 15 HT_ ?_; refine pw 2 16 HT_ ?_; refine pw 3 17 HT_ ?_; refine px 4 18 HT_ ?_; refine px 5 19 HT_ ?_; refine px 6 20 HT_ ?_; refine px 7 21 HT_ ?_; refine px 8 22 HT_ ?_; refine px 9 23 HT_ ?_; refine px 10 24 HT_ ?_; refine px 11 25 HT_ ?_; refine px 12 26 HT_ ?_; refine px 13 27 HT_ ?_; refine px 14 28 HT_ ?_; refine pw 15 29 HT_ ?_; refine pw 16 7 HT_ ?_
        refine dt HT_ ?_
        try go_wp2
        go_meet
        case rel => exact ⟨_, (true), rs, H', ⟨by have := HK1.out; have := HK2.out; first | omega | exact Nat.le_refl _⟩, ⟨kr HO_3⟩, ⟨bk BK421⟩, ⟨bl HB⟩⟩
       ·rw [if_neg c5] at H
        have c5b0 : ((x3_1.length : Int) == 0) = false := beq_eq_false_iff_ne.mpr c5
        have c5b1 : ((x3_1.length : Int) != 0) = true := bne_iff_ne.mpr c5
        have c5b2 : ¬ (x3_1 = []) := fun h_ => c5 (by rw [h_]; rfl)
        (first | rw [c5b0] | (simp only [i64_w, i32_w]; rw [c5b0]) | skip)
        obtain ⟨ji8, hji8⟩ : ∃ j_ : Int, (wrap64 ((x3_1.length : Int) - 1)) = j_ := ⟨_, rfl⟩
        (first | rw [hji8] at H | simp only [hji8] at H)
        have hji8w : (IntKind.i64.wrap ((x3_1.length : Int) - 1)) = ji8 := (i64_w _).trans hji8
        revert H; refine its fun c9b0 H => ?_
        revert H; refine its fun c10b0 H => ?_
        revert H; refine its fun c11b0 H => ?_
        replace H := Option.bind_eq_some_iff.mp H
        obtain ⟨t427, A120, H⟩ := H
        (try (set_option simprocs false in dsimp only at H))
        have A12 := am A120; clear A120; have H' := am H; clear H
        try go_wp2
        replace HO_3 := am (Kd.R_drew HO_3.out); replace BK421 := am (blk_drew BK421.out); replace HB := am (below_drew1 HB.out)
        obtain ⟨Ao14, co14, eo14⟩ := Kd.R_slice HO_3.out
        (first | subst eo14 | (injection eo14 with f1_ f2_ f3_; have f4_ := f1_.symm; have f5_ := f3_.symm; clear f1_ f2_ f3_; subst f4_; subst f5_))
        obtain ⟨ad425, e425, hx425_0, hx425_1, p425, q425⟩ := ay33 (Kd.R_reads' HO_3.out).2.2 (ji8)
        cases e425; have p426 : 0 ≤ (x6_2 : Int) := pd; have q426 : x6_2 < (l0.length : Int) := pd; obtain ⟨ad426, e426, hx426_0, hx426_1⟩ := at_T33 HR0.out x6_2 p426 q426
        have hw426_1 := hx426_1
        have hw426_0 := hx426_0
        cases e426; replace hx426_0 := cl HB hx426_0; replace hx426_1 := cl HB hx426_1; replace p426 := eq_true p426; replace q426 := eq_true q426
        refine st F17 [] (g1 hx425_0 (g1 hx425_1 (g1 (cl HB hw426_0) (h1 (cl HB hw426_1))))) fun hHeld => ?_; refine with_tabW bocageref02_Sort.tab7 bocageref02_Sort.bits7 (fun HT_ HW_ => ?_)
        generalize wr.drew = w13 at HO_3 BK421 HB hx425_0 hx425_1 hx426_0 hx426_1 hHeld ⊢; refine pw 0 14 HT_ ?_; refine pw 1 15 HT_ ?_; refine pw 2 16 HT_ ?_; refine pw 3 17 HT_ ?_; refine pw 4 18 HT_ ?_; refine pw 5 19 HT_ ?_; refine pw 6 20 HT_ ?_; refine pw 7 21 HT_ ?_; refine pw 8 22 HT_ ?_; refine pw 10 24 HT_ ?_; refine pw 11 25 HT_ ?_; refine pw 12 26 HT_ ?_; refine tw4 9 23 HT_ HW_ hHeld ?_; refine tw4 13 27 HT_ HW_ hHeld ?_
        refine on 14 HT_ fun K hK => ?_
        refine goes_ Tryz.func87 (by kernel_rfl) rfl #[.agg #[.int .i64 ((rd_T33 x3_1 (ji8)).f0), .int .i64 ((rd_T33 x3_1 (ji8)).f1)], .agg #[.int .i64 ((rd_T33 l0 x6_2).f0), .int .i64 ((rd_T33 l0 x6_2).f1)]] (by rfl) rfl rfl (by (try simp only [List.map_toArray, List.map_cons, List.map_nil]); first | done | (simp only [hji8]; rfl) | rfl | (simp only [List.length_drop, List.length_take]; rfl)) ?_
        with_reducible refine (bocageref02_Less.calls _ _ _ _ _ _ _ A12.out).mono ?_
        rintro e w15 ⟨rfl, hb⟩
        have HS0_ := (hb.cell (World.block_lt_of_cell? _ _ (hHeld.1))).trans (hHeld.1)
        have HS1_ := (hb.cell (World.block_lt_of_cell? _ _ (hHeld.2.1))).trans (hHeld.2.1)
        refine ⟨_, rfl, ?_⟩; replace HO_3 := krb HO_3 hb; replace BK421 := bkb BK421 hb; replace HB := bst HB hb
        (try clear hb)
        (try clear hb2)
        (try clear hk)
        (try clear hi)
        refine hK.out _ _ ⟨HS0_, HS1_, (cl HB hw426_0), (cl HB hw426_1)⟩ (fun hHeld => ?_); clear hK K; refine nrp 28 ?_; refine pw 15 29 HT_ ?_; refine pw 16 7 HT_ ?_
        refine dt HT_ ?_
        try go_wp2
        go_meet
        case rel => exact ⟨_, (t427), rs, H', ⟨by have := HK1.out; have := HK2.out; first | omega | exact Nat.le_refl _⟩, ⟨kr HO_3⟩, ⟨bk BK421⟩, ⟨bl HB⟩⟩
      case rest =>
       clear HC4
       try clear c1
       try clear p2
       try clear c3
       try clear c3b0
       try clear p4
       try clear q4
       try clear hx4
       try clear c5
       try clear c5b0
       try clear c5b1
       try clear c5b2
       try clear p6
       try clear c8
       try clear c9
       try clear c9b0
       try clear c10
       try clear c10b0
       try clear c11
       try clear c11b0
       try clear hx425_0
       try clear hx425_1
       try clear hx426_0
       try clear hx426_1
       try clear p2
       try clear p425
       try clear p426
       try clear q425
       try clear q426
       obtain ⟨kq, x7_3, rfl, HA, HJ3, HO_3, BK421, HB⟩ := hcut
       cases kq with
       | zero => exact absurd HA.out (by simp [bocageref02_Sort.j2])
       | succ kj3 =>
        have H := HA.out; clear HA
        simp only [bocageref02_Sort.j2] at H
        cases x7_3; rotate_left
        ·replace H := itt H; cases x4_2; rotate_left
         ·replace H := itt H; revert H; refine its fun c18b0 H => ?_
          revert H; refine its fun c19b0 H => ?_
          replace H := Option.bind_eq_some_iff.mp H
          obtain ⟨t429, A200, H⟩ := H
          (try (set_option simprocs false in dsimp only at H))
          have A20 := am A200; clear A200; cases t429; rotate_left
          ·replace H := itt H
           replace H := Option.bind_eq_some_iff.mp H
           obtain ⟨⟨t431, t432⟩, A220, H⟩ := H
           (try (set_option simprocs false in dsimp only at H))
           have A22 := am A220; clear A220; have H' := am H; clear H
           try go_wp2
           replace HO_3 := am (Kd.R_drew HO_3.out); replace BK421 := am (blk_drew BK421.out); replace HB := am (below_drew1 HB.out); have p428 : 0 ≤ (x6_2 : Int) := pd; have q428 : x6_2 < (l0.length : Int) := pd; obtain ⟨ad428, e428, hx428_0, hx428_1⟩ := at_T33 HR0.out x6_2 p428 q428
           have hw428_1 := hx428_1
           have hw428_0 := hx428_0
           cases e428; replace hx428_0 := cl HB hx428_0; replace hx428_1 := cl HB hx428_1; replace p428 := eq_true p428; replace q428 := eq_true q428
           refine st F13 [] (g2 BK421 (g1 (cl HB hw428_0) (h1 (cl HB hw428_1)))) fun hHeld => ?_; refine with_tabW bocageref02_Sort.tab8 bocageref02_Sort.bits8 (fun HT_ HW_ => ?_)
           generalize wc.drew = w23 at HO_3 BK421 HB hx428_0 hx428_1 hHeld ⊢; refine pw 0 30 HT_ ?_; refine pw 1 31 HT_ ?_; refine pw 2 32 HT_ ?_; refine pw 3 33 HT_ ?_; refine pw 4 34 HT_ ?_; refine pw 5 35 HT_ ?_; refine pw 6 36 HT_ ?_; refine pw 7 37 HT_ ?_; refine tw4 8 38 HT_ HW_ hHeld ?_; refine tw4 9 39 HT_ HW_ hHeld ?_
           refine ca 10 HT_ Tryz.func87 (bocageref02_Less.calls _ _ _ _ _ _ _ A20.out) hHeld fun w24 hb hHeld => ?_
           replace HO_3 := krb HO_3 hb; replace BK421 := bkb BK421 hb; replace HB := bst HB hb; clear hb; refine pw 11 41 HT_ ?_; refine pw 12 42 HT_ ?_
           refine dt HT_ ?_
           obtain ⟨ad430, e430, hx430_0, hx430_1, p430, q430⟩ := ax33 HR0 HB x6_2
           obtain rfl : ad428 = ad430 := (by injection e430)
           try go_wp2_with (first | ((with_reducible refine gate_callee (f := 77) rfl ?_); refine gob Tryz.func77 (bocageref02_Canon.calls _ _ _ _ _ _ A22.out) fun w25 hb => ?_; replace HO_3 := krb HO_3 hb; replace BK421 := bkb BK421 hb; replace HB := bst HB hb; (try clear hb); (try clear hb2); (try clear hk); (try clear hi); obtain ⟨_, _, _, _⟩ := s2 BK421))
           go_roundg kj3
           case measure => have := HK1.out; have := HK2.out; have := HJ3.out; omega
           case rel => exact ⟨_, _, _, _, rs, rs, H', ⟨by have := HK1.out; have := HK2.out; have := HJ3.out; omega⟩, ⟨by (with_reducible repeat (first | apply Kd.R_alloc | apply Kd.R_drewN | apply Kd.R_drew)); exact Kd.R_mono (Kd.R_far (p := ⟨gb421, 1, none⟩) (Kd.R_far (p := ⟨gb421, 0, none⟩) (Kd.R_mono HO_3.out (fun k_ hk => (⟨hk, hk⟩ : _ ∧ k_ ≠ gb421))) (fun _ hk => hk.2) (.int .i64 t431)) (fun _ hk => hk.2) (.int .i64 t432)) (fun _ hk => hk.1)⟩, ⟨by (with_reducible repeat (first | refine blk_drewN ?_ _ | refine blk_drew ?_ | refine blk_alloc ?_ _)); refine blk_put (cs := #[.int .i64 t431, .int .i64 x422001_2]) ?_ 1 _ rfl; (with_reducible repeat (first | refine blk_drewN ?_ _ | refine blk_drew ?_ | refine blk_alloc ?_ _)); refine blk_put (cs := #[.int .i64 x422000_2, .int .i64 x422001_2]) ?_ 0 _ rfl; (with_reducible repeat (first | refine blk_drewN ?_ _ | refine blk_drew ?_ | refine blk_alloc ?_ _)); exact BK421.out⟩, ⟨bl HB⟩⟩
          ·replace H := itf H; have H' := am H; clear H
           try go_wp2
           replace HO_3 := am (Kd.R_drew HO_3.out); replace BK421 := am (blk_drew BK421.out); replace HB := am (below_drew1 HB.out); have p428 : 0 ≤ (x6_2 : Int) := pd; have q428 : x6_2 < (l0.length : Int) := pd; obtain ⟨ad428, e428, hx428_0, hx428_1⟩ := at_T33 HR0.out x6_2 p428 q428
           have hw428_1 := hx428_1
           have hw428_0 := hx428_0
           cases e428; replace hx428_0 := cl HB hx428_0; replace hx428_1 := cl HB hx428_1; replace p428 := eq_true p428; replace q428 := eq_true q428
           refine st F13 [] (g2 BK421 (g1 (cl HB hw428_0) (h1 (cl HB hw428_1)))) fun hHeld => ?_; refine with_tabW bocageref02_Sort.tab8 bocageref02_Sort.bits8 (fun HT_ HW_ => ?_)
           generalize wc.drew = w27 at HO_3 BK421 HB hx428_0 hx428_1 hHeld ⊢; refine pw 0 30 HT_ ?_; refine pw 1 31 HT_ ?_; refine pw 2 32 HT_ ?_; refine pw 3 33 HT_ ?_; refine pw 4 34 HT_ ?_; refine pw 5 35 HT_ ?_; refine pw 6 36 HT_ ?_; refine pw 7 37 HT_ ?_; refine tw4 8 38 HT_ HW_ hHeld ?_; refine tw4 9 39 HT_ HW_ hHeld ?_
           refine ca 10 HT_ Tryz.func87 (bocageref02_Less.calls _ _ _ _ _ _ _ A20.out) hHeld fun w28 hb hHeld => ?_
           replace HO_3 := krb HO_3 hb; replace BK421 := bkb BK421 hb; replace HB := bst HB hb; clear hb; refine pw 11 41 HT_ ?_; refine pw 12 42 HT_ ?_
           refine dt HT_ ?_
           try go_wp2
           go_roundg kj3
           case measure => have := HK1.out; have := HK2.out; have := HJ3.out; omega
           case rel => exact ⟨_, _, _, _, rs, rs, H', ⟨by have := HK1.out; have := HK2.out; have := HJ3.out; omega⟩, ⟨kr HO_3⟩, ⟨bk BK421⟩, ⟨bl HB⟩⟩
         ·replace H := itf H; revert H; refine its fun c29b0 H => ?_
          revert H; refine its fun c30b0 H => ?_
          replace H := Option.bind_eq_some_iff.mp H
          obtain ⟨⟨t434, t435⟩, A310, H⟩ := H
          (try (set_option simprocs false in dsimp only at H))
          have A31 := am A310; clear A310; have H' := am H; clear H
          try go_wp2
          replace HO_3 := am (Kd.R_drew HO_3.out); replace BK421 := am (blk_drew BK421.out); replace HB := am (below_drew1 HB.out)
          refine st F13 [] h0 fun hHeld => ?_; refine with_tabW bocageref02_Sort.tab8 bocageref02_Sort.bits8 (fun HT_ HW_ => ?_)
          generalize wc.drew = w32 at HO_3 BK421 HB hHeld ⊢; refine pw 0 30 HT_ ?_; refine pw 1 31 HT_ ?_; refine pw 2 32 HT_ ?_; refine pw 3 33 HT_ ?_; refine pw 4 34 HT_ ?_; refine px 5 35 HT_ ?_; refine px 6 36 HT_ ?_; refine px 7 37 HT_ ?_; refine px 8 38 HT_ ?_; refine px 9 39 HT_ ?_; refine px 10 40 HT_ ?_; refine pw 11 41 HT_ ?_; refine pw 12 42 HT_ ?_
          refine dt HT_ ?_
          obtain ⟨ad433, e433, hx433_0, hx433_1, p433, q433⟩ := ax33 HR0 HB x6_2
          cases e433
          try go_wp2_with (first | ((with_reducible refine gate_callee (f := 77) rfl ?_); refine gob Tryz.func77 (bocageref02_Canon.calls _ _ _ _ _ _ A31.out) fun w33 hb => ?_; replace HO_3 := krb HO_3 hb; replace BK421 := bkb BK421 hb; replace HB := bst HB hb; (try clear hb); (try clear hb2); (try clear hk); (try clear hi); obtain ⟨_, _, _, _⟩ := s2 BK421))
          go_roundg kj3
          case measure => have := HK1.out; have := HK2.out; have := HJ3.out; omega
          case rel => exact ⟨_, _, _, _, rs, rs, H', ⟨by have := HK1.out; have := HK2.out; have := HJ3.out; omega⟩, ⟨by (with_reducible repeat (first | apply Kd.R_alloc | apply Kd.R_drewN | apply Kd.R_drew)); exact Kd.R_mono (Kd.R_far (p := ⟨gb421, 1, none⟩) (Kd.R_far (p := ⟨gb421, 0, none⟩) (Kd.R_mono HO_3.out (fun k_ hk => (⟨hk, hk⟩ : _ ∧ k_ ≠ gb421))) (fun _ hk => hk.2) (.int .i64 t434)) (fun _ hk => hk.2) (.int .i64 t435)) (fun _ hk => hk.1)⟩, ⟨by (with_reducible repeat (first | refine blk_drewN ?_ _ | refine blk_drew ?_ | refine blk_alloc ?_ _)); refine blk_put (cs := #[.int .i64 t434, .int .i64 x422001_2]) ?_ 1 _ rfl; (with_reducible repeat (first | refine blk_drewN ?_ _ | refine blk_drew ?_ | refine blk_alloc ?_ _)); refine blk_put (cs := #[.int .i64 x422000_2, .int .i64 x422001_2]) ?_ 0 _ rfl; (with_reducible repeat (first | refine blk_drewN ?_ _ | refine blk_drew ?_ | refine blk_alloc ?_ _)); exact BK421.out⟩, ⟨bl HB⟩⟩
        ·replace H := itf H; have H' := am H; clear H
         try go_wp2
         replace HO_3 := am (Kd.R_drew HO_3.out); replace BK421 := am (blk_drew BK421.out); replace HB := am (below_drew1 HB.out)
         refine st F13 [] h0 fun hHeld => ?_; refine with_tabW bocageref02_Sort.tab8 bocageref02_Sort.bits8 (fun HT_ HW_ => ?_)
         generalize wc.drew = w35 at HO_3 BK421 HB hHeld ⊢; refine pw 0 30 HT_ ?_; refine pw 1 31 HT_ ?_; refine px 2 32 HT_ ?_; refine px 3 33 HT_ ?_; refine px 4 34 HT_ ?_; refine px 5 35 HT_ ?_; refine px 6 36 HT_ ?_; refine px 7 37 HT_ ?_; refine px 8 38 HT_ ?_; refine px 9 39 HT_ ?_; refine px 10 40 HT_ ?_; refine px 11 41 HT_ ?_; refine pw 12 42 HT_ ?_
         refine dt HT_ ?_
         try go_wp2
         go_roundg kj3
         case measure => have := HK1.out; have := HK2.out; have := HJ3.out; omega
         case rel => exact ⟨_, _, _, _, rs, rs, H', ⟨by have := HK1.out; have := HK2.out; have := HJ3.out; omega⟩, ⟨kr HO_3⟩, ⟨bk BK421⟩, ⟨bl HB⟩⟩
     ·cases x4_2; rotate_left
      ·replace H := itt H; revert H; refine itl fun LMc37 H => ?_
       generalize hy422 : x3_1 ++ [(⟨x422000_2, x422001_2⟩ : S33)] = y422 at H; have Ny422 := am hy422.symm; clear hy422; have H' := am H; clear H; obtain ⟨_, _, _, _⟩ := s2 BK421
       go_wp2_with (first | ((with_reducible refine gate_builtin (b := .append) (xs := #[.tmp 51, .tmp 53]) rfl ?_); (try (refine gate_guard (by rfl) ?_; dsimp only)); at_builtin; refine Kd.R_append k33 (w0 := w) w.heap.size rfl (.tmp 51) (.tmp 53) 71 33 (.agg #[(.int .i64 0), (.int .i64 0)]) 16 rfl Tryz.underlying71 info33 rfl (by decide) (by omega) u3 x3_1 (⟨x422000_2, x422001_2⟩ : S33) [.int .i64 x422000_2, .int .i64 x422001_2] (fun k_ => k_ ≠ gb421) (fun _ => False) rfl rfl ?aP (fun _ hk => hk.elim) ?aF ?aO ?aB ?aS ?aL ?_; (case aP => exact k33_mkM _ _ _ (⟨x422000_2, x422001_2⟩ : S33)); (case aB => exact (bl HB)); (case aF => exact (fun k_ hk => Kd.freshB (bk BK421) k_ hk)); (case aO => exact (kr HO_3)); (case aS => exact (below_size (bl HB))); (case aL => have := LMc37.out; omega); intro v423 w39 ho hb hg hat; rw [← Ny422.out] at ho; replace BK421 := am (blk_grown (bk BK421) hg (Kd.R_away HO_3.out (fun _ hk => hk))); replace HB := am hb; have HO424 := am ho; clear HO_3; clear ho hb hg hat))
       go_roundg k2
       case measure => have := HK1.out; have := HK2.out; omega
       case rel => exact ⟨_, H', ⟨by have := HK1.out; have := HK2.out; omega⟩, ⟨by (with_reducible repeat (first | apply Kd.R_alloc | apply Kd.R_drewN | apply Kd.R_drew)); exact Kd.R_mono HO424.out (fun _ hk => trivial)⟩, ⟨bl HB⟩⟩
      ·replace H := itf H; obtain rfl := Option.some.inj H; go_wp2; go_ret
       exact ⟨_, by first | rfl | (simp [errW_none, errW_some] <;> rfl) | (simp [*, errW_none, errW_some] <;> rfl), by (with_reducible repeat (first | apply Kd.R_alloc | apply Kd.R_drewN | apply Kd.R_drew)); exact Kd.R_mono HO_3.out (fun _ hk => trivial), by repeat (first | (with_reducible first | exact HB.out | apply below_alloc | apply pw_below_drewN | apply below_drew1 | refine below_set ?_ GE421.out) | exact HB.out)⟩
def bocageref03_Cuts.l0 : Nat → List (S35) → List (S33) → Int → Option ((List (S33)))
  | 0, _, _, _ => none
  | k + 1, x0, x3, x4 => if x4 < (x0.length : Int) then (if 0 ≤ x4 then ((bocageref03_Right.f k ((rd_T35 x0 x4).f0.f0) ((rd_T35 x0 x4).f0.f1) ((rd_T35 x0 x4).f1.f0) ((rd_T35 x0 x4).f1.f1)).bind fun t437 => (if t437 = true then ((some (([(⟨(rd_T35 x0 x4).f0.f0, (rd_T35 x0 x4).f0.f1⟩ : S33), (⟨(rd_T35 x0 x4).f1.f0, (rd_T35 x0 x4).f1.f1⟩ : S33)] : List (S33)) : List (S33))).bind fun y440 => (if x3.length + y440.length < 8796093022208 then (bocageref03_Cuts.l0 k x0 (x3 ++ y440) (wrap64 (x4 + 1))) else (none))) else (bocageref03_Cuts.l0 k x0 x3 (wrap64 (x4 + 1))))) else (none)) else ((bocageref02_Sort.f k x3).bind fun t446 => (some t446))
def bocageref03_Cuts.f (k : Nat) (l0 : List (S35)) : Option ((List (S33))) := bocageref03_Cuts.l0 k l0 ([] : List (S33)) 0
def bocageref03_Cuts.T6 : Bool × List (List Nat × List Nat) := (true, [([], []), ([], []), ([], []), ([1, 2], [1, 2]), ([3], [3]), ([4], [4]), ([], []), ([], []), ([6, 7], [6, 7]), ([8], [8]), ([9], [9]), ([5, 10], [5, 10]), ([0, 11], [0, 11]), ([12, 12, 0, 1, 2, 3, 4, 5, 6, 7, 8, 9, 10, 11, 12], [0, 12])])
def bocageref03_Cuts.B6 : List Nat := [0, 0, 0, 6, 14, 30, 0, 0, 192, 448, 960, 2046, 4095, 8191]
theorem bocageref03_Cuts.tab6 : rtab .any (opsOf Tryz.f66 6) = bocageref03_Cuts.T6 := by kernel_rfl
theorem bocageref03_Cuts.bits6 : waitsOk bocageref03_Cuts.T6.2 bocageref03_Cuts.B6 = true := by kernel_rfl
theorem bocageref03_Cuts.calls (k : Nat) (A0 : Option Addr) (c0 : Nat) (l0 : List (S35)) (r : List (S33)) (w : World) (hr0 : Kd.C k35 w A0 l0.length l0) (hc0 : l0.length ≤ c0) (h : bocageref03_Cuts.f k l0 = some r) :
 Calls Tryz.prog 66 #[.slice A0 l0.length c0] w fun e w' => ∃ v0_ : Value, e = .returned (v0_) ∧ Kd.R k33 33 w' w.heap.size (fun _ => True) v0_ r ∧ Below w.heap.size w w' := by
 have hu35 := Tryz.underlying35; have hu33 := Tryz.underlying33; have HR0 := am hr0; have HC0 := am hc0; clear hr0 hc0
 have HB := am (Below.refl w.heap.size w)
 have H : (bocageref03_Cuts.l0 k l0 ([] : List (S33)) 0) = some r := h
 clear h; have H' := am H; clear H; go_enter Tryz.func66, Tryz.ntmps66; go_wp2
 go_loopg [3, 4] k (fun kq v3 v4 w' => ∃ (x3_1 : List (S33)) (x4_1 : Int), v4 = .int .i64 x4_1 ∧ Aside0 (bocageref03_Cuts.l0 kq l0 x3_1 x4_1 = some r) ∧ Aside0 (kq ≤ k) ∧ Aside0 (Kd.R k33 33 w' w.heap.size (fun _ => True) v3 x3_1) ∧ Aside0 (Below w.heap.size w w'))
 case atStart => exact ⟨_, _, rs, H', ⟨Nat.le_refl _⟩, kn, ⟨bl HB⟩⟩
 case round =>
  clear H'
  obtain ⟨x3_1, x4_1, rfl, HA, HK1, HO_3, HB⟩ := hrel
  cases gk with
  | zero => exact absurd HA.out (by simp [bocageref03_Cuts.l0])
  | succ k1 =>
   have H := HA.out; clear HA
   simp only [bocageref03_Cuts.l0] at H
   revert H; refine itc (fun c2b0 H => ?_) fun c2b0 H => ?_
   ·revert H; refine its fun c3b0 H => ?_
    revert H; refine bnd fun t437 A4 H => ?_
    cases t437; rotate_left
    ·replace H := itt H; generalize hy440 : ([(⟨(rd_T35 l0 x4_1).f0.f0, (rd_T35 l0 x4_1).f0.f1⟩ : S33), (⟨(rd_T35 l0 x4_1).f1.f0, (rd_T35 l0 x4_1).f1.f1⟩ : S33)] : List (S33)) = y440 at H; have Ny440 := am hy440.symm; clear hy440; revert H; refine itl fun LMc6 H => ?_
     generalize hy443 : x3_1 ++ y440 = y443 at H; have Ny443 := am hy443.symm; clear hy443; have H' := am H; clear H
     obtain ⟨ad436, e436, hx436_0, hx436_1, hx436_2, hx436_3, p436, q436⟩ := ax35 HR0 HB x4_1
     cases e436
     try go_wp2_with (first | ((with_reducible refine gate_callee (f := 86) rfl ?_); refine gob Tryz.func86 (bocageref03_Right.calls _ _ _ _ _ _ _ A4.out) fun w7 hb => ?_; replace HO_3 := krb HO_3 hb; replace HB := bst HB hb; (try clear hb); (try clear hb2); (try clear hk); (try clear hi)))
     replace HO_3 := am (Kd.R_drew HO_3.out); replace HB := am (below_drew1 HB.out); have p438 : 0 ≤ (x4_1 : Int) := pd; have q438 : x4_1 < (l0.length : Int) := pd; obtain ⟨ad438, e438, hx438_0, hx438_1, hx438_2, hx438_3⟩ := at_T35 HR0.out x4_1 p438 q438
     have hw438_3 := hx438_3
     have hw438_2 := hx438_2
     have hw438_1 := hx438_1
     have hw438_0 := hx438_0
     obtain rfl : ad436 = ad438 := (by injection e438)
     replace hx438_0 := cl HB hx438_0; replace hx438_1 := cl HB hx438_1; replace hx438_2 := cl HB hx438_2; replace hx438_3 := cl HB hx438_3; replace p438 := eq_true p438; replace q438 := eq_true q438; have p439 : 0 ≤ (x4_1 : Int) := pd; have q439 : x4_1 < (l0.length : Int) := pd; obtain ⟨ad439, e439, hx439_0, hx439_1, hx439_2, hx439_3⟩ := at_T35 HR0.out x4_1 p439 q439
     have hw439_3 := hx439_3
     have hw439_2 := hx439_2
     have hw439_1 := hx439_1
     have hw439_0 := hx439_0
     obtain rfl : ad436 = ad439 := (by injection e439)
     replace hx439_0 := cl HB hx439_0; replace hx439_1 := cl HB hx439_1; replace hx439_2 := cl HB hx439_2; replace hx439_3 := cl HB hx439_3; replace p439 := eq_true p439; replace q439 := eq_true q439
     refine st F14 [] (g1 (cl HB hw438_0) (g1 (cl HB hw438_1) (g1 (cl HB hw438_2) (g1 (cl HB hw438_3) (g1 (cl HB hw439_0) (g1 (cl HB hw439_1) (g1 (cl HB hw439_2) (h1 (cl HB hw439_3))))))))) fun hHeld => ?_; refine with_tabW bocageref03_Cuts.tab6 bocageref03_Cuts.bits6 (fun HT_ HW_ => ?_)
     generalize w7.drew = w8 at HO_3 HB hx438_0 hx438_1 hx438_2 hx438_3 hx439_0 hx439_1 hx439_2 hx439_3 hHeld ⊢; refine pw 0 16 HT_ ?_; refine pw 1 17 HT_ ?_; refine pw 2 18 HT_ ?_; refine pw 3 19 HT_ ?_; refine pw 4 20 HT_ ?_; refine pw 6 22 HT_ ?_; refine pw 7 23 HT_ ?_; refine pw 8 24 HT_ ?_; refine pw 9 25 HT_ ?_; refine tw8 5 21 HT_ HW_ hHeld ?_; refine tw8 10 26 HT_ HW_ hHeld ?_
     refine on 11 HT_ fun K hK => ?_
     refine Kd.R_lit_step k33 _ 33 ?hg (N := 27) ?hd (xs := ([(⟨(rd_T35 l0 x4_1).f0.f0, (rd_T35 l0 x4_1).f0.f1⟩ : S33), (⟨(rd_T35 l0 x4_1).f1.f0, (rd_T35 l0 x4_1).f1.f1⟩ : S33)] : List (S33))) (inner := [.int .i64 ((rd_T35 l0 x4_1).f0.f0), .int .i64 ((rd_T35 l0 x4_1).f0.f1), .int .i64 ((rd_T35 l0 x4_1).f1.f0), .int .i64 ((rd_T35 l0 x4_1).f1.f1)]) (ok := fun _ => True) (okp := fun _ => True) ?hr ?hp (fun _ hk => hk) trivial (Below.refl _ _) (Nat.le_refl _) (by simp) ?_; (case hd => rfl); (case hg => rfl); (case hr => first | (go_simp; done) | (go_simp; rfl)); (case hp => exact (Reps.c2 (show Kd.M k33 _ _ _ (⟨(rd_T35 l0 x4_1).f0.f0, (rd_T35 l0 x4_1).f0.f1⟩ : S33) [.int .i64 ((rd_T35 l0 x4_1).f0.f0), .int .i64 ((rd_T35 l0 x4_1).f0.f1)] from (k33_mkM _ _ _ (⟨(rd_T35 l0 x4_1).f0.f0, (rd_T35 l0 x4_1).f0.f1⟩ : S33) )) (Reps.c2 (show Kd.M k33 _ _ _ (⟨(rd_T35 l0 x4_1).f1.f0, (rd_T35 l0 x4_1).f1.f1⟩ : S33) [.int .i64 ((rd_T35 l0 x4_1).f1.f0), .int .i64 ((rd_T35 l0 x4_1).f1.f1)] from (k33_mkM _ _ _ (⟨(rd_T35 l0 x4_1).f1.f0, (rd_T35 l0 x4_1).f1.f1⟩ : S33) )) (Reps.none _ _))))
     intro v441 w9 ho10 hb hg_ hnew_
     clear hg_ hnew_
     (first | rw [← Ny440.out] at ho10 | (simp only [Int.reduceToNat] at ho10; rw [← Ny440.out] at ho10))
     have HO442 := kw (kz ho10 HO_3) HB
     replace HO_3 := ke HO_3 ho10 hb
     replace HB := bst HB hb; clear hb ho10
     obtain ⟨Ao12, co12, eo12⟩ := Kd.R_slice HO442.out
     (first | subst eo12 | (injection eo12 with f1_ f2_ f3_; have f4_ := f1_.symm; have f5_ := f3_.symm; clear f1_ f2_ f3_; subst f4_; subst f5_))
     refine hK.out _ _ ⟨(cl HB hw438_0), (cl HB hw438_1), (cl HB hw438_2), (cl HB hw438_3), (cl HB hw439_0), (cl HB hw439_1), (cl HB hw439_2), (cl HB hw439_3)⟩ (fun hHeld => ?_); clear hK K; refine nrp 27 ?_
     refine on 12 HT_ fun K hK => ?_
     refine Kd.R_append_rows_step k33 (w0 := w) w.heap.size (by rfl) (.tmp 16) (.tmp 27) 71 33 (.agg #[(.int .i64 0), (.int .i64 0)]) 16 rfl Tryz.underlying71 info33 rfl (by decide) (by omega) u3 x3_1 y440 _ _ _ (fun k_ => some k_ ≠ (.slice Ao12 y440.length co12 : Value).ownBlock) (fun _ => False) rfl rfl ?aO ?aR (fun _ _ h => h) (fun _ h => h.elim) ?aF ?aB ?aS ?aL ?_
     (case aR => repeat (first | exact (Kd.R_reads' HO442.out).2.2 | (with_reducible refine Kd.C_alloc ?_ _) | (with_reducible refine Kd.C_drewN ?_ _) | (with_reducible refine Kd.C_drew ?_)))
     (case aB => exact (bl HB))
     (case aF => exact (fun k_ hk => Kd.fresh' (Kd.R_lt (kr HO442)) k_ hk))
     (case aO => exact (by (with_reducible repeat (first | apply Kd.R_alloc | apply Kd.R_drewN | apply Kd.R_drew)); exact Kd.R_mono HO_3.out (fun _ hk => hk.2)))
     (case aS => exact (below_size (bl HB)))
     (case aL => have := LMc6.out; omega)
     intro v444 w11 ho hb hg hat
     rw [← Ny443.out] at ho
     replace HO442 := am (Kd.R_after (ok := (fun _ => True)) (kr HO442) hg hat); replace HB := am hb; have HO445 := am ho; clear HO_3; clear ho hb hg hat; refine hK.out _ _ ⟨(cl HB hw438_0), (cl HB hw438_1), (cl HB hw438_2), (cl HB hw438_3), (cl HB hw439_0), (cl HB hw439_1), (cl HB hw439_2), (cl HB hw439_3)⟩ (fun hHeld => ?_); clear hK K; refine nrp 28 ?_; refine pw 13 3 HT_ ?_
     refine dt HT_ ?_
     try go_wp2
     go_roundg k1
     case measure => have := HK1.out; omega
     case rel => exact ⟨_, _, rs, H', kl HK1, ⟨by (with_reducible repeat (first | apply Kd.R_alloc | apply Kd.R_drewN | apply Kd.R_drew)); exact Kd.R_mono HO445.out (fun _ hk => trivial)⟩, ⟨bl HB⟩⟩
    ·replace H := itf H; have H' := am H; clear H
     obtain ⟨ad436, e436, hx436_0, hx436_1, hx436_2, hx436_3, p436, q436⟩ := ax35 HR0 HB x4_1
     cases e436
     go_wp2_with (first | ((with_reducible refine gate_callee (f := 86) rfl ?_); refine gob Tryz.func86 (bocageref03_Right.calls _ _ _ _ _ _ _ A4.out) fun w13 hb => ?_; replace HO_3 := krb HO_3 hb; replace HB := bst HB hb; (try clear hb); (try clear hb2); (try clear hk); (try clear hi)))
     go_roundg k1
     case measure => have := HK1.out; omega
     case rel => exact ⟨_, _, rs, H', kl HK1, ⟨kr HO_3⟩, ⟨bl HB⟩⟩
   ·revert H; refine bnd fun t446 A14 H => ?_
    obtain rfl := Option.some.inj H
    obtain ⟨Ao15, co15, eo15⟩ := Kd.R_slice HO_3.out
    subst eo15
    go_wp2_with (first | ((with_reducible refine gate_callee (f := 99) rfl ?_); refine gol (some 30) Tryz.func99 #[.slice Ao15 x3_1.length co15] ?_; (with_reducible refine (bocageref02_Sort.calls _ _ _ _ _ _ (cr HO_3) (cv HO_3) A14.out).mono ?_); rintro e w16 ⟨v447, rfl, ho0, hb⟩; refine ⟨_, rfl, ?_⟩; have HO448 := kw (kz ho0 HO_3) HB; replace HO_3 := ke HO_3 ho0 hb; replace HB := bst HB hb; clear hb ho0))
    go_ret
    exact ⟨_, by first | rfl | (simp [errW_none, errW_some] <;> rfl) | (simp [*, errW_none, errW_some] <;> rfl), by (with_reducible repeat (first | apply Kd.R_alloc | apply Kd.R_drewN | apply Kd.R_drew)); exact Kd.R_mono HO448.out (fun _ hk => trivial), by repeat (first | (with_reducible first | exact HB.out | apply below_alloc | apply pw_below_drewN | apply below_drew1) | exact HB.out)⟩
def bocageref16_Cuts.f (k : Nat) (l0 : List (S35)) (l1 : List (S35)) : Option ((List (S33))) := (some (([] : List (S35)) : List (S35))).bind fun y449 => (if y449.length + l0.length < 4398046511104 then ((some (y449 ++ l0 : List (S35))).bind fun y452 => (if y452.length + l1.length < 4398046511104 then ((bocageref03_Cuts.f k (y452 ++ l1)).bind fun t458 => (some t458)) else (none))) else (none))
theorem bocageref16_Cuts.calls (k : Nat) (A0 : Option Addr) (c0 : Nat) (l0 : List (S35)) (A1 : Option Addr) (c1 : Nat) (l1 : List (S35)) (r : List (S33)) (w : World) (hr0 : Kd.C k35 w A0 l0.length l0) (hc0 : l0.length ≤ c0) (hr1 : Kd.C k35 w A1 l1.length l1) (hc1 : l1.length ≤ c1) (h : bocageref16_Cuts.f k l0 l1 = some r) :
 Calls Tryz.prog 48 #[.slice A0 l0.length c0, .slice A1 l1.length c1] w fun e w' => ∃ v0_ : Value, e = .returned (v0_) ∧ Kd.R k33 33 w' w.heap.size (fun _ => True) v0_ r ∧ Below w.heap.size w w' := by
 have HR0 := am hr0; have HC0 := am hc0; clear hr0 hc0; have HR1 := am hr1; have HC1 := am hc1; clear hr1 hc1
 have HB := am (Below.refl w.heap.size w)
 unfold bocageref16_Cuts.f at h; have H := h; clear h; revert H; refine bns fun y449 Ny449 H => ?_
 revert H; refine itl fun LMc3 H => ?_
 generalize hy452 : y449 ++ l0 = y452 at H; have Ny452 := am hy452.symm; clear hy452; revert H; refine itl fun LMc4 H => ?_
 generalize hy455 : y452 ++ l1 = y455 at H; have Ny455 := am hy455.symm; clear hy455; revert H; refine bnd fun t458 A5 H => ?_
 obtain rfl := Option.some.inj H; go_enter Tryz.func48, Tryz.ntmps48
 go_wp2_with (first | ((with_reducible refine gate_dst (N := 6) rfl ?_); refine Kd.R_lit k35 _ 35 ?hg (N := 6) ?hd (xs := ([] : List (S35))) (inner := []) (ok := fun _ => True) (okp := fun _ => True) ?hr ?hp (fun _ hk => hk) trivial (Below.refl _ _) (Nat.le_refl _) (by simp) ?_; (case hd => rfl); (case hg => rfl); (case hr => first | (go_simp; done) | (go_simp; rfl)); (case hp => exact (Reps.none _ _)); intro v450 w6 ho7 hb hg_ hnew_; clear hg_ hnew_; (first | rw [← Ny449.out] at ho7 | (simp only [Int.reduceToNat] at ho7; rw [← Ny449.out] at ho7)); have HO451 := kw ho7 HB; replace HB := bst HB hb; clear hb ho7) | ((with_reducible refine gate_builtin (b := .append) (xs := #[.tmp 6, .tmp 7]) rfl ?_); at_builtin; refine Kd.R_append_rows k35 (w0 := w) w.heap.size rfl (.tmp 6) (.tmp 7) 29 35 (.agg #[(.int .i64 0), (.int .i64 0), (.int .i64 0), (.int .i64 0)]) 32 rfl Tryz.underlying29 info35 rfl (by decide) (by omega) v450 y449 l0 _ _ _ (fun _ => True) (fun _ => False) rfl rfl ?aO ?aR (fun _ _ h => h) (fun _ h => h.elim) ?aF ?aB ?aS ?aL ?_; (case aR => repeat (first | exact (Kd.C_below HR0.out HB.out) | (with_reducible refine Kd.C_alloc ?_ _) | (with_reducible refine Kd.C_drewN ?_ _) | (with_reducible refine Kd.C_drew ?_))); (case aB => exact (bl HB)); (case aF => exact (fun _ _ => trivial)); (case aO => exact (kr HO451)); (case aS => exact (below_size (bl HB))); (case aL => have := LMc3.out; omega); intro v453 w8 ho hb hg hat; rw [← Ny452.out] at ho; replace HB := am hb; have HO454 := am ho; clear HO451; clear ho hb hg hat) | ((with_reducible refine gate_builtin (b := .append) (xs := #[.tmp 9, .tmp 10]) rfl ?_); at_builtin; refine Kd.R_append_rows k35 (w0 := w) w.heap.size rfl (.tmp 9) (.tmp 10) 29 35 (.agg #[(.int .i64 0), (.int .i64 0), (.int .i64 0), (.int .i64 0)]) 32 rfl Tryz.underlying29 info35 rfl (by decide) (by omega) v453 y452 l1 _ _ _ (fun _ => True) (fun _ => False) rfl rfl ?aO ?aR (fun _ _ h => h) (fun _ h => h.elim) ?aF ?aB ?aS ?aL ?_; (case aR => repeat (first | exact (Kd.C_below HR1.out HB.out) | (with_reducible refine Kd.C_alloc ?_ _) | (with_reducible refine Kd.C_drewN ?_ _) | (with_reducible refine Kd.C_drew ?_))); (case aB => exact (bl HB)); (case aF => exact (fun _ _ => trivial)); (case aO => exact (kr HO454)); (case aS => exact (below_size (bl HB))); (case aL => have := LMc4.out; omega); intro v456 w9 ho hb hg hat; rw [← Ny455.out] at ho; replace HB := am hb; have HO457 := am ho; clear HO454; clear ho hb hg hat; obtain ⟨Ao10, co10, rfl⟩ := Kd.R_slice HO457.out) | ((with_reducible refine gate_callee (f := 66) rfl ?_); refine gol (some 12) Tryz.func66 #[.slice Ao10 y455.length co10] ?_; (with_reducible refine (bocageref03_Cuts.calls _ _ _ _ _ _ (cr HO457) (cv HO457) A5.out).mono ?_); rintro e w11 ⟨v459, rfl, ho0, hb⟩; refine ⟨_, rfl, ?_⟩; replace HO457 := krb HO457 hb; have HO460 := kw ho0 HB; replace HB := bst HB hb; clear hb ho0))
 go_ret; exact endK HO460 HB
def bocageref02_Next.f (k : Nat) (a0_0 : Int) (a0_1 : Int) : Option (Int × Bool) := (bocageref02_Canon.f k a0_0 a0_1).bind fun bt462 => (if bt462.1 > 0 then (some (0, false)) else (if bt462.1 < 0 then ((bocageref02_Least64.f).bind fun t464 => (some (t464, true))) else (some (bt462.2, true))))
theorem bocageref02_Next.mono : ∀ a0 a1 k, LeO (bocageref02_Next.f k a0 a1) (bocageref02_Next.f (k + 1) a0 a1) := by
 intro a0 a1 k
 unfold bocageref02_Next.f
 repeat' with_reducible first | apply bocageref02_Canon.mono | apply lr | apply ln | apply li | refine lb ?_ fun _ => ?_
theorem bocageref02_Next.calls (k : Nat) (a0_0 : Int) (a0_1 : Int) (r1 : Int) (r2 : Bool) (w : World) (h : bocageref02_Next.f k a0_0 a0_1 = some (r1, r2)) :
 Calls Tryz.prog 49 #[.agg #[.int .i64 a0_0, .int .i64 a0_1]] w fun e w' => e = .returned (.tuple #[.int .i64 r1, .bool r2]) ∧ Below w.heap.size w w' := by
 have hu33 := Tryz.underlying33
 have HB := am (Below.refl w.heap.size w)
 unfold bocageref02_Next.f at h; have H := h; clear h; revert H; refine bnd2 fun t462 t463 A2 H => ?_; dsimp only at H
 revert H; refine itc (fun (c3b0 : decide (0 < t462) = true) H => ?_) fun (c3b0 : decide (0 < t462) = false) H => ?_
 ·simp only [Option.some.injEq, Prod.mk.injEq] at H
  obtain ⟨rfl, rfl⟩ := H
  go_enter Tryz.func49, Tryz.ntmps49
  go_wp2_with (first | ((with_reducible refine gate_dst (N := 1) rfl ?_); refine bxf #[.int .i64 a0_0, .int .i64 a0_1] 33 HB fun gb461 w4 BK461 GW461 HB hg hb => ?_; have GE461 := GW461; clear hb hg; obtain ⟨_, _, _, _⟩ := s2 BK461) | ((with_reducible refine gate_callee (f := 77) rfl ?_); refine gob Tryz.func77 (bocageref02_Canon.calls _ _ _ _ _ _ A2.out) fun w6 hb => ?_; replace BK461 := bkb BK461 hb; replace HB := bst HB hb; (try clear hb); (try clear hb2); (try clear hk); (try clear hi); obtain ⟨_, _, _, _⟩ := s2 BK461))
  go_ret2
  exact endB HB
 ·revert H; refine itc (fun c8b0 H => ?_) fun c8b0 H => ?_
  ·revert H; refine bnd fun t464 A9 H => ?_
   simp only [Option.some.injEq, Prod.mk.injEq] at H
   obtain ⟨rfl, rfl⟩ := H
   go_enter Tryz.func49, Tryz.ntmps49
   go_wp2_with (first | ((with_reducible refine gate_dst (N := 1) rfl ?_); refine bxf #[.int .i64 a0_0, .int .i64 a0_1] 33 HB fun gb461 w10 BK461 GW461 HB hg hb => ?_; have GE461 := GW461; clear hb hg; obtain ⟨_, _, _, _⟩ := s2 BK461) | ((with_reducible refine gate_callee (f := 77) rfl ?_); refine gob Tryz.func77 (bocageref02_Canon.calls _ _ _ _ _ _ A2.out) fun w12 hb => ?_; replace BK461 := bkb BK461 hb; replace HB := bst HB hb; (try clear hb); (try clear hb2); (try clear hk); (try clear hi); obtain ⟨_, _, _, _⟩ := s2 BK461) | ((with_reducible refine gate_callee (f := 78) rfl ?_); refine god Tryz.func78 (bocageref02_Least64.calls _ _ A9.out) fun nd => ?_))
   go_ret2
   exact endB HB
  ·simp only [Option.some.injEq, Prod.mk.injEq] at H
   obtain ⟨rfl, rfl⟩ := H
   go_enter Tryz.func49, Tryz.ntmps49
   go_wp2_with (first | ((with_reducible refine gate_dst (N := 1) rfl ?_); refine bxf #[.int .i64 a0_0, .int .i64 a0_1] 33 HB fun gb461 w14 BK461 GW461 HB hg hb => ?_; have GE461 := GW461; clear hb hg; obtain ⟨_, _, _, _⟩ := s2 BK461) | ((with_reducible refine gate_callee (f := 77) rfl ?_); refine gob Tryz.func77 (bocageref02_Canon.calls _ _ _ _ _ _ A2.out) fun w16 hb => ?_; replace BK461 := bkb BK461 hb; replace HB := bst HB hb; (try clear hb); (try clear hb2); (try clear hk); (try clear hi); obtain ⟨_, _, _, _⟩ := s2 BK461))
   go_ret2
   exact endB HB
def bocageref01_digit.f (l0 : List Int) (a1 : Int) : Option (Int) := if a1 < (l0.length : Int) then (if 0 ≤ a1 then (some (rd l0 a1)) else (none)) else (some 0)
theorem bocageref01_digit.calls (A0 : Option Addr) (c0 : Nat) (l0 : List Int) (a1 : Int) (r : Int) (w : World) (hr0 : Kd.C (Kd.int .i64) w A0 l0.length l0) (hc0 : l0.length ≤ c0) (h : bocageref01_digit.f l0 a1 = some r) :
 Calls Tryz.prog 94 #[.slice A0 l0.length c0, .int .i64 a1] w fun e w' => e = .returned (.int .i64 r) ∧ Drawn0 w w' := by
 have HR0 := am hr0; have HC0 := am hc0; clear hr0 hc0
 unfold bocageref01_digit.f at h; have H := h; clear h; revert H; refine itc (fun c3b0 H => ?_) fun c3b0 H => ?_
 ·revert H; refine its fun c4b0 H => ?_
  obtain rfl := Option.some.inj H; have p465 : 0 ≤ (a1 : Int) := pd; have q465 : a1 < (l0.length : Int) := pd
  obtain ⟨ad465, e465, hx465_0⟩ := Kd.at_int HR0.out a1 p465 q465
  cases e465; replace p465 := eq_true p465; replace q465 := eq_true q465; go_enter Tryz.func94, Tryz.ntmps94; go_wp2; go_ret
  exact ⟨rs, dn⟩
 ·obtain rfl := Option.some.inj H; go_enter Tryz.func94, Tryz.ntmps94; go_wp2; go_ret
  exact ⟨rs, dn⟩
def bocageref01_cut.l0 : Nat → List Int → Option (List Int)
  | 0, _ => none
  | k + 1, x0 => if (x0.length : Int) > 0 then (if 0 ≤ (wrap64 ((x0.length : Int) - 1)) then (if (wrap64 ((x0.length : Int) - 1)) < (x0.length : Int) then (if (rd x0 (wrap64 ((x0.length : Int) - 1))) = 0 then (if (wrap64 ((x0.length : Int) - 1)) ≤ (x0.length : Int) then (bocageref01_cut.l0 k (x0.take ((wrap64 ((x0.length : Int) - 1)) : Int).toNat)) else (none)) else (some x0)) else (none)) else (none)) else (some x0)
def bocageref01_cut.f (k : Nat) (l0 : List Int) : Option (List Int) := bocageref01_cut.l0 k l0
theorem bocageref01_cut.calls (k : Nat) (P0_ : Nat → Prop) (A0 : Option Addr) (c0 : Nat) (l0 : List Int) (r : List Int) (w : World) (hs0 : Kd.V (Kd.int .i64) 3 w w.heap.size (fun k_ => P0_ k_) (.slice A0 l0.length c0) l0) (h : bocageref01_cut.f k l0 = some r) :
 Calls Tryz.prog 95 #[.slice A0 l0.length c0] w fun e w' => ∃ v0_ : Value, e = .returned (v0_) ∧ Kd.V (Kd.int .i64) 3 w' w.heap.size (fun k_ => (P0_ k_ ∨ w.heap.size ≤ k_)) v0_ r ∧ Below w.heap.size w w' := by
 have HO0 := am (show Kd.V (Kd.int .i64) 3 w w.heap.size (fun k_ => (P0_ k_ ∨ w.heap.size ≤ k_)) (.slice A0 l0.length c0) l0 from Kd.V_mono hs0 (fun k_ hk => .inl hk))
 have HB := am (Below.refl w.heap.size w)
 have H : (bocageref01_cut.l0 k l0) = some r := h
 clear h; have H' := am H; clear H; go_enter Tryz.func95, Tryz.ntmps95; go_wp2
 go_loopg [0] k (fun kq v0 w' => ∃ (x0_1 : List Int), Aside0 (bocageref01_cut.l0 kq x0_1 = some r) ∧ Aside0 (kq ≤ k) ∧ Aside0 (Kd.V (Kd.int .i64) 3 w' w.heap.size (fun k_ => (P0_ k_ ∨ w.heap.size ≤ k_)) v0 x0_1) ∧ Aside0 (Below w.heap.size w w'))
 case atStart => exact ⟨_, H', ⟨Nat.le_refl _⟩, ⟨by (with_reducible repeat (first | apply Kd.V_alloc | apply Kd.V_drewN | apply Kd.V_drew)); exact HO0.out⟩, ⟨bl HB⟩⟩
 case round =>
  clear H'
  obtain ⟨x0_1, HA, HK1, HO_0, HB⟩ := hrel
  cases gk with
  | zero => exact absurd HA.out (by simp [bocageref01_cut.l0])
  | succ k1 =>
   have H := HA.out; clear HA
   simp only [bocageref01_cut.l0] at H
   by_cases c2 : (x0_1.length : Int) > 0
   ·rw [if_pos c2] at H
    have c2b0 : decide (0 < (x0_1.length : Int)) = true := decide_eq_true c2
    have c2b1 : decide (0 < x0_1.length) = true := decide_eq_true (by omega)
    clear c2
    obtain ⟨ji3, hji3⟩ : ∃ j_ : Int, (wrap64 ((x0_1.length : Int) - 1)) = j_ := ⟨_, rfl⟩
    (first | rw [hji3] at H | simp only [hji3] at H)
    have hji3w : (IntKind.i64.wrap ((x0_1.length : Int) - 1)) = ji3 := (i64_w _).trans hji3
    revert H; refine its fun c4b0 H => ?_
    revert H; refine its fun c5b0 H => ?_
    by_cases c6 : (rd x0_1 (ji3)) = 0
    ·rw [if_pos c6] at H
     have c6b0 : ((rd x0_1 (ji3)) == 0) = true := beq_iff_eq.mpr c6
     have c6b1 : ((rd x0_1 (ji3)) != 0) = false := bne_eq_false_iff_eq.mpr c6
     clear c6
     have c7b0 := eq_true (of_decide_eq_true (by first | (with_reducible assumption) | assumption) : 0 ≤ (ji3))
     by_cases c8 : (ji3) ≤ (x0_1.length : Int)
     ·rw [if_pos c8] at H
      have c8b0 := eq_true c8
      have c8b1 : decide ((ji3) ≤ (x0_1.length : Int)) = true := decide_eq_true c8
      clear c8; generalize hy467 : x0_1.take ((ji3) : Int).toNat = y467 at H; have Ny467 := am hy467.symm; clear hy467; have H' := am H; clear H
      obtain ⟨Ao9, co9, eo9⟩ := Kd.V_slice HO_0.out
      subst eo9
      have p466 : 0 ≤ ((ji3) : Int) := pd; have q466 : (ji3) < (x0_1.length : Int) := pd
      obtain ⟨ad466, e466, hx466_0⟩ := Kd.at_int (Kd.V_reads' HO_0.out).2.2 (ji3) p466 q466
      cases e466; replace p466 := eq_true p466; replace q466 := eq_true q466; have q10 : ((ji3) : Int) ≤ ((x0_1.length : Int) : Int) := pd
      obtain ⟨i010, hi010, _, hsz10, _⟩ := info_parts info3
      have hroom10 : x0_1.length ≤ co9 := (Kd.V_reads' HO_0.out).2.1
      have hC10 : Kd.F (Kd.int .i64) _ _ (some ad466) x0_1.length x0_1 := (Kd.V_at (base := w.heap.size) HO_0.out).2.2
      have hcut10 := cut_to (P := Tryz.prog) 42 3 .i64 Tryz.underlying42 hi010 (some ad466) x0_1.length co9 (ji3) pd q10 hroom10
      have hr10 := Kd.F_take (m := ((ji3) : Int).toNat) hC10 (by omega)
      have hy10 : y467.length = ((ji3) : Int).toNat := (by rw [Ny467.out, List.length_take]; omega)
      rw [← Ny467.out] at hr10
      rw [← hy10] at hcut10
      have HO471 := am (show Kd.V (Kd.int .i64) 3 _ w.heap.size _ (.slice (some ad466) y467.length co9) y467 from Kd.V_mk (by omega) hr10)
      have HC471 := am (show y467.length ≤ co9 from by omega)
      clear hr10 hC10 hroom10 hi010 hsz10; have KY10 := am hy10; clear hy10; replace q10 := eq_true q10; go_wp2
      go_roundg k1
      case measure => have := HK1.out; omega
      case rel => exact ⟨_, H', kl HK1, ⟨by (with_reducible repeat (first | apply Kd.V_alloc | apply Kd.V_drewN | apply Kd.V_drew)); exact HO471.out⟩, ⟨bl HB⟩⟩
     ·rw [if_neg c8] at H
      exact absurd H (by simp)
    ·rw [if_neg c6] at H
     have c6b0 : ((rd x0_1 (ji3)) == 0) = false := beq_eq_false_iff_ne.mpr c6
     have c6b1 : ((rd x0_1 (ji3)) != 0) = true := bne_iff_ne.mpr c6
     obtain rfl := Option.some.inj H
     obtain ⟨Ao11, co11, eo11⟩ := Kd.V_slice HO_0.out
     subst eo11
     have p466 : 0 ≤ ((ji3) : Int) := pd; have q466 : (ji3) < (x0_1.length : Int) := pd
     obtain ⟨ad466, e466, hx466_0⟩ := Kd.at_int (Kd.V_reads' HO_0.out).2.2 (ji3) p466 q466
     cases e466; replace p466 := eq_true p466; replace q466 := eq_true q466; go_wp2; go_ret
     exact ⟨_, by first | rfl | (simp [errW_none, errW_some] <;> rfl) | (simp only [← hji3]; first | rfl | (simp [errW_none, errW_some] <;> rfl)) | (simp [*, errW_none, errW_some] <;> rfl), by (with_reducible repeat (first | apply Kd.V_alloc | apply Kd.V_drewN | apply Kd.V_drew)); exact HO_0.out, by repeat (first | (with_reducible first | exact HB.out | apply below_alloc | apply pw_below_drewN | apply below_drew1) | exact HB.out)⟩
   ·rw [if_neg c2] at H
    have c2b0 : decide (0 < (x0_1.length : Int)) = false := decide_eq_false c2
    have c2b1 : decide (0 < x0_1.length) = false := decide_eq_false (by omega)
    clear c2; obtain rfl := Option.some.inj H
    obtain ⟨Ao12, co12, eo12⟩ := Kd.V_slice HO_0.out
    subst eo12
    go_wp2; go_ret
    exact ⟨_, by first | rfl | (simp [errW_none, errW_some] <;> rfl) | (simp [*, errW_none, errW_some] <;> rfl), by (with_reducible repeat (first | apply Kd.V_alloc | apply Kd.V_drewN | apply Kd.V_drew)); exact HO_0.out, by repeat (first | (with_reducible first | exact HB.out | apply below_alloc | apply pw_below_drewN | apply below_drew1) | exact HB.out)⟩
def bocageref01_more.l0 : Nat → List Int → List Int → Int → Option (Bool)
  | 0, _, _, _ => none
  | k + 1, x0, x1, x5 => if x5 ≥ 0 then ((bocageref01_digit.f x0 x5).bind fun t472 => ((bocageref01_digit.f x1 x5).bind fun t473 => (if t472 = t473 then (bocageref01_more.l0 k x0 x1 (wrap64 (x5 - 1))) else ((bocageref01_digit.f x0 x5).bind fun t474 => ((bocageref01_digit.f x1 x5).bind fun t475 => (some (decide (t474 > t475)))))))) else (some false)
def bocageref01_more.f (k : Nat) (l0 : List Int) (l1 : List Int) : Option (Bool) := bocageref01_more.l0 k l0 l1 (wrap64 ((l0.length : Int) + (l1.length : Int)))
theorem bocageref01_more.calls (k : Nat) (A0 : Option Addr) (c0 : Nat) (l0 : List Int) (A1 : Option Addr) (c1 : Nat) (l1 : List Int) (r : Bool) (w : World) (hr0 : Kd.C (Kd.int .i64) w A0 l0.length l0) (hc0 : l0.length ≤ c0) (hr1 : Kd.C (Kd.int .i64) w A1 l1.length l1) (hc1 : l1.length ≤ c1) (h : bocageref01_more.f k l0 l1 = some r) :
 Calls Tryz.prog 96 #[.slice A0 l0.length c0, .slice A1 l1.length c1] w fun e w' => e = .returned (.bool r) ∧ Drawn0 w w' := by
 have HR0 := am hr0; have HC0 := am hc0; clear hr0 hc0; have HR1 := am hr1; have HC1 := am hc1; clear hr1 hc1
 have H : (bocageref01_more.l0 k l0 l1 (wrap64 ((l0.length : Int) + (l1.length : Int)))) = some r := h
 clear h; have H' := am H; clear H; go_enter Tryz.func96, Tryz.ntmps96; go_wp2
 go_loopg [5] k (fun kq v5 w' => ∃ (x5_1 : Int), v5 = .int .i64 x5_1 ∧ Aside0 (bocageref01_more.l0 kq l0 l1 x5_1 = some r) ∧ Aside0 (kq ≤ k) ∧ Drawn0 w w')
 case atStart => exact ⟨_, rs, H', ⟨Nat.le_refl _⟩, dn⟩
 case round =>
  clear H'
  try clear c1
  try clear p2
  obtain ⟨x5_1, rfl, HA, HK1, ⟨m1, rfl⟩⟩ := hrel
  cases gk with
  | zero => exact absurd HA.out (by simp [bocageref01_more.l0])
  | succ k1 =>
   have H := HA.out; clear HA
   simp only [bocageref01_more.l0] at H
   revert H; refine itc (fun (c3b0 : decide (0 ≤ x5_1) = true) H => ?_) fun (c3b0 : decide (0 ≤ x5_1) = false) H => ?_
   ·revert H; refine bnd fun t472 A4 H => ?_
    revert H; refine bnd fun t473 A5 H => ?_
    by_cases c6 : t472 = t473
    ·rw [if_pos c6] at H
     have c6b0 : (t472 == t473) = true := beq_iff_eq.mpr c6
     have c6b1 : (t472 != t473) = false := bne_eq_false_iff_eq.mpr c6
     clear c6; have H' := am H; clear H
     go_wp2_with (first | ((with_reducible refine gate_callee (f := 94) rfl ?_); refine gol (some 17) Tryz.func94 #[.slice A0 l0.length c0, .int .i64 x5_1] ?_; (with_reducible refine (bocageref01_digit.calls _ _ _ _ _ _ ?side1 ?side2 A4.out).mono ?_); (case side1 => repeat (first | exact HR0.out | (with_reducible refine Kd.C_alloc ?_ _) | (with_reducible refine Kd.C_drewN ?_ _) | (with_reducible refine Kd.C_drew ?_))); (case side2 => exact HC0.out); rintro e w' ⟨rfl, ⟨nd, rfl⟩⟩; refine ⟨_, rfl, ?_⟩) | ((with_reducible refine gate_callee (f := 94) rfl ?_); refine gol (some 20) Tryz.func94 #[.slice A1 l1.length c1, .int .i64 x5_1] ?_; (with_reducible refine (bocageref01_digit.calls _ _ _ _ _ _ ?side1 ?side2 A5.out).mono ?_); (case side1 => repeat (first | exact HR1.out | (with_reducible refine Kd.C_alloc ?_ _) | (with_reducible refine Kd.C_drewN ?_ _) | (with_reducible refine Kd.C_drew ?_))); (case side2 => exact HC1.out); rintro e w' ⟨rfl, ⟨nd, rfl⟩⟩; refine ⟨_, rfl, ?_⟩))
     go_roundg k1
     case measure => have := HK1.out; omega
     case rel => exact ⟨_, rs, H', kl HK1, dn⟩
    ·rw [if_neg c6] at H
     have c6b0 : (t472 == t473) = false := beq_eq_false_iff_ne.mpr c6
     have c6b1 : (t472 != t473) = true := bne_iff_ne.mpr c6
     revert H; refine bnd fun t474 A7 H => ?_
     revert H; refine bnd fun t475 A8 H => ?_
     obtain rfl := Option.some.inj H
     go_wp2_with (first | ((with_reducible refine gate_callee (f := 94) rfl ?_); refine gol (some 17) Tryz.func94 #[.slice A0 l0.length c0, .int .i64 x5_1] ?_; (with_reducible refine (bocageref01_digit.calls _ _ _ _ _ _ ?side1 ?side2 A4.out).mono ?_); (case side1 => repeat (first | exact HR0.out | (with_reducible refine Kd.C_alloc ?_ _) | (with_reducible refine Kd.C_drewN ?_ _) | (with_reducible refine Kd.C_drew ?_))); (case side2 => exact HC0.out); rintro e w' ⟨rfl, ⟨nd, rfl⟩⟩; refine ⟨_, rfl, ?_⟩) | ((with_reducible refine gate_callee (f := 94) rfl ?_); refine gol (some 20) Tryz.func94 #[.slice A1 l1.length c1, .int .i64 x5_1] ?_; (with_reducible refine (bocageref01_digit.calls _ _ _ _ _ _ ?side1 ?side2 A5.out).mono ?_); (case side1 => repeat (first | exact HR1.out | (with_reducible refine Kd.C_alloc ?_ _) | (with_reducible refine Kd.C_drewN ?_ _) | (with_reducible refine Kd.C_drew ?_))); (case side2 => exact HC1.out); rintro e w' ⟨rfl, ⟨nd, rfl⟩⟩; refine ⟨_, rfl, ?_⟩) | ((with_reducible refine gate_callee (f := 94) rfl ?_); refine gol (some 24) Tryz.func94 #[.slice A0 l0.length c0, .int .i64 x5_1] ?_; (with_reducible refine (bocageref01_digit.calls _ _ _ _ _ _ ?side1 ?side2 A7.out).mono ?_); (case side1 => repeat (first | exact HR0.out | (with_reducible refine Kd.C_alloc ?_ _) | (with_reducible refine Kd.C_drewN ?_ _) | (with_reducible refine Kd.C_drew ?_))); (case side2 => exact HC0.out); rintro e w' ⟨rfl, ⟨nd, rfl⟩⟩; refine ⟨_, rfl, ?_⟩) | ((with_reducible refine gate_callee (f := 94) rfl ?_); refine gol (some 27) Tryz.func94 #[.slice A1 l1.length c1, .int .i64 x5_1] ?_; (with_reducible refine (bocageref01_digit.calls _ _ _ _ _ _ ?side1 ?side2 A8.out).mono ?_); (case side1 => repeat (first | exact HR1.out | (with_reducible refine Kd.C_alloc ?_ _) | (with_reducible refine Kd.C_drewN ?_ _) | (with_reducible refine Kd.C_drew ?_))); (case side2 => exact HC1.out); rintro e w' ⟨rfl, ⟨nd, rfl⟩⟩; refine ⟨_, rfl, ?_⟩)); go_ret
     exact ⟨rs, dn⟩
   ·obtain rfl := Option.some.inj H; go_wp2; go_ret
    exact ⟨rs, dn⟩
def bocageref01_Plus.ok (l : List Int) : Bool := l.all (fun d => decide (0 ≤ d) && decide (d ≤ 9)) && decide (l.length ≤ 1000000)
def bocageref01_Plus.add : Nat → List Int → List Int → Int → Nat → List Int
  | 0, _, _, _, _ => []
  | n + 1, a, b, o, i => (a.getD i 0 + b.getD i 0 + o) % 10 :: bocageref01_Plus.add n a b ((a.getD i 0 + b.getD i 0 + o) / 10) (i + 1)
def bocageref01_Plus.sub : Nat → List Int → List Int → Int → Nat → List Int
  | 0, _, _, _, _ => []
  | n + 1, x, y, o, i => if x.getD i 0 - y.getD i 0 - o < 0 then (x.getD i 0 - y.getD i 0 - o + 10) :: bocageref01_Plus.sub n x y 1 (i + 1) else (x.getD i 0 - y.getD i 0 - o) :: bocageref01_Plus.sub n x y 0 (i + 1)
def bocageref01_Plus.less (k : Nat) (s : Int) (x y : List Int) : Option (Int × List Int) := (bocageref01_cut.f k (bocageref01_Plus.sub x.length x y 0 0)).bind fun r => some (if r.length = 0 then 0 else s, r)
def bocageref01_Plus.f (k : Nat) (a0_0 : Int) (l0_1 : List Int) (a1_0 : Int) (l1_1 : List Int) : Option (Int × List Int) :=
  if (bocageref01_Plus.ok l0_1 && bocageref01_Plus.ok l1_1) = true then
    (if a0_0 = 0 then some (a1_0, l1_1) else if a1_0 = 0 then some (a0_0, l0_1)
     else if a0_0 = a1_0 then (bocageref01_cut.f k (bocageref01_Plus.add (l0_1.length + l1_1.length + 1) l0_1 l1_1 0 0)).bind fun r => some (a0_0, r)
     else (bocageref01_more.f k l1_1 l0_1).bind fun m => if m = true then bocageref01_Plus.less k a1_0 l1_1 l0_1 else bocageref01_Plus.less k a0_0 l0_1 l1_1)
  else none
theorem bocageref01_Plus.ok_at {l : List Int} (h : bocageref01_Plus.ok l = true) (i : Nat) : 0 ≤ l.getD i 0 ∧ l.getD i 0 ≤ 9 := by
 simp only [bocageref01_Plus.ok, Bool.and_eq_true, List.all_eq_true, decide_eq_true_eq] at h
 by_cases hi : i < l.length
 ·rw [List.getD_eq_getElem?_getD, List.getElem?_eq_getElem hi]
  exact h.1 _ (List.getElem_mem hi)
 ·rw [List.getD_eq_getElem?_getD, List.getElem?_eq_none (by omega)]; simp
theorem bocageref01_Plus.ok_len {l : List Int} (h : bocageref01_Plus.ok l = true) : l.length ≤ 1000000 := by
 simp only [bocageref01_Plus.ok, Bool.and_eq_true, decide_eq_true_eq] at h
 exact h.2
theorem bocageref01_Plus.dig_some (l : List Int) (i : Nat) (h : l.length ≤ 1000000) : bocageref01_digit.f l (i : Int) = some (l.getD i 0) := by
 unfold bocageref01_digit.f
 by_cases hi : (i : Int) < (l.length : Int)
 ·rw [if_pos hi, if_pos (by omega)]; simp [rd]
 ·rw [if_neg hi, List.getD_eq_getElem?_getD, List.getElem?_eq_none (by omega)]; simp
theorem bocageref01_Plus.add_len : ∀ n a b o i, (bocageref01_Plus.add n a b o i).length = n
 | 0, _, _, _, _ => rfl
 | n + 1, a, b, o, i => by simp [bocageref01_Plus.add, bocageref01_Plus.add_len n]
theorem bocageref01_Plus.sub_len : ∀ n a b o i, (bocageref01_Plus.sub n a b o i).length = n
 | 0, _, _, _, _ => rfl
 | n + 1, a, b, o, i => by simp only [bocageref01_Plus.sub]; split <;> simp [bocageref01_Plus.sub_len n]
structure bocageref01_Plus.Inv (w : World) (n : Nat) (s : Int) (va : Value) (t : Int) (vb : Value) (so : Int) (xs : List Int) (wr : World) : Prop where
  ba : wr.heap[w.heap.size]? = some (.cells #[.int .i64 s, va] 89 (0, 0))
  bb : wr.heap[w.heap.size + 1]? = some (.cells #[.int .i64 t, vb] 89 (0, 0))
  br : wr.heap[w.heap.size + 2]? = some (.cells #[.int .i64 0, .slice none 0 0] 89 (0, 0))
  bo : ∃ v, wr.heap[w.heap.size + 3]? = some (.cells #[.int .i64 so, v] 89 (0, 0)) ∧ wr.ownsRow (w.heap.size + n) 3 1 v xs.length (nums .i64 xs)
  bel : Below w.heap.size w wr
  sz : w.heap.size + n ≤ wr.heap.size
theorem bocageref01_Plus.start (w : World) (s : Int) (va : Value) (t : Int) (vb : Value) : bocageref01_Plus.Inv w 4 s va t vb 0 [] ((((w.alloc (.cells #[.int .i64 s, va] 89)).alloc (.cells #[.int .i64 t, vb] 89)).alloc (.cells #[.int .i64 0, .slice none 0 0] 89)).alloc (.cells #[.int .i64 0, .slice none 0 0] 89)) := by
 refine ⟨?_, ?_, ?_, ⟨.slice none 0 0, ?_, World.ownsRow_nil _ _ _ _⟩, ?_, by simp⟩
 ·exact blk_alloc (blk_alloc (blk_alloc (blk_new _ _) _) _) _
 ·have := blk_new (w.alloc (.cells #[.int .i64 s, va] 89)) (.cells #[.int .i64 t, vb] 89)
  rw [show (w.alloc (.cells #[.int .i64 s, va] 89)).heap.size = w.heap.size + 1 by simp] at this
  exact blk_alloc (blk_alloc this _) _
 ·have := blk_new ((w.alloc (.cells #[.int .i64 s, va] 89)).alloc (.cells #[.int .i64 t, vb] 89)) (.cells #[.int .i64 0, .slice none 0 0] 89)
  rw [show ((w.alloc (.cells #[.int .i64 s, va] 89)).alloc (.cells #[.int .i64 t, vb] 89)).heap.size = w.heap.size + 2 by simp] at this
  exact blk_alloc this _
 ·have := blk_new (((w.alloc (.cells #[.int .i64 s, va] 89)).alloc (.cells #[.int .i64 t, vb] 89)).alloc (.cells #[.int .i64 0, .slice none 0 0] 89)) (.cells #[.int .i64 0, .slice none 0 0] 89)
  rw [show (((w.alloc (.cells #[.int .i64 s, va] 89)).alloc (.cells #[.int .i64 t, vb] 89)).alloc (.cells #[.int .i64 0, .slice none 0 0] 89)).heap.size = w.heap.size + 3 by simp] at this
  exact this
 ·exact (((((Below.refl _ w).alloc (Nat.le_refl _) _).alloc (by simp) _).alloc (by simp; omega) _).alloc (by simp; omega) _)
theorem bocageref01_Plus.start6 (w : World) (s : Int) (va : Value) (t : Int) (vb : Value) (O : Obj) (O' : Obj) {W : World} (h : bocageref01_Plus.Inv w 4 s va t vb 0 [] W) (hz : W.heap.size = w.heap.size + 4) (h0 : W.heap[w.heap.size + 3]? = some (.cells #[.int .i64 0, .slice none 0 0] 89 (0, 0))) :
 bocageref01_Plus.Inv w 6 s va t vb 0 [] ((W.alloc O).alloc O') ∧ ((W.alloc O).alloc O').heap[w.heap.size + 4]? = some O ∧ ((W.alloc O).alloc O').heap[w.heap.size + 5]? = some O' := by
 have e1 := blk_new W O
 have e2 := blk_new (W.alloc O) O'
 rw [show (W.alloc O).heap.size = w.heap.size + 5 by simp [hz]] at e2
 rw [hz] at e1
 exact ⟨⟨blk_alloc (blk_alloc h.ba _) _, blk_alloc (blk_alloc h.bb _) _, blk_alloc (blk_alloc h.br _) _, ⟨.slice none 0 0, blk_alloc (blk_alloc h0 _) _, World.ownsRow_nil _ _ _ _⟩, (h.bel.alloc (by omega) _).alloc (by simp; omega) _, by simp; omega⟩, blk_alloc e1 _, e2⟩
theorem bocageref01_Plus.Inv.far {w wr : World} {n : Nat} {s t so : Int} {va vb : Value} (h : bocageref01_Plus.Inv w n s va t vb so [] wr) (h0 : wr.heap[w.heap.size + 3]? = some (.cells #[.int .i64 so, .slice none 0 0] 89 (0, 0))) (b j : Nat) (hb : w.heap.size + 4 ≤ b) (u : Value) :
 bocageref01_Plus.Inv w n s va t vb so [] (wr.setCell ⟨b, j, none⟩ u) ∧ (wr.setCell ⟨b, j, none⟩ u).heap[w.heap.size + 3]? = some (.cells #[.int .i64 so, .slice none 0 0] 89 (0, 0)) := by
 have e := blk_far h0 (p := ⟨b, j, none⟩) (by show w.heap.size + 3 ≠ b; omega) u
 exact ⟨⟨blk_far h.ba (by show w.heap.size ≠ b; omega) _, blk_far h.bb (by show w.heap.size + 1 ≠ b; omega) _, blk_far h.br (by show w.heap.size + 2 ≠ b; omega) _, ⟨_, e, World.ownsRow_nil _ _ _ _⟩, h.bel.setCell (by show w.heap.size ≤ b; omega) _, by simpa using h.sz⟩, e⟩
theorem bocageref01_Plus.Inv.drewN {w wr : World} {n : Nat} {s t so : Int} {va vb : Value} {xs : List Int} (h : bocageref01_Plus.Inv w n s va t vb so xs wr) (m : Nat) : bocageref01_Plus.Inv w n s va t vb so xs (wr.drewN m) := by
 obtain ⟨h1, h2, h3, ⟨v, h4, h5⟩, h6, h7⟩ := h
 exact ⟨h1, h2, h3, ⟨v, h4, pw_own_below h5 (pw_below_drewN (Below.refl _ _) m)⟩, pw_below_drewN h6 m, h7⟩
theorem bocageref01_Plus.Inv.push {w wr w1 : World} {n : Nat} {s t so : Int} {va vb v v' : Value} {xs : List Int} {d : Int} {o : Obj} (h : bocageref01_Plus.Inv w n s va t vb so xs wr) (hn : 4 ≤ n)
 (hv : wr.heap[w.heap.size + 3]? = some (.cells #[.int .i64 so, v] 89 (0, 0))) (hown : wr.ownsRow (w.heap.size + n) 3 1 v xs.length (nums .i64 xs))
 (hown' : w1.ownsRow (w.heap.size + n) 3 1 v' (xs.length + 1) (nums .i64 xs ++ [Value.int .i64 d])) (hg : (wr.alloc o).grownBy w1 v.ownBlock) :
 bocageref01_Plus.Inv w n s va t vb so (xs ++ [d]) (w1.setCell ⟨w.heap.size + 3, 1, none⟩ v') ∧ w1.heap[w.heap.size + 3]? = some (.cells #[.int .i64 so, v] 89 (0, 0)) := by
 have hb : ∀ (b : Nat) (cs : Array Value), b < w.heap.size + 4 → wr.heap[b]? = some (.cells cs 89 (0, 0)) → w1.heap[b]? = some (.cells cs 89 (0, 0)) := by
  intro b cs hlt hb
  rw [hg.block b (by have := blk_lt hb; simp; omega) (fun e => by have := (hown.lt b e.symm).1; omega), heap_alloc_old _ _ (blk_lt hb)]
  exact hb
 have h3 := hb _ _ (by omega) hv
 refine ⟨⟨?_, ?_, ?_, ⟨v', ?_, ?_⟩, ?_, ?_⟩, h3⟩
 ·exact blk_far (hb _ _ (by omega) h.ba) (by simp) _
 ·exact blk_far (hb _ _ (by omega) h.bb) (by simp) _
 ·exact blk_far (hb _ _ (by omega) h.br) (by simp) _
 ·exact blk_put h3 1 _ rfl
 ·have e : nums .i64 (xs ++ [d]) = nums .i64 xs ++ [Value.int .i64 d] := by simp [nums]
  rw [e, List.length_append]
  exact ownsRow_setCell_other hown' (fun e => by have := (hown'.lt _ e).1; simp at this; omega) _
 ·exact ((h.bel.alloc (by have := h.sz; omega) _).grown hg (by have := h.sz; simp; omega) (fun j hj => by have := (hown.lt j hj).1; omega)).setCell (by simp) _
 ·have := hg.size; have := h.sz; simp at *; omega
theorem bocageref01_Plus.reads {w wr : World} {A : Option Addr} {c : Nat} {l : List Int} {P : Nat → Prop} (h : Kd.V (Kd.int .i64) 3 w w.heap.size P (.slice A l.length c) l) (hb : Below w.heap.size w wr) (m : Nat) : Kd.C (Kd.int .i64) (wr.drewN m) A l.length l :=
 Kd.C_drewN (Kd.C_below (Kd.V_reads' h).2.2 hb) m
theorem bocageref01_Plus.quiet {f : FuncId} {args : Array Value} {w : World} {n : Nat} {v : Value} (h : Calls Tryz.prog f args (w.drewN n) fun e w' => e = .returned v ∧ Drawn0 (w.drewN n) w') : Calls Tryz.prog f args (w.drewN n) fun e w'' => e = .returned v ∧ ∃ m, w'' = w.drewN m :=
 Calls.quiet_of (h.mono fun _ _ hh => ⟨hh.1, hh.2.out⟩)
theorem bocageref01_Plus.back {w w' : World} {l : List Int} {v : Value} {P Q : Nat → Prop} (h : Kd.V (Kd.int .i64) 3 w w.heap.size P v l) (hb : Below w.heap.size w w') (hq : ∀ k, P k → Q k) : Kd.V (Kd.int .i64) 3 w' w.heap.size Q v l :=
 Kd.V_mono (Kd.V_step h (fun k _ hk => hb.block k hk)) hq
theorem bocageref01_Plus.toV {wr : World} {base b2 g cap : Nat} {xs : List Int} (h : wr.ownsRow base 3 1 (.slice (some ⟨g, 0, none⟩) xs.length cap) xs.length (nums .i64 xs)) : Kd.V (Kd.int .i64) 3 wr b2 (fun k_ => (fun k => base ≤ k) k_) (.slice (some ⟨g, 0, none⟩) xs.length cap) xs :=
 Kd.R_V (Kd.R_of_own (enc := Value.int .i64) (h1 := fun _ => rfl) (base := base) (ok := fun k => base ≤ k) h (fun k hk => (h.lt k hk).1))
theorem bocageref01_Plus.toV' {wr : World} {base b2 : Nat} {v : Value} {xs : List Int} (h : wr.ownsRow base 3 1 v xs.length (nums .i64 xs)) : Kd.V (Kd.int .i64) 3 wr b2 (fun k_ => (fun k => base ≤ k) k_) v xs :=
 Kd.R_V (Kd.R_of_own (enc := Value.int .i64) (h1 := fun _ => rfl) (base := base) (ok := fun k => base ≤ k) h (fun k hk => (h.lt k hk).1))
theorem bocageref01_Plus.fin {w W w2 : World} {s so : Int} {v v0 : Value} {P Q : Nat → Prop} {rr : List Int} (h3 : W.heap[w.heap.size + 3]? = some (.cells #[.int .i64 s, v] 89 (0, 0))) (h2 : W.heap[w.heap.size + 2]? = some (.cells #[.int .i64 0, .slice none 0 0] 89 (0, 0)))
 (hbel : Below w.heap.size w W) (hb2 : Below W.heap.size W w2) (hV : Kd.V (Kd.int .i64) 3 w2 W.heap.size (fun k_ => ((fun k => w.heap.size + 4 ≤ k) k_ ∨ W.heap.size ≤ k_)) v0 rr) (hso : so = s) :
 (((w2.setCell ⟨w.heap.size + 1 + 1 + 1, 1, none⟩ v0).setCell ⟨w.heap.size + 1 + 1, 0, none⟩ (.int .i64 so)).setCell ⟨w.heap.size + 1 + 1, 1, none⟩ v0).heap[w.heap.size + 1 + 1]? = some (.cells #[.int .i64 s, v0] 89 (0, 0)) ∧
 Kd.V (Kd.int .i64) 3 (((w2.setCell ⟨w.heap.size + 1 + 1 + 1, 1, none⟩ v0).setCell ⟨w.heap.size + 1 + 1, 0, none⟩ (.int .i64 so)).setCell ⟨w.heap.size + 1 + 1, 1, none⟩ v0) w.heap.size (fun k_ => ((P k_ ∨ Q k_) ∨ w.heap.size ≤ k_)) v0 rr ∧
 Below w.heap.size w (((w2.setCell ⟨w.heap.size + 1 + 1 + 1, 1, none⟩ v0).setCell ⟨w.heap.size + 1 + 1, 0, none⟩ (.int .i64 so)).setCell ⟨w.heap.size + 1 + 1, 1, none⟩ v0) := by
 subst hso
 have hlt3 := blk_lt h3
 have h4 := hbel.size
 have hV2 : Kd.V (Kd.int .i64) 3 w2 w.heap.size (fun k => w.heap.size + 4 ≤ k) v0 rr := Kd.V_map hV (fun A hf => (Kd.F_mono hf (fun k hk => hk.elim id (fun h => by show w.heap.size + 4 ≤ k; omega))))
 refine ⟨?_, ?_, ?_⟩
 ·exact blk_put (blk_put (blk_far (blk_below h2 hb2) (by simp) _) 0 _ rfl) 1 _ rfl
 ·refine Kd.V_mono (Kd.V_far (Kd.V_far (Kd.V_far hV2 (fun k hk => ?_) _) (fun k hk => ?_) _) (fun k hk => ?_) _) (fun k hk => .inr (by omega))
  ·show k ≠ w.heap.size + 1 + 1 + 1; omega
  ·show k ≠ w.heap.size + 1 + 1; omega
  ·show k ≠ w.heap.size + 1 + 1; omega
 ·exact (((hbel.trans (hb2.mono h4)).setCell (by show _ ≤ w.heap.size + 1 + 1 + 1; omega) _).setCell (by show _ ≤ w.heap.size + 1 + 1; omega) _).setCell (by show _ ≤ w.heap.size + 1 + 1; omega) _
theorem bocageref01_Plus.fin0 {w W w2 : World} {v0 : Value} {P Q : Nat → Prop} {rr : List Int} (h2 : W.heap[w.heap.size + 2]? = some (.cells #[.int .i64 0, .slice none 0 0] 89 (0, 0)))
 (hbel : Below w.heap.size w W) (hb2 : Below W.heap.size W w2) (hV : Kd.V (Kd.int .i64) 3 w2 W.heap.size (fun k_ => ((fun k => w.heap.size + 4 ≤ k) k_ ∨ W.heap.size ≤ k_)) v0 rr) (hlt3 : w.heap.size + 3 < W.heap.size) :
 ((((w2.setCell ⟨w.heap.size + 1 + 1 + 1, 1, none⟩ v0).setCell ⟨w.heap.size + 1 + 1 + 1, 0, none⟩ (.int .i64 0)).setCell ⟨w.heap.size + 1 + 1, 0, none⟩ (.int .i64 0)).setCell ⟨w.heap.size + 1 + 1, 1, none⟩ v0).heap[w.heap.size + 1 + 1]? = some (.cells #[.int .i64 0, v0] 89 (0, 0)) ∧
 Kd.V (Kd.int .i64) 3 ((((w2.setCell ⟨w.heap.size + 1 + 1 + 1, 1, none⟩ v0).setCell ⟨w.heap.size + 1 + 1 + 1, 0, none⟩ (.int .i64 0)).setCell ⟨w.heap.size + 1 + 1, 0, none⟩ (.int .i64 0)).setCell ⟨w.heap.size + 1 + 1, 1, none⟩ v0) w.heap.size (fun k_ => ((P k_ ∨ Q k_) ∨ w.heap.size ≤ k_)) v0 rr ∧
 Below w.heap.size w ((((w2.setCell ⟨w.heap.size + 1 + 1 + 1, 1, none⟩ v0).setCell ⟨w.heap.size + 1 + 1 + 1, 0, none⟩ (.int .i64 0)).setCell ⟨w.heap.size + 1 + 1, 0, none⟩ (.int .i64 0)).setCell ⟨w.heap.size + 1 + 1, 1, none⟩ v0) := by
 have h4 := hbel.size
 have hV2 : Kd.V (Kd.int .i64) 3 w2 w.heap.size (fun k => w.heap.size + 4 ≤ k) v0 rr := Kd.V_map hV (fun A hf => (Kd.F_mono hf (fun k hk => hk.elim id (fun h => by show w.heap.size + 4 ≤ k; omega))))
 refine ⟨?_, ?_, ?_⟩
 ·exact blk_put (blk_put (blk_far (blk_far (blk_below h2 hb2) (by simp) _) (by simp) _) 0 _ rfl) 1 _ rfl
 ·refine Kd.V_mono (Kd.V_far (Kd.V_far (Kd.V_far (Kd.V_far hV2 (fun k hk => ?_) _) (fun k hk => ?_) _) (fun k hk => ?_) _) (fun k hk => ?_) _) (fun k hk => .inr (by omega))
  ·show k ≠ w.heap.size + 1 + 1 + 1; omega
  ·show k ≠ w.heap.size + 1 + 1 + 1; omega
  ·show k ≠ w.heap.size + 1 + 1; omega
  ·show k ≠ w.heap.size + 1 + 1; omega
 ·exact ((((hbel.trans (hb2.mono h4)).setCell (by show _ ≤ w.heap.size + 1 + 1 + 1; omega) _).setCell (by show _ ≤ w.heap.size + 1 + 1 + 1; omega) _).setCell (by show _ ≤ w.heap.size + 1 + 1; omega) _).setCell (by show _ ≤ w.heap.size + 1 + 1; omega) _
end Go.Proofs.YtbcpnejdbookkaaGreat.Print
