-- Laid by wip/print/bprint.py of this repo, over the kit's printer, with functions given by hand; not trusted: Lean checks it.
import Derived.Test.YtpeidnkbliafkaaPrint0
import Derived.Test.YtpeidnkbliafkaaSh2
namespace Go.Proofs.Ytpeidnkbliafkaa.Print
open Go.RowKit Go.Proofs.YtpeidnkbliafkaaW.PrintWords Go.Proofs.YtpeidnkbliafkaaW.PrintLast Go.Proofs.YtpeidnkbliafkaaW.PrintMore
attribute [local go_sem] max2_int min2_int max_two min_two max_three min_three max_four min_four   -- for this text's walks alone
set_option linter.unusedVariables false
set_option linter.unusedSimpArgs false
/-! ### eqA25: a fact -/
theorem eqA25 (d : Nat) (w : World) (x0 y0 : Int) (x1 y1 : Int) :
  (Op.equalIn (d + 2) 25 (.agg #[.int .i64 x0, .int .i64 x1]) (.agg #[.int .i64 y0, .int .i64 y1])).run Try.prog w = .ok (x0 == y0 && (x1 == y1)) w := by
 refine eqA_of Try.underlying25 (by kernel_rfl) ?_
 refine eqf_cons (by rfl) (by go_simp; rfl) (by go_simp; rfl) (by go_simp) ?_
 exact eqf_last (by rfl) (by go_simp; rfl) (by go_simp; rfl) (by go_simp)
/-! ### IsS53.grown: a fact -/
/-- A state of type 53 at block g of W; what its slices lead to came in by w0. -/
def IsS53 (w0 W : World) (g : Nat) (f0 : ByteArray) (f1 : Int) (f2 : Bool) (f3 : Bool) : Prop := W.heap[g]? = some (.cells #[.string f0, .int .i64 f1, .bool f2, .bool f3] 53 (0, 0)) ∧ w0.heap.size ≤ g
theorem IsS53.grown {w0 W : World} {g : Nat} {f0 : ByteArray} {f1 : Int} {f2 : Bool} {f3 : Bool} {W1 : World} {row : Option Nat} (h : IsS53 w0 W g f0 f1 f2 f3) (hw : W.grownBy W1 row) (hne : some g ≠ row) : IsS53 w0 W1 g f0 f1 f2 f3 := by
 obtain ⟨hb, hg⟩ := h
 exact ⟨blk_grown hb hw hne, hg⟩
theorem IsS53.own_neN {w0 W : World} {g : Nat} {f0 : ByteArray} {f1 : Int} {f2 : Bool} {f3 : Bool} {α : Type} {d : Kd α} {e : Nat} {base : Nat} {ok : Nat → Prop} {v : Value} {xs : List α} (h : IsS53 w0 W g f0 f1 f2 f3) (ho : Kd.N d e W base ok v xs) (ht : e ≠ 53) : some g ≠ v.ownBlock := by
 obtain ⟨hb, hg⟩ := h
 exact Kd.N_ne ho hb ht
theorem IsS53.fresh {w0 W : World} {g : Nat} {f0 : ByteArray} {f1 : Int} {f2 : Bool} {f3 : Bool} (h : IsS53 w0 W g f0 f1 f2 f3) : ∀ k, W.heap.size ≤ k → k ≠ g := by
 obtain ⟨hb, hg⟩ := h
 exact Kd.freshB hb
theorem IsS53.kept {w0 W : World} {g : Nat} {f0 : ByteArray} {f1 : Int} {f2 : Bool} {f3 : Bool} {W1 : World} {S : Nat → Prop} (h : IsS53 w0 W g f0 f1 f2 f3) (hk : Kept W W1 S) (hne : ¬ S g) : IsS53 w0 W1 g f0 f1 f2 f3 := by
 obtain ⟨hb, hg⟩ := h
 exact ⟨blk_kept hb hk hne, hg⟩
theorem IsS53.below {w0 W : World} {g : Nat} {f0 : ByteArray} {f1 : Int} {f2 : Bool} {f3 : Bool} {W1 : World} (h : IsS53 w0 W g f0 f1 f2 f3) (hw : Below W.heap.size W W1) : IsS53 w0 W1 g f0 f1 f2 f3 := h.grown (grown_of_below hw none) (by simp)
theorem IsS53.alloc {w0 W : World} {g : Nat} {f0 : ByteArray} {f1 : Int} {f2 : Bool} {f3 : Bool} (h : IsS53 w0 W g f0 f1 f2 f3) (o : Obj) : IsS53 w0 (W.alloc o) g f0 f1 f2 f3 := h.below (below_alloc (Below.refl _ _) o)
theorem IsS53.drewN {w0 W : World} {g : Nat} {f0 : ByteArray} {f1 : Int} {f2 : Bool} {f3 : Bool} (h : IsS53 w0 W g f0 f1 f2 f3) (m : Nat) : IsS53 w0 (W.drewN m) g f0 f1 f2 f3 := h
theorem IsS53.drew {w0 W : World} {g : Nat} {f0 : ByteArray} {f1 : Int} {f2 : Bool} {f3 : Bool} (h : IsS53 w0 W g f0 f1 f2 f3) : IsS53 w0 W.drew g f0 f1 f2 f3 := h
theorem IsS53.at_ {w0 W : World} {g : Nat} {f0 : ByteArray} {f1 : Int} {f2 : Bool} {f3 : Bool} {w' : World} {m : Nat} (hq : W.drewN m = w') (h : IsS53 w0 W g f0 f1 f2 f3) : IsS53 w0 w' g f0 f1 f2 f3 := by subst hq; exact IsS53.drewN h m
theorem IsS53.apart {w0 W : World} {g : Nat} {f0 : ByteArray} {f1 : Int} {f2 : Bool} {f3 : Bool} {α : Type} {d : Kd α} {e : Nat} {base : Nat} {ok : Nat → Prop} {v : Value} {xs : List α} (h : IsS53 w0 W g f0 f1 f2 f3) (ho : d.R e W base ok v xs) (ht : ∀ q, q ∈ e :: d.E → q ≠ 53) : d.R e W base (fun k => ok k ∧ k ≠ g) v xs := by
 obtain ⟨hb, hg⟩ := h
 exact Kd.R_types ho hb ht
theorem IsS53.own_ne {w0 W : World} {g : Nat} {f0 : ByteArray} {f1 : Int} {f2 : Bool} {f3 : Bool} {α : Type} {d : Kd α} {e : Nat} {base : Nat} {ok : Nat → Prop} {v : Value} {xs : List α} (h : IsS53 w0 W g f0 f1 f2 f3) (ho : d.R e W base ok v xs) (ht : e ≠ 53) : some g ≠ v.ownBlock := by
 obtain ⟨hb, hg⟩ := h
 exact Kd.R_ne ho hb ht
theorem IsS53.apartQ {w0 W : World} {g : Nat} {f0 : ByteArray} {f1 : Int} {f2 : Bool} {f3 : Bool} {α : Type} {d : Kd α} {e : Nat} {base : Nat} {ok : Nat → Prop} {v : Value} {xs : List α} (h : IsS53 w0 W g f0 f1 f2 f3) (ho : d.Q e W base ok v xs) (ht : ∀ q, q ∈ e :: d.E → q ≠ 53) : d.Q e W base (fun k => ok k ∧ k ≠ g) v xs := by
 obtain ⟨hb, hg⟩ := h
 exact Kd.Q_types ho hb ht
theorem IsS53.own_neQ {w0 W : World} {g : Nat} {f0 : ByteArray} {f1 : Int} {f2 : Bool} {f3 : Bool} {α : Type} {d : Kd α} {e : Nat} {base : Nat} {ok : Nat → Prop} {v : Value} {xs : List α} (h : IsS53 w0 W g f0 f1 f2 f3) (ho : d.Q e W base ok v xs) (ht : e ≠ 53) : some g ≠ v.ownBlock := by
 obtain ⟨hb, hg⟩ := h
 exact Kd.Q_ne ho hb ht
theorem IsS53.apartS {w0 W : World} {g : Nat} {f0 : ByteArray} {f1 : Int} {f2 : Bool} {f3 : Bool} {α : Type} {d : Kd α} {e : Nat} {base : Nat} {ok : Nat → Prop} {v : Value} {xs : List α} (h : IsS53 w0 W g f0 f1 f2 f3) (ho : d.S e W base ok v xs) (ht : ∀ q, q ∈ e :: d.E → q ≠ 53) : d.S e W base (fun k => ok k ∧ k ≠ g) v xs := by
 obtain ⟨hb, hg⟩ := h
 exact Kd.S_types ho hb ht
theorem IsS53.own_neS {w0 W : World} {g : Nat} {f0 : ByteArray} {f1 : Int} {f2 : Bool} {f3 : Bool} {α : Type} {d : Kd α} {e : Nat} {base : Nat} {ok : Nat → Prop} {v : Value} {xs : List α} (h : IsS53 w0 W g f0 f1 f2 f3) (ho : d.S e W base ok v xs) (ht : e ≠ 53) : some g ≠ v.ownBlock := by
 obtain ⟨hb, hg⟩ := h
 exact Kd.S_ne ho hb ht
theorem IsS53.lt {w0 W : World} {g : Nat} {f0 : ByteArray} {f1 : Int} {f2 : Bool} {f3 : Bool} (h : IsS53 w0 W g f0 f1 f2 f3) : g < W.heap.size := by
 obtain ⟨hb, hg⟩ := h
 exact blk_lt hb
theorem IsS53.ge {w0 W : World} {g : Nat} {f0 : ByteArray} {f1 : Int} {f2 : Bool} {f3 : Bool} (h : IsS53 w0 W g f0 f1 f2 f3) : w0.heap.size ≤ g := by
 obtain ⟨hb, hg⟩ := h
 exact hg
theorem IsS53.ne_blk {w0 W : World} {g : Nat} {f0 : ByteArray} {f1 : Int} {f2 : Bool} {f3 : Bool} {a : Nat} {cs : Array Value} {t : TypeId} {fr : Nat × Nat} (h : IsS53 w0 W g f0 f1 f2 f3) (hb2 : W.heap[a]? = some (.cells cs t fr)) (ht : t ≠ 53) : g ≠ a := by
 obtain ⟨hb, hg⟩ := h
 rintro rfl
 rw [hb] at hb2
 injection hb2 with hb2
 injection hb2 with _ ht2
 exact ht ht2.symm
theorem IsS53.far {w0 W : World} {g : Nat} {f0 : ByteArray} {f1 : Int} {f2 : Bool} {f3 : Bool} {p : Addr} (h : IsS53 w0 W g f0 f1 f2 f3) (hne : g ≠ p.block) (u : Value) : IsS53 w0 (W.setCell p u) g f0 f1 f2 f3 := by
 obtain ⟨hb, hg⟩ := h
 exact ⟨blk_far hb hne u, hg⟩
theorem cellS53_0 {W : World} {g : Nat} {f0 : ByteArray} {f1 : Int} {f2 : Bool} {f3 : Bool} (h : W.heap[g]? = some (.cells #[.string f0, .int .i64 f1, .bool f2, .bool f3] 53 (0, 0))) : W.cell? ⟨g, 0, none⟩ = some (.string f0) := (blk_cell h 0).trans rfl
theorem IsS53.set_0 {w0 W : World} {g : Nat} {f0 : ByteArray} {f1 : Int} {f2 : Bool} {f3 : Bool} (h : IsS53 w0 W g f0 f1 f2 f3) (x : ByteArray) : IsS53 w0 (W.setCell ⟨g, 0, none⟩ (.string x)) g x f1 f2 f3 := by
 obtain ⟨hb, hg⟩ := h
 exact ⟨by simpa using blk_set hb 0 (.string x), hg⟩
theorem cellS53_1 {W : World} {g : Nat} {f0 : ByteArray} {f1 : Int} {f2 : Bool} {f3 : Bool} (h : W.heap[g]? = some (.cells #[.string f0, .int .i64 f1, .bool f2, .bool f3] 53 (0, 0))) : W.cell? ⟨g, 1, none⟩ = some (.int .i64 f1) := (blk_cell h 1).trans rfl
theorem IsS53.set_1 {w0 W : World} {g : Nat} {f0 : ByteArray} {f1 : Int} {f2 : Bool} {f3 : Bool} (h : IsS53 w0 W g f0 f1 f2 f3) (x : Int) : IsS53 w0 (W.setCell ⟨g, 1, none⟩ (.int .i64 x)) g f0 x f2 f3 := by
 obtain ⟨hb, hg⟩ := h
 exact ⟨by simpa using blk_set hb 1 (.int .i64 x), hg⟩
theorem cellS53_2 {W : World} {g : Nat} {f0 : ByteArray} {f1 : Int} {f2 : Bool} {f3 : Bool} (h : W.heap[g]? = some (.cells #[.string f0, .int .i64 f1, .bool f2, .bool f3] 53 (0, 0))) : W.cell? ⟨g, 2, none⟩ = some (.bool f2) := (blk_cell h 2).trans rfl
theorem IsS53.set_2 {w0 W : World} {g : Nat} {f0 : ByteArray} {f1 : Int} {f2 : Bool} {f3 : Bool} (h : IsS53 w0 W g f0 f1 f2 f3) (x : Bool) : IsS53 w0 (W.setCell ⟨g, 2, none⟩ (.bool x)) g f0 f1 x f3 := by
 obtain ⟨hb, hg⟩ := h
 exact ⟨by simpa using blk_set hb 2 (.bool x), hg⟩
theorem cellS53_3 {W : World} {g : Nat} {f0 : ByteArray} {f1 : Int} {f2 : Bool} {f3 : Bool} (h : W.heap[g]? = some (.cells #[.string f0, .int .i64 f1, .bool f2, .bool f3] 53 (0, 0))) : W.cell? ⟨g, 3, none⟩ = some (.bool f3) := (blk_cell h 3).trans rfl
theorem IsS53.set_3 {w0 W : World} {g : Nat} {f0 : ByteArray} {f1 : Int} {f2 : Bool} {f3 : Bool} (h : IsS53 w0 W g f0 f1 f2 f3) (x : Bool) : IsS53 w0 (W.setCell ⟨g, 3, none⟩ (.bool x)) g f0 f1 f2 x := by
 obtain ⟨hb, hg⟩ := h
 exact ⟨by simpa using blk_set hb 3 (.bool x), hg⟩
theorem IsS53.new (w0 W : World) (f0 : ByteArray) (f1 : Int) (f2 : Bool) (f3 : Bool) (hB : Below w0.heap.size w0 W) : IsS53 w0 (W.alloc (.cells #[.string f0, .int .i64 f1, .bool f2, .bool f3] 53)) W.heap.size f0 f1 f2 f3 := ⟨by simpa using heap_alloc_new W _, hB.size⟩
/-! ### bound_reader_word: function 38 -/
def bound_reader_word.f (s0_0 : ByteArray) (s0_1 : Int) (s0_2 : Bool) (s0_3 : Bool) (a1 : ByteArray) : Option (Bool × ByteArray × Int × Bool × Bool) := if s0_2 = true then (some (false, s0_0, s0_1, s0_2, s0_3)) else (if (wrap64 ((s0_0.size : Int) - s0_1)) ≥ (a1.size : Int) then (if 0 ≤ s0_1 then (if s0_1 ≤ (wrap64 (s0_1 + (a1.size : Int))) then (if (wrap64 (s0_1 + (a1.size : Int))) ≤ (s0_0.size : Int) then (if (s0_0.extract (s0_1 : Int).toNat ((wrap64 (s0_1 + (a1.size : Int))) : Int).toNat).toList = a1.toList then (some (((s0_0.extract (s0_1 : Int).toNat ((wrap64 (s0_1 + (a1.size : Int))) : Int).toNat).toList == a1.toList), s0_0, wrap64 (s0_1 + (a1.size : Int)), s0_2, s0_3)) else (some (((s0_0.extract (s0_1 : Int).toNat ((wrap64 (s0_1 + (a1.size : Int))) : Int).toNat).toList == a1.toList), s0_0, s0_1, s0_2, s0_3))) else (none)) else (none)) else (none)) else (some (false, s0_0, s0_1, s0_2, s0_3)))
set_option maxHeartbeats 8000000 in
set_option maxRecDepth 100000 in
theorem bound_reader_word.calls (g : Nat) (s0_0 : ByteArray) (s0_1 : Int) (s0_2 : Bool) (s0_3 : Bool) (a1 : ByteArray) (r1 : Bool) (r2 : ByteArray) (r3 : Int) (r4 : Bool) (r5 : Bool) (w0 w : World) (hI : IsS53 w0 w g s0_0 s0_1 s0_2 s0_3) (hB : Below w0.heap.size w0 w) (h : bound_reader_word.f s0_0 s0_1 s0_2 s0_3 a1 = some (r1, r2, r3, r4, r5)) :
  Calls Try.prog 38 #[.pointer (some ⟨g, 0, none⟩), .string a1] w fun e w' => e = .returned (.bool r1) ∧ IsS53 w0 w' g r2 r3 r4 r5 ∧ Below w0.heap.size w0 w' ∧ KeepBut w w' g none := by
 have HI0 := Aside0.mk hI
 have HK := Aside0.mk (KeepBut.refl w g none)
 have HL := Aside0.mk hB.size
 clear hI
 have HW0 := Aside0.mk hB.size
 have HB := Aside0.mk hB
 clear hB
 have H : (if s0_2 = true then (some (false, s0_0, s0_1, s0_2, s0_3)) else (if (wrap64 ((s0_0.size : Int) - s0_1)) ≥ (a1.size : Int) then (if 0 ≤ s0_1 then (if s0_1 ≤ (wrap64 (s0_1 + (a1.size : Int))) then (if (wrap64 (s0_1 + (a1.size : Int))) ≤ (s0_0.size : Int) then (if (s0_0.extract (s0_1 : Int).toNat ((wrap64 (s0_1 + (a1.size : Int))) : Int).toNat).toList = a1.toList then (some (((s0_0.extract (s0_1 : Int).toNat ((wrap64 (s0_1 + (a1.size : Int))) : Int).toNat).toList == a1.toList), s0_0, wrap64 (s0_1 + (a1.size : Int)), s0_2, s0_3)) else (some (((s0_0.extract (s0_1 : Int).toNat ((wrap64 (s0_1 + (a1.size : Int))) : Int).toNat).toList == a1.toList), s0_0, s0_1, s0_2, s0_3))) else (none)) else (none)) else (none)) else (some (false, s0_0, s0_1, s0_2, s0_3)))) = some (r1, r2, r3, r4, r5) := h
 clear h
 by_cases c3 : s0_2 = true
 ·subst c3
  have H1 : (some (false, s0_0, s0_1, true, s0_3)) = some (r1, r2, r3, r4, r5) := by rw [if_pos rfl] at H; exact H
  clear H
  have H := H1
  clear H1
  simp only [Option.some.injEq, Prod.mk.injEq] at H
  obtain ⟨rfl, rfl, rfl, rfl, rfl⟩ := H
  obtain ⟨HGz4, hgz4⟩ := HI0.out
  have hcz4_0 := cellS53_0 HGz4
  have hcz4_1 := cellS53_1 HGz4
  have hcz4_2 := cellS53_2 HGz4
  have hcz4_3 := cellS53_3 HGz4
  have hfz4_0 := blk_frozen HGz4 0
  have hfz4_1 := blk_frozen HGz4 1
  have hfz4_2 := blk_frozen HGz4 2
  have hfz4_3 := blk_frozen HGz4 3
  clear HGz4 hgz4
  go_enter Try.func38, Try.ntmps38
  go_wp2
  repeat (go_quiet (fail); try go_wp2)
  go_ret
  exact ⟨by first | rfl | (simp [errW_none, errW_some] <;> rfl) | (simp [*, errW_none, errW_some] <;> rfl), by repeat (first | (with_reducible first | exact HI0.out | apply IsS53.alloc | apply IsS53.drewN | apply IsS53.drew | apply IsS53.set_0 | apply IsS53.set_1 | apply IsS53.set_2 | apply IsS53.set_3) | exact HI0.out), by repeat (first | (with_reducible first | exact HB.out | apply below_alloc | apply pw_below_drewN | apply below_drew1 | refine below_set ?_ (IsS53.ge HI0.out)) | exact HB.out), by repeat (first | (with_reducible first | exact HK.out | apply KeepBut.set_ | apply keep_drewN | apply keep_drew | apply keep_alloc) | exact HK.out)⟩
 ·replace c3 := Bool.eq_false_iff.mpr c3
  subst c3
  have H1 : (if (wrap64 ((s0_0.size : Int) - s0_1)) ≥ (a1.size : Int) then (if 0 ≤ s0_1 then (if s0_1 ≤ (wrap64 (s0_1 + (a1.size : Int))) then (if (wrap64 (s0_1 + (a1.size : Int))) ≤ (s0_0.size : Int) then (if (s0_0.extract (s0_1 : Int).toNat ((wrap64 (s0_1 + (a1.size : Int))) : Int).toNat).toList = a1.toList then (some (((s0_0.extract (s0_1 : Int).toNat ((wrap64 (s0_1 + (a1.size : Int))) : Int).toNat).toList == a1.toList), s0_0, wrap64 (s0_1 + (a1.size : Int)), false, s0_3)) else (some (((s0_0.extract (s0_1 : Int).toNat ((wrap64 (s0_1 + (a1.size : Int))) : Int).toNat).toList == a1.toList), s0_0, s0_1, false, s0_3))) else (none)) else (none)) else (none)) else (some (false, s0_0, s0_1, false, s0_3))) = some (r1, r2, r3, r4, r5) := by rw [if_neg (show ¬ (false = true) by decide)] at H; exact H
  clear H
  have H := H1
  clear H1
  by_cases c5 : (wrap64 ((s0_0.size : Int) - s0_1)) ≥ (a1.size : Int)
  ·rw [if_pos c5] at H
   have c5b0 : decide ((a1.size : Int) ≤ (wrap64 ((s0_0.size : Int) - s0_1))) = true := decide_eq_true c5
   clear c5
   by_cases c6 : 0 ≤ s0_1
   ·rw [if_pos c6] at H
    have c6b0 := eq_true c6
    have c6b1 : decide (0 ≤ s0_1) = true := decide_eq_true c6
    clear c6
    by_cases c7 : s0_1 ≤ (wrap64 (s0_1 + (a1.size : Int)))
    ·rw [if_pos c7] at H
     have c7b0 := eq_true c7
     have c7b1 : decide (s0_1 ≤ (wrap64 (s0_1 + (a1.size : Int)))) = true := decide_eq_true c7
     by_cases c8 : (wrap64 (s0_1 + (a1.size : Int))) ≤ (s0_0.size : Int)
     ·rw [if_pos c8] at H
      have c8b0 := eq_true c8
      have c8b1 : decide ((wrap64 (s0_1 + (a1.size : Int))) ≤ (s0_0.size : Int)) = true := decide_eq_true c8
      by_cases c9 : (s0_0.extract (s0_1 : Int).toNat ((wrap64 (s0_1 + (a1.size : Int))) : Int).toNat).toList = a1.toList
      ·rw [if_pos c9] at H
       have c9b0 : ((s0_0.extract (s0_1 : Int).toNat ((wrap64 (s0_1 + (a1.size : Int))) : Int).toNat).toList == a1.toList) = true := beq_iff_eq.mpr c9
       have c9b1 : ((s0_0.extract (s0_1 : Int).toNat ((wrap64 (s0_1 + (a1.size : Int))) : Int).toNat).toList != a1.toList) = false := bne_eq_false_iff_eq.mpr c9
       clear c9
       simp only [Option.some.injEq, Prod.mk.injEq] at H
       obtain ⟨rfl, rfl, rfl, rfl, rfl⟩ := H
       obtain ⟨HGz10, hgz10⟩ := HI0.out
       have hcz10_0 := cellS53_0 HGz10
       have hcz10_1 := cellS53_1 HGz10
       have hcz10_2 := cellS53_2 HGz10
       have hcz10_3 := cellS53_3 HGz10
       have hfz10_0 := blk_frozen HGz10 0
       have hfz10_1 := blk_frozen HGz10 1
       have hfz10_2 := blk_frozen HGz10 2
       have hfz10_3 := blk_frozen HGz10 3
       clear HGz10 hgz10
       go_enter Try.func38, Try.ntmps38
       go_wp2
       repeat (go_quiet (fail); try go_wp2)
       go_ret
       exact ⟨by first | rfl | (simp [errW_none, errW_some] <;> rfl) | (simp [*, errW_none, errW_some] <;> rfl), by repeat (first | (with_reducible first | exact HI0.out | apply IsS53.alloc | apply IsS53.drewN | apply IsS53.drew | apply IsS53.set_0 | apply IsS53.set_1 | apply IsS53.set_2 | apply IsS53.set_3) | exact HI0.out), by repeat (first | (with_reducible first | exact HB.out | apply below_alloc | apply pw_below_drewN | apply below_drew1 | refine below_set ?_ (IsS53.ge HI0.out)) | exact HB.out), by repeat (first | (with_reducible first | exact HK.out | apply KeepBut.set_ | apply keep_drewN | apply keep_drew | apply keep_alloc) | exact HK.out)⟩
      ·rw [if_neg c9] at H
       have c9b0 : ((s0_0.extract (s0_1 : Int).toNat ((wrap64 (s0_1 + (a1.size : Int))) : Int).toNat).toList == a1.toList) = false := beq_eq_false_iff_ne.mpr c9
       have c9b1 : ((s0_0.extract (s0_1 : Int).toNat ((wrap64 (s0_1 + (a1.size : Int))) : Int).toNat).toList != a1.toList) = true := bne_iff_ne.mpr c9
       simp only [Option.some.injEq, Prod.mk.injEq] at H
       obtain ⟨rfl, rfl, rfl, rfl, rfl⟩ := H
       obtain ⟨HGz11, hgz11⟩ := HI0.out
       have hcz11_0 := cellS53_0 HGz11
       have hcz11_1 := cellS53_1 HGz11
       have hcz11_2 := cellS53_2 HGz11
       have hcz11_3 := cellS53_3 HGz11
       have hfz11_0 := blk_frozen HGz11 0
       have hfz11_1 := blk_frozen HGz11 1
       have hfz11_2 := blk_frozen HGz11 2
       have hfz11_3 := blk_frozen HGz11 3
       clear HGz11 hgz11
       go_enter Try.func38, Try.ntmps38
       go_wp2
       repeat (go_quiet (fail); try go_wp2)
       go_ret
       exact ⟨by first | rfl | (simp [errW_none, errW_some] <;> rfl) | (simp [*, errW_none, errW_some] <;> rfl), by repeat (first | (with_reducible first | exact HI0.out | apply IsS53.alloc | apply IsS53.drewN | apply IsS53.drew | apply IsS53.set_0 | apply IsS53.set_1 | apply IsS53.set_2 | apply IsS53.set_3) | exact HI0.out), by repeat (first | (with_reducible first | exact HB.out | apply below_alloc | apply pw_below_drewN | apply below_drew1 | refine below_set ?_ (IsS53.ge HI0.out)) | exact HB.out), by repeat (first | (with_reducible first | exact HK.out | apply KeepBut.set_ | apply keep_drewN | apply keep_drew | apply keep_alloc) | exact HK.out)⟩
     ·rw [if_neg c8] at H
      exact absurd H (by simp)
    ·rw [if_neg c7] at H
     exact absurd H (by simp)
   ·rw [if_neg c6] at H
    exact absurd H (by simp)
  ·rw [if_neg c5] at H
   have c5b0 : decide ((a1.size : Int) ≤ (wrap64 ((s0_0.size : Int) - s0_1))) = false := decide_eq_false c5
   clear c5
   simp only [Option.some.injEq, Prod.mk.injEq] at H
   obtain ⟨rfl, rfl, rfl, rfl, rfl⟩ := H
   obtain ⟨HGz12, hgz12⟩ := HI0.out
   have hcz12_0 := cellS53_0 HGz12
   have hcz12_1 := cellS53_1 HGz12
   have hcz12_2 := cellS53_2 HGz12
   have hcz12_3 := cellS53_3 HGz12
   have hfz12_0 := blk_frozen HGz12 0
   have hfz12_1 := blk_frozen HGz12 1
   have hfz12_2 := blk_frozen HGz12 2
   have hfz12_3 := blk_frozen HGz12 3
   clear HGz12 hgz12
   go_enter Try.func38, Try.ntmps38
   go_wp2
   repeat (go_quiet (fail); try go_wp2)
   go_ret
   exact ⟨by first | rfl | (simp [errW_none, errW_some] <;> rfl) | (simp [*, errW_none, errW_some] <;> rfl), by repeat (first | (with_reducible first | exact HI0.out | apply IsS53.alloc | apply IsS53.drewN | apply IsS53.drew | apply IsS53.set_0 | apply IsS53.set_1 | apply IsS53.set_2 | apply IsS53.set_3) | exact HI0.out), by repeat (first | (with_reducible first | exact HB.out | apply below_alloc | apply pw_below_drewN | apply below_drew1 | refine below_set ?_ (IsS53.ge HI0.out)) | exact HB.out), by repeat (first | (with_reducible first | exact HK.out | apply KeepBut.set_ | apply keep_drewN | apply keep_drew | apply keep_alloc) | exact HK.out)⟩
/-! ### bound_right: function 28 -/
def bound_right.f (a0_0 : Int) (a0_1 : Int) : Option (Bool) := if a0_0 ≥ 0 then (some (decide (a0_0 ≤ 2))) else (some false)
set_option maxHeartbeats 8000000 in
set_option maxRecDepth 100000 in
theorem bound_right.calls (a0_0 : Int) (a0_1 : Int) (r : Bool) (w : World) (h : bound_right.f a0_0 a0_1 = some r) :
  Calls Try.prog 28 #[.agg #[.int .i64 a0_0, .int .i64 a0_1]] w fun e w' => e = .returned (.bool r) ∧ Below w.heap.size w w' := by
 have hu23 := Try.underlying23
 have HB := Aside0.mk (Below.refl w.heap.size w)
 have H : (if a0_0 ≥ 0 then (some (decide (a0_0 ≤ 2))) else (some false)) = some r := h
 clear h
 by_cases c2 : a0_0 ≥ 0
 ·rw [if_pos c2] at H
  have c2b0 : decide (0 ≤ a0_0) = true := decide_eq_true c2
  clear c2
  obtain rfl := Option.some.inj H
  go_enter Try.func28, Try.ntmps28
  go_wp2_with (first | ((with_reducible refine gate_dst (N := 1) rfl ?_); refine bxe (N := 1) (cs := #[.int .i64 a0_0, .int .i64 a0_1]) (t := 23) ?_; intro gb101 hg w3 hbox hb; have BK101 := Aside0.mk (hbox); have GW101 := lsz hg HB; have GE101 := lsz hg HB; replace HB := bst HB hb; clear hb hbox hg; obtain ⟨hcz4_0, hcz4_1⟩ := e2 BK101; obtain ⟨hfz4_0, hfz4_1⟩ := f2 BK101))
  go_ret
  exact endB HB
 ·rw [if_neg c2] at H
  have c2b0 : decide (0 ≤ a0_0) = false := decide_eq_false c2
  clear c2
  obtain rfl := Option.some.inj H
  go_enter Try.func28, Try.ntmps28
  go_wp2_with (first | ((with_reducible refine gate_dst (N := 1) rfl ?_); refine bxe (N := 1) (cs := #[.int .i64 a0_0, .int .i64 a0_1]) (t := 23) ?_; intro gb101 hg w5 hbox hb; have BK101 := Aside0.mk (hbox); have GW101 := lsz hg HB; have GE101 := lsz hg HB; replace HB := bst HB hb; clear hb hbox hg; obtain ⟨hcz6_0, hcz6_1⟩ := e2 BK101; obtain ⟨hfz6_0, hfz6_1⟩ := f2 BK101))
  go_ret
  exact endB HB
/-! ### cut_First: function 29 -/
def cut_First.f  : Option (Int × Int) := some ((-1), 0)
set_option maxHeartbeats 8000000 in
set_option maxRecDepth 100000 in
theorem cut_First.calls  (r1 : Int) (r2 : Int) (w : World) (h : cut_First.f  = some (r1, r2)) :
  Calls Try.prog 29 #[] w fun e w' => e = .returned (.agg #[.int .i64 r1, .int .i64 r2]) ∧ Below w.heap.size w w' := by
 have hu25 := Try.underlying25
 have HB := Aside0.mk (Below.refl w.heap.size w)
 have H : (some ((-1), 0)) = some (r1, r2) := h
 clear h
 simp only [Option.some.injEq, Prod.mk.injEq] at H
 obtain ⟨rfl, rfl⟩ := H
 go_enter Try.func29, Try.ntmps29
 go_wp2_with (first | ((with_reducible refine gate_dst (N := 0) rfl ?_); refine bxe (N := 0) (cs := #[.int .i64 0, .int .i64 0]) (t := 25) ?_; intro gb102 hg w1 hbox hb; have BK102 := Aside0.mk (hbox); have GW102 := lsz hg HB; have GE102 := lsz hg HB; replace HB := bst HB hb; clear hb hbox hg; obtain ⟨hcz2_0, hcz2_1⟩ := e2 BK102; obtain ⟨hfz2_0, hfz2_1⟩ := f2 BK102))
 refine bodyPost_ret (results_cell_row rfl _ _ gb102 25 #[.int .i64 (-1), .int .i64 0] (0, 0) _ rfl (bkp BK102) Try.underlying25 rfl (by kernel_rfl)) rfl ?_
 exact endB HB
/-! ### cut_Last: function 30 -/
def cut_Last.f  : Option (Int × Int) := some (1, 0)
set_option maxHeartbeats 8000000 in
set_option maxRecDepth 100000 in
theorem cut_Last.calls  (r1 : Int) (r2 : Int) (w : World) (h : cut_Last.f  = some (r1, r2)) :
  Calls Try.prog 30 #[] w fun e w' => e = .returned (.agg #[.int .i64 r1, .int .i64 r2]) ∧ Below w.heap.size w w' := by
 have hu25 := Try.underlying25
 have HB := Aside0.mk (Below.refl w.heap.size w)
 have H : (some (1, 0)) = some (r1, r2) := h
 clear h
 simp only [Option.some.injEq, Prod.mk.injEq] at H
 obtain ⟨rfl, rfl⟩ := H
 go_enter Try.func30, Try.ntmps30
 go_wp2_with (first | ((with_reducible refine gate_dst (N := 0) rfl ?_); refine bxe (N := 0) (cs := #[.int .i64 0, .int .i64 0]) (t := 25) ?_; intro gb103 hg w1 hbox hb; have BK103 := Aside0.mk (hbox); have GW103 := lsz hg HB; have GE103 := lsz hg HB; replace HB := bst HB hb; clear hb hbox hg; obtain ⟨hcz2_0, hcz2_1⟩ := e2 BK103; obtain ⟨hfz2_0, hfz2_1⟩ := f2 BK103))
 refine bodyPost_ret (results_cell_row rfl _ _ gb103 25 #[.int .i64 1, .int .i64 0] (0, 0) _ rfl (bkp BK103) Try.underlying25 rfl (by kernel_rfl)) rfl ?_
 exact endB HB
/-! ### cut_Behind: function 31 -/
def cut_Behind.f (a0 : Int) : Option (Int × Int) := if a0 = 9223372036854775807 then ((cut_Last.f).bind fun bt105 => (some (bt105.1, bt105.2))) else (some (0, wrap64 (a0 + 1)))
set_option maxHeartbeats 8000000 in
set_option maxRecDepth 100000 in
theorem cut_Behind.calls (a0 : Int) (r1 : Int) (r2 : Int) (w : World) (h : cut_Behind.f a0 = some (r1, r2)) :
  Calls Try.prog 31 #[.int .i64 a0] w fun e w' => e = .returned (.agg #[.int .i64 r1, .int .i64 r2]) ∧ Below w.heap.size w w' := by
 have hu25 := Try.underlying25
 have HB := Aside0.mk (Below.refl w.heap.size w)
 have H : (if a0 = 9223372036854775807 then ((cut_Last.f).bind fun bt105 => (some (bt105.1, bt105.2))) else (some (0, wrap64 (a0 + 1)))) = some (r1, r2) := h
 clear h
 by_cases c2 : a0 = 9223372036854775807
 ·rw [if_pos c2] at H
  have c2b0 : (a0 == 9223372036854775807) = true := beq_iff_eq.mpr c2
  have c2b1 : (a0 != 9223372036854775807) = false := bne_eq_false_iff_eq.mpr c2
  clear c2
  replace H := Option.bind_eq_some_iff.mp H
  obtain ⟨⟨t105, t106⟩, A30, H⟩ := H
  replace H : (some (t105, t106)) = some (r1, r2) := H
  have A3 := Aside0.mk A30
  clear A30
  simp only [Option.some.injEq, Prod.mk.injEq] at H
  obtain ⟨rfl, rfl⟩ := H
  go_enter Try.func31, Try.ntmps31
  go_wp2_with (first | ((with_reducible refine gate_dst (N := 2) rfl ?_); refine bxe (N := 2) (cs := #[.int .i64 0, .int .i64 0]) (t := 25) ?_; intro gb104 hg w4 hbox hb; have BK104 := Aside0.mk (hbox); have GW104 := lsz hg HB; have GE104 := lsz hg HB; replace HB := bst HB hb; clear hb hbox hg) | ((with_reducible refine gate_callee (f := 30) rfl ?_); refine gol (some 5) Try.func30 #[] ?_; (with_reducible refine (cut_Last.calls  t105 t106 _ A3.out).mono ?_); rintro e w5 ⟨rfl, hb⟩; refine ⟨_, rfl, ?_⟩; replace BK104 := bkb BK104 hb; replace HB := bst HB hb; (try clear hb); (try clear hb2); (try clear hk); (try clear hi); obtain ⟨hcz6_0, hcz6_1⟩ := e2 BK104; obtain ⟨hfz6_0, hfz6_1⟩ := f2 BK104))
  refine bodyPost_ret (results_cell_row rfl _ _ gb104 25 #[.int .i64 t105, .int .i64 t106] (0, 0) _ rfl (bkp BK104) Try.underlying25 rfl (by kernel_rfl)) rfl ?_
  exact endB HB
 ·rw [if_neg c2] at H
  have c2b0 : (a0 == 9223372036854775807) = false := beq_eq_false_iff_ne.mpr c2
  have c2b1 : (a0 != 9223372036854775807) = true := bne_iff_ne.mpr c2
  simp only [Option.some.injEq, Prod.mk.injEq] at H
  obtain ⟨rfl, rfl⟩ := H
  go_enter Try.func31, Try.ntmps31
  go_wp2_with (first | ((with_reducible refine gate_dst (N := 2) rfl ?_); refine bxe (N := 2) (cs := #[.int .i64 0, .int .i64 0]) (t := 25) ?_; intro gb104 hg w7 hbox hb; have BK104 := Aside0.mk (hbox); have GW104 := lsz hg HB; have GE104 := lsz hg HB; replace HB := bst HB hb; clear hb hbox hg; obtain ⟨hcz8_0, hcz8_1⟩ := e2 BK104; obtain ⟨hfz8_0, hfz8_1⟩ := f2 BK104))
  refine bodyPost_ret (results_cell_row rfl _ _ gb104 25 #[.int .i64 0, .int .i64 (wrap64 (a0 + 1))] (0, 0) _ rfl (bkp BK104) Try.underlying25 rfl (by kernel_rfl)) rfl ?_
  exact endB HB
/-! ### cut_Canon: function 53 -/
def cut_Canon.j0 : Nat → Bool → Int → Int → Option (Int × Int)
 | 0, _, _, _ => none
 | k + 1, x3, x108000, x108001 => if x3 = true then ((cut_First.f).bind fun bt109 => (some (bt109.1, bt109.2))) else (if x108000 > 0 then ((cut_Last.f).bind fun bt111 => (some (bt111.1, bt111.2))) else (some (x108000, x108001)))
def cut_Canon.f (k : Nat) (a0_0 : Int) (a0_1 : Int) : Option (Int × Int) := if a0_0 < 0 then (cut_Canon.j0 k true a0_0 a0_1) else (if a0_0 = 0 then (cut_Canon.j0 k (a0_1 == (-9223372036854775808)) a0_0 a0_1) else (cut_Canon.j0 k false a0_0 a0_1))
theorem cut_Canon.mono_l : ∀ k, (∀ y0 y1 y2, LeO (cut_Canon.j0 k y0 y1 y2) (cut_Canon.j0 (k + 1) y0 y1 y2))
 | 0 => fun _ _ _ r h => by simp [cut_Canon.j0] at h
 | k + 1 => by
  have ih0 := cut_Canon.mono_l k
  ·intro y0 y1 y2
   unfold cut_Canon.j0
   repeat' first
   | (with_reducible exact ih0 _ _ _)
   | (with_reducible exact LeO.refl _)
   | (with_reducible exact LeO.none _)
   | (with_reducible refine LeO.ite ?_ ?_)
   | (with_reducible refine LeO.bind ?_ (fun _ => ?_))
   | exact ih0 _ _ _
   | exact LeO.none _
   | refine LeO.ite ?_ ?_
   | refine LeO.bind ?_ (fun _ => ?_)
theorem cut_Canon.mono : ∀ a0 a1 k, LeO (cut_Canon.f k a0 a1) (cut_Canon.f (k + 1) a0 a1) := by
 intro a0 a1 k
 have ih0 := cut_Canon.mono_l k
 unfold cut_Canon.f
 repeat' first
   | (with_reducible exact ih0 _ _ _)
   | (with_reducible exact LeO.refl _)
   | (with_reducible exact LeO.none _)
   | (with_reducible refine LeO.ite ?_ ?_)
   | (with_reducible refine LeO.bind ?_ (fun _ => ?_))
   | exact ih0 _ _ _
   | exact LeO.none _
   | refine LeO.ite ?_ ?_
   | refine LeO.bind ?_ (fun _ => ?_)
set_option maxHeartbeats 8000000 in
set_option maxRecDepth 100000 in
theorem cut_Canon.calls (k : Nat) (a0_0 : Int) (a0_1 : Int) (r1 : Int) (r2 : Int) (w : World) (h : cut_Canon.f k a0_0 a0_1 = some (r1, r2)) :
  Calls Try.prog 53 #[.agg #[.int .i64 a0_0, .int .i64 a0_1]] w fun e w' => e = .returned (.agg #[.int .i64 r1, .int .i64 r2]) ∧ Below w.heap.size w w' := by
 have hu25 := Try.underlying25
 have HB := Aside0.mk (Below.refl w.heap.size w)
 have H : (if a0_0 < 0 then (cut_Canon.j0 k true a0_0 a0_1) else (if a0_0 = 0 then (cut_Canon.j0 k (a0_1 == (-9223372036854775808)) a0_0 a0_1) else (cut_Canon.j0 k false a0_0 a0_1))) = some (r1, r2) := h
 clear h
 have HC2 := Aside0.mk H
 clear H
 go_enter Try.func53, Try.ntmps53
 go_upto_region 1 with (first | ((with_reducible refine gate_dst (N := 1) rfl ?_); refine bxe (N := 1) (cs := #[.int .i64 a0_0, .int .i64 a0_1]) (t := 25) ?_; intro gb107 hg w3 hbox hb; have BK107 := Aside0.mk (hbox); have GW107 := lsz hg HB; have GE107 := lsz hg HB; replace HB := bst HB hb; clear hb hbox hg) | ((with_reducible refine gate_dst (N := 2) rfl ?_); refine bxe (N := 2) (cs := #[.int .i64 0, .int .i64 0]) (t := 25) ?_; intro gb108 hg w4 hbox hb; have BK108 := Aside0.mk (hbox); have GW108 := lsz hg HB; have GE108 := lsz hg HB; replace HB := bst HB hb; have NB107_108 := nlt hg BK107; have NB108_107 := ngt hg BK107; replace BK107 := bkb BK107 hb; clear hb hbox hg))
 (try simp only [Act.put, List.setIfInBounds_toArray, List.set_cons_zero, List.set_cons_succ])
 go_cut [3] (fun v3 wc => ∃ (kq : Nat) (x3_1 : Bool), v3 = .bool x3_1 ∧ Aside0 (cut_Canon.j0 kq x3_1 a0_0 a0_1 = some (r1, r2)) ∧ Aside0 (kq ≤ k) ∧ Aside0 (wc.heap[gb107]? = some (.cells #[.int .i64 a0_0, .int .i64 a0_1] 25 (0, 0))) ∧ Aside0 (wc.heap[gb108]? = some (.cells #[.int .i64 0, .int .i64 0] 25 (0, 0))) ∧ Aside0 (Below w.heap.size w wc))
 case first =>
  have H := HC2.out
  clear HC2
  by_cases c5 : a0_0 < 0
  ·rw [if_pos c5] at H
   have c5b0 : decide (a0_0 < 0) = true := decide_eq_true c5
   clear c5
   (first | rw [c5b0] | (simp only [i64_w, i32_w]; rw [c5b0]) | skip)
   have H' := Aside0.mk H
   clear H
   have hnb6 := NB107_108.out
   have hnc6 := NB108_107.out
   have hcz7_0 : w4.cell? ⟨gb107, 0, none⟩ = some (.int .i64 a0_0) := (blk_cell BK107.out 0).trans rfl
   have hcz7_1 : w4.cell? ⟨gb107, 1, none⟩ = some (.int .i64 a0_1) := (blk_cell BK107.out 1).trans rfl
   have hfz7_0 := blk_frozen BK107.out 0
   have hfz7_1 := blk_frozen BK107.out 1
   go_wp2
   go_meet
   case rel => exact ⟨_, (true), (by first | rfl | (simp; done) | (simp [*]; done)), H', ⟨by first | omega | exact Nat.le_refl _⟩, ⟨bk BK107⟩, ⟨bk BK108⟩, ⟨bl HB⟩⟩
  ·rw [if_neg c5] at H
   have c5b0 : decide (a0_0 < 0) = false := decide_eq_false c5
   clear c5
   (first | rw [c5b0] | (simp only [i64_w, i32_w]; rw [c5b0]) | skip)
   by_cases c8 : a0_0 = 0
   ·rw [if_pos c8] at H
    have c8b0 : (a0_0 == 0) = true := beq_iff_eq.mpr c8
    have c8b1 : (a0_0 != 0) = false := bne_eq_false_iff_eq.mpr c8
    clear c8
    have H' := Aside0.mk H
    clear H
    have hnb9 := NB107_108.out
    have hnc9 := NB108_107.out
    have hcz10_0 : w4.cell? ⟨gb107, 0, none⟩ = some (.int .i64 a0_0) := (blk_cell BK107.out 0).trans rfl
    have hcz10_1 : w4.cell? ⟨gb107, 1, none⟩ = some (.int .i64 a0_1) := (blk_cell BK107.out 1).trans rfl
    have hfz10_0 := blk_frozen BK107.out 0
    have hfz10_1 := blk_frozen BK107.out 1
    go_wp2
    go_meet
    case rel => exact ⟨_, ((a0_1 == (-9223372036854775808))), (by first | rfl | (simp; done) | (simp [*]; done)), H', ⟨by first | omega | exact Nat.le_refl _⟩, ⟨bk BK107⟩, ⟨bk BK108⟩, ⟨bl HB⟩⟩
   ·rw [if_neg c8] at H
    have c8b0 : (a0_0 == 0) = false := beq_eq_false_iff_ne.mpr c8
    have c8b1 : (a0_0 != 0) = true := bne_iff_ne.mpr c8
    have H' := Aside0.mk H
    clear H
    have hnb11 := NB107_108.out
    have hnc11 := NB108_107.out
    have hcz12_0 : w4.cell? ⟨gb107, 0, none⟩ = some (.int .i64 a0_0) := (blk_cell BK107.out 0).trans rfl
    have hcz12_1 : w4.cell? ⟨gb107, 1, none⟩ = some (.int .i64 a0_1) := (blk_cell BK107.out 1).trans rfl
    have hfz12_0 := blk_frozen BK107.out 0
    have hfz12_1 := blk_frozen BK107.out 1
    go_wp2
    go_meet
    case rel => exact ⟨_, (false), (by first | rfl | (simp; done) | (simp [*]; done)), H', ⟨by first | omega | exact Nat.le_refl _⟩, ⟨bk BK107⟩, ⟨bk BK108⟩, ⟨bl HB⟩⟩
 case rest =>
  clear HC2
  obtain ⟨kq, x3_1, rfl, HA, HJ1, BK107, BK108, HB⟩ := hcut
  cases kq with
  | zero => exact absurd HA.out (by simp [cut_Canon.j0])
  | succ kj1 =>
   have H := HA.out
   clear HA
   simp only [cut_Canon.j0] at H
   by_cases c13 : x3_1 = true
   ·subst c13
    have H1 : ((cut_First.f).bind fun bt109 => (some (bt109.1, bt109.2))) = some (r1, r2) := by rw [if_pos rfl] at H; exact H
    clear H
    have H := H1
    clear H1
    replace H := Option.bind_eq_some_iff.mp H
    obtain ⟨⟨t109, t110⟩, A140, H⟩ := H
    replace H : (some (t109, t110)) = some (r1, r2) := H
    have A14 := Aside0.mk A140
    clear A140
    simp only [Option.some.injEq, Prod.mk.injEq] at H
    obtain ⟨rfl, rfl⟩ := H
    go_wp2_with (first | ((with_reducible refine gate_callee (f := 29) rfl ?_); refine gol (some 17) Try.func29 #[] ?_; (with_reducible refine (cut_First.calls  t109 t110 _ A14.out).mono ?_); rintro e w15 ⟨rfl, hb⟩; refine ⟨_, rfl, ?_⟩; replace BK107 := bkb BK107 hb; replace BK108 := bkb BK108 hb; replace HB := bst HB hb; (try clear hb); (try clear hb2); (try clear hk); (try clear hi); have hnb16 := NB108_107.out; have hnc16 := NB107_108.out; obtain ⟨hcz17_0, hcz17_1⟩ := e2 BK108; obtain ⟨hfz17_0, hfz17_1⟩ := f2 BK108))
    refine bodyPost_ret (results_cell_row rfl _ _ gb108 25 #[.int .i64 t109, .int .i64 t110] (0, 0) _ rfl (bkp BK108) Try.underlying25 rfl (by kernel_rfl)) rfl ?_
    exact endB HB
   ·replace c13 := Bool.eq_false_iff.mpr c13
    subst c13
    have H1 : (if a0_0 > 0 then ((cut_Last.f).bind fun bt111 => (some (bt111.1, bt111.2))) else (some (a0_0, a0_1))) = some (r1, r2) := by rw [if_neg (show ¬ (false = true) by decide)] at H; exact H
    clear H
    have H := H1
    clear H1
    by_cases c18 : a0_0 > 0
    ·rw [if_pos c18] at H
     have c18b0 : decide (0 < a0_0) = true := decide_eq_true c18
     clear c18
     replace H := Option.bind_eq_some_iff.mp H
     obtain ⟨⟨t111, t112⟩, A190, H⟩ := H
     replace H : (some (t111, t112)) = some (r1, r2) := H
     have A19 := Aside0.mk A190
     clear A190
     simp only [Option.some.injEq, Prod.mk.injEq] at H
     obtain ⟨rfl, rfl⟩ := H
     have hnb20 := NB107_108.out
     have hnc20 := NB108_107.out
     have hcz21_0 : wc.cell? ⟨gb107, 0, none⟩ = some (.int .i64 a0_0) := (blk_cell BK107.out 0).trans rfl
     have hcz21_1 : wc.cell? ⟨gb107, 1, none⟩ = some (.int .i64 a0_1) := (blk_cell BK107.out 1).trans rfl
     have hfz21_0 := blk_frozen BK107.out 0
     have hfz21_1 := blk_frozen BK107.out 1
     go_wp2_with (first | ((with_reducible refine gate_callee (f := 30) rfl ?_); refine gol (some 22) Try.func30 #[] ?_; (with_reducible refine (cut_Last.calls  t111 t112 _ A19.out).mono ?_); rintro e w22 ⟨rfl, hb⟩; refine ⟨_, rfl, ?_⟩; replace BK107 := bkb BK107 hb; replace BK108 := bkb BK108 hb; replace HB := bst HB hb; (try clear hb); (try clear hb2); (try clear hk); (try clear hi); obtain ⟨hcz23_0, hcz23_1⟩ := e2 BK108; obtain ⟨hfz23_0, hfz23_1⟩ := f2 BK108))
     refine bodyPost_ret (results_cell_row rfl _ _ gb108 25 #[.int .i64 t111, .int .i64 t112] (0, 0) _ rfl (bkp BK108) Try.underlying25 rfl (by kernel_rfl)) rfl ?_
     exact endB HB
    ·rw [if_neg c18] at H
     have c18b0 : decide (0 < a0_0) = false := decide_eq_false c18
     clear c18
     simp only [Option.some.injEq, Prod.mk.injEq] at H
     obtain ⟨rfl, rfl⟩ := H
     have hnb24 := NB107_108.out
     have hnc24 := NB108_107.out
     have hcz25_0 : wc.cell? ⟨gb107, 0, none⟩ = some (.int .i64 a0_0) := (blk_cell BK107.out 0).trans rfl
     have hcz25_1 : wc.cell? ⟨gb107, 1, none⟩ = some (.int .i64 a0_1) := (blk_cell BK107.out 1).trans rfl
     have hfz25_0 := blk_frozen BK107.out 0
     have hfz25_1 := blk_frozen BK107.out 1
     have hcz26_0 : wc.cell? ⟨gb108, 0, none⟩ = some (.int .i64 0) := (blk_cell BK108.out 0).trans rfl
     have hcz26_1 : wc.cell? ⟨gb108, 1, none⟩ = some (.int .i64 0) := (blk_cell BK108.out 1).trans rfl
     have hfz26_0 := blk_frozen BK108.out 0
     have hfz26_1 := blk_frozen BK108.out 1
     go_wp2
     refine bodyPost_ret (results_cell_row rfl _ _ gb108 25 #[.int .i64 a0_0, .int .i64 a0_1] (0, 0) _ rfl (bkp BK108) Try.underlying25 rfl (by kernel_rfl)) rfl ?_
     exact endB HB
section
attribute [local go_sem high] eqA25
/-! ### cut_Ahead: function 32 -/
def cut_Ahead.f (k : Nat) (a0 : Int) : Option (Int × Int) := (cut_Canon.f k 0 a0).bind fun bt114 => (some (bt114.1, bt114.2))
theorem cut_Ahead.mono : ∀ a0 k, LeO (cut_Ahead.f k a0) (cut_Ahead.f (k + 1) a0) := by
 intro a0 k
 unfold cut_Ahead.f
 repeat' first
   | (with_reducible exact cut_Canon.mono _ _ _)
   | (with_reducible exact LeO.refl _)
   | (with_reducible exact LeO.none _)
   | (with_reducible refine LeO.ite ?_ ?_)
   | (with_reducible refine LeO.bind ?_ (fun _ => ?_))
   | exact cut_Canon.mono _ _ _
   | exact LeO.none _
   | refine LeO.ite ?_ ?_
   | refine LeO.bind ?_ (fun _ => ?_)
set_option maxHeartbeats 8000000 in
set_option maxRecDepth 100000 in
theorem cut_Ahead.calls (k : Nat) (a0 : Int) (r1 : Int) (r2 : Int) (w : World) (h : cut_Ahead.f k a0 = some (r1, r2)) :
  Calls Try.prog 32 #[.int .i64 a0] w fun e w' => e = .returned (.agg #[.int .i64 r1, .int .i64 r2]) ∧ Below w.heap.size w w' := by
 have hu25 := Try.underlying25
 have HB := Aside0.mk (Below.refl w.heap.size w)
 have H : ((cut_Canon.f k 0 a0).bind fun bt114 => (some (bt114.1, bt114.2))) = some (r1, r2) := h
 clear h
 replace H := Option.bind_eq_some_iff.mp H
 obtain ⟨⟨t114, t115⟩, A20, H⟩ := H
 replace H : (some (t114, t115)) = some (r1, r2) := H
 have A2 := Aside0.mk A20
 clear A20
 simp only [Option.some.injEq, Prod.mk.injEq] at H
 obtain ⟨rfl, rfl⟩ := H
 go_enter Try.func32, Try.ntmps32
 go_wp2_with (first | ((with_reducible refine gate_dst (N := 2) rfl ?_); refine bxe (N := 2) (cs := #[.int .i64 0, .int .i64 0]) (t := 25) ?_; intro gb113 hg w3 hbox hb; have BK113 := Aside0.mk (hbox); have GW113 := lsz hg HB; have GE113 := lsz hg HB; replace HB := bst HB hb; clear hb hbox hg) | ((with_reducible refine gate_callee (f := 53) rfl ?_); refine gol (some 5) Try.func53 #[.agg #[.int .i64 0, .int .i64 a0]] ?_; (with_reducible refine (cut_Canon.calls k 0 a0 t114 t115 _ A2.out).mono ?_); rintro e w4 ⟨rfl, hb⟩; refine ⟨_, rfl, ?_⟩; replace BK113 := bkb BK113 hb; replace HB := bst HB hb; (try clear hb); (try clear hb2); (try clear hk); (try clear hi); obtain ⟨hcz5_0, hcz5_1⟩ := e2 BK113; obtain ⟨hfz5_0, hfz5_1⟩ := f2 BK113))
 refine bodyPost_ret (results_cell_row rfl _ _ gb113 25 #[.int .i64 t114, .int .i64 t115] (0, 0) _ rfl (bkp BK113) Try.underlying25 rfl (by kernel_rfl)) rfl ?_
 exact endB HB
end
section
attribute [local go_sem high] eqA25
/-! ### cut_Right: function 60 -/
def cut_Right.f (k : Nat) (a0_0 : Int) (a0_1 : Int) : Option (Bool) := (cut_Canon.f k a0_0 a0_1).bind fun bt117 => (some (bt117.1 == a0_0 && (bt117.2 == a0_1)))
theorem cut_Right.mono : ∀ a0 a1 k, LeO (cut_Right.f k a0 a1) (cut_Right.f (k + 1) a0 a1) := by
 intro a0 a1 k
 unfold cut_Right.f
 repeat' first
   | (with_reducible exact cut_Canon.mono _ _ _)
   | (with_reducible exact LeO.refl _)
   | (with_reducible exact LeO.none _)
   | (with_reducible refine LeO.ite ?_ ?_)
   | (with_reducible refine LeO.bind ?_ (fun _ => ?_))
   | exact cut_Canon.mono _ _ _
   | exact LeO.none _
   | refine LeO.ite ?_ ?_
   | refine LeO.bind ?_ (fun _ => ?_)
set_option maxHeartbeats 8000000 in
set_option maxRecDepth 100000 in
theorem cut_Right.calls (k : Nat) (a0_0 : Int) (a0_1 : Int) (r : Bool) (w : World) (h : cut_Right.f k a0_0 a0_1 = some r) :
  Calls Try.prog 60 #[.agg #[.int .i64 a0_0, .int .i64 a0_1]] w fun e w' => e = .returned (.bool r) ∧ Below w.heap.size w w' := by
 have hu25 := Try.underlying25
 have HB := Aside0.mk (Below.refl w.heap.size w)
 have H : ((cut_Canon.f k a0_0 a0_1).bind fun bt117 => (some (bt117.1 == a0_0 && (bt117.2 == a0_1)))) = some r := h
 clear h
 replace H := Option.bind_eq_some_iff.mp H
 obtain ⟨⟨t117, t118⟩, A20, H⟩ := H
 replace H : (some (t117 == a0_0 && (t118 == a0_1))) = some r := H
 have A2 := Aside0.mk A20
 clear A20
 obtain rfl := Option.some.inj H
 go_enter Try.func60, Try.ntmps60
 try go_wp2_with (first | ((with_reducible refine gate_dst (N := 1) rfl ?_); refine bxe (N := 1) (cs := #[.int .i64 a0_0, .int .i64 a0_1]) (t := 25) ?_; intro gb116 hg w3 hbox hb; have BK116 := Aside0.mk (hbox); have GW116 := lsz hg HB; have GE116 := lsz hg HB; replace HB := bst HB hb; clear hb hbox hg))
 replace BK116 := Aside0.mk (blk_drew BK116.out)
 replace HB := Aside0.mk (below_drew1 HB.out)
 refine start_ (n := 5) (S := fun w' => w'.cell? ⟨gb116, 0, none⟩ = some (.int .i64 a0_0) ∧ w'.cell? ⟨gb116, 1, none⟩ = some (.int .i64 a0_1)) (ds := []) #[false, false, false, false, false] (by kernel_rfl) rfl rfl (e2 BK116) (fun hHeld => ?_)
 generalize w3.drew = w4 at BK116 HB hHeld ⊢
 refine tk2 0 (some 3) #[true, false, false, false, false] (by kernel_rfl) hHeld ?_
 refine tk2 2 (some 5) #[true, false, true, false, false] (by kernel_rfl) hHeld ?_
 refine one_ (i := 1) (N := some 4) #[true, true, true, false, false] rfl rfl (by kernel_rfl) (by decide) (fun K hK => ?_)
 refine goes_ Try.func53 (by kernel_rfl) rfl #[.agg #[.int .i64 a0_0, .int .i64 a0_1]] (by rfl) rfl rfl (by (try simp only [List.map_toArray, List.map_cons, List.map_nil]); first | done | rfl | (simp only [List.length_drop, List.length_take]; rfl)) ?_
 with_reducible refine (cut_Canon.calls k a0_0 a0_1 t117 t118 _ A2.out).mono ?_
 rintro e w5 ⟨rfl, hb⟩
 refine ⟨_, rfl, ?_⟩
 replace BK116 := bkb BK116 hb
 replace HB := bst HB hb
 (try clear hb)
 refine hK.out _ _ (e2 BK116) (fun hHeld => ?_)
 clear hK K
 refine nrp 4 ?_
 refine pu 3 (some 6) #[true, true, true, true, false] (by kernel_rfl) ?_
 refine pu 4 (some 2) #[true, true, true, true, true] (by kernel_rfl) ?_
 refine done_ (by kernel_rfl) ?_
 try go_wp2
 go_ret
 exact endB HB
end
section
attribute [local go_sem high] eqA25
/-! ### cmp_Or_int: function 68 -/
def cmp_Or_int.l0 : Nat → Int → List Int → Int → Int → Option (Int)
 | 0, _, _, _, _ => none
 | k + 1, x3, x6, x7, x8 => if x8 < x7 then (if 0 ≤ x8 then (if x8 < (x6.length : Int) then (if (rd x6 x8) = x3 then (cmp_Or_int.l0 k x3 x6 x7 (wrap64 (x8 + 1))) else (some (rd x6 x8))) else (none)) else (none)) else (some x3)
def cmp_Or_int.f (k : Nat) (l0 : List Int) : Option (Int) := cmp_Or_int.l0 k 0 l0 (l0.length : Int) 0
theorem cmp_Or_int.mono_l : ∀ k, (∀ y0 y1 y2 y3, LeO (cmp_Or_int.l0 k y0 y1 y2 y3) (cmp_Or_int.l0 (k + 1) y0 y1 y2 y3))
 | 0 => fun _ _ _ _ r h => by simp [cmp_Or_int.l0] at h
 | k + 1 => by
  have ih0 := cmp_Or_int.mono_l k
  ·intro y0 y1 y2 y3
   unfold cmp_Or_int.l0
   repeat' first
   | (with_reducible exact ih0 _ _ _ _)
   | (with_reducible exact LeO.refl _)
   | (with_reducible exact LeO.none _)
   | (with_reducible refine LeO.ite ?_ ?_)
   | (with_reducible refine LeO.bind ?_ (fun _ => ?_))
   | exact ih0 _ _ _ _
   | exact LeO.none _
   | refine LeO.ite ?_ ?_
   | refine LeO.bind ?_ (fun _ => ?_)
theorem cmp_Or_int.mono : ∀ a0 k, LeO (cmp_Or_int.f k a0) (cmp_Or_int.f (k + 1) a0) := by
 intro a0 k
 have ih0 := cmp_Or_int.mono_l k
 unfold cmp_Or_int.f
 repeat' first
   | (with_reducible exact ih0 _ _ _ _)
   | (with_reducible exact LeO.refl _)
   | (with_reducible exact LeO.none _)
   | (with_reducible refine LeO.ite ?_ ?_)
   | (with_reducible refine LeO.bind ?_ (fun _ => ?_))
   | exact ih0 _ _ _ _
   | exact LeO.none _
   | refine LeO.ite ?_ ?_
   | refine LeO.bind ?_ (fun _ => ?_)
set_option maxHeartbeats 8000000 in
set_option maxRecDepth 100000 in
theorem cmp_Or_int.calls (k : Nat) (A0 : Option Addr) (c0 : Nat) (l0 : List Int) (r : Int) (w : World) (hr0 : Kd.C (Kd.int .i64) w A0 l0.length l0) (hc0 : l0.length ≤ c0) (h : cmp_Or_int.f k l0 = some r) :
  Calls Try.prog 68 #[.slice A0 l0.length c0] w fun e w' => e = .returned (.int .i64 r) ∧ Drawn0 w w' := by
 have HR0 := Aside0.mk hr0
 have HC0 := Aside0.mk hc0
 clear hr0 hc0
 have H : (cmp_Or_int.l0 k 0 l0 (l0.length : Int) 0) = some r := h
 clear h
 have H' := Aside0.mk H
 clear H
 go_enter Try.func68, Try.ntmps68
 go_wp2
 go_loopg [8] k (fun kq v8 w' => ∃ (x8_1 : Int), v8 = .int .i64 x8_1 ∧ Aside0 (cmp_Or_int.l0 kq 0 l0 (l0.length : Int) x8_1 = some r) ∧ Aside0 (kq ≤ k) ∧ Drawn0 w w')
 case atStart => exact ⟨(0), (by first | rfl | (simp; done) | (simp [*]; done)), H', ⟨Nat.le_refl _⟩, by repeat (first | exact Drawn0.refl _ | apply Drawn0.step)⟩
 case round =>
  clear H'
  obtain ⟨x8_1, rfl, HA, HK1, ⟨m1, rfl⟩⟩ := hrel
  cases gk with
  | zero => exact absurd HA.out (by simp [cmp_Or_int.l0])
  | succ k1 =>
   have H := HA.out
   clear HA
   simp only [cmp_Or_int.l0] at H
   by_cases c2 : x8_1 < (l0.length : Int)
   ·rw [if_pos c2] at H
    have c2b0 : decide (x8_1 < (l0.length : Int)) = true := decide_eq_true c2
    clear c2
    by_cases c3 : 0 ≤ x8_1
    ·rw [if_pos c3] at H
     have c3b0 : decide (0 ≤ x8_1) = true := decide_eq_true c3
     clear c3
     by_cases c4 : x8_1 < (l0.length : Int)
     ·rw [if_pos c4] at H
      have c4b0 : decide (x8_1 < (l0.length : Int)) = true := decide_eq_true c4
      clear c4
      by_cases c5 : (rd l0 x8_1) = 0
      ·rw [if_pos c5] at H
       have c5b0 : ((rd l0 x8_1) == 0) = true := beq_iff_eq.mpr c5
       have c5b1 : ((rd l0 x8_1) != 0) = false := bne_eq_false_iff_eq.mpr c5
       clear c5
       have H' := Aside0.mk H
       clear H
       have p119 : 0 ≤ (x8_1 : Int) := of_decide_eq_true (by first | (with_reducible assumption) | assumption)
       have q119 : x8_1 < (l0.length : Int) := of_decide_eq_true (by first | (with_reducible assumption) | assumption)
       obtain ⟨ad119, e119, hx119_0⟩ := Kd.at_int HR0.out x8_1 p119 q119
       cases e119
       replace p119 := eq_true p119
       replace q119 := eq_true q119
       go_wp2
       go_roundg k1
       case measure => have := HK1.out; omega
       case rel => exact ⟨(wrap64 (x8_1 + 1)), (by first | rfl | (simp; done) | (simp [*]; done)), H', ⟨by have := HK1.out; omega⟩, by repeat (first | exact Drawn0.refl _ | apply Drawn0.step)⟩
      ·rw [if_neg c5] at H
       have c5b0 : ((rd l0 x8_1) == 0) = false := beq_eq_false_iff_ne.mpr c5
       have c5b1 : ((rd l0 x8_1) != 0) = true := bne_iff_ne.mpr c5
       obtain rfl := Option.some.inj H
       have p119 : 0 ≤ (x8_1 : Int) := of_decide_eq_true (by first | (with_reducible assumption) | assumption)
       have q119 : x8_1 < (l0.length : Int) := of_decide_eq_true (by first | (with_reducible assumption) | assumption)
       obtain ⟨ad119, e119, hx119_0⟩ := Kd.at_int HR0.out x8_1 p119 q119
       cases e119
       replace p119 := eq_true p119
       replace q119 := eq_true q119
       go_wp2
       go_ret
       exact ⟨by first | rfl | (simp; done) | (simp [*]; done), by repeat (first | exact Drawn0.refl _ | apply Drawn0.step)⟩
     ·rw [if_neg c4] at H
      exact absurd H (by simp)
    ·rw [if_neg c3] at H
     exact absurd H (by simp)
   ·rw [if_neg c2] at H
    have c2b0 : decide (x8_1 < (l0.length : Int)) = false := decide_eq_false c2
    clear c2
    obtain rfl := Option.some.inj H
    go_wp2
    go_ret
    exact ⟨by first | rfl | (simp; done) | (simp [*]; done), by repeat (first | exact Drawn0.refl _ | apply Drawn0.step)⟩
end
/-! ### cmp_isNaN_int: function 74 -/
def cmp_isNaN_int.f (a0 : Int) : Option (Bool) := some (a0 != a0)
set_option maxHeartbeats 8000000 in
set_option maxRecDepth 100000 in
theorem cmp_isNaN_int.calls (a0 : Int) (r : Bool) (w : World) (h : cmp_isNaN_int.f a0 = some r) :
  Calls Try.prog 74 #[.int .i64 a0] w fun e w' => e = .returned (.bool r) ∧ Drawn0 w w' := by
 have H : (some (a0 != a0)) = some r := h
 clear h
 obtain rfl := Option.some.inj H
 go_enter Try.func74, Try.ntmps74
 go_wp2
 go_ret
 exact ⟨by first | rfl | (simp; done) | (simp [*]; done), by repeat (first | exact Drawn0.refl _ | apply Drawn0.step)⟩
/-! ### cmp_Compare_int: function 69 -/
def cmp_Compare_int.f (a0 : Int) (a1 : Int) : Option (Int) := (cmp_isNaN_int.f a0).bind fun t120 => ((cmp_isNaN_int.f a1).bind fun t121 => (if t120 = true then (if t121 = true then (some 0) else (some (-1))) else (if t121 = true then (some 1) else (if a0 < a1 then (some (-1)) else (if a0 > a1 then (some 1) else (some 0))))))
set_option maxHeartbeats 8000000 in
set_option maxRecDepth 100000 in
theorem cmp_Compare_int.calls (a0 : Int) (a1 : Int) (r : Int) (w : World) (h : cmp_Compare_int.f a0 a1 = some r) :
  Calls Try.prog 69 #[.int .i64 a0, .int .i64 a1] w fun e w' => e = .returned (.int .i64 r) ∧ Drawn0 w w' := by
 have H : ((cmp_isNaN_int.f a0).bind fun t120 => ((cmp_isNaN_int.f a1).bind fun t121 => (if t120 = true then (if t121 = true then (some 0) else (some (-1))) else (if t121 = true then (some 1) else (if a0 < a1 then (some (-1)) else (if a0 > a1 then (some 1) else (some 0))))))) = some r := h
 clear h
 replace H := Option.bind_eq_some_iff.mp H
 obtain ⟨t120, A30, H⟩ := H
 replace H : ((cmp_isNaN_int.f a1).bind fun t121 => (if t120 = true then (if t121 = true then (some 0) else (some (-1))) else (if t121 = true then (some 1) else (if a0 < a1 then (some (-1)) else (if a0 > a1 then (some 1) else (some 0)))))) = some r := H
 have A3 := Aside0.mk A30
 clear A30
 replace H := Option.bind_eq_some_iff.mp H
 obtain ⟨t121, A40, H⟩ := H
 replace H : (if t120 = true then (if t121 = true then (some 0) else (some (-1))) else (if t121 = true then (some 1) else (if a0 < a1 then (some (-1)) else (if a0 > a1 then (some 1) else (some 0))))) = some r := H
 have A4 := Aside0.mk A40
 clear A40
 by_cases c5 : t120 = true
 ·subst c5
  have H1 : (if t121 = true then (some 0) else (some (-1))) = some r := by rw [if_pos rfl] at H; exact H
  clear H
  have H := H1
  clear H1
  by_cases c6 : t121 = true
  ·subst c6
   have H1 : (some 0) = some r := by rw [if_pos rfl] at H; exact H
   clear H
   have H := H1
   clear H1
   obtain rfl := Option.some.inj H
   go_enter Try.func69, Try.ntmps69
   go_wp2_with (first | ((with_reducible refine gate_callee (f := 74) rfl ?_); refine gol (some 8) Try.func74 #[.int .i64 a0] ?_; (with_reducible refine (cmp_isNaN_int.calls a0 true _ A3.out).mono ?_); rintro e w' ⟨rfl, ⟨nd, rfl⟩⟩; refine ⟨_, rfl, ?_⟩) | ((with_reducible refine gate_callee (f := 74) rfl ?_); refine gol (some 10) Try.func74 #[.int .i64 a1] ?_; (with_reducible refine (cmp_isNaN_int.calls a1 true _ A4.out).mono ?_); rintro e w' ⟨rfl, ⟨nd, rfl⟩⟩; refine ⟨_, rfl, ?_⟩))
   go_ret
   exact ⟨by first | rfl | (simp; done) | (simp [*]; done), by repeat (first | exact Drawn0.refl _ | apply Drawn0.step)⟩
  ·replace c6 := Bool.eq_false_iff.mpr c6
   subst c6
   have H1 : (some (-1)) = some r := by rw [if_neg (show ¬ (false = true) by decide)] at H; exact H
   clear H
   have H := H1
   clear H1
   obtain rfl := Option.some.inj H
   go_enter Try.func69, Try.ntmps69
   go_wp2_with (first | ((with_reducible refine gate_callee (f := 74) rfl ?_); refine gol (some 8) Try.func74 #[.int .i64 a0] ?_; (with_reducible refine (cmp_isNaN_int.calls a0 true _ A3.out).mono ?_); rintro e w' ⟨rfl, ⟨nd, rfl⟩⟩; refine ⟨_, rfl, ?_⟩) | ((with_reducible refine gate_callee (f := 74) rfl ?_); refine gol (some 10) Try.func74 #[.int .i64 a1] ?_; (with_reducible refine (cmp_isNaN_int.calls a1 false _ A4.out).mono ?_); rintro e w' ⟨rfl, ⟨nd, rfl⟩⟩; refine ⟨_, rfl, ?_⟩))
   go_ret
   exact ⟨by first | rfl | (simp; done) | (simp [*]; done), by repeat (first | exact Drawn0.refl _ | apply Drawn0.step)⟩
 ·replace c5 := Bool.eq_false_iff.mpr c5
  subst c5
  have H1 : (if t121 = true then (some 1) else (if a0 < a1 then (some (-1)) else (if a0 > a1 then (some 1) else (some 0)))) = some r := by rw [if_neg (show ¬ (false = true) by decide)] at H; exact H
  clear H
  have H := H1
  clear H1
  by_cases c7 : t121 = true
  ·subst c7
   have H1 : (some 1) = some r := by rw [if_pos rfl] at H; exact H
   clear H
   have H := H1
   clear H1
   obtain rfl := Option.some.inj H
   go_enter Try.func69, Try.ntmps69
   go_wp2_with (first | ((with_reducible refine gate_callee (f := 74) rfl ?_); refine gol (some 8) Try.func74 #[.int .i64 a0] ?_; (with_reducible refine (cmp_isNaN_int.calls a0 false _ A3.out).mono ?_); rintro e w' ⟨rfl, ⟨nd, rfl⟩⟩; refine ⟨_, rfl, ?_⟩) | ((with_reducible refine gate_callee (f := 74) rfl ?_); refine gol (some 10) Try.func74 #[.int .i64 a1] ?_; (with_reducible refine (cmp_isNaN_int.calls a1 true _ A4.out).mono ?_); rintro e w' ⟨rfl, ⟨nd, rfl⟩⟩; refine ⟨_, rfl, ?_⟩))
   go_ret
   exact ⟨by first | rfl | (simp; done) | (simp [*]; done), by repeat (first | exact Drawn0.refl _ | apply Drawn0.step)⟩
  ·replace c7 := Bool.eq_false_iff.mpr c7
   subst c7
   have H1 : (if a0 < a1 then (some (-1)) else (if a0 > a1 then (some 1) else (some 0))) = some r := by rw [if_neg (show ¬ (false = true) by decide)] at H; exact H
   clear H
   have H := H1
   clear H1
   by_cases c8 : a0 < a1
   ·rw [if_pos c8] at H
    have c8b0 : decide (a0 < a1) = true := decide_eq_true c8
    clear c8
    obtain rfl := Option.some.inj H
    go_enter Try.func69, Try.ntmps69
    go_wp2_with (first | ((with_reducible refine gate_callee (f := 74) rfl ?_); refine gol (some 8) Try.func74 #[.int .i64 a0] ?_; (with_reducible refine (cmp_isNaN_int.calls a0 false _ A3.out).mono ?_); rintro e w' ⟨rfl, ⟨nd, rfl⟩⟩; refine ⟨_, rfl, ?_⟩) | ((with_reducible refine gate_callee (f := 74) rfl ?_); refine gol (some 10) Try.func74 #[.int .i64 a1] ?_; (with_reducible refine (cmp_isNaN_int.calls a1 false _ A4.out).mono ?_); rintro e w' ⟨rfl, ⟨nd, rfl⟩⟩; refine ⟨_, rfl, ?_⟩))
    go_ret
    exact ⟨by first | rfl | (simp; done) | (simp [*]; done), by repeat (first | exact Drawn0.refl _ | apply Drawn0.step)⟩
   ·rw [if_neg c8] at H
    have c8b0 : decide (a0 < a1) = false := decide_eq_false c8
    clear c8
    by_cases c9 : a0 > a1
    ·rw [if_pos c9] at H
     have c9b0 : decide (a1 < a0) = true := decide_eq_true c9
     clear c9
     obtain rfl := Option.some.inj H
     go_enter Try.func69, Try.ntmps69
     go_wp2_with (first | ((with_reducible refine gate_callee (f := 74) rfl ?_); refine gol (some 8) Try.func74 #[.int .i64 a0] ?_; (with_reducible refine (cmp_isNaN_int.calls a0 false _ A3.out).mono ?_); rintro e w' ⟨rfl, ⟨nd, rfl⟩⟩; refine ⟨_, rfl, ?_⟩) | ((with_reducible refine gate_callee (f := 74) rfl ?_); refine gol (some 10) Try.func74 #[.int .i64 a1] ?_; (with_reducible refine (cmp_isNaN_int.calls a1 false _ A4.out).mono ?_); rintro e w' ⟨rfl, ⟨nd, rfl⟩⟩; refine ⟨_, rfl, ?_⟩))
     go_ret
     exact ⟨by first | rfl | (simp; done) | (simp [*]; done), by repeat (first | exact Drawn0.refl _ | apply Drawn0.step)⟩
    ·rw [if_neg c9] at H
     have c9b0 : decide (a1 < a0) = false := decide_eq_false c9
     clear c9
     obtain rfl := Option.some.inj H
     go_enter Try.func69, Try.ntmps69
     go_wp2_with (first | ((with_reducible refine gate_callee (f := 74) rfl ?_); refine gol (some 8) Try.func74 #[.int .i64 a0] ?_; (with_reducible refine (cmp_isNaN_int.calls a0 false _ A3.out).mono ?_); rintro e w' ⟨rfl, ⟨nd, rfl⟩⟩; refine ⟨_, rfl, ?_⟩) | ((with_reducible refine gate_callee (f := 74) rfl ?_); refine gol (some 10) Try.func74 #[.int .i64 a1] ?_; (with_reducible refine (cmp_isNaN_int.calls a1 false _ A4.out).mono ?_); rintro e w' ⟨rfl, ⟨nd, rfl⟩⟩; refine ⟨_, rfl, ?_⟩))
     go_ret
     exact ⟨by first | rfl | (simp; done) | (simp [*]; done), by repeat (first | exact Drawn0.refl _ | apply Drawn0.step)⟩
/-! ### cmp_isNaN_int64: function 75 -/
def cmp_isNaN_int64.f (a0 : Int) : Option (Bool) := some (a0 != a0)
set_option maxHeartbeats 8000000 in
set_option maxRecDepth 100000 in
theorem cmp_isNaN_int64.calls (a0 : Int) (r : Bool) (w : World) (h : cmp_isNaN_int64.f a0 = some r) :
  Calls Try.prog 75 #[.int .i64 a0] w fun e w' => e = .returned (.bool r) ∧ Drawn0 w w' := by
 have H : (some (a0 != a0)) = some r := h
 clear h
 obtain rfl := Option.some.inj H
 go_enter Try.func75, Try.ntmps75
 go_wp2
 go_ret
 exact ⟨by first | rfl | (simp; done) | (simp [*]; done), by repeat (first | exact Drawn0.refl _ | apply Drawn0.step)⟩
/-! ### cmp_Compare_int64: function 70 -/
def cmp_Compare_int64.f (a0 : Int) (a1 : Int) : Option (Int) := (cmp_isNaN_int64.f a0).bind fun t122 => ((cmp_isNaN_int64.f a1).bind fun t123 => (if t122 = true then (if t123 = true then (some 0) else (some (-1))) else (if t123 = true then (some 1) else (if a0 < a1 then (some (-1)) else (if a0 > a1 then (some 1) else (some 0))))))
set_option maxHeartbeats 8000000 in
set_option maxRecDepth 100000 in
theorem cmp_Compare_int64.calls (a0 : Int) (a1 : Int) (r : Int) (w : World) (h : cmp_Compare_int64.f a0 a1 = some r) :
  Calls Try.prog 70 #[.int .i64 a0, .int .i64 a1] w fun e w' => e = .returned (.int .i64 r) ∧ Drawn0 w w' := by
 have H : ((cmp_isNaN_int64.f a0).bind fun t122 => ((cmp_isNaN_int64.f a1).bind fun t123 => (if t122 = true then (if t123 = true then (some 0) else (some (-1))) else (if t123 = true then (some 1) else (if a0 < a1 then (some (-1)) else (if a0 > a1 then (some 1) else (some 0))))))) = some r := h
 clear h
 replace H := Option.bind_eq_some_iff.mp H
 obtain ⟨t122, A30, H⟩ := H
 replace H : ((cmp_isNaN_int64.f a1).bind fun t123 => (if t122 = true then (if t123 = true then (some 0) else (some (-1))) else (if t123 = true then (some 1) else (if a0 < a1 then (some (-1)) else (if a0 > a1 then (some 1) else (some 0)))))) = some r := H
 have A3 := Aside0.mk A30
 clear A30
 replace H := Option.bind_eq_some_iff.mp H
 obtain ⟨t123, A40, H⟩ := H
 replace H : (if t122 = true then (if t123 = true then (some 0) else (some (-1))) else (if t123 = true then (some 1) else (if a0 < a1 then (some (-1)) else (if a0 > a1 then (some 1) else (some 0))))) = some r := H
 have A4 := Aside0.mk A40
 clear A40
 by_cases c5 : t122 = true
 ·subst c5
  have H1 : (if t123 = true then (some 0) else (some (-1))) = some r := by rw [if_pos rfl] at H; exact H
  clear H
  have H := H1
  clear H1
  by_cases c6 : t123 = true
  ·subst c6
   have H1 : (some 0) = some r := by rw [if_pos rfl] at H; exact H
   clear H
   have H := H1
   clear H1
   obtain rfl := Option.some.inj H
   go_enter Try.func70, Try.ntmps70
   go_wp2_with (first | ((with_reducible refine gate_callee (f := 75) rfl ?_); refine gol (some 8) Try.func75 #[.int .i64 a0] ?_; (with_reducible refine (cmp_isNaN_int64.calls a0 true _ A3.out).mono ?_); rintro e w' ⟨rfl, ⟨nd, rfl⟩⟩; refine ⟨_, rfl, ?_⟩) | ((with_reducible refine gate_callee (f := 75) rfl ?_); refine gol (some 10) Try.func75 #[.int .i64 a1] ?_; (with_reducible refine (cmp_isNaN_int64.calls a1 true _ A4.out).mono ?_); rintro e w' ⟨rfl, ⟨nd, rfl⟩⟩; refine ⟨_, rfl, ?_⟩))
   go_ret
   exact ⟨by first | rfl | (simp; done) | (simp [*]; done), by repeat (first | exact Drawn0.refl _ | apply Drawn0.step)⟩
  ·replace c6 := Bool.eq_false_iff.mpr c6
   subst c6
   have H1 : (some (-1)) = some r := by rw [if_neg (show ¬ (false = true) by decide)] at H; exact H
   clear H
   have H := H1
   clear H1
   obtain rfl := Option.some.inj H
   go_enter Try.func70, Try.ntmps70
   go_wp2_with (first | ((with_reducible refine gate_callee (f := 75) rfl ?_); refine gol (some 8) Try.func75 #[.int .i64 a0] ?_; (with_reducible refine (cmp_isNaN_int64.calls a0 true _ A3.out).mono ?_); rintro e w' ⟨rfl, ⟨nd, rfl⟩⟩; refine ⟨_, rfl, ?_⟩) | ((with_reducible refine gate_callee (f := 75) rfl ?_); refine gol (some 10) Try.func75 #[.int .i64 a1] ?_; (with_reducible refine (cmp_isNaN_int64.calls a1 false _ A4.out).mono ?_); rintro e w' ⟨rfl, ⟨nd, rfl⟩⟩; refine ⟨_, rfl, ?_⟩))
   go_ret
   exact ⟨by first | rfl | (simp; done) | (simp [*]; done), by repeat (first | exact Drawn0.refl _ | apply Drawn0.step)⟩
 ·replace c5 := Bool.eq_false_iff.mpr c5
  subst c5
  have H1 : (if t123 = true then (some 1) else (if a0 < a1 then (some (-1)) else (if a0 > a1 then (some 1) else (some 0)))) = some r := by rw [if_neg (show ¬ (false = true) by decide)] at H; exact H
  clear H
  have H := H1
  clear H1
  by_cases c7 : t123 = true
  ·subst c7
   have H1 : (some 1) = some r := by rw [if_pos rfl] at H; exact H
   clear H
   have H := H1
   clear H1
   obtain rfl := Option.some.inj H
   go_enter Try.func70, Try.ntmps70
   go_wp2_with (first | ((with_reducible refine gate_callee (f := 75) rfl ?_); refine gol (some 8) Try.func75 #[.int .i64 a0] ?_; (with_reducible refine (cmp_isNaN_int64.calls a0 false _ A3.out).mono ?_); rintro e w' ⟨rfl, ⟨nd, rfl⟩⟩; refine ⟨_, rfl, ?_⟩) | ((with_reducible refine gate_callee (f := 75) rfl ?_); refine gol (some 10) Try.func75 #[.int .i64 a1] ?_; (with_reducible refine (cmp_isNaN_int64.calls a1 true _ A4.out).mono ?_); rintro e w' ⟨rfl, ⟨nd, rfl⟩⟩; refine ⟨_, rfl, ?_⟩))
   go_ret
   exact ⟨by first | rfl | (simp; done) | (simp [*]; done), by repeat (first | exact Drawn0.refl _ | apply Drawn0.step)⟩
  ·replace c7 := Bool.eq_false_iff.mpr c7
   subst c7
   have H1 : (if a0 < a1 then (some (-1)) else (if a0 > a1 then (some 1) else (some 0))) = some r := by rw [if_neg (show ¬ (false = true) by decide)] at H; exact H
   clear H
   have H := H1
   clear H1
   by_cases c8 : a0 < a1
   ·rw [if_pos c8] at H
    have c8b0 : decide (a0 < a1) = true := decide_eq_true c8
    clear c8
    obtain rfl := Option.some.inj H
    go_enter Try.func70, Try.ntmps70
    go_wp2_with (first | ((with_reducible refine gate_callee (f := 75) rfl ?_); refine gol (some 8) Try.func75 #[.int .i64 a0] ?_; (with_reducible refine (cmp_isNaN_int64.calls a0 false _ A3.out).mono ?_); rintro e w' ⟨rfl, ⟨nd, rfl⟩⟩; refine ⟨_, rfl, ?_⟩) | ((with_reducible refine gate_callee (f := 75) rfl ?_); refine gol (some 10) Try.func75 #[.int .i64 a1] ?_; (with_reducible refine (cmp_isNaN_int64.calls a1 false _ A4.out).mono ?_); rintro e w' ⟨rfl, ⟨nd, rfl⟩⟩; refine ⟨_, rfl, ?_⟩))
    go_ret
    exact ⟨by first | rfl | (simp; done) | (simp [*]; done), by repeat (first | exact Drawn0.refl _ | apply Drawn0.step)⟩
   ·rw [if_neg c8] at H
    have c8b0 : decide (a0 < a1) = false := decide_eq_false c8
    clear c8
    by_cases c9 : a0 > a1
    ·rw [if_pos c9] at H
     have c9b0 : decide (a1 < a0) = true := decide_eq_true c9
     clear c9
     obtain rfl := Option.some.inj H
     go_enter Try.func70, Try.ntmps70
     go_wp2_with (first | ((with_reducible refine gate_callee (f := 75) rfl ?_); refine gol (some 8) Try.func75 #[.int .i64 a0] ?_; (with_reducible refine (cmp_isNaN_int64.calls a0 false _ A3.out).mono ?_); rintro e w' ⟨rfl, ⟨nd, rfl⟩⟩; refine ⟨_, rfl, ?_⟩) | ((with_reducible refine gate_callee (f := 75) rfl ?_); refine gol (some 10) Try.func75 #[.int .i64 a1] ?_; (with_reducible refine (cmp_isNaN_int64.calls a1 false _ A4.out).mono ?_); rintro e w' ⟨rfl, ⟨nd, rfl⟩⟩; refine ⟨_, rfl, ?_⟩))
     go_ret
     exact ⟨by first | rfl | (simp; done) | (simp [*]; done), by repeat (first | exact Drawn0.refl _ | apply Drawn0.step)⟩
    ·rw [if_neg c9] at H
     have c9b0 : decide (a1 < a0) = false := decide_eq_false c9
     clear c9
     obtain rfl := Option.some.inj H
     go_enter Try.func70, Try.ntmps70
     go_wp2_with (first | ((with_reducible refine gate_callee (f := 75) rfl ?_); refine gol (some 8) Try.func75 #[.int .i64 a0] ?_; (with_reducible refine (cmp_isNaN_int64.calls a0 false _ A3.out).mono ?_); rintro e w' ⟨rfl, ⟨nd, rfl⟩⟩; refine ⟨_, rfl, ?_⟩) | ((with_reducible refine gate_callee (f := 75) rfl ?_); refine gol (some 10) Try.func75 #[.int .i64 a1] ?_; (with_reducible refine (cmp_isNaN_int64.calls a1 false _ A4.out).mono ?_); rintro e w' ⟨rfl, ⟨nd, rfl⟩⟩; refine ⟨_, rfl, ?_⟩))
     go_ret
     exact ⟨by first | rfl | (simp; done) | (simp [*]; done), by repeat (first | exact Drawn0.refl _ | apply Drawn0.step)⟩
/-! ### cut_Compare: function 61 -/
def cut_Compare.f (k : Nat) (a0_0 : Int) (a0_1 : Int) (a1_0 : Int) (a1_1 : Int) : Option (Int) := (cut_Canon.f k a0_0 a0_1).bind fun bt126 => ((cut_Canon.f k a1_0 a1_1).bind fun bt128 => ((cmp_Compare_int.f bt126.1 bt128.1).bind fun t130 => ((cmp_Compare_int64.f bt126.2 bt128.2).bind fun t131 => ((cmp_Or_int.f k (([t130, t131] : List Int))).bind fun t135 => (some t135)))))
theorem cut_Compare.mono : ∀ a0 a1 a2 a3 k, LeO (cut_Compare.f k a0 a1 a2 a3) (cut_Compare.f (k + 1) a0 a1 a2 a3) := by
 intro a0 a1 a2 a3 k
 unfold cut_Compare.f
 repeat' first
   | (with_reducible exact cmp_Or_int.mono _ _)
   | (with_reducible exact cut_Canon.mono _ _ _)
   | (with_reducible exact LeO.refl _)
   | (with_reducible exact LeO.none _)
   | (with_reducible refine LeO.ite ?_ ?_)
   | (with_reducible refine LeO.bind ?_ (fun _ => ?_))
   | exact cmp_Or_int.mono _ _
   | exact cut_Canon.mono _ _ _
   | exact LeO.none _
   | refine LeO.ite ?_ ?_
   | refine LeO.bind ?_ (fun _ => ?_)
def cut_Compare.T2 : Bool × List (List Nat × List Nat) := (true, [([], []), ([0], [0]), ([], []), ([2], [2]), ([1, 3], [1, 3]), ([], []), ([5], [5]), ([], []), ([7], [7]), ([6, 8, 4], [6, 8]), ([4, 9], [4, 9]), ([10, 9], [10]), ([11, 11, 0, 1, 2, 3, 4, 5, 6, 7, 8, 9, 10, 11], [11])])
def cut_Compare.B2 : List Nat := [0, 1, 0, 4, 15, 0, 32, 0, 128, 511, 1023, 2047, 4095]
theorem cut_Compare.tab2 : rtab .any (opsOf Try.f61 2) = cut_Compare.T2 := by kernel_rfl
theorem cut_Compare.bits2 : waitsOk cut_Compare.T2.2 cut_Compare.B2 = true := by kernel_rfl
set_option maxHeartbeats 8000000 in
set_option maxRecDepth 100000 in
theorem cut_Compare.calls (k : Nat) (a0_0 : Int) (a0_1 : Int) (a1_0 : Int) (a1_1 : Int) (r : Int) (w : World) (h : cut_Compare.f k a0_0 a0_1 a1_0 a1_1 = some r) :
  Calls Try.prog 61 #[.agg #[.int .i64 a0_0, .int .i64 a0_1], .agg #[.int .i64 a1_0, .int .i64 a1_1]] w fun e w' => e = .returned (.int .i64 r) ∧ Below w.heap.size w w' := by
 have hu25 := Try.underlying25
 have HB := Aside0.mk (Below.refl w.heap.size w)
 have H : ((cut_Canon.f k a0_0 a0_1).bind fun bt126 => ((cut_Canon.f k a1_0 a1_1).bind fun bt128 => ((cmp_Compare_int.f bt126.1 bt128.1).bind fun t130 => ((cmp_Compare_int64.f bt126.2 bt128.2).bind fun t131 => ((cmp_Or_int.f k (([t130, t131] : List Int))).bind fun t135 => (some t135)))))) = some r := h
 clear h
 replace H := Option.bind_eq_some_iff.mp H
 obtain ⟨⟨t126, t127⟩, A30, H⟩ := H
 replace H : ((cut_Canon.f k a1_0 a1_1).bind fun bt128 => ((cmp_Compare_int.f t126 bt128.1).bind fun t130 => ((cmp_Compare_int64.f t127 bt128.2).bind fun t131 => ((cmp_Or_int.f k (([t130, t131] : List Int))).bind fun t135 => (some t135))))) = some r := H
 have A3 := Aside0.mk A30
 clear A30
 replace H := Option.bind_eq_some_iff.mp H
 obtain ⟨⟨t128, t129⟩, A40, H⟩ := H
 replace H : ((cmp_Compare_int.f t126 t128).bind fun t130 => ((cmp_Compare_int64.f t127 t129).bind fun t131 => ((cmp_Or_int.f k (([t130, t131] : List Int))).bind fun t135 => (some t135)))) = some r := H
 have A4 := Aside0.mk A40
 clear A40
 replace H := Option.bind_eq_some_iff.mp H
 obtain ⟨t130, A50, H⟩ := H
 replace H : ((cmp_Compare_int64.f t127 t129).bind fun t131 => ((cmp_Or_int.f k (([t130, t131] : List Int))).bind fun t135 => (some t135))) = some r := H
 have A5 := Aside0.mk A50
 clear A50
 replace H := Option.bind_eq_some_iff.mp H
 obtain ⟨t131, A60, H⟩ := H
 replace H : ((cmp_Or_int.f k (([t130, t131] : List Int))).bind fun t135 => (some t135)) = some r := H
 have A6 := Aside0.mk A60
 clear A60
 obtain ⟨y132, hy132⟩ : ∃ y_ : List Int, y_ = (([t130, t131] : List Int)) := ⟨_, rfl⟩
 replace H : ((cmp_Or_int.f k y132).bind fun t135 => (some t135)) = some r := by first | (rw [hy132]; with_reducible exact H) | (have H2_ := (Option.bind_some _ _).symm.trans H; rw [hy132]; with_reducible exact H2_) | (have H2_ := (Option.bind_some _ _).symm.trans H; with_reducible exact H2_) | with_reducible exact H | (rw [hy132]; exact H) | exact H
 have Ny132 := Aside0.mk hy132
 clear hy132
 replace H := Option.bind_eq_some_iff.mp H
 obtain ⟨t135, A70, H⟩ := H
 replace H : (some t135) = some r := H
 have A7 := Aside0.mk A70
 clear A70
 obtain rfl := Option.some.inj H
 go_enter Try.func61, Try.ntmps61
 try go_wp2_with (first | ((with_reducible refine gate_dst (N := 2) rfl ?_); refine bxe (N := 2) (cs := #[.int .i64 a0_0, .int .i64 a0_1]) (t := 25) ?_; intro gb124 hg w8 hbox hb; have BK124 := Aside0.mk (hbox); have GW124 := lsz hg HB; have GE124 := lsz hg HB; replace HB := bst HB hb; clear hb hbox hg) | ((with_reducible refine gate_dst (N := 3) rfl ?_); refine bxe (N := 3) (cs := #[.int .i64 a1_0, .int .i64 a1_1]) (t := 25) ?_; intro gb125 hg w9 hbox hb; have BK125 := Aside0.mk (hbox); have GW125 := lsz hg HB; have GE125 := lsz hg HB; replace HB := bst HB hb; have NB124_125 := nlt hg BK124; have NB125_124 := ngt hg BK124; replace BK124 := bkb BK124 hb; clear hb hbox hg))
 replace BK124 := Aside0.mk (blk_drew BK124.out)
 replace BK125 := Aside0.mk (blk_drew BK125.out)
 replace HB := Aside0.mk (below_drew1 HB.out)
 refine start_ (n := 6) (S := fun w' => w'.cell? ⟨gb124, 0, none⟩ = some (.int .i64 a0_0) ∧ w'.cell? ⟨gb124, 1, none⟩ = some (.int .i64 a0_1) ∧ w'.cell? ⟨gb125, 0, none⟩ = some (.int .i64 a1_0) ∧ w'.cell? ⟨gb125, 1, none⟩ = some (.int .i64 a1_1)) (ds := [4, 5]) #[false, false, false, false, false, false] (by kernel_rfl) rfl rfl (c2 BK124 (e2 BK125)) (fun hHeld => ?_)
 generalize w9.drew = w10 at BK124 BK125 HB hHeld ⊢
 refine tk4 0 (some 5) #[true, false, false, false, false, false] (by kernel_rfl) hHeld ?_
 refine tk4 2 (some 7) #[true, false, true, false, false, false] (by kernel_rfl) hHeld ?_
 refine one_ (i := 1) (N := some 6) #[true, true, true, false, false, false] rfl rfl (by kernel_rfl) (by decide) (fun K hK => ?_)
 refine goes_ Try.func53 (by kernel_rfl) rfl #[.agg #[.int .i64 a0_0, .int .i64 a0_1]] (by rfl) rfl rfl (by (try simp only [List.map_toArray, List.map_cons, List.map_nil]); first | done | rfl | (simp only [List.length_drop, List.length_take]; rfl)) ?_
 with_reducible refine (cut_Canon.calls k a0_0 a0_1 t126 t127 _ A3.out).mono ?_
 rintro e w11 ⟨rfl, hb⟩
 refine ⟨_, rfl, ?_⟩
 replace BK124 := bkb BK124 hb
 replace BK125 := bkb BK125 hb
 replace HB := bst HB hb
 (try clear hb)
 refine hK.out _ _ (c2 BK124 (e2 BK125)) (fun hHeld => ?_)
 clear hK K
 refine nrp 6 ?_
 refine one_ (i := 3) (N := some 8) #[true, true, true, true, false, false] rfl rfl (by kernel_rfl) (by decide) (fun K hK => ?_)
 refine goes_ Try.func53 (by kernel_rfl) rfl #[.agg #[.int .i64 a1_0, .int .i64 a1_1]] (by rfl) rfl rfl (by (try simp only [List.map_toArray, List.map_cons, List.map_nil]); first | done | rfl | (simp only [List.length_drop, List.length_take]; rfl)) ?_
 with_reducible refine (cut_Canon.calls k a1_0 a1_1 t128 t129 _ A4.out).mono ?_
 rintro e w12 ⟨rfl, hb⟩
 refine ⟨_, rfl, ?_⟩
 replace BK124 := bkb BK124 hb
 replace BK125 := bkb BK125 hb
 replace HB := bst HB hb
 (try clear hb)
 refine hK.out _ _ (c2 BK124 (e2 BK125)) (fun hHeld => ?_)
 clear hK K
 refine nrp 8 ?_
 refine last_ (i := 4) (N := none) #[true, true, true, true, true, false] rfl rfl (by kernel_rfl) (by decide) (fun K hK => ?_)
 have hs13 : w12.cell? ⟨gb124, 0, none⟩ = some (.int .i64 a0_0) := (blk_cell BK124.out 0).trans rfl
 have hfs13 := blk_frozen BK124.out 0
 have hns13_1 := NB125_124.out
 have hms13_1 := NB124_125.out
 have hs14 : w12.cell? ⟨gb124, 1, none⟩ = some (.int .i64 a0_1) := (blk_cell BK124.out 1).trans rfl
 have hfs14 := blk_frozen BK124.out 1
 have hns14_1 := NB125_124.out
 have hms14_1 := NB124_125.out
 refine skip_ (w1 := ?_) (by rfl) rfl ?_ ?_
 rotate_left
 ·go_simp
  rfl
 refine hK.out _ _ ?_
 clear hK K
 refine last_ (i := 5) (N := none) #[true, true, true, true, true, true] rfl rfl (by kernel_rfl) (by decide) (fun K hK => ?_)
 have hs15 : w12.cell? ⟨gb125, 0, none⟩ = some (.int .i64 a1_0) := (blk_cell BK125.out 0).trans rfl
 have hfs15 := blk_frozen BK125.out 0
 have hns15_0 := NB124_125.out
 have hms15_0 := NB125_124.out
 have hs16 : w12.cell? ⟨gb125, 1, none⟩ = some (.int .i64 a1_1) := (blk_cell BK125.out 1).trans rfl
 have hfs16 := blk_frozen BK125.out 1
 have hns16_0 := NB124_125.out
 have hms16_0 := NB125_124.out
 refine skip_ (w1 := ?_) (by rfl) rfl ?_ ?_
 rotate_left
 ·go_simp
  rfl
 refine hK.out _ _ ?_
 clear hK K
 refine done_ (by kernel_rfl) ?_
 try go_wp2
 have n0_ : Aside0 (((((w12.setCell ⟨gb124, 0, none⟩ (.int .i64 t126)).setCell ⟨gb124, 1, none⟩ (.int .i64 t127)).setCell ⟨gb125, 0, none⟩ (.int .i64 t128)).setCell ⟨gb125, 1, none⟩ (.int .i64 t129)).heap[gb124]? = some (.cells #[.int .i64 t126, .int .i64 t127] 25 (0, 0))) := ⟨by (with_reducible repeat (first | refine blk_drewN ?_ _ | refine blk_drew ?_ | refine blk_alloc ?_ _)); refine blk_far ?_ NB124_125.out _; (with_reducible repeat (first | refine blk_drewN ?_ _ | refine blk_drew ?_ | refine blk_alloc ?_ _)); refine blk_far ?_ NB124_125.out _; (with_reducible repeat (first | refine blk_drewN ?_ _ | refine blk_drew ?_ | refine blk_alloc ?_ _)); refine blk_put (cs := #[.int .i64 t126, .int .i64 a0_1]) ?_ 1 _ rfl; (with_reducible repeat (first | refine blk_drewN ?_ _ | refine blk_drew ?_ | refine blk_alloc ?_ _)); refine blk_put (cs := #[.int .i64 a0_0, .int .i64 a0_1]) ?_ 0 _ rfl; (with_reducible repeat (first | refine blk_drewN ?_ _ | refine blk_drew ?_ | refine blk_alloc ?_ _)); exact BK124.out⟩
 have n1_ : Aside0 (((((w12.setCell ⟨gb124, 0, none⟩ (.int .i64 t126)).setCell ⟨gb124, 1, none⟩ (.int .i64 t127)).setCell ⟨gb125, 0, none⟩ (.int .i64 t128)).setCell ⟨gb125, 1, none⟩ (.int .i64 t129)).heap[gb125]? = some (.cells #[.int .i64 t128, .int .i64 t129] 25 (0, 0))) := ⟨by (with_reducible repeat (first | refine blk_drewN ?_ _ | refine blk_drew ?_ | refine blk_alloc ?_ _)); refine blk_put (cs := #[.int .i64 t128, .int .i64 a1_1]) ?_ 1 _ rfl; (with_reducible repeat (first | refine blk_drewN ?_ _ | refine blk_drew ?_ | refine blk_alloc ?_ _)); refine blk_put (cs := #[.int .i64 a1_0, .int .i64 a1_1]) ?_ 0 _ rfl; (with_reducible repeat (first | refine blk_drewN ?_ _ | refine blk_drew ?_ | refine blk_alloc ?_ _)); refine blk_far ?_ NB125_124.out _; (with_reducible repeat (first | refine blk_drewN ?_ _ | refine blk_drew ?_ | refine blk_alloc ?_ _)); refine blk_far ?_ NB125_124.out _; (with_reducible repeat (first | refine blk_drewN ?_ _ | refine blk_drew ?_ | refine blk_alloc ?_ _)); exact BK125.out⟩
 have n2_ : Aside0 (Below w.heap.size w ((((w12.setCell ⟨gb124, 0, none⟩ (.int .i64 t126)).setCell ⟨gb124, 1, none⟩ (.int .i64 t127)).setCell ⟨gb125, 0, none⟩ (.int .i64 t128)).setCell ⟨gb125, 1, none⟩ (.int .i64 t129))) := ⟨bl HB⟩
 (try clear BK124)
 (try clear BK125)
 (try clear HB)
 generalize ((((w12.setCell ⟨gb124, 0, none⟩ (.int .i64 t126)).setCell ⟨gb124, 1, none⟩ (.int .i64 t127)).setCell ⟨gb125, 0, none⟩ (.int .i64 t128)).setCell ⟨gb125, 1, none⟩ (.int .i64 t129)) = w17 at n0_ n1_ n2_ ⊢
 have BK124 := n0_
 have BK125 := n1_
 have HB := n2_
 clear n0_ n1_ n2_
 replace BK124 := Aside0.mk (blk_drew BK124.out)
 replace BK125 := Aside0.mk (blk_drew BK125.out)
 replace HB := Aside0.mk (below_drew1 HB.out)
 refine start_ (n := 13) (S := fun w' => w'.cell? ⟨gb124, 0, none⟩ = some (.int .i64 t126) ∧ w'.cell? ⟨gb124, 1, none⟩ = some (.int .i64 t127) ∧ w'.cell? ⟨gb125, 0, none⟩ = some (.int .i64 t128) ∧ w'.cell? ⟨gb125, 1, none⟩ = some (.int .i64 t129)) (ds := []) #[false, false, false, false, false, false, false, false, false, false, false, false, false] (by kernel_rfl) rfl rfl (c2 BK124 (e2 BK125)) (fun hHeld => ?_); refine with_tabW cut_Compare.tab2 cut_Compare.bits2 (fun HT_ HW_ => ?_)
 generalize w17.drew = w18 at BK124 BK125 HB hHeld ⊢
 refine pw 0 9 HT_ ?_; refine pw 2 11 HT_ ?_; refine pw 5 14 HT_ ?_; refine pw 7 16 HT_ ?_; refine tw4 1 10 HT_ HW_ hHeld ?_; refine tw4 3 12 HT_ HW_ hHeld ?_; refine tw4 6 15 HT_ HW_ hHeld ?_; refine tw4 8 17 HT_ HW_ hHeld ?_
 refine one_ (i := 4) (N := some 13) #[true, true, true, true, true, true, true, true, true, false, false, false, false] rfl rfl (one_of HT_.out (by kernel_rfl)) (by decide) (fun K hK => ?_)
 refine goes_ Try.func69 (by kernel_rfl) rfl #[.int .i64 t126, .int .i64 t128] (by rfl) rfl rfl (by (try simp only [List.map_toArray, List.map_cons, List.map_nil]); first | done | rfl | (simp only [List.length_drop, List.length_take]; rfl)) ?_
 with_reducible refine (cmp_Compare_int.calls t126 t128 t130 _ A5.out).mono ?_
 rintro e w' ⟨rfl, ⟨nd, rfl⟩⟩
 refine ⟨_, rfl, ?_⟩
 refine hK.out _ _ (c2 BK124 (e2 BK125)) (fun hHeld => ?_)
 clear hK K
 refine nrp 13 ?_
 refine one_ (i := 9) (N := some 18) #[true, true, true, true, true, true, true, true, true, true, false, false, false] rfl rfl (one_of HT_.out (by kernel_rfl)) (by decide) (fun K hK => ?_)
 refine goes_ Try.func70 (by kernel_rfl) rfl #[.int .i64 t127, .int .i64 t129] (by rfl) rfl rfl (by (try simp only [List.map_toArray, List.map_cons, List.map_nil]); first | done | rfl | (simp only [List.length_drop, List.length_take]; rfl)) ?_
 with_reducible refine (cmp_Compare_int64.calls t127 t129 t131 _ A6.out).mono ?_
 rintro e w' ⟨rfl, ⟨nd, rfl⟩⟩
 refine ⟨_, rfl, ?_⟩
 refine hK.out _ _ (c2 BK124 (e2 BK125)) (fun hHeld => ?_)
 clear hK K
 refine nrp 18 ?_
 refine one_ (i := 10) (N := some 19) #[true, true, true, true, true, true, true, true, true, true, true, false, false] rfl rfl (one_of HT_.out (by kernel_rfl)) (by decide) (fun K hK => ?_)
 refine Kd.R_lit_step (Kd.int .i64) _ 3 ?hg (N := 19) ?hd (xs := ([t130, t131] : List Int)) (inner := [.int .i64 t130, .int .i64 t131]) (ok := fun _ => True) (okp := fun _ => True) ?hr ?hp (fun _ hk => hk) trivial (Below.refl _ _) (Nat.le_refl _) (by simp) ?_; (case hd => rfl); (case hg => rfl); (case hr => first | (go_simp; done) | (go_simp; rfl)); (case hp => exact (Reps.one (show Kd.M (Kd.int .i64) _ _ _ t130 [.int .i64 t130] from rfl) (Reps.one (show Kd.M (Kd.int .i64) _ _ _ t131 [.int .i64 t131] from rfl) (Reps.none _ _))))
 intro v133 w19 ho20 hb hg_ hnew_
 clear hg_ hnew_
 (first | rw [← Ny132.out] at ho20 | (simp only [Int.reduceToNat] at ho20; rw [← Ny132.out] at ho20))
 have HO134 := Aside0.mk (Kd.R_lower ho20 (below_size (bl HB)))
 replace BK124 := bkb BK124 hb
 replace BK125 := bkb BK125 hb
 replace HB := bst HB hb
 clear hb ho20
 obtain ⟨Ao21, co21, eo21⟩ := Kd.R_slice HO134.out
 (first | subst eo21 | (injection eo21 with f1_ f2_ f3_; have f4_ := f1_.symm; have f5_ := f3_.symm; clear f1_ f2_ f3_; subst f4_; subst f5_))
 refine hK.out _ _ (c2 BK124 (e2 BK125)) (fun hHeld => ?_)
 clear hK K
 refine nrp 19 ?_
 refine one_ (i := 11) (N := some 20) #[true, true, true, true, true, true, true, true, true, true, true, true, false] rfl rfl (one_of HT_.out (by kernel_rfl)) (by decide) (fun K hK => ?_)
 refine goes_ Try.func68 (by kernel_rfl) rfl #[.slice Ao21 y132.length co21] (by rfl) rfl rfl (by (try simp only [List.map_toArray, List.map_cons, List.map_nil]); first | done | rfl | (simp only [List.length_drop, List.length_take]; rfl)) ?_
 with_reducible refine (cmp_Or_int.calls k _ _ y132 t135 _ ?side1 ?side2 A7.out).mono ?_
 (case side1 => repeat (first | exact (Kd.R_reads' HO134.out).2.2 | (with_reducible refine Kd.C_alloc ?_ _) | (with_reducible refine Kd.C_drewN ?_ _) | (with_reducible refine Kd.C_drew ?_)))
 (case side2 => exact (Kd.R_reads' HO134.out).2.1)
 rintro e w' ⟨rfl, ⟨nd, rfl⟩⟩
 refine ⟨_, rfl, ?_⟩
 refine hK.out _ _ (c2 BK124 (e2 BK125)) (fun hHeld => ?_)
 clear hK K
 refine nrp 20 ?_
 refine pw 12 4 HT_ ?_
 refine done_ (done_of HT_.out (by kernel_rfl)) ?_
 try go_wp2
 go_ret
 exact endB HB
/-! ### span_Right: function 46 -/
def span_Right.f (k : Nat) (a0_0 : Int) (a0_1 : Int) (a0_2 : Int) (a0_3 : Int) : Option (Bool) := (cut_Right.f k a0_0 a0_1).bind fun t137 => (if t137 = true then ((cut_Right.f k a0_2 a0_3).bind fun t138 => (if t138 = true then ((cut_Compare.f k a0_0 a0_1 a0_2 a0_3).bind fun t139 => (some (decide (t139 < 0)))) else (some false))) else (some false))
theorem span_Right.mono : ∀ a0 a1 a2 a3 k, LeO (span_Right.f k a0 a1 a2 a3) (span_Right.f (k + 1) a0 a1 a2 a3) := by
 intro a0 a1 a2 a3 k
 unfold span_Right.f
 repeat' first
   | (with_reducible exact cut_Compare.mono _ _ _ _ _)
   | (with_reducible exact cut_Right.mono _ _ _)
   | (with_reducible exact LeO.refl _)
   | (with_reducible exact LeO.none _)
   | (with_reducible refine LeO.ite ?_ ?_)
   | (with_reducible refine LeO.bind ?_ (fun _ => ?_))
   | exact cut_Compare.mono _ _ _ _ _
   | exact cut_Right.mono _ _ _
   | exact LeO.none _
   | refine LeO.ite ?_ ?_
   | refine LeO.bind ?_ (fun _ => ?_)
set_option maxHeartbeats 8000000 in
set_option maxRecDepth 100000 in
theorem span_Right.calls (k : Nat) (a0_0 : Int) (a0_1 : Int) (a0_2 : Int) (a0_3 : Int) (r : Bool) (w : World) (h : span_Right.f k a0_0 a0_1 a0_2 a0_3 = some r) :
  Calls Try.prog 46 #[.agg #[.int .i64 a0_0, .int .i64 a0_1, .int .i64 a0_2, .int .i64 a0_3]] w fun e w' => e = .returned (.bool r) ∧ Below w.heap.size w w' := by
 have hu27 := Try.underlying27
 have hu25 := Try.underlying25
 have HB := Aside0.mk (Below.refl w.heap.size w)
 have H : ((cut_Right.f k a0_0 a0_1).bind fun t137 => (if t137 = true then ((cut_Right.f k a0_2 a0_3).bind fun t138 => (if t138 = true then ((cut_Compare.f k a0_0 a0_1 a0_2 a0_3).bind fun t139 => (some (decide (t139 < 0)))) else (some false))) else (some false))) = some r := h
 clear h
 replace H := Option.bind_eq_some_iff.mp H
 obtain ⟨t137, A20, H⟩ := H
 replace H : (if t137 = true then ((cut_Right.f k a0_2 a0_3).bind fun t138 => (if t138 = true then ((cut_Compare.f k a0_0 a0_1 a0_2 a0_3).bind fun t139 => (some (decide (t139 < 0)))) else (some false))) else (some false)) = some r := H
 have A2 := Aside0.mk A20
 clear A20
 by_cases c3 : t137 = true
 ·subst c3
  have H1 : ((cut_Right.f k a0_2 a0_3).bind fun t138 => (if t138 = true then ((cut_Compare.f k a0_0 a0_1 a0_2 a0_3).bind fun t139 => (some (decide (t139 < 0)))) else (some false))) = some r := by rw [if_pos rfl] at H; exact H
  clear H
  have H := H1
  clear H1
  replace H := Option.bind_eq_some_iff.mp H
  obtain ⟨t138, A40, H⟩ := H
  replace H : (if t138 = true then ((cut_Compare.f k a0_0 a0_1 a0_2 a0_3).bind fun t139 => (some (decide (t139 < 0)))) else (some false)) = some r := H
  have A4 := Aside0.mk A40
  clear A40
  by_cases c5 : t138 = true
  ·subst c5
   have H1 : ((cut_Compare.f k a0_0 a0_1 a0_2 a0_3).bind fun t139 => (some (decide (t139 < 0)))) = some r := by rw [if_pos rfl] at H; exact H
   clear H
   have H := H1
   clear H1
   replace H := Option.bind_eq_some_iff.mp H
   obtain ⟨t139, A60, H⟩ := H
   replace H : (some (decide (t139 < 0))) = some r := H
   have A6 := Aside0.mk A60
   clear A60
   obtain rfl := Option.some.inj H
   go_enter Try.func46, Try.ntmps46
   go_wp2_with (first | ((with_reducible refine gate_dst (N := 1) rfl ?_); refine bxe (N := 1) (cs := #[.int .i64 a0_0, .int .i64 a0_1, .int .i64 a0_2, .int .i64 a0_3]) (t := 27) ?_; intro gb136 hg w7 hbox hb; have BK136 := Aside0.mk (hbox); have GW136 := lsz hg HB; have GE136 := lsz hg HB; replace HB := bst HB hb; clear hb hbox hg; obtain ⟨hcz8_0, hcz8_1, hcz8_2, hcz8_3⟩ := e4 BK136; obtain ⟨hfz8_0, hfz8_1, hfz8_2, hfz8_3⟩ := f4 BK136) | ((with_reducible refine gate_callee (f := 60) rfl ?_); refine gol (some 5) Try.func60 #[.agg #[.int .i64 a0_0, .int .i64 a0_1]] ?_; (with_reducible refine (cut_Right.calls k a0_0 a0_1 true _ A2.out).mono ?_); rintro e w9 ⟨rfl, hb⟩; refine ⟨_, rfl, ?_⟩; replace BK136 := bkb BK136 hb; replace HB := bst HB hb; (try clear hb); (try clear hb2); (try clear hk); (try clear hi); obtain ⟨hcz10_0, hcz10_1, hcz10_2, hcz10_3⟩ := e4 BK136; obtain ⟨hfz10_0, hfz10_1, hfz10_2, hfz10_3⟩ := f4 BK136) | (go_at_call 60; (with_reducible refine (cut_Right.calls k a0_2 a0_3 true _ A4.out).mono ?_); rintro e w11 ⟨rfl, hb⟩; replace BK136 := bkb BK136 hb; replace HB := bst HB hb; (try clear hb); (try clear hb2); (try clear hk); (try clear hi); obtain ⟨hcz12_0, hcz12_1, hcz12_2, hcz12_3⟩ := e4 BK136; obtain ⟨hfz12_0, hfz12_1, hfz12_2, hfz12_3⟩ := f4 BK136) | (go_at_call 61; (with_reducible refine (cut_Compare.calls k a0_0 a0_1 a0_2 a0_3 t139 _ A6.out).mono ?_); rintro e w13 ⟨rfl, hb⟩; replace BK136 := bkb BK136 hb; replace HB := bst HB hb; (try clear hb); (try clear hb2); (try clear hk); (try clear hi)))
   go_ret
   exact endB HB
  ·replace c5 := Bool.eq_false_iff.mpr c5
   subst c5
   have H1 : (some false) = some r := by rw [if_neg (show ¬ (false = true) by decide)] at H; exact H
   clear H
   have H := H1
   clear H1
   obtain rfl := Option.some.inj H
   go_enter Try.func46, Try.ntmps46
   go_wp2_with (first | ((with_reducible refine gate_dst (N := 1) rfl ?_); refine bxe (N := 1) (cs := #[.int .i64 a0_0, .int .i64 a0_1, .int .i64 a0_2, .int .i64 a0_3]) (t := 27) ?_; intro gb136 hg w14 hbox hb; have BK136 := Aside0.mk (hbox); have GW136 := lsz hg HB; have GE136 := lsz hg HB; replace HB := bst HB hb; clear hb hbox hg; obtain ⟨hcz15_0, hcz15_1, hcz15_2, hcz15_3⟩ := e4 BK136; obtain ⟨hfz15_0, hfz15_1, hfz15_2, hfz15_3⟩ := f4 BK136) | ((with_reducible refine gate_callee (f := 60) rfl ?_); refine gol (some 5) Try.func60 #[.agg #[.int .i64 a0_0, .int .i64 a0_1]] ?_; (with_reducible refine (cut_Right.calls k a0_0 a0_1 true _ A2.out).mono ?_); rintro e w16 ⟨rfl, hb⟩; refine ⟨_, rfl, ?_⟩; replace BK136 := bkb BK136 hb; replace HB := bst HB hb; (try clear hb); (try clear hb2); (try clear hk); (try clear hi); obtain ⟨hcz17_0, hcz17_1, hcz17_2, hcz17_3⟩ := e4 BK136; obtain ⟨hfz17_0, hfz17_1, hfz17_2, hfz17_3⟩ := f4 BK136) | (go_at_call 60; (with_reducible refine (cut_Right.calls k a0_2 a0_3 false _ A4.out).mono ?_); rintro e w18 ⟨rfl, hb⟩; replace BK136 := bkb BK136 hb; replace HB := bst HB hb; (try clear hb); (try clear hb2); (try clear hk); (try clear hi)))
   go_ret
   exact endB HB
 ·replace c3 := Bool.eq_false_iff.mpr c3
  subst c3
  have H1 : (some false) = some r := by rw [if_neg (show ¬ (false = true) by decide)] at H; exact H
  clear H
  have H := H1
  clear H1
  obtain rfl := Option.some.inj H
  go_enter Try.func46, Try.ntmps46
  go_wp2_with (first | ((with_reducible refine gate_dst (N := 1) rfl ?_); refine bxe (N := 1) (cs := #[.int .i64 a0_0, .int .i64 a0_1, .int .i64 a0_2, .int .i64 a0_3]) (t := 27) ?_; intro gb136 hg w19 hbox hb; have BK136 := Aside0.mk (hbox); have GW136 := lsz hg HB; have GE136 := lsz hg HB; replace HB := bst HB hb; clear hb hbox hg; obtain ⟨hcz20_0, hcz20_1, hcz20_2, hcz20_3⟩ := e4 BK136; obtain ⟨hfz20_0, hfz20_1, hfz20_2, hfz20_3⟩ := f4 BK136) | ((with_reducible refine gate_callee (f := 60) rfl ?_); refine gol (some 5) Try.func60 #[.agg #[.int .i64 a0_0, .int .i64 a0_1]] ?_; (with_reducible refine (cut_Right.calls k a0_0 a0_1 false _ A2.out).mono ?_); rintro e w21 ⟨rfl, hb⟩; refine ⟨_, rfl, ?_⟩; replace BK136 := bkb BK136 hb; replace HB := bst HB hb; (try clear hb); (try clear hb2); (try clear hk); (try clear hi)))
  go_ret
  exact endB HB
/-! ### span_Of: function 33 -/
def span_Of.f (k : Nat) (a0_0 : Int) (a0_1 : Int) (a1_0 : Int) (a1_1 : Int) : Option (Int × Int × Int × Int × Int) := (cut_Canon.f k a0_0 a0_1).bind fun bt143 => ((cut_Canon.f k a1_0 a1_1).bind fun bt145 => ((span_Right.f k bt143.1 bt143.2 bt145.1 bt145.2).bind fun t148 => (if t148 = true then (some (bt143.1, bt143.2, bt145.1, bt145.2, 0)) else (some (0, 0, 0, 0, 30)))))
theorem span_Of.mono : ∀ a0 a1 a2 a3 k, LeO (span_Of.f k a0 a1 a2 a3) (span_Of.f (k + 1) a0 a1 a2 a3) := by
 intro a0 a1 a2 a3 k
 unfold span_Of.f
 repeat' first
   | (with_reducible exact cut_Canon.mono _ _ _)
   | (with_reducible exact span_Right.mono _ _ _ _ _)
   | (with_reducible exact LeO.refl _)
   | (with_reducible exact LeO.none _)
   | (with_reducible refine LeO.ite ?_ ?_)
   | (with_reducible refine LeO.bind ?_ (fun _ => ?_))
   | exact cut_Canon.mono _ _ _
   | exact span_Right.mono _ _ _ _ _
   | exact LeO.none _
   | refine LeO.ite ?_ ?_
   | refine LeO.bind ?_ (fun _ => ?_)
set_option maxHeartbeats 8000000 in
set_option maxRecDepth 100000 in
theorem span_Of.calls (k : Nat) (a0_0 : Int) (a0_1 : Int) (a1_0 : Int) (a1_1 : Int) (r1 : Int) (r2 : Int) (r3 : Int) (r4 : Int) (r5 : Int) (w : World) (h : span_Of.f k a0_0 a0_1 a1_0 a1_1 = some (r1, r2, r3, r4, r5)) :
  Calls Try.prog 33 #[.agg #[.int .i64 a0_0, .int .i64 a0_1], .agg #[.int .i64 a1_0, .int .i64 a1_1]] w fun e w' => e = .returned (.tuple #[.agg #[.int .i64 r1, .int .i64 r2, .int .i64 r3, .int .i64 r4], .int .i64 r5]) ∧ Below w.heap.size w w' := by
 have hu25 := Try.underlying25
 have hu27 := Try.underlying27
 have HB := Aside0.mk (Below.refl w.heap.size w)
 have H : ((cut_Canon.f k a0_0 a0_1).bind fun bt143 => ((cut_Canon.f k a1_0 a1_1).bind fun bt145 => ((span_Right.f k bt143.1 bt143.2 bt145.1 bt145.2).bind fun t148 => (if t148 = true then (some (bt143.1, bt143.2, bt145.1, bt145.2, 0)) else (some (0, 0, 0, 0, 30)))))) = some (r1, r2, r3, r4, r5) := h
 clear h
 replace H := Option.bind_eq_some_iff.mp H
 obtain ⟨⟨t143, t144⟩, A30, H⟩ := H
 (try (set_option simprocs false in dsimp only at H))
 have A3 := Aside0.mk A30
 clear A30
 replace H := Option.bind_eq_some_iff.mp H
 obtain ⟨⟨t145, t146⟩, A40, H⟩ := H
 (try (set_option simprocs false in dsimp only at H))
 have A4 := Aside0.mk A40
 clear A40
 replace H := Option.bind_eq_some_iff.mp H
 obtain ⟨t148, A50, H⟩ := H
 (try (set_option simprocs false in dsimp only at H))
 have A5 := Aside0.mk A50
 clear A50
 by_cases c6 : t148 = true
 ·subst c6
  have H1 : (some (t143, t144, t145, t146, 0)) = some (r1, r2, r3, r4, r5) := by rw [if_pos rfl] at H; exact H
  clear H
  have H := H1
  clear H1
  simp only [Option.some.injEq, Prod.mk.injEq] at H
  obtain ⟨rfl, rfl, rfl, rfl, rfl⟩ := H
  go_enter Try.func33, Try.ntmps33
  try go_wp2_with (first | ((with_reducible refine gate_dst (N := 2) rfl ?_); refine bxe (N := 2) (cs := #[.int .i64 a0_0, .int .i64 a0_1]) (t := 25) ?_; intro gb140 hg w7 hbox hb; have BK140 := Aside0.mk (hbox); have GW140 := lsz hg HB; have GE140 := lsz hg HB; replace HB := bst HB hb; clear hb hbox hg) | ((with_reducible refine gate_dst (N := 3) rfl ?_); refine bxe (N := 3) (cs := #[.int .i64 a1_0, .int .i64 a1_1]) (t := 25) ?_; intro gb141 hg w8 hbox hb; have BK141 := Aside0.mk (hbox); have GW141 := lsz hg HB; have GE141 := lsz hg HB; replace HB := bst HB hb; have NB140_141 := nlt hg BK140; have NB141_140 := ngt hg BK140; replace BK140 := bkb BK140 hb; clear hb hbox hg) | ((with_reducible refine gate_dst (N := 4) rfl ?_); refine bxe (N := 4) (cs := #[.int .i64 0, .int .i64 0, .int .i64 0, .int .i64 0]) (t := 27) ?_; intro gb142 hg w9 hbox hb; have BK142 := Aside0.mk (hbox); have GW142 := lsz hg HB; have GE142 := lsz hg HB; replace HB := bst HB hb; have NB140_142 := nlt hg BK140; have NB142_140 := ngt hg BK140; replace BK140 := bkb BK140 hb; have NB141_142 := nlt hg BK141; have NB142_141 := ngt hg BK141; replace BK141 := bkb BK141 hb; clear hb hbox hg))
  replace BK140 := Aside0.mk (blk_drew BK140.out)
  replace BK141 := Aside0.mk (blk_drew BK141.out)
  replace BK142 := Aside0.mk (blk_drew BK142.out)
  replace HB := Aside0.mk (below_drew1 HB.out)
  refine start_ (n := 7) (S := fun w' => w'.cell? ⟨gb140, 0, none⟩ = some (.int .i64 a0_0) ∧ w'.cell? ⟨gb140, 1, none⟩ = some (.int .i64 a0_1) ∧ w'.cell? ⟨gb141, 0, none⟩ = some (.int .i64 a1_0) ∧ w'.cell? ⟨gb141, 1, none⟩ = some (.int .i64 a1_1)) (ds := []) #[false, false, false, false, false, false, false] (by kernel_rfl) rfl rfl (c2 BK140 (e2 BK141)) (fun hHeld => ?_)
  generalize w9.drew = w10 at BK140 BK141 BK142 HB hHeld ⊢
  refine tk4 0 (some 7) #[true, false, false, false, false, false, false] (by kernel_rfl) hHeld ?_
  refine tk4 2 (some 9) #[true, false, true, false, false, false, false] (by kernel_rfl) hHeld ?_
  refine join_ (σ := Nat) 1 #[true, true, true, true, true, true, false] (fun s_ => [(8, .agg #[.int .i64 t143, .int .i64 t144]), (10, .agg #[.int .i64 t145, .int .i64 t146]), (6, .pointer (some ⟨s_, 0, none⟩)), (11, .agg #[.int .i64 t143, .int .i64 t144, .int .i64 t145, .int .i64 t146])]) (fun s_ w' => (w'.cell? ⟨gb140, 0, none⟩ = some (.int .i64 a0_0) ∧ w'.cell? ⟨gb140, 1, none⟩ = some (.int .i64 a0_1) ∧ w'.cell? ⟨gb141, 0, none⟩ = some (.int .i64 a1_0) ∧ w'.cell? ⟨gb141, 1, none⟩ = some (.int .i64 a1_1)) ∧ (w'.heap[gb140]? = some (.cells #[.int .i64 a0_0, .int .i64 a0_1] 25 (0, 0))) ∧ (w'.heap[gb141]? = some (.cells #[.int .i64 a1_0, .int .i64 a1_1] 25 (0, 0))) ∧ (w'.heap[gb142]? = some (.cells #[.int .i64 0, .int .i64 0, .int .i64 0, .int .i64 0] 27 (0, 0))) ∧ (w'.heap[s_]? = some (.cells #[.int .i64 0, .int .i64 0, .int .i64 0, .int .i64 0] 27 (0, 0))) ∧ (w.heap.size ≤ s_) ∧ (w.heap.size ≤ s_) ∧ (gb140 ≠ s_) ∧ (s_ ≠ gb140) ∧ (gb141 ≠ s_) ∧ (s_ ≠ gb141) ∧ (gb142 ≠ s_) ∧ (s_ ≠ gb142) ∧ (Below w.heap.size w w')) ?_ ?_
  rotate_left
  ·intro hCont
   refine two_ (i := 1) (j := 5) (Ni := some 8) (Nj := some 6) #[true, true, true, false, false, false, false] #[true, false, true, false, false, true, false] rfl rfl rfl rfl (by kernel_rfl) (by decide) (by decide) (fun K hK => ?_) (fun K hK => ?_)
   ·skip
    refine goes_ Try.func53 (by kernel_rfl) rfl #[.agg #[.int .i64 a0_0, .int .i64 a0_1]] (by rfl) rfl rfl (by (try simp only [List.map_toArray, List.map_cons, List.map_nil]); first | done | rfl | (simp only [List.length_drop, List.length_take]; rfl)) ?_
    with_reducible refine (cut_Canon.calls k a0_0 a0_1 t143 t144 _ A3.out).mono ?_
    rintro e w11 ⟨rfl, hb⟩
    refine ⟨_, rfl, ?_⟩
    replace BK140 := bkb BK140 hb
    replace BK141 := bkb BK141 hb
    replace BK142 := bkb BK142 hb
    replace HB := bst HB hb
    (try clear hb)
    refine hK.out _ _ (c2 BK140 (e2 BK141)) (fun hHeld => ?_)
    clear hK K
    refine nrp 8 ?_
    refine two_ (i := 3) (j := 5) (Ni := some 10) (Nj := some 6) #[true, true, true, true, false, false, false] #[true, true, true, false, false, true, false] rfl rfl rfl rfl (by kernel_rfl) (by decide) (by decide) (fun K hK => ?_) (fun K hK => ?_)
    ·skip
     refine goes_ Try.func53 (by kernel_rfl) rfl #[.agg #[.int .i64 a1_0, .int .i64 a1_1]] (by rfl) rfl rfl (by (try simp only [List.map_toArray, List.map_cons, List.map_nil]); first | done | rfl | (simp only [List.length_drop, List.length_take]; rfl)) ?_
     with_reducible refine (cut_Canon.calls k a1_0 a1_1 t145 t146 _ A4.out).mono ?_
     rintro e w12 ⟨rfl, hb⟩
     refine ⟨_, rfl, ?_⟩
     replace BK140 := bkb BK140 hb
     replace BK141 := bkb BK141 hb
     replace BK142 := bkb BK142 hb
     replace HB := bst HB hb
     (try clear hb)
     refine hK.out _ _ (c2 BK140 (e2 BK141)) (fun hHeld => ?_)
     clear hK K
     refine nrp 10 ?_
     refine pu 4 (some 11) #[true, true, true, true, true, false, false] (by kernel_rfl) ?_
     refine one_ (i := 5) (N := some 6) #[true, true, true, true, true, true, false] rfl rfl (by kernel_rfl) (by decide) (fun K hK => ?_)
     refine box_step ?hg (N := 6) ?hd (cs := #[.int .i64 0, .int .i64 0, .int .i64 0, .int .i64 0]) (t := 27) ?hr ?_; (case hd => rfl); (case hg => rfl); (case hr => first | (go_simp; done) | (go_simp; rfl))
     intro gb147 hg w13 hbox hb
     have BK147 := Aside0.mk (hbox)
     have GW147 := lsz hg HB
     have GE147 := lsz hg HB
     replace HB := bst HB hb
     have NB140_147 := nlt hg BK140
     have NB147_140 := ngt hg BK140
     replace BK140 := bkb BK140 hb
     have NB141_147 := nlt hg BK141
     have NB147_141 := ngt hg BK141
     replace BK141 := bkb BK141 hb
     have NB142_147 := nlt hg BK142
     have NB147_142 := ngt hg BK142
     replace BK142 := bkb BK142 hb
     clear hb hbox hg
     refine hK.out _ _ (c2 BK140 (e2 BK141)) (fun hHeld => ?_)
     clear hK K
     refine nrp 6 ?_
     exact nrm (hCont (gb147) _ ⟨hHeld, (bk BK140), (bk BK141), (bk BK142), (bk BK147), GW147.out, GE147.out, NB140_147.out, NB147_140.out, NB141_147.out, NB147_141.out, NB142_147.out, NB147_142.out, (bl HB)⟩)
    ·skip
     refine box_step ?hg (N := 6) ?hd (cs := #[.int .i64 0, .int .i64 0, .int .i64 0, .int .i64 0]) (t := 27) ?hr ?_; (case hd => rfl); (case hg => rfl); (case hr => first | (go_simp; done) | (go_simp; rfl))
     intro gb147 hg w12 hbox hb
     have BK147 := Aside0.mk (hbox)
     have GW147 := lsz hg HB
     have GE147 := lsz hg HB
     replace HB := bst HB hb
     have NB140_147 := nlt hg BK140
     have NB147_140 := ngt hg BK140
     replace BK140 := bkb BK140 hb
     have NB141_147 := nlt hg BK141
     have NB147_141 := ngt hg BK141
     replace BK141 := bkb BK141 hb
     have NB142_147 := nlt hg BK142
     have NB147_142 := ngt hg BK142
     replace BK142 := bkb BK142 hb
     clear hb hbox hg
     refine hK.out _ _ (c2 BK140 (e2 BK141)) (fun hHeld => ?_)
     clear hK K
     refine nrp 6 ?_
     refine one_ (i := 3) (N := some 10) #[true, true, true, true, false, true, false] rfl rfl (by kernel_rfl) (by decide) (fun K hK => ?_)
     refine goes_ Try.func53 (by kernel_rfl) rfl #[.agg #[.int .i64 a1_0, .int .i64 a1_1]] (by rfl) rfl rfl (by (try simp only [List.map_toArray, List.map_cons, List.map_nil]); first | done | rfl | (simp only [List.length_drop, List.length_take]; rfl)) ?_
     with_reducible refine (cut_Canon.calls k a1_0 a1_1 t145 t146 _ A4.out).mono ?_
     rintro e w13 ⟨rfl, hb⟩
     refine ⟨_, rfl, ?_⟩
     replace BK140 := bkb BK140 hb
     replace BK141 := bkb BK141 hb
     replace BK142 := bkb BK142 hb
     replace BK147 := bkb BK147 hb
     replace HB := bst HB hb
     (try clear hb)
     refine hK.out _ _ (c2 BK140 (e2 BK141)) (fun hHeld => ?_)
     clear hK K
     refine nrp 10 ?_
     refine pu 4 (some 11) #[true, true, true, true, true, true, false] (by kernel_rfl) ?_
     exact nrm (hCont (gb147) _ ⟨hHeld, (bk BK140), (bk BK141), (bk BK142), (bk BK147), GW147.out, GE147.out, NB140_147.out, NB147_140.out, NB141_147.out, NB147_141.out, NB142_147.out, NB147_142.out, (bl HB)⟩)
   ·skip
    refine box_step ?hg (N := 6) ?hd (cs := #[.int .i64 0, .int .i64 0, .int .i64 0, .int .i64 0]) (t := 27) ?hr ?_; (case hd => rfl); (case hg => rfl); (case hr => first | (go_simp; done) | (go_simp; rfl))
    intro gb147 hg w11 hbox hb
    have BK147 := Aside0.mk (hbox)
    have GW147 := lsz hg HB
    have GE147 := lsz hg HB
    replace HB := bst HB hb
    have NB140_147 := nlt hg BK140
    have NB147_140 := ngt hg BK140
    replace BK140 := bkb BK140 hb
    have NB141_147 := nlt hg BK141
    have NB147_141 := ngt hg BK141
    replace BK141 := bkb BK141 hb
    have NB142_147 := nlt hg BK142
    have NB147_142 := ngt hg BK142
    replace BK142 := bkb BK142 hb
    clear hb hbox hg
    refine hK.out _ _ (c2 BK140 (e2 BK141)) (fun hHeld => ?_)
    clear hK K
    refine nrp 6 ?_
    refine one_ (i := 1) (N := some 8) #[true, true, true, false, false, true, false] rfl rfl (by kernel_rfl) (by decide) (fun K hK => ?_)
    refine goes_ Try.func53 (by kernel_rfl) rfl #[.agg #[.int .i64 a0_0, .int .i64 a0_1]] (by rfl) rfl rfl (by (try simp only [List.map_toArray, List.map_cons, List.map_nil]); first | done | rfl | (simp only [List.length_drop, List.length_take]; rfl)) ?_
    with_reducible refine (cut_Canon.calls k a0_0 a0_1 t143 t144 _ A3.out).mono ?_
    rintro e w12 ⟨rfl, hb⟩
    refine ⟨_, rfl, ?_⟩
    replace BK140 := bkb BK140 hb
    replace BK141 := bkb BK141 hb
    replace BK142 := bkb BK142 hb
    replace BK147 := bkb BK147 hb
    replace HB := bst HB hb
    (try clear hb)
    refine hK.out _ _ (c2 BK140 (e2 BK141)) (fun hHeld => ?_)
    clear hK K
    refine nrp 8 ?_
    refine one_ (i := 3) (N := some 10) #[true, true, true, true, false, true, false] rfl rfl (by kernel_rfl) (by decide) (fun K hK => ?_)
    refine goes_ Try.func53 (by kernel_rfl) rfl #[.agg #[.int .i64 a1_0, .int .i64 a1_1]] (by rfl) rfl rfl (by (try simp only [List.map_toArray, List.map_cons, List.map_nil]); first | done | rfl | (simp only [List.length_drop, List.length_take]; rfl)) ?_
    with_reducible refine (cut_Canon.calls k a1_0 a1_1 t145 t146 _ A4.out).mono ?_
    rintro e w13 ⟨rfl, hb⟩
    refine ⟨_, rfl, ?_⟩
    replace BK140 := bkb BK140 hb
    replace BK141 := bkb BK141 hb
    replace BK142 := bkb BK142 hb
    replace BK147 := bkb BK147 hb
    replace HB := bst HB hb
    (try clear hb)
    refine hK.out _ _ (c2 BK140 (e2 BK141)) (fun hHeld => ?_)
    clear hK K
    refine nrp 10 ?_
    refine pu 4 (some 11) #[true, true, true, true, true, true, false] (by kernel_rfl) ?_
    exact nrm (hCont (gb147) _ ⟨hHeld, (bk BK140), (bk BK141), (bk BK142), (bk BK147), GW147.out, GE147.out, NB140_147.out, NB147_140.out, NB141_147.out, NB147_141.out, NB142_147.out, NB147_142.out, (bl HB)⟩)
  rintro gb147 w14 ⟨hS_, h0_, h1_, h2_, h3_, h4_, h5_, h6_, h7_, h8_, h9_, h10_, h11_, h12_⟩
  replace BK140 : Aside0 (w14.heap[gb140]? = some (.cells #[.int .i64 a0_0, .int .i64 a0_1] 25 (0, 0))) := ⟨h0_⟩
  replace BK141 : Aside0 (w14.heap[gb141]? = some (.cells #[.int .i64 a1_0, .int .i64 a1_1] 25 (0, 0))) := ⟨h1_⟩
  replace BK142 : Aside0 (w14.heap[gb142]? = some (.cells #[.int .i64 0, .int .i64 0, .int .i64 0, .int .i64 0] 27 (0, 0))) := ⟨h2_⟩
  have BK147 : Aside0 (w14.heap[gb147]? = some (.cells #[.int .i64 0, .int .i64 0, .int .i64 0, .int .i64 0] 27 (0, 0))) := ⟨h3_⟩
  have GW147 : Aside0 (w.heap.size ≤ gb147) := ⟨h4_⟩
  have GE147 : Aside0 (w.heap.size ≤ gb147) := ⟨h5_⟩
  have NB140_147 : Aside0 (gb140 ≠ gb147) := ⟨h6_⟩
  have NB147_140 : Aside0 (gb147 ≠ gb140) := ⟨h7_⟩
  have NB141_147 : Aside0 (gb141 ≠ gb147) := ⟨h8_⟩
  have NB147_141 : Aside0 (gb147 ≠ gb141) := ⟨h9_⟩
  have NB142_147 : Aside0 (gb142 ≠ gb147) := ⟨h10_⟩
  have NB147_142 : Aside0 (gb147 ≠ gb142) := ⟨h11_⟩
  replace HB : Aside0 (Below w.heap.size w w14) := ⟨h12_⟩
  clear h0_ h1_ h2_ h3_ h4_ h5_ h6_ h7_ h8_ h9_ h10_ h11_ h12_
  have hHeld : w14.cell? ⟨gb140, 0, none⟩ = some (.int .i64 a0_0) ∧ w14.cell? ⟨gb140, 1, none⟩ = some (.int .i64 a0_1) ∧ w14.cell? ⟨gb141, 0, none⟩ = some (.int .i64 a1_0) ∧ w14.cell? ⟨gb141, 1, none⟩ = some (.int .i64 a1_1) := hS_
  refine nra ?_
  refine one_ (i := 6) (N := none) #[true, true, true, true, true, true, true] rfl rfl (by kernel_rfl) (by decide) (fun K hK => ?_)
  have hs15 : w14.cell? ⟨gb147, 0, none⟩ = some (.int .i64 0) := (blk_cell BK147.out 0).trans rfl
  have hfs15 := blk_frozen BK147.out 0
  have hns15_0 := NB140_147.out
  have hns15_1 := NB141_147.out
  have hns15_2 := NB142_147.out
  have hms15_0 := NB147_140.out
  have hms15_1 := NB147_141.out
  have hms15_2 := NB147_142.out
  have hs16 : w14.cell? ⟨gb147, 1, none⟩ = some (.int .i64 0) := (blk_cell BK147.out 1).trans rfl
  have hfs16 := blk_frozen BK147.out 1
  have hns16_0 := NB140_147.out
  have hns16_1 := NB141_147.out
  have hns16_2 := NB142_147.out
  have hms16_0 := NB147_140.out
  have hms16_1 := NB147_141.out
  have hms16_2 := NB147_142.out
  have hs17 : w14.cell? ⟨gb147, 2, none⟩ = some (.int .i64 0) := (blk_cell BK147.out 2).trans rfl
  have hfs17 := blk_frozen BK147.out 2
  have hns17_0 := NB140_147.out
  have hns17_1 := NB141_147.out
  have hns17_2 := NB142_147.out
  have hms17_0 := NB147_140.out
  have hms17_1 := NB147_141.out
  have hms17_2 := NB147_142.out
  have hs18 : w14.cell? ⟨gb147, 3, none⟩ = some (.int .i64 0) := (blk_cell BK147.out 3).trans rfl
  have hfs18 := blk_frozen BK147.out 3
  have hns18_0 := NB140_147.out
  have hns18_1 := NB141_147.out
  have hns18_2 := NB142_147.out
  have hms18_0 := NB147_140.out
  have hms18_1 := NB147_141.out
  have hms18_2 := NB147_142.out
  refine skip_ (w1 := ?_) (by rfl) rfl ?_ ?_
  rotate_left
  ·go_simp
   rfl
  refine hK.out _ _ ⟨((cell_far (p := ⟨gb147, _, none⟩) NB140_147.out _).trans (((cell_far (p := ⟨gb147, _, none⟩) NB140_147.out _).trans (((cell_far (p := ⟨gb147, _, none⟩) NB140_147.out _).trans (((cell_far (p := ⟨gb147, _, none⟩) NB140_147.out _).trans (hHeld.1)))))))), ((cell_far (p := ⟨gb147, _, none⟩) NB140_147.out _).trans (((cell_far (p := ⟨gb147, _, none⟩) NB140_147.out _).trans (((cell_far (p := ⟨gb147, _, none⟩) NB140_147.out _).trans (((cell_far (p := ⟨gb147, _, none⟩) NB140_147.out _).trans (hHeld.2.1)))))))), ((cell_far (p := ⟨gb147, _, none⟩) NB141_147.out _).trans (((cell_far (p := ⟨gb147, _, none⟩) NB141_147.out _).trans (((cell_far (p := ⟨gb147, _, none⟩) NB141_147.out _).trans (((cell_far (p := ⟨gb147, _, none⟩) NB141_147.out _).trans (hHeld.2.2.1)))))))), ((cell_far (p := ⟨gb147, _, none⟩) NB141_147.out _).trans (((cell_far (p := ⟨gb147, _, none⟩) NB141_147.out _).trans (((cell_far (p := ⟨gb147, _, none⟩) NB141_147.out _).trans (((cell_far (p := ⟨gb147, _, none⟩) NB141_147.out _).trans (hHeld.2.2.2))))))))⟩ (fun hHeld => ?_)
  clear hK K
  refine done_ (by kernel_rfl) ?_
  have hnb19 := NB147_140.out
  have hnc19 := NB140_147.out
  have hnb20 := NB147_141.out
  have hnc20 := NB141_147.out
  have hnb21 := NB147_142.out
  have hnc21 := NB142_147.out
  have hcz22_0 : w14.cell? ⟨gb147, 0, none⟩ = some (.int .i64 0) := (blk_cell BK147.out 0).trans rfl
  have hcz22_1 : w14.cell? ⟨gb147, 1, none⟩ = some (.int .i64 0) := (blk_cell BK147.out 1).trans rfl
  have hcz22_2 : w14.cell? ⟨gb147, 2, none⟩ = some (.int .i64 0) := (blk_cell BK147.out 2).trans rfl
  have hcz22_3 : w14.cell? ⟨gb147, 3, none⟩ = some (.int .i64 0) := (blk_cell BK147.out 3).trans rfl
  have hfz22_0 := blk_frozen BK147.out 0
  have hfz22_1 := blk_frozen BK147.out 1
  have hfz22_2 := blk_frozen BK147.out 2
  have hfz22_3 := blk_frozen BK147.out 3
  try go_wp2_with (first | ((with_reducible refine gate_callee (f := 46) rfl ?_); refine gol (some 13) Try.func46 #[.agg #[.int .i64 t143, .int .i64 t144, .int .i64 t145, .int .i64 t146]] ?_; (with_reducible refine (span_Right.calls k t143 t144 t145 t146 true _ A5.out).mono ?_); rintro e w23 ⟨rfl, hb⟩; refine ⟨_, rfl, ?_⟩; replace BK140 := Aside0.mk (blk_below (bkf BK140 NB140_147) hb); replace BK141 := Aside0.mk (blk_below (bkf BK141 NB141_147) hb); replace BK142 := Aside0.mk (blk_below (bkf BK142 NB142_147) hb); replace BK147 := Aside0.mk (blk_below (g := gb147) (o := .cells #[.int .i64 t143, .int .i64 t144, .int .i64 t145, .int .i64 t146] 27 (0, 0)) (bkp BK147) hb); replace HB := bst HB hb; (try clear hb); (try clear hb2); (try clear hk); (try clear hi); obtain ⟨hcz24_0, hcz24_1, hcz24_2, hcz24_3⟩ := e4 BK147; obtain ⟨hfz24_0, hfz24_1, hfz24_2, hfz24_3⟩ := f4 BK147; have hnb25 := NB142_140.out; have hnc25 := NB140_142.out; have hnb26 := NB142_141.out; have hnc26 := NB141_142.out; obtain ⟨hcz27_0, hcz27_1, hcz27_2, hcz27_3⟩ := e4 BK142; obtain ⟨hfz27_0, hfz27_1, hfz27_2, hfz27_3⟩ := f4 BK142))
  refine bodyPost_ret (results_ct rfl _ _ gb142 27 #[.int .i64 t143, .int .i64 t144, .int .i64 t145, .int .i64 t146] (0, 0) _ rfl (bkp BK142) Try.underlying27 rfl (by kernel_rfl)) rfl ?_
  exact endB HB
 ·replace c6 := Bool.eq_false_iff.mpr c6
  subst c6
  have H1 : (some (0, 0, 0, 0, 30)) = some (r1, r2, r3, r4, r5) := by rw [if_neg (show ¬ (false = true) by decide)] at H; exact H
  clear H
  have H := H1
  clear H1
  simp only [Option.some.injEq, Prod.mk.injEq] at H
  obtain ⟨rfl, rfl, rfl, rfl, rfl⟩ := H
  go_enter Try.func33, Try.ntmps33
  try go_wp2_with (first | ((with_reducible refine gate_dst (N := 2) rfl ?_); refine bxe (N := 2) (cs := #[.int .i64 a0_0, .int .i64 a0_1]) (t := 25) ?_; intro gb140 hg w28 hbox hb; have BK140 := Aside0.mk (hbox); have GW140 := lsz hg HB; have GE140 := lsz hg HB; replace HB := bst HB hb; clear hb hbox hg) | ((with_reducible refine gate_dst (N := 3) rfl ?_); refine bxe (N := 3) (cs := #[.int .i64 a1_0, .int .i64 a1_1]) (t := 25) ?_; intro gb141 hg w29 hbox hb; have BK141 := Aside0.mk (hbox); have GW141 := lsz hg HB; have GE141 := lsz hg HB; replace HB := bst HB hb; have NB140_141 := nlt hg BK140; have NB141_140 := ngt hg BK140; replace BK140 := bkb BK140 hb; clear hb hbox hg) | ((with_reducible refine gate_dst (N := 4) rfl ?_); refine bxe (N := 4) (cs := #[.int .i64 0, .int .i64 0, .int .i64 0, .int .i64 0]) (t := 27) ?_; intro gb142 hg w30 hbox hb; have BK142 := Aside0.mk (hbox); have GW142 := lsz hg HB; have GE142 := lsz hg HB; replace HB := bst HB hb; have NB140_142 := nlt hg BK140; have NB142_140 := ngt hg BK140; replace BK140 := bkb BK140 hb; have NB141_142 := nlt hg BK141; have NB142_141 := ngt hg BK141; replace BK141 := bkb BK141 hb; clear hb hbox hg))
  replace BK140 := Aside0.mk (blk_drew BK140.out)
  replace BK141 := Aside0.mk (blk_drew BK141.out)
  replace BK142 := Aside0.mk (blk_drew BK142.out)
  replace HB := Aside0.mk (below_drew1 HB.out)
  refine start_ (n := 7) (S := fun w' => w'.cell? ⟨gb140, 0, none⟩ = some (.int .i64 a0_0) ∧ w'.cell? ⟨gb140, 1, none⟩ = some (.int .i64 a0_1) ∧ w'.cell? ⟨gb141, 0, none⟩ = some (.int .i64 a1_0) ∧ w'.cell? ⟨gb141, 1, none⟩ = some (.int .i64 a1_1)) (ds := []) #[false, false, false, false, false, false, false] (by kernel_rfl) rfl rfl (c2 BK140 (e2 BK141)) (fun hHeld => ?_)
  generalize w30.drew = w31 at BK140 BK141 BK142 HB hHeld ⊢
  refine tk4 0 (some 7) #[true, false, false, false, false, false, false] (by kernel_rfl) hHeld ?_
  refine tk4 2 (some 9) #[true, false, true, false, false, false, false] (by kernel_rfl) hHeld ?_
  refine join_ (σ := Nat) 1 #[true, true, true, true, true, true, false] (fun s_ => [(8, .agg #[.int .i64 t143, .int .i64 t144]), (10, .agg #[.int .i64 t145, .int .i64 t146]), (6, .pointer (some ⟨s_, 0, none⟩)), (11, .agg #[.int .i64 t143, .int .i64 t144, .int .i64 t145, .int .i64 t146])]) (fun s_ w' => (w'.cell? ⟨gb140, 0, none⟩ = some (.int .i64 a0_0) ∧ w'.cell? ⟨gb140, 1, none⟩ = some (.int .i64 a0_1) ∧ w'.cell? ⟨gb141, 0, none⟩ = some (.int .i64 a1_0) ∧ w'.cell? ⟨gb141, 1, none⟩ = some (.int .i64 a1_1)) ∧ (w'.heap[gb140]? = some (.cells #[.int .i64 a0_0, .int .i64 a0_1] 25 (0, 0))) ∧ (w'.heap[gb141]? = some (.cells #[.int .i64 a1_0, .int .i64 a1_1] 25 (0, 0))) ∧ (w'.heap[gb142]? = some (.cells #[.int .i64 0, .int .i64 0, .int .i64 0, .int .i64 0] 27 (0, 0))) ∧ (w'.heap[s_]? = some (.cells #[.int .i64 0, .int .i64 0, .int .i64 0, .int .i64 0] 27 (0, 0))) ∧ (w.heap.size ≤ s_) ∧ (w.heap.size ≤ s_) ∧ (gb140 ≠ s_) ∧ (s_ ≠ gb140) ∧ (gb141 ≠ s_) ∧ (s_ ≠ gb141) ∧ (gb142 ≠ s_) ∧ (s_ ≠ gb142) ∧ (Below w.heap.size w w')) ?_ ?_
  rotate_left
  ·intro hCont
   refine two_ (i := 1) (j := 5) (Ni := some 8) (Nj := some 6) #[true, true, true, false, false, false, false] #[true, false, true, false, false, true, false] rfl rfl rfl rfl (by kernel_rfl) (by decide) (by decide) (fun K hK => ?_) (fun K hK => ?_)
   ·skip
    refine goes_ Try.func53 (by kernel_rfl) rfl #[.agg #[.int .i64 a0_0, .int .i64 a0_1]] (by rfl) rfl rfl (by (try simp only [List.map_toArray, List.map_cons, List.map_nil]); first | done | rfl | (simp only [List.length_drop, List.length_take]; rfl)) ?_
    with_reducible refine (cut_Canon.calls k a0_0 a0_1 t143 t144 _ A3.out).mono ?_
    rintro e w32 ⟨rfl, hb⟩
    refine ⟨_, rfl, ?_⟩
    replace BK140 := bkb BK140 hb
    replace BK141 := bkb BK141 hb
    replace BK142 := bkb BK142 hb
    replace HB := bst HB hb
    (try clear hb)
    refine hK.out _ _ (c2 BK140 (e2 BK141)) (fun hHeld => ?_)
    clear hK K
    refine nrp 8 ?_
    refine two_ (i := 3) (j := 5) (Ni := some 10) (Nj := some 6) #[true, true, true, true, false, false, false] #[true, true, true, false, false, true, false] rfl rfl rfl rfl (by kernel_rfl) (by decide) (by decide) (fun K hK => ?_) (fun K hK => ?_)
    ·skip
     refine goes_ Try.func53 (by kernel_rfl) rfl #[.agg #[.int .i64 a1_0, .int .i64 a1_1]] (by rfl) rfl rfl (by (try simp only [List.map_toArray, List.map_cons, List.map_nil]); first | done | rfl | (simp only [List.length_drop, List.length_take]; rfl)) ?_
     with_reducible refine (cut_Canon.calls k a1_0 a1_1 t145 t146 _ A4.out).mono ?_
     rintro e w33 ⟨rfl, hb⟩
     refine ⟨_, rfl, ?_⟩
     replace BK140 := bkb BK140 hb
     replace BK141 := bkb BK141 hb
     replace BK142 := bkb BK142 hb
     replace HB := bst HB hb
     (try clear hb)
     refine hK.out _ _ (c2 BK140 (e2 BK141)) (fun hHeld => ?_)
     clear hK K
     refine nrp 10 ?_
     refine pu 4 (some 11) #[true, true, true, true, true, false, false] (by kernel_rfl) ?_
     refine one_ (i := 5) (N := some 6) #[true, true, true, true, true, true, false] rfl rfl (by kernel_rfl) (by decide) (fun K hK => ?_)
     refine box_step ?hg (N := 6) ?hd (cs := #[.int .i64 0, .int .i64 0, .int .i64 0, .int .i64 0]) (t := 27) ?hr ?_; (case hd => rfl); (case hg => rfl); (case hr => first | (go_simp; done) | (go_simp; rfl))
     intro gb147 hg w34 hbox hb
     have BK147 := Aside0.mk (hbox)
     have GW147 := lsz hg HB
     have GE147 := lsz hg HB
     replace HB := bst HB hb
     have NB140_147 := nlt hg BK140
     have NB147_140 := ngt hg BK140
     replace BK140 := bkb BK140 hb
     have NB141_147 := nlt hg BK141
     have NB147_141 := ngt hg BK141
     replace BK141 := bkb BK141 hb
     have NB142_147 := nlt hg BK142
     have NB147_142 := ngt hg BK142
     replace BK142 := bkb BK142 hb
     clear hb hbox hg
     refine hK.out _ _ (c2 BK140 (e2 BK141)) (fun hHeld => ?_)
     clear hK K
     refine nrp 6 ?_
     exact nrm (hCont (gb147) _ ⟨hHeld, (bk BK140), (bk BK141), (bk BK142), (bk BK147), GW147.out, GE147.out, NB140_147.out, NB147_140.out, NB141_147.out, NB147_141.out, NB142_147.out, NB147_142.out, (bl HB)⟩)
    ·skip
     refine box_step ?hg (N := 6) ?hd (cs := #[.int .i64 0, .int .i64 0, .int .i64 0, .int .i64 0]) (t := 27) ?hr ?_; (case hd => rfl); (case hg => rfl); (case hr => first | (go_simp; done) | (go_simp; rfl))
     intro gb147 hg w33 hbox hb
     have BK147 := Aside0.mk (hbox)
     have GW147 := lsz hg HB
     have GE147 := lsz hg HB
     replace HB := bst HB hb
     have NB140_147 := nlt hg BK140
     have NB147_140 := ngt hg BK140
     replace BK140 := bkb BK140 hb
     have NB141_147 := nlt hg BK141
     have NB147_141 := ngt hg BK141
     replace BK141 := bkb BK141 hb
     have NB142_147 := nlt hg BK142
     have NB147_142 := ngt hg BK142
     replace BK142 := bkb BK142 hb
     clear hb hbox hg
     refine hK.out _ _ (c2 BK140 (e2 BK141)) (fun hHeld => ?_)
     clear hK K
     refine nrp 6 ?_
     refine one_ (i := 3) (N := some 10) #[true, true, true, true, false, true, false] rfl rfl (by kernel_rfl) (by decide) (fun K hK => ?_)
     refine goes_ Try.func53 (by kernel_rfl) rfl #[.agg #[.int .i64 a1_0, .int .i64 a1_1]] (by rfl) rfl rfl (by (try simp only [List.map_toArray, List.map_cons, List.map_nil]); first | done | rfl | (simp only [List.length_drop, List.length_take]; rfl)) ?_
     with_reducible refine (cut_Canon.calls k a1_0 a1_1 t145 t146 _ A4.out).mono ?_
     rintro e w34 ⟨rfl, hb⟩
     refine ⟨_, rfl, ?_⟩
     replace BK140 := bkb BK140 hb
     replace BK141 := bkb BK141 hb
     replace BK142 := bkb BK142 hb
     replace BK147 := bkb BK147 hb
     replace HB := bst HB hb
     (try clear hb)
     refine hK.out _ _ (c2 BK140 (e2 BK141)) (fun hHeld => ?_)
     clear hK K
     refine nrp 10 ?_
     refine pu 4 (some 11) #[true, true, true, true, true, true, false] (by kernel_rfl) ?_
     exact nrm (hCont (gb147) _ ⟨hHeld, (bk BK140), (bk BK141), (bk BK142), (bk BK147), GW147.out, GE147.out, NB140_147.out, NB147_140.out, NB141_147.out, NB147_141.out, NB142_147.out, NB147_142.out, (bl HB)⟩)
   ·skip
    refine box_step ?hg (N := 6) ?hd (cs := #[.int .i64 0, .int .i64 0, .int .i64 0, .int .i64 0]) (t := 27) ?hr ?_; (case hd => rfl); (case hg => rfl); (case hr => first | (go_simp; done) | (go_simp; rfl))
    intro gb147 hg w32 hbox hb
    have BK147 := Aside0.mk (hbox)
    have GW147 := lsz hg HB
    have GE147 := lsz hg HB
    replace HB := bst HB hb
    have NB140_147 := nlt hg BK140
    have NB147_140 := ngt hg BK140
    replace BK140 := bkb BK140 hb
    have NB141_147 := nlt hg BK141
    have NB147_141 := ngt hg BK141
    replace BK141 := bkb BK141 hb
    have NB142_147 := nlt hg BK142
    have NB147_142 := ngt hg BK142
    replace BK142 := bkb BK142 hb
    clear hb hbox hg
    refine hK.out _ _ (c2 BK140 (e2 BK141)) (fun hHeld => ?_)
    clear hK K
    refine nrp 6 ?_
    refine one_ (i := 1) (N := some 8) #[true, true, true, false, false, true, false] rfl rfl (by kernel_rfl) (by decide) (fun K hK => ?_)
    refine goes_ Try.func53 (by kernel_rfl) rfl #[.agg #[.int .i64 a0_0, .int .i64 a0_1]] (by rfl) rfl rfl (by (try simp only [List.map_toArray, List.map_cons, List.map_nil]); first | done | rfl | (simp only [List.length_drop, List.length_take]; rfl)) ?_
    with_reducible refine (cut_Canon.calls k a0_0 a0_1 t143 t144 _ A3.out).mono ?_
    rintro e w33 ⟨rfl, hb⟩
    refine ⟨_, rfl, ?_⟩
    replace BK140 := bkb BK140 hb
    replace BK141 := bkb BK141 hb
    replace BK142 := bkb BK142 hb
    replace BK147 := bkb BK147 hb
    replace HB := bst HB hb
    (try clear hb)
    refine hK.out _ _ (c2 BK140 (e2 BK141)) (fun hHeld => ?_)
    clear hK K
    refine nrp 8 ?_
    refine one_ (i := 3) (N := some 10) #[true, true, true, true, false, true, false] rfl rfl (by kernel_rfl) (by decide) (fun K hK => ?_)
    refine goes_ Try.func53 (by kernel_rfl) rfl #[.agg #[.int .i64 a1_0, .int .i64 a1_1]] (by rfl) rfl rfl (by (try simp only [List.map_toArray, List.map_cons, List.map_nil]); first | done | rfl | (simp only [List.length_drop, List.length_take]; rfl)) ?_
    with_reducible refine (cut_Canon.calls k a1_0 a1_1 t145 t146 _ A4.out).mono ?_
    rintro e w34 ⟨rfl, hb⟩
    refine ⟨_, rfl, ?_⟩
    replace BK140 := bkb BK140 hb
    replace BK141 := bkb BK141 hb
    replace BK142 := bkb BK142 hb
    replace BK147 := bkb BK147 hb
    replace HB := bst HB hb
    (try clear hb)
    refine hK.out _ _ (c2 BK140 (e2 BK141)) (fun hHeld => ?_)
    clear hK K
    refine nrp 10 ?_
    refine pu 4 (some 11) #[true, true, true, true, true, true, false] (by kernel_rfl) ?_
    exact nrm (hCont (gb147) _ ⟨hHeld, (bk BK140), (bk BK141), (bk BK142), (bk BK147), GW147.out, GE147.out, NB140_147.out, NB147_140.out, NB141_147.out, NB147_141.out, NB142_147.out, NB147_142.out, (bl HB)⟩)
  rintro gb147 w35 ⟨hS_, h0_, h1_, h2_, h3_, h4_, h5_, h6_, h7_, h8_, h9_, h10_, h11_, h12_⟩
  replace BK140 : Aside0 (w35.heap[gb140]? = some (.cells #[.int .i64 a0_0, .int .i64 a0_1] 25 (0, 0))) := ⟨h0_⟩
  replace BK141 : Aside0 (w35.heap[gb141]? = some (.cells #[.int .i64 a1_0, .int .i64 a1_1] 25 (0, 0))) := ⟨h1_⟩
  replace BK142 : Aside0 (w35.heap[gb142]? = some (.cells #[.int .i64 0, .int .i64 0, .int .i64 0, .int .i64 0] 27 (0, 0))) := ⟨h2_⟩
  have BK147 : Aside0 (w35.heap[gb147]? = some (.cells #[.int .i64 0, .int .i64 0, .int .i64 0, .int .i64 0] 27 (0, 0))) := ⟨h3_⟩
  have GW147 : Aside0 (w.heap.size ≤ gb147) := ⟨h4_⟩
  have GE147 : Aside0 (w.heap.size ≤ gb147) := ⟨h5_⟩
  have NB140_147 : Aside0 (gb140 ≠ gb147) := ⟨h6_⟩
  have NB147_140 : Aside0 (gb147 ≠ gb140) := ⟨h7_⟩
  have NB141_147 : Aside0 (gb141 ≠ gb147) := ⟨h8_⟩
  have NB147_141 : Aside0 (gb147 ≠ gb141) := ⟨h9_⟩
  have NB142_147 : Aside0 (gb142 ≠ gb147) := ⟨h10_⟩
  have NB147_142 : Aside0 (gb147 ≠ gb142) := ⟨h11_⟩
  replace HB : Aside0 (Below w.heap.size w w35) := ⟨h12_⟩
  clear h0_ h1_ h2_ h3_ h4_ h5_ h6_ h7_ h8_ h9_ h10_ h11_ h12_
  have hHeld : w35.cell? ⟨gb140, 0, none⟩ = some (.int .i64 a0_0) ∧ w35.cell? ⟨gb140, 1, none⟩ = some (.int .i64 a0_1) ∧ w35.cell? ⟨gb141, 0, none⟩ = some (.int .i64 a1_0) ∧ w35.cell? ⟨gb141, 1, none⟩ = some (.int .i64 a1_1) := hS_
  refine nra ?_
  refine one_ (i := 6) (N := none) #[true, true, true, true, true, true, true] rfl rfl (by kernel_rfl) (by decide) (fun K hK => ?_)
  have hs36 : w35.cell? ⟨gb147, 0, none⟩ = some (.int .i64 0) := (blk_cell BK147.out 0).trans rfl
  have hfs36 := blk_frozen BK147.out 0
  have hns36_0 := NB140_147.out
  have hns36_1 := NB141_147.out
  have hns36_2 := NB142_147.out
  have hms36_0 := NB147_140.out
  have hms36_1 := NB147_141.out
  have hms36_2 := NB147_142.out
  have hs37 : w35.cell? ⟨gb147, 1, none⟩ = some (.int .i64 0) := (blk_cell BK147.out 1).trans rfl
  have hfs37 := blk_frozen BK147.out 1
  have hns37_0 := NB140_147.out
  have hns37_1 := NB141_147.out
  have hns37_2 := NB142_147.out
  have hms37_0 := NB147_140.out
  have hms37_1 := NB147_141.out
  have hms37_2 := NB147_142.out
  have hs38 : w35.cell? ⟨gb147, 2, none⟩ = some (.int .i64 0) := (blk_cell BK147.out 2).trans rfl
  have hfs38 := blk_frozen BK147.out 2
  have hns38_0 := NB140_147.out
  have hns38_1 := NB141_147.out
  have hns38_2 := NB142_147.out
  have hms38_0 := NB147_140.out
  have hms38_1 := NB147_141.out
  have hms38_2 := NB147_142.out
  have hs39 : w35.cell? ⟨gb147, 3, none⟩ = some (.int .i64 0) := (blk_cell BK147.out 3).trans rfl
  have hfs39 := blk_frozen BK147.out 3
  have hns39_0 := NB140_147.out
  have hns39_1 := NB141_147.out
  have hns39_2 := NB142_147.out
  have hms39_0 := NB147_140.out
  have hms39_1 := NB147_141.out
  have hms39_2 := NB147_142.out
  refine skip_ (w1 := ?_) (by rfl) rfl ?_ ?_
  rotate_left
  ·go_simp
   rfl
  refine hK.out _ _ ⟨((cell_far (p := ⟨gb147, _, none⟩) NB140_147.out _).trans (((cell_far (p := ⟨gb147, _, none⟩) NB140_147.out _).trans (((cell_far (p := ⟨gb147, _, none⟩) NB140_147.out _).trans (((cell_far (p := ⟨gb147, _, none⟩) NB140_147.out _).trans (hHeld.1)))))))), ((cell_far (p := ⟨gb147, _, none⟩) NB140_147.out _).trans (((cell_far (p := ⟨gb147, _, none⟩) NB140_147.out _).trans (((cell_far (p := ⟨gb147, _, none⟩) NB140_147.out _).trans (((cell_far (p := ⟨gb147, _, none⟩) NB140_147.out _).trans (hHeld.2.1)))))))), ((cell_far (p := ⟨gb147, _, none⟩) NB141_147.out _).trans (((cell_far (p := ⟨gb147, _, none⟩) NB141_147.out _).trans (((cell_far (p := ⟨gb147, _, none⟩) NB141_147.out _).trans (((cell_far (p := ⟨gb147, _, none⟩) NB141_147.out _).trans (hHeld.2.2.1)))))))), ((cell_far (p := ⟨gb147, _, none⟩) NB141_147.out _).trans (((cell_far (p := ⟨gb147, _, none⟩) NB141_147.out _).trans (((cell_far (p := ⟨gb147, _, none⟩) NB141_147.out _).trans (((cell_far (p := ⟨gb147, _, none⟩) NB141_147.out _).trans (hHeld.2.2.2))))))))⟩ (fun hHeld => ?_)
  clear hK K
  refine done_ (by kernel_rfl) ?_
  have hnb40 := NB147_140.out
  have hnc40 := NB140_147.out
  have hnb41 := NB147_141.out
  have hnc41 := NB141_147.out
  have hnb42 := NB147_142.out
  have hnc42 := NB142_147.out
  have hcz43_0 : w35.cell? ⟨gb147, 0, none⟩ = some (.int .i64 0) := (blk_cell BK147.out 0).trans rfl
  have hcz43_1 : w35.cell? ⟨gb147, 1, none⟩ = some (.int .i64 0) := (blk_cell BK147.out 1).trans rfl
  have hcz43_2 : w35.cell? ⟨gb147, 2, none⟩ = some (.int .i64 0) := (blk_cell BK147.out 2).trans rfl
  have hcz43_3 : w35.cell? ⟨gb147, 3, none⟩ = some (.int .i64 0) := (blk_cell BK147.out 3).trans rfl
  have hfz43_0 := blk_frozen BK147.out 0
  have hfz43_1 := blk_frozen BK147.out 1
  have hfz43_2 := blk_frozen BK147.out 2
  have hfz43_3 := blk_frozen BK147.out 3
  try go_wp2_with (first | ((with_reducible refine gate_callee (f := 46) rfl ?_); refine gol (some 13) Try.func46 #[.agg #[.int .i64 t143, .int .i64 t144, .int .i64 t145, .int .i64 t146]] ?_; (with_reducible refine (span_Right.calls k t143 t144 t145 t146 false _ A5.out).mono ?_); rintro e w44 ⟨rfl, hb⟩; refine ⟨_, rfl, ?_⟩; replace BK140 := Aside0.mk (blk_below (bkf BK140 NB140_147) hb); replace BK141 := Aside0.mk (blk_below (bkf BK141 NB141_147) hb); replace BK142 := Aside0.mk (blk_below (bkf BK142 NB142_147) hb); replace BK147 := Aside0.mk (blk_below (g := gb147) (o := .cells #[.int .i64 t143, .int .i64 t144, .int .i64 t145, .int .i64 t146] 27 (0, 0)) (bkp BK147) hb); replace HB := bst HB hb; (try clear hb); (try clear hb2); (try clear hk); (try clear hi); have hnb45 := NB142_140.out; have hnc45 := NB140_142.out; have hnb46 := NB142_141.out; have hnc46 := NB141_142.out; obtain ⟨hcz47_0, hcz47_1, hcz47_2, hcz47_3⟩ := e4 BK142; obtain ⟨hfz47_0, hfz47_1, hfz47_2, hfz47_3⟩ := f4 BK142))
  refine bodyPost_ret (results_ct rfl _ _ gb142 27 #[.int .i64 0, .int .i64 0, .int .i64 0, .int .i64 0] (0, 0) _ rfl (bkp BK142) Try.underlying27 rfl (by kernel_rfl)) rfl ?_
  exact endB HB
end Go.Proofs.Ytpeidnkbliafkaa.Print
