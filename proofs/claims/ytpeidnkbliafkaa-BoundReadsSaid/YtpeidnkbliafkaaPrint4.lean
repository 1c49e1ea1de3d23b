-- Laid by wip/print/bprint.py of this repo, over the kit's printer, with functions given by hand; not trusted: Lean checks it.
import Derived.Test.YtpeidnkbliafkaaHBnd2
import Derived.Test.YtpeidnkbliafkaaHBnd4
import Derived.Test.YtpeidnkbliafkaaPrint0
import Derived.Test.YtpeidnkbliafkaaPrint1
import Derived.Test.YtpeidnkbliafkaaPrint2
import Derived.Test.YtpeidnkbliafkaaSh2
namespace Go.Proofs.Ytpeidnkbliafkaa.Print
open Go.RowKit Go.Proofs.YtpeidnkbliafkaaW.PrintWords Go.Proofs.YtpeidnkbliafkaaW.PrintLast Go.Proofs.YtpeidnkbliafkaaW.PrintMore
attribute [local go_sem] max2_int min2_int max_two min_two max_three min_three max_four min_four   -- for this text's walks alone
set_option linter.unusedVariables false
set_option linter.unusedSimpArgs false
/-! ### eqA23: a fact -/
theorem eqA23 (d : Nat) (w : World) (x0 y0 : Int) (x1 y1 : Int) :
  (Op.equalIn (d + 2) 23 (.agg #[.int .i64 x0, .int .i64 x1]) (.agg #[.int .i64 y0, .int .i64 y1])).run Try.prog w = .ok (x0 == y0 && (x1 == y1)) w := by
 refine eqA_of Try.underlying23 (by kernel_rfl) ?_
 refine eqf_cons (by rfl) (by go_simp; rfl) (by go_simp; rfl) (by go_simp) ?_
 exact eqf_last (by rfl) (by go_simp; rfl) (by go_simp; rfl) (by go_simp)
/-! ### eqA27: a fact -/
theorem eqA27 (d : Nat) (w : World) (x0 y0 : Int) (x1 y1 : Int) (x2 y2 : Int) (x3 y3 : Int) :
  (Op.equalIn (d + 3) 27 (.agg #[.int .i64 x0, .int .i64 x1, .int .i64 x2, .int .i64 x3]) (.agg #[.int .i64 y0, .int .i64 y1, .int .i64 y2, .int .i64 y3])).run Try.prog w = .ok ((x0 == y0 && (x1 == y1)) && ((x2 == y2 && (x3 == y3)))) w := by
 refine eqA_of Try.underlying27 (by kernel_rfl) ?_
 refine eqf_cons (by rfl) (by go_simp) (by go_simp) (eqA25 (d + 0) w _ _ _ _) ?_
 exact eqf_last (by rfl) (by go_simp) (by go_simp) (eqA25 (d + 0) w _ _ _ _)
/-! ### sat_Text: function 62 -/
theorem sat_Text.info5' : (Try.prog.info? 5).map (fun i => (i.zero, i.size, i.bytes)) = some (some (.int .u8 0), 1, 1) := by kernel_rfl
theorem sat_Text.info5 : (Try.prog.info? 5).map (fun i => (i.zero, i.size, i.bytes)) = some (some (.int .u8 0), 1, 1) := by kernel_rfl

/-- the two captured variables of sat.Text: block B: the bytes so far; block B + 1: what is left -/
structure sat_Text.Inv (B : Nat) (xs : List Int) (L : Int) (w : World) : Prop where
 bs : ∃ v, w.heap[B]? = some (.cells #[v] 84 (0, 0)) ∧ w.ownsRow (B + 2) 5 1 v xs.length (nums .u8 xs)
 left : w.heap[B + 1]? = some (.cells #[.int .u64 L] 71 (0, 0))
 lt : B + 1 < w.heap.size

theorem sat_Text.blk_ne {w : World} {b g : Nat} {v : Value} {t e : TypeId} {cur : Array Value} (hb : w.heap[b]? = some (.cells #[v] t (0, 0))) (hg : w.heap[g]? = some (.cells cur e (0, 0))) (ht : t ≠ e) : g ≠ b := fun h => by
 subst h; rw [hb] at hg; simp at hg; exact ht hg.2

set_option maxHeartbeats 1600000 in
set_option maxRecDepth 100000 in
theorem sat_Text.step (B : Nat) (xs : List Int) (L : Int) (w : World) (h : sat_Text.Inv B xs L w) (h0 : 0 ≤ L) (h1 : L ≤ 18446744073709551615) (hn : xs.length ≤ 100) :
  Calls Try.prog 71 #[.pointer (some ⟨B, 0, none⟩), .pointer (some ⟨B + 1, 0, none⟩)] w fun e w' => e = .returned (.bool (decide (0 < L / 10))) ∧ sat_Text.Inv B (xs ++ [48 + L % 10]) (L / 10) w' ∧ Below B w w' := by
 obtain ⟨⟨v, hv, hown⟩, hleft, hlt⟩ := h
 obtain ⟨i0, hi, hz0, hz1, hz2⟩ := info_parts sat_Text.info5
 have cB := cell_of_one hv
 have fB := free_of_one hv
 have cL := cell_of_one hleft
 have fL := free_of_one hleft
 go_enter Try.func71, Try.ntmps71
 go_wp2_with (at_builtin; refine wpList_append_own _ rfl _ _ 84 rfl (B + 2) 5 i0 (.int .u8 0) 1 1 Try.underlying84 hi hz0 hz1 hz2 rfl (by decide) _ _ _ rfl (hown.alloc _) ⟨w.heap.size, 0, none⟩ 1 1 [.int .u8 (48 + L % 10)] rfl rfl ?c1 ?c2 ?c3 ?c4 ?c5 ?_)
 case c1 =>
  intro j u hj
  match j, hj with
  | 0, hj => simp at hj; subst hj; simp [Addr.add]
 case c2 => intro u hu; simp at hu; subst hu; rfl
 case c3 => unfold maxLen; omega
 case c4 => omega
 case c5 => simp; omega
 intro v' w1 hown' hgrow _
 have hB0 : some B ≠ v.ownBlock := fun e => by have := (hown.lt B e.symm).1; omega
 have hB1 : some (B + 1) ≠ v.ownBlock := fun e => by have := (hown.lt (B + 1) e.symm).1; omega
 have hv1 : w1.heap[B]? = some (.cells #[v] 84 (0, 0)) := by
  rw [hgrow.block B (by simp; omega) hB0, heap_alloc_old _ _ (by omega)]; exact hv
 have hl1 : w1.heap[B + 1]? = some (.cells #[.int .u64 L] 71 (0, 0)) := by
  rw [hgrow.block (B + 1) (by simp; omega) hB1, heap_alloc_old _ _ (by omega)]; exact hleft
 have hb1 : Below B w w1 := ((Below.refl B w).alloc (by omega) _).grown hgrow (by simp; omega) (fun j hj => by have := (hown.lt j hj).1; omega)
 have hsz : B + 1 < w1.heap.size := by have := lt_of_block hl1; omega
 have cB1 := cell_of_one hv1
 have fB1 := free_of_one hv1
 have cL1 := cell_of_one hl1
 have fL1 := free_of_one hl1
 obtain ⟨g, cap, rfl, hgb⟩ : ∃ g cap, v' = .slice (some ⟨g, 0, none⟩) (xs.length + 1) cap ∧ B + 2 ≤ g := by
  rcases hown'.2 with ⟨_, hz⟩ | ⟨g, cap, cur, rfl, hb, _⟩
  ·omega
  ·exact ⟨g, cap, rfl, hb⟩
 have hN := Aside0.mk (show nums .u8 xs ++ [Value.int .u8 (48 + L % 10)] = nums .u8 (xs ++ [48 + L % 10]) by simp [nums])
 have HO := Aside0.mk hown'
 clear hown hown' hgrow cB fB cL fL hB0 hB1 hz0 hz1 hz2 hi
 go_wp2
 go_ret
 have HO' := HO.out
 rw [hN.out] at HO'
 refine ⟨?_, ⟨⟨.slice (some ⟨g, 0, none⟩) (xs.length + 1) cap, ?_, ?_⟩, ?_, ?_⟩, ?_⟩
 ·simp
 ·exact (Below.heap_setCell _ _ _ _ (by simp)).trans (one_setCell hv1)
 ·rw [List.length_append]
  exact ownsRow_setCell_other (ownsRow_setCell_other HO' (by simp [Value.ownBlock]; omega) _) (by simp [Value.ownBlock]; omega) _
 ·exact one_setCell ((Below.heap_setCell _ _ _ _ (by simp)).trans hl1)
 ·simpa using hsz
 ·exact (hb1.setCell (by simp) _).setCell (by simp) _

def sat_Text.digs : Nat → Int → List Int
 | 0, _ => []
 | k + 1, x => (48 + x % 10) :: (if 0 < x / 10 then sat_Text.digs k (x / 10) else [])
def sat_Text.fits : Nat → Int → Bool
 | 0, _ => false
 | k + 1, x => decide (x < 10) || sat_Text.fits k (x / 10)
def sat_Text.rev (a : Int) : List Int := sat_Text.digs 20 (if a < 0 then -a else a) ++ (if a < 0 then [45] else [])
def sat_Text.f (a0 : Int) : Option ByteArray := if -9223372036854775808 ≤ a0 ∧ a0 ≤ 9223372036854775807 then some (strOfNums (sat_Text.rev a0).reverse) else none
theorem sat_Text.digs_len : ∀ k x, (sat_Text.digs k x).length ≤ k
 | 0, _ => by simp [sat_Text.digs]
 | k + 1, x => by
  simp only [sat_Text.digs, List.length_cons]
  split
  ·have := sat_Text.digs_len k (x / 10); omega
  ·simp
theorem sat_Text.fits_start (L : Int) (h : L ≤ 9223372036854775808) : sat_Text.fits 20 L = true := by
 simp [sat_Text.fits]; omega
theorem sat_Text.fits_next {k : Nat} {L : Int} (h : sat_Text.fits (k + 1) L = true) (h1 : 0 < L / 10) : sat_Text.fits k (L / 10) = true := by
 simp only [sat_Text.fits, Bool.or_eq_true, decide_eq_true_eq] at h
 rcases h with h | h
 ·omega
 ·exact h
theorem sat_Text.fits_pos {k : Nat} {L : Int} (h : sat_Text.fits k L = true) : ∃ m, k = m + 1 := by
 cases k with
 | zero => simp [sat_Text.fits] at h
 | succ k => exact ⟨k, rfl⟩
theorem sat_Text.size_some (a : Int) (h0 : -9223372036854775808 ≤ a) (h1 : a ≤ 9223372036854775807) : sat_size.f a = some (if a < 0 then -a else a) := by
 unfold sat_size.f
 by_cases h : a < 0
 ·rw [if_pos h, if_pos h]
  have : IntKind.u64.wrap (-(IntKind.u64.wrap a)) = -a := by simp [IntKind.wrap, IntKind.bits, IntKind.signed]; omega
  rw [this]
 ·rw [if_neg h, if_neg h]
  have : IntKind.u64.wrap a = a := by simp [IntKind.wrap, IntKind.bits, IntKind.signed]; omega
  rw [this]

def sat_Text.outs (zs : List Int) (i : Nat) : List Int := List.replicate (zs.length - i) 0 ++ (zs.take i).reverse
theorem sat_Text.outs_len (zs : List Int) (i : Nat) (h : i ≤ zs.length) : (sat_Text.outs zs i).length = zs.length := by
 simp [sat_Text.outs]; omega
theorem sat_Text.outs_all (zs : List Int) : sat_Text.outs zs zs.length = zs.reverse := by simp [sat_Text.outs]
theorem sat_Text.outs_step (zs : List Int) (i : Nat) (h : i < zs.length) : (sat_Text.outs zs i).set (zs.length - 1 - i) (rd zs (i : Int)) = sat_Text.outs zs (i + 1) := by
 have e : zs.length - i = (zs.length - 1 - i) + 1 := by omega
 have e2 : zs.length - (i + 1) = zs.length - 1 - i := by omega
 unfold sat_Text.outs
 rw [e2, e, List.replicate_succ', List.append_assoc, List.set_append_right _ _ (by simp)]
 simp only [List.length_replicate, Nat.sub_self, List.singleton_append, List.set_cons_zero]
 congr 1
 rw [List.take_succ_eq_append_getElem h, List.reverse_append]
 simp [rd, List.getElem?_eq_getElem h, List.getD_eq_getElem?_getD]
/-- what the last loop keeps -/
structure sat_Text.Last (w : World) (g cap G : Nat) (zs : List Int) (i : Nat) (wr : World) : Prop where
 var : wr.heap[w.heap.size]? = some (.cells #[.slice (some ⟨g, 0, none⟩) zs.length cap] 84 (0, 0))
 src : wr.ownsRow (w.heap.size + 2) 5 1 (.slice (some ⟨g, 0, none⟩) zs.length cap) zs.length (nums .u8 zs)
 out : wr.ownsRow (w.heap.size + 2) 5 1 (.slice (some ⟨G, 0, none⟩) zs.length zs.length) zs.length (nums .u8 (sat_Text.outs zs i))
 ne : g ≠ G
 bel : Below w.heap.size w wr
theorem sat_Text.Last.step {w wr : World} {g cap G : Nat} {zs : List Int} {i : Nat} (h : sat_Text.Last w g cap G zs i wr) (hG : w.heap.size < G) (hi : i < zs.length) : sat_Text.Last w g cap G zs (i + 1) (wr.drew.setCell ⟨G, zs.length - 1 - i, none⟩ (.int .u8 (rd zs (i : Int)))) := by
 have hs := (own_store (h.out.drew) ((zs.length : Int) - 1 - i) (rd zs (i : Int))).1
 have hi2 : ((zs.length : Int) - 1 - i).toNat = zs.length - 1 - i := by omega
 rw [hi2, sat_Text.outs_step zs i hi] at hs
 refine ⟨?_, ownsRow_setCell_other h.src.drew ?_ _, hs, h.ne, (below_drew h.bel).setCell (by show w.heap.size ≤ G; omega) _⟩
 ·exact (Below.heap_setCell _ _ _ _ (by show w.heap.size ≠ G; omega)).trans h.var
 ·have := h.ne; simp [Value.ownBlock]; exact this

set_option maxHeartbeats 8000000 in
set_option maxRecDepth 100000 in
theorem sat_Text.calls (a0 : Int) (r : ByteArray) (w : World) (h : sat_Text.f a0 = some r) :
  Calls Try.prog 62 #[.int .i64 a0] w fun e w' => e = .returned (.string r) ∧ Below w.heap.size w w' := by
 unfold sat_Text.f at h
 split at h
 ·rename_i hb
  obtain ⟨hb0, hb1⟩ := hb
  have hr := Aside0.mk (Option.some.inj h)
  clear h
  have hsz := Aside0.mk (sat_Text.size_some a0 hb0 hb1)
  obtain ⟨L, hL⟩ : ∃ L, L = if a0 < 0 then -a0 else a0 := ⟨_, rfl⟩
  rw [← hL] at hsz
  have hL0 : 0 ≤ L := by rw [hL]; split <;> omega
  have hL1 : L ≤ 9223372036854775808 := by rw [hL]; split <;> omega
  have HL := Aside0.mk hL
  clear hL
  have hT : Aside0 (sat_Text.digs 20 L ++ (if a0 < 0 then [45] else []) = sat_Text.rev a0) := ⟨by rw [HL.out]; rfl⟩
  have hTl := sat_Text.digs_len 20 L
  have hT0 : 1 ≤ (sat_Text.digs 20 L).length := by simp [sat_Text.digs]
  obtain ⟨T, hTT⟩ : ∃ T, T = sat_Text.digs 20 L := ⟨_, rfl⟩
  rw [← hTT] at hT hTl hT0
  have HTT := Aside0.mk hTT
  clear hTT
  go_enter Try.func62, Try.ntmps62
  go_upto_block 0 with (go_at_call 59; refine (sat_size.calls a0 L _ hsz.out).mono ?_; rintro e w' ⟨rfl, ⟨nd, rfl⟩⟩)
  go_cut [] (fun wc => ∃ l, sat_Text.Inv w.heap.size T l wc ∧ Below w.heap.size w wc)
  case first =>
   go_wp2
   go_loopg [] 20 (fun k wr => ∃ (xs : List Int) (l : Int), sat_Text.Inv w.heap.size xs l wr ∧ Below w.heap.size w wr ∧ 0 ≤ l ∧ l ≤ 18446744073709551615 ∧ Aside0 (sat_Text.fits k l = true) ∧ Aside0 (xs ++ sat_Text.digs k l = T) ∧ Aside0 (xs.length + k ≤ 20))
   case atStart =>
    refine ⟨[], L, ⟨⟨.slice none 0 0, ?_, World.ownsRow_nil _ _ _ _⟩, ?_, ?_⟩, ?_, hL0, by omega, ⟨sat_Text.fits_start L hL1⟩, ⟨HTT.out.symm⟩, ⟨by simp⟩⟩
    ·rw [heap_alloc_old _ _ (by simp)]; exact heap_alloc_new _ _
    ·have := heap_alloc_new ((w.alloc (Obj.cells #[Value.slice none 0 0] 84)).drewN nd) (Obj.cells #[Value.int .u64 L] 71); simpa using this
    ·simp
    ·exact (pw_below_drewN ((Below.refl _ w).alloc (Nat.le_refl _) _) nd).alloc (by simp) _
   case round =>
    obtain ⟨xs, l, hinv, hbel, h0, h1, hfit, hsum, hlen⟩ := hrel
    obtain ⟨k, rfl⟩ := sat_Text.fits_pos hfit.out
    have hlen' := hlen.out
    by_cases hc : 0 < l / 10
    ·have hc' : decide (0 < l / 10) = true := decide_eq_true hc
     go_wp2_with (go_at_call 71; refine (sat_Text.step w.heap.size xs l _ hinv h0 h1 (by omega)).mono ?_; rintro e w' ⟨rfl, hinv', hbel'⟩)
     go_roundg k
     case rel => exact ⟨_, _, hinv', hbel.trans hbel', by omega, by omega, ⟨sat_Text.fits_next hfit.out hc⟩, ⟨by have := hsum.out; rw [← this]; simp only [sat_Text.digs, if_pos hc, List.append_assoc, List.singleton_append]⟩, ⟨by simp; omega⟩⟩
     case measure => omega
    ·have hc' : decide (0 < l / 10) = false := decide_eq_false hc
     have hall : Aside0 (xs ++ [48 + l % 10] = T) := ⟨by have := hsum.out; rw [← this]; simp only [sat_Text.digs, if_neg hc]⟩
     go_wp2_with (go_at_call 71; refine (sat_Text.step w.heap.size xs l _ hinv h0 h1 (by omega)).mono ?_; rintro e w' ⟨rfl, hinv', hbel'⟩)
     go_meet
     case rel => exact ⟨_, hall.out ▸ hinv', hbel.trans hbel'⟩
  case rest =>
   obtain ⟨l, ⟨⟨v, hv, hown⟩, hleft, hlt⟩, hbel⟩ := hcut
   obtain ⟨g, cap, rfl, hgb, hgl⟩ := hown.form hT0
   obtain ⟨i0, hi, hz0, hz1, hz2⟩ := info_parts sat_Text.info5
   go_upto_if 14 with (fail)
   go_cut [] (fun wc => ∃ (zs : List Int) (g cap : Nat), Aside0 (zs = sat_Text.rev a0) ∧ wc.heap[w.heap.size]? = some (.cells #[.slice (some ⟨g, 0, none⟩) zs.length cap] 84 (0, 0)) ∧ wc.ownsRow (w.heap.size + 2) 5 1 (.slice (some ⟨g, 0, none⟩) zs.length cap) zs.length (nums .u8 zs) ∧ Below w.heap.size w wc ∧ 1 ≤ zs.length ∧ zs.length ≤ 21)
   case first =>
    have cB := cell_of_one hv
    have fB := free_of_one hv
    by_cases hneg : a0 < 0
    ·have hneg' : decide (a0 < 0) = true := decide_eq_true hneg
     have hrev := Aside0.mk (show T ++ [45] = sat_Text.rev a0 by have := hT.out; rwa [if_pos hneg] at this)
     clear hT
     go_wp2_with (at_builtin; refine wpList_append_own _ rfl _ _ 84 rfl (w.heap.size + 2) 5 i0 (.int .u8 0) 1 1 Try.underlying84 hi hz0 hz1 hz2 rfl (by decide) _ _ _ rfl (hown.alloc _) ⟨wc.heap.size, 0, none⟩ 1 1 [.int .u8 45] rfl rfl ?c1 ?c2 ?c3 ?c4 ?c5 ?_)
     case c1 =>
      intro j u hj
      match j, hj with
      | 0, hj => simp at hj; subst hj; simp [Addr.add]
     case c2 => intro u hu; simp at hu; subst hu; rfl
     case c3 => unfold maxLen; omega
     case c4 => omega
     case c5 => simp; omega
     intro v' w1 hown' hgrow _
     have hN := Aside0.mk (show nums .u8 T ++ [Value.int .u8 45] = nums .u8 (T ++ [45]) by simp [nums])
     have HO := Aside0.mk hown'
     have HG := Aside0.mk hgrow
     have hB0 : w.heap.size ≠ g := by omega
     have hv1 : w1.heap[w.heap.size]? = some (.cells #[.slice (some ⟨g, 0, none⟩) T.length cap] 84 (0, 0)) := by
      rw [hgrow.block w.heap.size (by simp; omega) (by simp [Value.ownBlock]; omega), heap_alloc_old _ _ (by omega)]; exact hv
     have hb1 : Below w.heap.size w w1 := (hbel.alloc (by omega) _).grown hgrow (by simp; omega) (fun j hj => by simp [Value.ownBlock] at hj; omega)
     obtain ⟨g', cap', rfl, hgb', hgl'⟩ := hown'.form (by omega)
     have cB1 := cell_of_one hv1
     have fB1 := free_of_one hv1
     clear hown hown' hgrow cB fB hB0 hv
     go_wp2
     go_meet
     case rel =>
      have HO' := HO.out
      rw [hN.out] at HO'
      refine ⟨T ++ [45], g', cap', hrev, ?_, ?_, ?_, by simp, by simp; omega⟩
      ·rw [List.length_append]; exact one_setCell hv1
      ·rw [List.length_append]; exact ownsRow_setCell_other HO' (by simp [Value.ownBlock]; omega) _
      ·exact hb1.setCell (by simp) _
    ·have hneg' : decide (a0 < 0) = false := decide_eq_false hneg
     have hrev := Aside0.mk (show T = sat_Text.rev a0 by have := hT.out; rwa [if_neg hneg, List.append_nil] at this)
     clear hT
     go_wp2
     go_meet
     case rel => exact ⟨T, g, cap, hrev, hv, hown, hbel, hT0, by omega⟩
   case rest =>
    obtain ⟨zs, g1, cap1, hzs, hv1, hown1, hbel1, hz1', hz2'⟩ := hcut
    clear hown hv hleft hlt hbel hTl hT0 hi hz0 hz1 hz2 i0 hsz HTT hT
    obtain ⟨g, cap, he, hgb1, hgl1⟩ := hown1.form (by omega)
    obtain ⟨rfl, rfl⟩ : g1 = g ∧ cap1 = cap := by simpa using he
    clear he hgb hgl
    have cB := cell_of_one hv1
    have fB := free_of_one hv1
    have hlt1 : w.heap.size < wc.heap.size := lt_of_block hv1
    have hmk := run_make_row' (P := Try.prog) 84 5 (.int .u8 0) 1 Try.underlying84 sat_Text.info5' rfl .i64 .i64 zs.length (by omega) (by omega)
    go_wp2_with fail
    clear hmk
    have cG := own_made wc (w.heap.size + 2) 5 .u8 zs.length (by omega) (by omega)
    have hvn : (wc.alloc (.cells (madeCells #[.int .u8 0] zs.length) 5)).heap[w.heap.size]? = some (.cells #[.slice (some ⟨g1, 0, none⟩) zs.length cap1] 84 (0, 0)) := by rw [heap_alloc_old _ _ hlt1]; exact hv1
    have hl0 : sat_Text.Last w g1 cap1 wc.heap.size zs 0 (wc.alloc (.cells (madeCells #[.int .u8 0] zs.length) 5)) := ⟨hvn, hown1.alloc _, by simpa [sat_Text.outs] using cG, by omega, hbel1.alloc (by omega) _⟩
    obtain ⟨G, hG⟩ : ∃ G, G = wc.heap.size := ⟨_, rfl⟩
    rw [← hG] at hl0 ⊢
    have hGlt : w.heap.size < G := by omega
    clear cG hvn cB fB hG hown1 hv1
    go_loopg [23] zs.length (fun k i wr => ∃ n : Nat, i = .int .i64 n ∧ n ≤ zs.length ∧ Aside0 (k = zs.length - n) ∧ Aside0 (sat_Text.Last w g1 cap1 G zs n wr))
    case atStart => exact ⟨0, rfl, by omega, ⟨by omega⟩, ⟨hl0⟩⟩
    case round =>
     obtain ⟨n, rfl, hn, hk, hlast⟩ := hrel
     have hl := hlast.out
     have cB := cell_of_one hl.var
     have hconv := own_string (P := Try.prog) (src := 84) (dst := 9) (e := 5) Try.underlying84 Try.underlying5 Try.underlying9 hl.out
     by_cases hlt : n < zs.length
     ·clear hconv
      have hsrc := (own_at hl.src (n : Int) (by omega) (by omega)).1
      have hdst := own_at hl.out ((zs.length : Int) - 1 - n) (by omega) (by omega)
      have hi1 : ((n : Int)).toNat = n := by omega
      have hi2 : ((zs.length : Int) - 1 - n).toNat = zs.length - 1 - n := by omega
      rw [hi1] at hsrc
      rw [hi2] at hdst
      obtain ⟨hdst, hdstf⟩ := hdst
      clear hi1 hi2 hl
      go_wp2
      go_region
      go_wp2
      go_roundg (zs.length - (n + 1))
      case rel => exact ⟨n + 1, by go_num, by omega, ⟨rfl⟩, ⟨hlast.out.step hGlt hlt⟩⟩
      case measure => have := hk.out; omega
     ·clear hl
      obtain rfl : n = zs.length := by omega
      go_wp2
      go_ret
      refine ⟨?_, hlast.out.bel⟩
      have hr' := hr.out
      rw [← hzs.out] at hr'
      show Ending.returned (.string (strOfNums (sat_Text.outs zs zs.length))) = _
      rw [← hr', sat_Text.outs_all]
 ·cases h
section
attribute [local go_sem high] eqA25
/-! ### cut_Text: function 47 -/
def cut_Text.f (k : Nat) (a0_0 : Int) (a0_1 : Int) : Option (ByteArray) := (cut_Canon.f k a0_0 a0_1).bind fun bt201 => ((cut_First.f).bind fun bt203 => (if (bt201.1 == bt203.1 && (bt201.2 == bt203.2)) = true then (some (⟨#[45, 105, 110, 102]⟩ : ByteArray)) else ((cut_Last.f).bind fun bt205 => (if (bt201.1 == bt205.1 && (bt201.2 == bt205.2)) = true then (some (⟨#[43, 105, 110, 102]⟩ : ByteArray)) else ((sat_Text.f bt201.2).bind fun t207 => (some t207))))))
theorem cut_Text.mono : ∀ a0 a1 k, LeO (cut_Text.f k a0 a1) (cut_Text.f (k + 1) a0 a1) := by
 intro a0 a1 k
 unfold cut_Text.f
 repeat' first
   | (with_reducible exact cut_Canon.mono _ _ _)
   | (with_reducible exact LeO.refl _)
   | (with_reducible exact LeO.none _)
   | (with_reducible refine LeO.ite ?_ ?_)
   | (with_reducible refine LeO.bind ?_ (fun _ => ?_))
   | exact cut_Canon.mono _ _ _
   | exact LeO.none _
   | refine LeO.ite ?_ ?_
   | refine LeO.bind ?_ (fun _ => ?_)
set_option maxHeartbeats 8000000 in
set_option maxRecDepth 100000 in
theorem cut_Text.calls (k : Nat) (a0_0 : Int) (a0_1 : Int) (r : ByteArray) (w : World) (h : cut_Text.f k a0_0 a0_1 = some r) :
  Calls Try.prog 47 #[.agg #[.int .i64 a0_0, .int .i64 a0_1]] w fun e w' => e = .returned (.string r) ∧ Below w.heap.size w w' := by
 have hu25 := Try.underlying25
 have HB := Aside0.mk (Below.refl w.heap.size w)
 have H : ((cut_Canon.f k a0_0 a0_1).bind fun bt201 => ((cut_First.f).bind fun bt203 => (if (bt201.1 == bt203.1 && (bt201.2 == bt203.2)) = true then (some (⟨#[45, 105, 110, 102]⟩ : ByteArray)) else ((cut_Last.f).bind fun bt205 => (if (bt201.1 == bt205.1 && (bt201.2 == bt205.2)) = true then (some (⟨#[43, 105, 110, 102]⟩ : ByteArray)) else ((sat_Text.f bt201.2).bind fun t207 => (some t207))))))) = some r := h
 clear h
 replace H := Option.bind_eq_some_iff.mp H
 obtain ⟨⟨t201, t202⟩, A20, H⟩ := H
 replace H : ((cut_First.f).bind fun bt203 => (if (t201 == bt203.1 && (t202 == bt203.2)) = true then (some (⟨#[45, 105, 110, 102]⟩ : ByteArray)) else ((cut_Last.f).bind fun bt205 => (if (t201 == bt205.1 && (t202 == bt205.2)) = true then (some (⟨#[43, 105, 110, 102]⟩ : ByteArray)) else ((sat_Text.f t202).bind fun t207 => (some t207)))))) = some r := H
 have A2 := Aside0.mk A20
 clear A20
 replace H := Option.bind_eq_some_iff.mp H
 obtain ⟨⟨t203, t204⟩, A30, H⟩ := H
 replace H : (if (t201 == t203 && (t202 == t204)) = true then (some (⟨#[45, 105, 110, 102]⟩ : ByteArray)) else ((cut_Last.f).bind fun bt205 => (if (t201 == bt205.1 && (t202 == bt205.2)) = true then (some (⟨#[43, 105, 110, 102]⟩ : ByteArray)) else ((sat_Text.f t202).bind fun t207 => (some t207))))) = some r := H
 have A3 := Aside0.mk A30
 clear A30
 by_cases c4 : (t201 == t203 && (t202 == t204)) = true
 ·rw [if_pos c4] at H
  have c4b0 : (t201 == t203 && (t202 == t204)) = true := c4
  (try (have c4b1 : decide (t201 = t203 && (t202 == t204)) = true := by simpa using c4))
  (try (have c4b2 : (t201 == t203 && (t202 == t204)) = true := by simpa using c4))
  clear c4
  obtain rfl := Option.some.inj H
  go_enter Try.func47, Try.ntmps47
  go_wp2_with (first | ((with_reducible refine gate_dst (N := 1) rfl ?_); refine bxe (N := 1) (cs := #[.int .i64 a0_0, .int .i64 a0_1]) (t := 25) ?_; intro gb200 hg w5 hbox hb; have BK200 := Aside0.mk (hbox); have GW200 := lsz hg HB; have GE200 := lsz hg HB; replace HB := bst HB hb; clear hb hbox hg; obtain ⟨hcz6_0, hcz6_1⟩ := e2 BK200; obtain ⟨hfz6_0, hfz6_1⟩ := f2 BK200) | ((with_reducible refine gate_callee (f := 53) rfl ?_); refine gol (some 4) Try.func53 #[.agg #[.int .i64 a0_0, .int .i64 a0_1]] ?_; (with_reducible refine (cut_Canon.calls k a0_0 a0_1 t201 t202 _ A2.out).mono ?_); rintro e w7 ⟨rfl, hb⟩; refine ⟨_, rfl, ?_⟩; replace BK200 := bkb BK200 hb; replace HB := bst HB hb; (try clear hb); (try clear hb2); (try clear hk); (try clear hi); obtain ⟨hcz8_0, hcz8_1⟩ := e2 BK200; obtain ⟨hfz8_0, hfz8_1⟩ := f2 BK200) | ((with_reducible refine gate_callee (f := 29) rfl ?_); refine gol (some 7) Try.func29 #[] ?_; (with_reducible refine (cut_First.calls  t203 t204 _ A3.out).mono ?_); rintro e w9 ⟨rfl, hb⟩; refine ⟨_, rfl, ?_⟩; replace BK200 := Aside0.mk (blk_below (g := gb200) (o := .cells #[.int .i64 t201, .int .i64 t202] 25 (0, 0)) (bkp BK200) hb); replace HB := bst HB hb; (try clear hb); (try clear hb2); (try clear hk); (try clear hi)))
  go_ret
  exact endB HB
 ·rw [if_neg c4] at H
  have c4b0 : (t201 == t203 && (t202 == t204)) = false := by simpa using c4
  (try (have c4b1 : decide (t201 = t203 && (t202 == t204)) = false := by simpa using c4))
  (try (have c4b2 : (t201 == t203 && (t202 == t204)) = false := by simpa using c4))
  (try (have c4b3 : ¬ (t201 = t203 && (t202 == t204)) := by simpa using c4))
  clear c4
  replace H := Option.bind_eq_some_iff.mp H
  obtain ⟨⟨t205, t206⟩, A100, H⟩ := H
  replace H : (if (t201 == t205 && (t202 == t206)) = true then (some (⟨#[43, 105, 110, 102]⟩ : ByteArray)) else ((sat_Text.f t202).bind fun t207 => (some t207))) = some r := H
  have A10 := Aside0.mk A100
  clear A100
  by_cases c11 : (t201 == t205 && (t202 == t206)) = true
  ·rw [if_pos c11] at H
   have c11b0 : (t201 == t205 && (t202 == t206)) = true := c11
   (try (have c11b1 : decide (t201 = t205 && (t202 == t206)) = true := by simpa using c11))
   (try (have c11b2 : (t201 == t205 && (t202 == t206)) = true := by simpa using c11))
   clear c11
   obtain rfl := Option.some.inj H
   go_enter Try.func47, Try.ntmps47
   go_wp2_with (first | ((with_reducible refine gate_dst (N := 1) rfl ?_); refine bxe (N := 1) (cs := #[.int .i64 a0_0, .int .i64 a0_1]) (t := 25) ?_; intro gb200 hg w12 hbox hb; have BK200 := Aside0.mk (hbox); have GW200 := lsz hg HB; have GE200 := lsz hg HB; replace HB := bst HB hb; clear hb hbox hg; obtain ⟨hcz13_0, hcz13_1⟩ := e2 BK200; obtain ⟨hfz13_0, hfz13_1⟩ := f2 BK200) | ((with_reducible refine gate_callee (f := 53) rfl ?_); refine gol (some 4) Try.func53 #[.agg #[.int .i64 a0_0, .int .i64 a0_1]] ?_; (with_reducible refine (cut_Canon.calls k a0_0 a0_1 t201 t202 _ A2.out).mono ?_); rintro e w14 ⟨rfl, hb⟩; refine ⟨_, rfl, ?_⟩; replace BK200 := bkb BK200 hb; replace HB := bst HB hb; (try clear hb); (try clear hb2); (try clear hk); (try clear hi); obtain ⟨hcz15_0, hcz15_1⟩ := e2 BK200; obtain ⟨hfz15_0, hfz15_1⟩ := f2 BK200) | ((with_reducible refine gate_callee (f := 29) rfl ?_); refine gol (some 7) Try.func29 #[] ?_; (with_reducible refine (cut_First.calls  t203 t204 _ A3.out).mono ?_); rintro e w16 ⟨rfl, hb⟩; refine ⟨_, rfl, ?_⟩; replace BK200 := Aside0.mk (blk_below (g := gb200) (o := .cells #[.int .i64 t201, .int .i64 t202] 25 (0, 0)) (bkp BK200) hb); replace HB := bst HB hb; (try clear hb); (try clear hb2); (try clear hk); (try clear hi)) | ((with_reducible refine gate_callee (f := 30) rfl ?_); refine gol (some 10) Try.func30 #[] ?_; (with_reducible refine (cut_Last.calls  t205 t206 _ A10.out).mono ?_); rintro e w17 ⟨rfl, hb⟩; refine ⟨_, rfl, ?_⟩; replace BK200 := bkb BK200 hb; replace HB := bst HB hb; (try clear hb); (try clear hb2); (try clear hk); (try clear hi)))
   go_ret
   exact endB HB
  ·rw [if_neg c11] at H
   have c11b0 : (t201 == t205 && (t202 == t206)) = false := by simpa using c11
   (try (have c11b1 : decide (t201 = t205 && (t202 == t206)) = false := by simpa using c11))
   (try (have c11b2 : (t201 == t205 && (t202 == t206)) = false := by simpa using c11))
   (try (have c11b3 : ¬ (t201 = t205 && (t202 == t206)) := by simpa using c11))
   clear c11
   replace H := Option.bind_eq_some_iff.mp H
   obtain ⟨t207, A180, H⟩ := H
   replace H : (some t207) = some r := H
   have A18 := Aside0.mk A180
   clear A180
   obtain rfl := Option.some.inj H
   go_enter Try.func47, Try.ntmps47
   go_wp2_with (first | ((with_reducible refine gate_dst (N := 1) rfl ?_); refine bxe (N := 1) (cs := #[.int .i64 a0_0, .int .i64 a0_1]) (t := 25) ?_; intro gb200 hg w19 hbox hb; have BK200 := Aside0.mk (hbox); have GW200 := lsz hg HB; have GE200 := lsz hg HB; replace HB := bst HB hb; clear hb hbox hg; obtain ⟨hcz20_0, hcz20_1⟩ := e2 BK200; obtain ⟨hfz20_0, hfz20_1⟩ := f2 BK200) | ((with_reducible refine gate_callee (f := 53) rfl ?_); refine gol (some 4) Try.func53 #[.agg #[.int .i64 a0_0, .int .i64 a0_1]] ?_; (with_reducible refine (cut_Canon.calls k a0_0 a0_1 t201 t202 _ A2.out).mono ?_); rintro e w21 ⟨rfl, hb⟩; refine ⟨_, rfl, ?_⟩; replace BK200 := bkb BK200 hb; replace HB := bst HB hb; (try clear hb); (try clear hb2); (try clear hk); (try clear hi); obtain ⟨hcz22_0, hcz22_1⟩ := e2 BK200; obtain ⟨hfz22_0, hfz22_1⟩ := f2 BK200) | ((with_reducible refine gate_callee (f := 29) rfl ?_); refine gol (some 7) Try.func29 #[] ?_; (with_reducible refine (cut_First.calls  t203 t204 _ A3.out).mono ?_); rintro e w23 ⟨rfl, hb⟩; refine ⟨_, rfl, ?_⟩; replace BK200 := Aside0.mk (blk_below (g := gb200) (o := .cells #[.int .i64 t201, .int .i64 t202] 25 (0, 0)) (bkp BK200) hb); replace HB := bst HB hb; (try clear hb); (try clear hb2); (try clear hk); (try clear hi)) | ((with_reducible refine gate_callee (f := 30) rfl ?_); refine gol (some 10) Try.func30 #[] ?_; (with_reducible refine (cut_Last.calls  t205 t206 _ A10.out).mono ?_); rintro e w24 ⟨rfl, hb⟩; refine ⟨_, rfl, ?_⟩; replace BK200 := bkb BK200 hb; replace HB := bst HB hb; (try clear hb); (try clear hb2); (try clear hk); (try clear hi); obtain ⟨hcz25_0, hcz25_1⟩ := e2 BK200; obtain ⟨hfz25_0, hfz25_1⟩ := f2 BK200) | ((with_reducible refine gate_callee (f := 62) rfl ?_); refine gol (some 14) Try.func62 #[.int .i64 t202] ?_; (with_reducible refine (sat_Text.calls t202 t207 _ A18.out).mono ?_); rintro e w26 ⟨rfl, hb⟩; refine ⟨_, rfl, ?_⟩; replace BK200 := bkb BK200 hb; replace HB := bst HB hb; (try clear hb); (try clear hb2); (try clear hk); (try clear hi)))
   go_ret
   exact endB HB
end
section
attribute [local go_sem high] eqA25
/-! ### bound_Text: function 18 -/
def bound_Text.f (k : Nat) (a0_0 : Int) (a0_1 : Int) (a0_2 : Int) (a0_3 : Int) : Option (ByteArray) := (span_Right.f k a0_0 a0_1 a0_2 a0_3).bind fun t209 => (if t209 = true then ((cut_First.f).bind fun bt210 => (if (a0_0 == bt210.1 && (a0_1 == bt210.2)) = true then ((cut_Text.f k a0_0 a0_1).bind fun t212 => (if 1 + t212.size ≤ 9223372036854775807 then (if ((⟨#[40]⟩ : ByteArray) ++ t212).size + 1 ≤ 9223372036854775807 then ((cut_Text.f k a0_2 a0_3).bind fun t213 => (if (((⟨#[40]⟩ : ByteArray) ++ t212) ++ (⟨#[44]⟩ : ByteArray)).size + t213.size ≤ 9223372036854775807 then (if ((((⟨#[40]⟩ : ByteArray) ++ t212) ++ (⟨#[44]⟩ : ByteArray)) ++ t213).size + 1 ≤ 9223372036854775807 then (some (((((⟨#[40]⟩ : ByteArray) ++ t212) ++ (⟨#[44]⟩ : ByteArray)) ++ t213) ++ (⟨#[41]⟩ : ByteArray))) else (none)) else (none))) else (none)) else (none))) else ((cut_Text.f k a0_0 a0_1).bind fun t214 => (if 1 + t214.size ≤ 9223372036854775807 then (if ((⟨#[91]⟩ : ByteArray) ++ t214).size + 1 ≤ 9223372036854775807 then ((cut_Text.f k a0_2 a0_3).bind fun t215 => (if (((⟨#[91]⟩ : ByteArray) ++ t214) ++ (⟨#[44]⟩ : ByteArray)).size + t215.size ≤ 9223372036854775807 then (if ((((⟨#[91]⟩ : ByteArray) ++ t214) ++ (⟨#[44]⟩ : ByteArray)) ++ t215).size + 1 ≤ 9223372036854775807 then (some (((((⟨#[91]⟩ : ByteArray) ++ t214) ++ (⟨#[44]⟩ : ByteArray)) ++ t215) ++ (⟨#[41]⟩ : ByteArray))) else (none)) else (none))) else (none)) else (none))))) else (some (⟨#[]⟩ : ByteArray)))
theorem bound_Text.mono : ∀ a0 a1 a2 a3 k, LeO (bound_Text.f k a0 a1 a2 a3) (bound_Text.f (k + 1) a0 a1 a2 a3) := by
 intro a0 a1 a2 a3 k
 unfold bound_Text.f
 repeat' first
   | (with_reducible exact cut_Text.mono _ _ _)
   | (with_reducible exact span_Right.mono _ _ _ _ _)
   | (with_reducible exact LeO.refl _)
   | (with_reducible exact LeO.none _)
   | (with_reducible refine LeO.ite ?_ ?_)
   | (with_reducible refine LeO.bind ?_ (fun _ => ?_))
   | exact cut_Text.mono _ _ _
   | exact span_Right.mono _ _ _ _ _
   | exact LeO.none _
   | refine LeO.ite ?_ ?_
   | refine LeO.bind ?_ (fun _ => ?_)
def bound_Text.T6 : Bool × List (List Nat × List Nat) := (true, [([], []), ([], []), ([1], [1]), ([2], [2]), ([0, 3], [0, 3]), ([4], [4]), ([], []), ([6], [6]), ([7, 3], [7]), ([5, 8], [5, 8]), ([9], [9]), ([10, 8, 0, 1, 2, 3, 4, 5, 6, 7, 8, 9, 10], [10])])
def bound_Text.B6 : List Nat := [0, 0, 2, 6, 15, 31, 0, 64, 206, 511, 1023, 2047]
theorem bound_Text.tab6 : rtab .any (opsOf Try.f18 6) = bound_Text.T6 := by kernel_rfl
theorem bound_Text.bits6 : waitsOk bound_Text.T6.2 bound_Text.B6 = true := by kernel_rfl
set_option maxHeartbeats 8000000 in
set_option maxRecDepth 100000 in
theorem bound_Text.calls (k : Nat) (a0_0 : Int) (a0_1 : Int) (a0_2 : Int) (a0_3 : Int) (r : ByteArray) (w : World) (h : bound_Text.f k a0_0 a0_1 a0_2 a0_3 = some r) :
  Calls Try.prog 18 #[.agg #[.int .i64 a0_0, .int .i64 a0_1, .int .i64 a0_2, .int .i64 a0_3]] w fun e w' => e = .returned (.string r) ∧ Below w.heap.size w w' := by
 have hu27 := Try.underlying27
 have hu25 := Try.underlying25
 have HB := Aside0.mk (Below.refl w.heap.size w)
 have H : ((span_Right.f k a0_0 a0_1 a0_2 a0_3).bind fun t209 => (if t209 = true then ((cut_First.f).bind fun bt210 => (if (a0_0 == bt210.1 && (a0_1 == bt210.2)) = true then ((cut_Text.f k a0_0 a0_1).bind fun t212 => (if 1 + t212.size ≤ 9223372036854775807 then (if ((⟨#[40]⟩ : ByteArray) ++ t212).size + 1 ≤ 9223372036854775807 then ((cut_Text.f k a0_2 a0_3).bind fun t213 => (if (((⟨#[40]⟩ : ByteArray) ++ t212) ++ (⟨#[44]⟩ : ByteArray)).size + t213.size ≤ 9223372036854775807 then (if ((((⟨#[40]⟩ : ByteArray) ++ t212) ++ (⟨#[44]⟩ : ByteArray)) ++ t213).size + 1 ≤ 9223372036854775807 then (some (((((⟨#[40]⟩ : ByteArray) ++ t212) ++ (⟨#[44]⟩ : ByteArray)) ++ t213) ++ (⟨#[41]⟩ : ByteArray))) else (none)) else (none))) else (none)) else (none))) else ((cut_Text.f k a0_0 a0_1).bind fun t214 => (if 1 + t214.size ≤ 9223372036854775807 then (if ((⟨#[91]⟩ : ByteArray) ++ t214).size + 1 ≤ 9223372036854775807 then ((cut_Text.f k a0_2 a0_3).bind fun t215 => (if (((⟨#[91]⟩ : ByteArray) ++ t214) ++ (⟨#[44]⟩ : ByteArray)).size + t215.size ≤ 9223372036854775807 then (if ((((⟨#[91]⟩ : ByteArray) ++ t214) ++ (⟨#[44]⟩ : ByteArray)) ++ t215).size + 1 ≤ 9223372036854775807 then (some (((((⟨#[91]⟩ : ByteArray) ++ t214) ++ (⟨#[44]⟩ : ByteArray)) ++ t215) ++ (⟨#[41]⟩ : ByteArray))) else (none)) else (none))) else (none)) else (none))))) else (some (⟨#[]⟩ : ByteArray)))) = some r := h
 clear h
 replace H := Option.bind_eq_some_iff.mp H
 obtain ⟨t209, A20, H⟩ := H
 replace H : (if t209 = true then ((cut_First.f).bind fun bt210 => (if (a0_0 == bt210.1 && (a0_1 == bt210.2)) = true then ((cut_Text.f k a0_0 a0_1).bind fun t212 => (if 1 + t212.size ≤ 9223372036854775807 then (if ((⟨#[40]⟩ : ByteArray) ++ t212).size + 1 ≤ 9223372036854775807 then ((cut_Text.f k a0_2 a0_3).bind fun t213 => (if (((⟨#[40]⟩ : ByteArray) ++ t212) ++ (⟨#[44]⟩ : ByteArray)).size + t213.size ≤ 9223372036854775807 then (if ((((⟨#[40]⟩ : ByteArray) ++ t212) ++ (⟨#[44]⟩ : ByteArray)) ++ t213).size + 1 ≤ 9223372036854775807 then (some (((((⟨#[40]⟩ : ByteArray) ++ t212) ++ (⟨#[44]⟩ : ByteArray)) ++ t213) ++ (⟨#[41]⟩ : ByteArray))) else (none)) else (none))) else (none)) else (none))) else ((cut_Text.f k a0_0 a0_1).bind fun t214 => (if 1 + t214.size ≤ 9223372036854775807 then (if ((⟨#[91]⟩ : ByteArray) ++ t214).size + 1 ≤ 9223372036854775807 then ((cut_Text.f k a0_2 a0_3).bind fun t215 => (if (((⟨#[91]⟩ : ByteArray) ++ t214) ++ (⟨#[44]⟩ : ByteArray)).size + t215.size ≤ 9223372036854775807 then (if ((((⟨#[91]⟩ : ByteArray) ++ t214) ++ (⟨#[44]⟩ : ByteArray)) ++ t215).size + 1 ≤ 9223372036854775807 then (some (((((⟨#[91]⟩ : ByteArray) ++ t214) ++ (⟨#[44]⟩ : ByteArray)) ++ t215) ++ (⟨#[41]⟩ : ByteArray))) else (none)) else (none))) else (none)) else (none))))) else (some (⟨#[]⟩ : ByteArray))) = some r := H
 have A2 := Aside0.mk A20
 clear A20
 by_cases c3 : t209 = true
 ·subst c3
  have H1 : ((cut_First.f).bind fun bt210 => (if (a0_0 == bt210.1 && (a0_1 == bt210.2)) = true then ((cut_Text.f k a0_0 a0_1).bind fun t212 => (if 1 + t212.size ≤ 9223372036854775807 then (if ((⟨#[40]⟩ : ByteArray) ++ t212).size + 1 ≤ 9223372036854775807 then ((cut_Text.f k a0_2 a0_3).bind fun t213 => (if (((⟨#[40]⟩ : ByteArray) ++ t212) ++ (⟨#[44]⟩ : ByteArray)).size + t213.size ≤ 9223372036854775807 then (if ((((⟨#[40]⟩ : ByteArray) ++ t212) ++ (⟨#[44]⟩ : ByteArray)) ++ t213).size + 1 ≤ 9223372036854775807 then (some (((((⟨#[40]⟩ : ByteArray) ++ t212) ++ (⟨#[44]⟩ : ByteArray)) ++ t213) ++ (⟨#[41]⟩ : ByteArray))) else (none)) else (none))) else (none)) else (none))) else ((cut_Text.f k a0_0 a0_1).bind fun t214 => (if 1 + t214.size ≤ 9223372036854775807 then (if ((⟨#[91]⟩ : ByteArray) ++ t214).size + 1 ≤ 9223372036854775807 then ((cut_Text.f k a0_2 a0_3).bind fun t215 => (if (((⟨#[91]⟩ : ByteArray) ++ t214) ++ (⟨#[44]⟩ : ByteArray)).size + t215.size ≤ 9223372036854775807 then (if ((((⟨#[91]⟩ : ByteArray) ++ t214) ++ (⟨#[44]⟩ : ByteArray)) ++ t215).size + 1 ≤ 9223372036854775807 then (some (((((⟨#[91]⟩ : ByteArray) ++ t214) ++ (⟨#[44]⟩ : ByteArray)) ++ t215) ++ (⟨#[41]⟩ : ByteArray))) else (none)) else (none))) else (none)) else (none))))) = some r := by rw [if_pos rfl] at H; exact H
  clear H
  have H := H1
  clear H1
  replace H := Option.bind_eq_some_iff.mp H
  obtain ⟨⟨t210, t211⟩, A40, H⟩ := H
  replace H : (if (a0_0 == t210 && (a0_1 == t211)) = true then ((cut_Text.f k a0_0 a0_1).bind fun t212 => (if 1 + t212.size ≤ 9223372036854775807 then (if ((⟨#[40]⟩ : ByteArray) ++ t212).size + 1 ≤ 9223372036854775807 then ((cut_Text.f k a0_2 a0_3).bind fun t213 => (if (((⟨#[40]⟩ : ByteArray) ++ t212) ++ (⟨#[44]⟩ : ByteArray)).size + t213.size ≤ 9223372036854775807 then (if ((((⟨#[40]⟩ : ByteArray) ++ t212) ++ (⟨#[44]⟩ : ByteArray)) ++ t213).size + 1 ≤ 9223372036854775807 then (some (((((⟨#[40]⟩ : ByteArray) ++ t212) ++ (⟨#[44]⟩ : ByteArray)) ++ t213) ++ (⟨#[41]⟩ : ByteArray))) else (none)) else (none))) else (none)) else (none))) else ((cut_Text.f k a0_0 a0_1).bind fun t214 => (if 1 + t214.size ≤ 9223372036854775807 then (if ((⟨#[91]⟩ : ByteArray) ++ t214).size + 1 ≤ 9223372036854775807 then ((cut_Text.f k a0_2 a0_3).bind fun t215 => (if (((⟨#[91]⟩ : ByteArray) ++ t214) ++ (⟨#[44]⟩ : ByteArray)).size + t215.size ≤ 9223372036854775807 then (if ((((⟨#[91]⟩ : ByteArray) ++ t214) ++ (⟨#[44]⟩ : ByteArray)) ++ t215).size + 1 ≤ 9223372036854775807 then (some (((((⟨#[91]⟩ : ByteArray) ++ t214) ++ (⟨#[44]⟩ : ByteArray)) ++ t215) ++ (⟨#[41]⟩ : ByteArray))) else (none)) else (none))) else (none)) else (none)))) = some r := H
  have A4 := Aside0.mk A40
  clear A40
  by_cases c5 : (a0_0 == t210 && (a0_1 == t211)) = true
  ·rw [if_pos c5] at H
   have c5b0 : (a0_0 == t210 && (a0_1 == t211)) = true := c5
   (try (have c5b1 : decide (a0_0 = t210 && (a0_1 == t211)) = true := by simpa using c5))
   (try (have c5b2 : (a0_0 == t210 && (a0_1 == t211)) = true := by simpa using c5))
   clear c5
   replace H := Option.bind_eq_some_iff.mp H
   obtain ⟨t212, A60, H⟩ := H
   replace H : (if 1 + t212.size ≤ 9223372036854775807 then (if ((⟨#[40]⟩ : ByteArray) ++ t212).size + 1 ≤ 9223372036854775807 then ((cut_Text.f k a0_2 a0_3).bind fun t213 => (if (((⟨#[40]⟩ : ByteArray) ++ t212) ++ (⟨#[44]⟩ : ByteArray)).size + t213.size ≤ 9223372036854775807 then (if ((((⟨#[40]⟩ : ByteArray) ++ t212) ++ (⟨#[44]⟩ : ByteArray)) ++ t213).size + 1 ≤ 9223372036854775807 then (some (((((⟨#[40]⟩ : ByteArray) ++ t212) ++ (⟨#[44]⟩ : ByteArray)) ++ t213) ++ (⟨#[41]⟩ : ByteArray))) else (none)) else (none))) else (none)) else (none)) = some r := H
   have A6 := Aside0.mk A60
   clear A60
   by_cases c7 : 1 + t212.size ≤ 9223372036854775807
   ·rw [if_pos c7] at H
    have c7b0 := eq_true c7
    have c7b1 : decide (1 + t212.size ≤ 9223372036854775807) = true := decide_eq_true c7
    try have c7b2 : (9223372036854775807 < 1 + t212.size) = False := eq_false (Nat.not_lt.2 c7)
    by_cases c8 : ((⟨#[40]⟩ : ByteArray) ++ t212).size + 1 ≤ 9223372036854775807
    ·rw [if_pos c8] at H
     have c8b0 := eq_true c8
     have c8b1 : decide (((⟨#[40]⟩ : ByteArray) ++ t212).size + 1 ≤ 9223372036854775807) = true := decide_eq_true c8
     try have c8b2 : (9223372036854775807 < ((⟨#[40]⟩ : ByteArray) ++ t212).size + 1) = False := eq_false (Nat.not_lt.2 c8)
     try have c8b3 : (9223372036854775807 < 1 + t212.size + 1) = False := eq_false (Nat.not_lt.2 (by have h := c8; simp only [ByteArray.size_append] at h; exact h))
     replace H := Option.bind_eq_some_iff.mp H
     obtain ⟨t213, A90, H⟩ := H
     replace H : (if (((⟨#[40]⟩ : ByteArray) ++ t212) ++ (⟨#[44]⟩ : ByteArray)).size + t213.size ≤ 9223372036854775807 then (if ((((⟨#[40]⟩ : ByteArray) ++ t212) ++ (⟨#[44]⟩ : ByteArray)) ++ t213).size + 1 ≤ 9223372036854775807 then (some (((((⟨#[40]⟩ : ByteArray) ++ t212) ++ (⟨#[44]⟩ : ByteArray)) ++ t213) ++ (⟨#[41]⟩ : ByteArray))) else (none)) else (none)) = some r := H
     have A9 := Aside0.mk A90
     clear A90
     by_cases c10 : (((⟨#[40]⟩ : ByteArray) ++ t212) ++ (⟨#[44]⟩ : ByteArray)).size + t213.size ≤ 9223372036854775807
     ·rw [if_pos c10] at H
      have c10b0 := eq_true c10
      have c10b1 : decide ((((⟨#[40]⟩ : ByteArray) ++ t212) ++ (⟨#[44]⟩ : ByteArray)).size + t213.size ≤ 9223372036854775807) = true := decide_eq_true c10
      try have c10b2 : (9223372036854775807 < (((⟨#[40]⟩ : ByteArray) ++ t212) ++ (⟨#[44]⟩ : ByteArray)).size + t213.size) = False := eq_false (Nat.not_lt.2 c10)
      try have c10b3 : (9223372036854775807 < 1 + t212.size + 1 + t213.size) = False := eq_false (Nat.not_lt.2 (by have h := c10; simp only [ByteArray.size_append] at h; exact h))
      by_cases c11 : ((((⟨#[40]⟩ : ByteArray) ++ t212) ++ (⟨#[44]⟩ : ByteArray)) ++ t213).size + 1 ≤ 9223372036854775807
      ·rw [if_pos c11] at H
       have c11b0 := eq_true c11
       have c11b1 : decide (((((⟨#[40]⟩ : ByteArray) ++ t212) ++ (⟨#[44]⟩ : ByteArray)) ++ t213).size + 1 ≤ 9223372036854775807) = true := decide_eq_true c11
       try have c11b2 : (9223372036854775807 < ((((⟨#[40]⟩ : ByteArray) ++ t212) ++ (⟨#[44]⟩ : ByteArray)) ++ t213).size + 1) = False := eq_false (Nat.not_lt.2 c11)
       try have c11b3 : (9223372036854775807 < 1 + t212.size + 1 + t213.size + 1) = False := eq_false (Nat.not_lt.2 (by have h := c11; simp only [ByteArray.size_append] at h; exact h))
       obtain rfl := Option.some.inj H
       go_enter Try.func18, Try.ntmps18
       try go_wp2_with (first | ((with_reducible refine gate_dst (N := 1) rfl ?_); refine bxe (N := 1) (cs := #[.int .i64 a0_0, .int .i64 a0_1, .int .i64 a0_2, .int .i64 a0_3]) (t := 27) ?_; intro gb208 hg w12 hbox hb; have BK208 := Aside0.mk (hbox); have GW208 := lsz hg HB; have GE208 := lsz hg HB; replace HB := bst HB hb; clear hb hbox hg; obtain ⟨hcz13_0, hcz13_1, hcz13_2, hcz13_3⟩ := e4 BK208; obtain ⟨hfz13_0, hfz13_1, hfz13_2, hfz13_3⟩ := f4 BK208) | ((with_reducible refine gate_callee (f := 46) rfl ?_); refine gol (some 5) Try.func46 #[.agg #[.int .i64 a0_0, .int .i64 a0_1, .int .i64 a0_2, .int .i64 a0_3]] ?_; (with_reducible refine (span_Right.calls k a0_0 a0_1 a0_2 a0_3 true _ A2.out).mono ?_); rintro e w14 ⟨rfl, hb⟩; refine ⟨_, rfl, ?_⟩; replace BK208 := bkb BK208 hb; replace HB := bst HB hb; (try clear hb); (try clear hb2); (try clear hk); (try clear hi)))
       replace BK208 := Aside0.mk (blk_drew BK208.out)
       replace HB := Aside0.mk (below_drew1 HB.out)
       refine start_ (n := 4) (S := fun w' => w'.cell? ⟨gb208, 0, none⟩ = some (.int .i64 a0_0) ∧ w'.cell? ⟨gb208, 1, none⟩ = some (.int .i64 a0_1) ∧ w'.cell? ⟨gb208, 2, none⟩ = some (.int .i64 a0_2) ∧ w'.cell? ⟨gb208, 3, none⟩ = some (.int .i64 a0_3)) (ds := []) #[false, false, false, false] (by kernel_rfl) rfl rfl (e4 BK208) (fun hHeld => ?_)
       generalize w14.drew = w15 at BK208 HB hHeld ⊢
       refine pu 0 (some 7) #[true, false, false, false] (by kernel_rfl) ?_
       refine tk4 1 (some 8) #[true, true, false, false] (by kernel_rfl) hHeld ?_
       refine one_ (i := 2) (N := some 9) #[true, true, true, false] rfl rfl (by kernel_rfl) (by decide) (fun K hK => ?_)
       refine goes_ Try.func29 (by kernel_rfl) rfl #[] (by rfl) rfl rfl (by (try simp only [List.map_toArray, List.map_cons, List.map_nil]); first | done | rfl | (simp only [List.length_drop, List.length_take]; rfl)) ?_
       with_reducible refine (cut_First.calls  t210 t211 _ A4.out).mono ?_
       rintro e w16 ⟨rfl, hb⟩
       refine ⟨_, rfl, ?_⟩
       replace BK208 := bkb BK208 hb
       replace HB := bst HB hb
       (try clear hb)
       (try clear hb2)
       (try clear hk)
       (try clear hi)
       refine hK.out _ _ (e4 BK208) (fun hHeld => ?_)
       clear hK K
       refine nrp 9 ?_
       refine pu 3 (some 10) #[true, true, true, true] (by kernel_rfl) ?_
       refine done_ (by kernel_rfl) ?_
       try go_wp2
       replace BK208 := Aside0.mk (blk_drew BK208.out)
       replace HB := Aside0.mk (below_drew1 HB.out)
       refine start_ (n := 12) (S := fun w' => w'.cell? ⟨gb208, 0, none⟩ = some (.int .i64 a0_0) ∧ w'.cell? ⟨gb208, 1, none⟩ = some (.int .i64 a0_1) ∧ w'.cell? ⟨gb208, 2, none⟩ = some (.int .i64 a0_2) ∧ w'.cell? ⟨gb208, 3, none⟩ = some (.int .i64 a0_3)) (ds := []) #[false, false, false, false, false, false, false, false, false, false, false, false] (by kernel_rfl) rfl rfl (e4 BK208) (fun hHeld => ?_); refine with_tabW bound_Text.tab6 bound_Text.bits6 (fun HT_ HW_ => ?_)
       generalize w16.drew = w17 at BK208 HB hHeld ⊢
       refine pw 0 11 HT_ ?_; refine pw 1 12 HT_ ?_; refine pw 6 17 HT_ ?_; refine tw4 2 13 HT_ HW_ hHeld ?_; refine tw4 7 18 HT_ HW_ hHeld ?_
       refine one_ (i := 3) (N := some 14) #[true, true, true, true, false, false, true, true, false, false, false, false] rfl rfl (one_of HT_.out (by kernel_rfl)) (by decide) (fun K hK => ?_)
       refine goes_ Try.func47 (by kernel_rfl) rfl #[.agg #[.int .i64 a0_0, .int .i64 a0_1]] (by rfl) rfl rfl (by (try simp only [List.map_toArray, List.map_cons, List.map_nil]); first | done | rfl | (simp only [List.length_drop, List.length_take]; rfl)) ?_
       with_reducible refine (cut_Text.calls k a0_0 a0_1 t212 _ A6.out).mono ?_
       rintro e w18 ⟨rfl, hb⟩
       refine ⟨_, rfl, ?_⟩
       replace BK208 := bkb BK208 hb
       replace HB := bst HB hb
       (try clear hb)
       refine hK.out _ _ (e4 BK208) (fun hHeld => ?_)
       clear hK K
       refine nrp 14 ?_
       refine pw 4 15 HT_ ?_; refine pw 5 16 HT_ ?_
       refine one_ (i := 8) (N := some 19) #[true, true, true, true, true, true, true, true, true, false, false, false] rfl rfl (one_of HT_.out (by kernel_rfl)) (by decide) (fun K hK => ?_)
       refine goes_ Try.func47 (by kernel_rfl) rfl #[.agg #[.int .i64 a0_2, .int .i64 a0_3]] (by rfl) rfl rfl (by (try simp only [List.map_toArray, List.map_cons, List.map_nil]); first | done | rfl | (simp only [List.length_drop, List.length_take]; rfl)) ?_
       with_reducible refine (cut_Text.calls k a0_2 a0_3 t213 _ A9.out).mono ?_
       rintro e w19 ⟨rfl, hb⟩
       refine ⟨_, rfl, ?_⟩
       replace BK208 := bkb BK208 hb
       replace HB := bst HB hb
       (try clear hb)
       refine hK.out _ _ (e4 BK208) (fun hHeld => ?_)
       clear hK K
       refine nrp 19 ?_
       refine pw 9 20 HT_ ?_; refine pw 10 21 HT_ ?_; refine pw 11 2 HT_ ?_
       refine done_ (done_of HT_.out (by kernel_rfl)) ?_
       try go_wp2
       go_ret
       exact endB HB
      ·rw [if_neg c11] at H
       exact absurd H (by simp)
     ·rw [if_neg c10] at H
      exact absurd H (by simp)
    ·rw [if_neg c8] at H
     exact absurd H (by simp)
   ·rw [if_neg c7] at H
    exact absurd H (by simp)
  ·rw [if_neg c5] at H
   have c5b0 : (a0_0 == t210 && (a0_1 == t211)) = false := by simpa using c5
   (try (have c5b1 : decide (a0_0 = t210 && (a0_1 == t211)) = false := by simpa using c5))
   (try (have c5b2 : (a0_0 == t210 && (a0_1 == t211)) = false := by simpa using c5))
   (try (have c5b3 : ¬ (a0_0 = t210 && (a0_1 == t211)) := by simpa using c5))
   clear c5
   replace H := Option.bind_eq_some_iff.mp H
   obtain ⟨t214, A200, H⟩ := H
   replace H : (if 1 + t214.size ≤ 9223372036854775807 then (if ((⟨#[91]⟩ : ByteArray) ++ t214).size + 1 ≤ 9223372036854775807 then ((cut_Text.f k a0_2 a0_3).bind fun t215 => (if (((⟨#[91]⟩ : ByteArray) ++ t214) ++ (⟨#[44]⟩ : ByteArray)).size + t215.size ≤ 9223372036854775807 then (if ((((⟨#[91]⟩ : ByteArray) ++ t214) ++ (⟨#[44]⟩ : ByteArray)) ++ t215).size + 1 ≤ 9223372036854775807 then (some (((((⟨#[91]⟩ : ByteArray) ++ t214) ++ (⟨#[44]⟩ : ByteArray)) ++ t215) ++ (⟨#[41]⟩ : ByteArray))) else (none)) else (none))) else (none)) else (none)) = some r := H
   have A20 := Aside0.mk A200
   clear A200
   by_cases c21 : 1 + t214.size ≤ 9223372036854775807
   ·rw [if_pos c21] at H
    have c21b0 := eq_true c21
    have c21b1 : decide (1 + t214.size ≤ 9223372036854775807) = true := decide_eq_true c21
    try have c21b2 : (9223372036854775807 < 1 + t214.size) = False := eq_false (Nat.not_lt.2 c21)
    by_cases c22 : ((⟨#[91]⟩ : ByteArray) ++ t214).size + 1 ≤ 9223372036854775807
    ·rw [if_pos c22] at H
     have c22b0 := eq_true c22
     have c22b1 : decide (((⟨#[91]⟩ : ByteArray) ++ t214).size + 1 ≤ 9223372036854775807) = true := decide_eq_true c22
     try have c22b2 : (9223372036854775807 < ((⟨#[91]⟩ : ByteArray) ++ t214).size + 1) = False := eq_false (Nat.not_lt.2 c22)
     try have c22b3 : (9223372036854775807 < 1 + t214.size + 1) = False := eq_false (Nat.not_lt.2 (by have h := c22; simp only [ByteArray.size_append] at h; exact h))
     replace H := Option.bind_eq_some_iff.mp H
     obtain ⟨t215, A230, H⟩ := H
     replace H : (if (((⟨#[91]⟩ : ByteArray) ++ t214) ++ (⟨#[44]⟩ : ByteArray)).size + t215.size ≤ 9223372036854775807 then (if ((((⟨#[91]⟩ : ByteArray) ++ t214) ++ (⟨#[44]⟩ : ByteArray)) ++ t215).size + 1 ≤ 9223372036854775807 then (some (((((⟨#[91]⟩ : ByteArray) ++ t214) ++ (⟨#[44]⟩ : ByteArray)) ++ t215) ++ (⟨#[41]⟩ : ByteArray))) else (none)) else (none)) = some r := H
     have A23 := Aside0.mk A230
     clear A230
     by_cases c24 : (((⟨#[91]⟩ : ByteArray) ++ t214) ++ (⟨#[44]⟩ : ByteArray)).size + t215.size ≤ 9223372036854775807
     ·rw [if_pos c24] at H
      have c24b0 := eq_true c24
      have c24b1 : decide ((((⟨#[91]⟩ : ByteArray) ++ t214) ++ (⟨#[44]⟩ : ByteArray)).size + t215.size ≤ 9223372036854775807) = true := decide_eq_true c24
      try have c24b2 : (9223372036854775807 < (((⟨#[91]⟩ : ByteArray) ++ t214) ++ (⟨#[44]⟩ : ByteArray)).size + t215.size) = False := eq_false (Nat.not_lt.2 c24)
      try have c24b3 : (9223372036854775807 < 1 + t214.size + 1 + t215.size) = False := eq_false (Nat.not_lt.2 (by have h := c24; simp only [ByteArray.size_append] at h; exact h))
      by_cases c25 : ((((⟨#[91]⟩ : ByteArray) ++ t214) ++ (⟨#[44]⟩ : ByteArray)) ++ t215).size + 1 ≤ 9223372036854775807
      ·rw [if_pos c25] at H
       have c25b0 := eq_true c25
       have c25b1 : decide (((((⟨#[91]⟩ : ByteArray) ++ t214) ++ (⟨#[44]⟩ : ByteArray)) ++ t215).size + 1 ≤ 9223372036854775807) = true := decide_eq_true c25
       try have c25b2 : (9223372036854775807 < ((((⟨#[91]⟩ : ByteArray) ++ t214) ++ (⟨#[44]⟩ : ByteArray)) ++ t215).size + 1) = False := eq_false (Nat.not_lt.2 c25)
       try have c25b3 : (9223372036854775807 < 1 + t214.size + 1 + t215.size + 1) = False := eq_false (Nat.not_lt.2 (by have h := c25; simp only [ByteArray.size_append] at h; exact h))
       obtain rfl := Option.some.inj H
       go_enter Try.func18, Try.ntmps18
       try go_wp2_with (first | ((with_reducible refine gate_dst (N := 1) rfl ?_); refine bxe (N := 1) (cs := #[.int .i64 a0_0, .int .i64 a0_1, .int .i64 a0_2, .int .i64 a0_3]) (t := 27) ?_; intro gb208 hg w26 hbox hb; have BK208 := Aside0.mk (hbox); have GW208 := lsz hg HB; have GE208 := lsz hg HB; replace HB := bst HB hb; clear hb hbox hg; obtain ⟨hcz27_0, hcz27_1, hcz27_2, hcz27_3⟩ := e4 BK208; obtain ⟨hfz27_0, hfz27_1, hfz27_2, hfz27_3⟩ := f4 BK208) | ((with_reducible refine gate_callee (f := 46) rfl ?_); refine gol (some 5) Try.func46 #[.agg #[.int .i64 a0_0, .int .i64 a0_1, .int .i64 a0_2, .int .i64 a0_3]] ?_; (with_reducible refine (span_Right.calls k a0_0 a0_1 a0_2 a0_3 true _ A2.out).mono ?_); rintro e w28 ⟨rfl, hb⟩; refine ⟨_, rfl, ?_⟩; replace BK208 := bkb BK208 hb; replace HB := bst HB hb; (try clear hb); (try clear hb2); (try clear hk); (try clear hi)))
       replace BK208 := Aside0.mk (blk_drew BK208.out)
       replace HB := Aside0.mk (below_drew1 HB.out)
       refine start_ (n := 4) (S := fun w' => w'.cell? ⟨gb208, 0, none⟩ = some (.int .i64 a0_0) ∧ w'.cell? ⟨gb208, 1, none⟩ = some (.int .i64 a0_1) ∧ w'.cell? ⟨gb208, 2, none⟩ = some (.int .i64 a0_2) ∧ w'.cell? ⟨gb208, 3, none⟩ = some (.int .i64 a0_3)) (ds := []) #[false, false, false, false] (by kernel_rfl) rfl rfl (e4 BK208) (fun hHeld => ?_)
       generalize w28.drew = w29 at BK208 HB hHeld ⊢
       refine pu 0 (some 7) #[true, false, false, false] (by kernel_rfl) ?_
       refine tk4 1 (some 8) #[true, true, false, false] (by kernel_rfl) hHeld ?_
       refine one_ (i := 2) (N := some 9) #[true, true, true, false] rfl rfl (by kernel_rfl) (by decide) (fun K hK => ?_)
       refine goes_ Try.func29 (by kernel_rfl) rfl #[] (by rfl) rfl rfl (by (try simp only [List.map_toArray, List.map_cons, List.map_nil]); first | done | rfl | (simp only [List.length_drop, List.length_take]; rfl)) ?_
       with_reducible refine (cut_First.calls  t210 t211 _ A4.out).mono ?_
       rintro e w30 ⟨rfl, hb⟩
       refine ⟨_, rfl, ?_⟩
       replace BK208 := bkb BK208 hb
       replace HB := bst HB hb
       (try clear hb)
       (try clear hb2)
       (try clear hk)
       (try clear hi)
       refine hK.out _ _ (e4 BK208) (fun hHeld => ?_)
       clear hK K
       refine nrp 9 ?_
       refine pu 3 (some 10) #[true, true, true, true] (by kernel_rfl) ?_
       refine done_ (by kernel_rfl) ?_
       try go_wp2
       replace BK208 := Aside0.mk (blk_drew BK208.out)
       replace HB := Aside0.mk (below_drew1 HB.out)
       refine start_ (n := 12) (S := fun w' => w'.cell? ⟨gb208, 0, none⟩ = some (.int .i64 a0_0) ∧ w'.cell? ⟨gb208, 1, none⟩ = some (.int .i64 a0_1) ∧ w'.cell? ⟨gb208, 2, none⟩ = some (.int .i64 a0_2) ∧ w'.cell? ⟨gb208, 3, none⟩ = some (.int .i64 a0_3)) (ds := []) #[false, false, false, false, false, false, false, false, false, false, false, false] (by kernel_rfl) rfl rfl (e4 BK208) (fun hHeld => ?_); refine with_tabW bound_Text.tab6 bound_Text.bits6 (fun HT_ HW_ => ?_)
       generalize w30.drew = w31 at BK208 HB hHeld ⊢
       refine pw 0 11 HT_ ?_; refine pw 1 12 HT_ ?_; refine pw 6 17 HT_ ?_; refine tw4 2 13 HT_ HW_ hHeld ?_; refine tw4 7 18 HT_ HW_ hHeld ?_
       refine one_ (i := 3) (N := some 14) #[true, true, true, true, false, false, true, true, false, false, false, false] rfl rfl (one_of HT_.out (by kernel_rfl)) (by decide) (fun K hK => ?_)
       refine goes_ Try.func47 (by kernel_rfl) rfl #[.agg #[.int .i64 a0_0, .int .i64 a0_1]] (by rfl) rfl rfl (by (try simp only [List.map_toArray, List.map_cons, List.map_nil]); first | done | rfl | (simp only [List.length_drop, List.length_take]; rfl)) ?_
       with_reducible refine (cut_Text.calls k a0_0 a0_1 t214 _ A20.out).mono ?_
       rintro e w32 ⟨rfl, hb⟩
       refine ⟨_, rfl, ?_⟩
       replace BK208 := bkb BK208 hb
       replace HB := bst HB hb
       (try clear hb)
       refine hK.out _ _ (e4 BK208) (fun hHeld => ?_)
       clear hK K
       refine nrp 14 ?_
       refine pw 4 15 HT_ ?_; refine pw 5 16 HT_ ?_
       refine one_ (i := 8) (N := some 19) #[true, true, true, true, true, true, true, true, true, false, false, false] rfl rfl (one_of HT_.out (by kernel_rfl)) (by decide) (fun K hK => ?_)
       refine goes_ Try.func47 (by kernel_rfl) rfl #[.agg #[.int .i64 a0_2, .int .i64 a0_3]] (by rfl) rfl rfl (by (try simp only [List.map_toArray, List.map_cons, List.map_nil]); first | done | rfl | (simp only [List.length_drop, List.length_take]; rfl)) ?_
       with_reducible refine (cut_Text.calls k a0_2 a0_3 t215 _ A23.out).mono ?_
       rintro e w33 ⟨rfl, hb⟩
       refine ⟨_, rfl, ?_⟩
       replace BK208 := bkb BK208 hb
       replace HB := bst HB hb
       (try clear hb)
       refine hK.out _ _ (e4 BK208) (fun hHeld => ?_)
       clear hK K
       refine nrp 19 ?_
       refine pw 9 20 HT_ ?_; refine pw 10 21 HT_ ?_; refine pw 11 2 HT_ ?_
       refine done_ (done_of HT_.out (by kernel_rfl)) ?_
       try go_wp2
       go_ret
       exact endB HB
      ·rw [if_neg c25] at H
       exact absurd H (by simp)
     ·rw [if_neg c24] at H
      exact absurd H (by simp)
    ·rw [if_neg c22] at H
     exact absurd H (by simp)
   ·rw [if_neg c21] at H
    exact absurd H (by simp)
 ·replace c3 := Bool.eq_false_iff.mpr c3
  subst c3
  have H1 : (some (⟨#[]⟩ : ByteArray)) = some r := by rw [if_neg (show ¬ (false = true) by decide)] at H; exact H
  clear H
  have H := H1
  clear H1
  obtain rfl := Option.some.inj H
  go_enter Try.func18, Try.ntmps18
  go_wp2_with (first | ((with_reducible refine gate_dst (N := 1) rfl ?_); refine bxe (N := 1) (cs := #[.int .i64 a0_0, .int .i64 a0_1, .int .i64 a0_2, .int .i64 a0_3]) (t := 27) ?_; intro gb208 hg w34 hbox hb; have BK208 := Aside0.mk (hbox); have GW208 := lsz hg HB; have GE208 := lsz hg HB; replace HB := bst HB hb; clear hb hbox hg; obtain ⟨hcz35_0, hcz35_1, hcz35_2, hcz35_3⟩ := e4 BK208; obtain ⟨hfz35_0, hfz35_1, hfz35_2, hfz35_3⟩ := f4 BK208) | ((with_reducible refine gate_callee (f := 46) rfl ?_); refine gol (some 5) Try.func46 #[.agg #[.int .i64 a0_0, .int .i64 a0_1, .int .i64 a0_2, .int .i64 a0_3]] ?_; (with_reducible refine (span_Right.calls k a0_0 a0_1 a0_2 a0_3 false _ A2.out).mono ?_); rintro e w36 ⟨rfl, hb⟩; refine ⟨_, rfl, ?_⟩; replace BK208 := bkb BK208 hb; replace HB := bst HB hb; (try clear hb); (try clear hb2); (try clear hk); (try clear hi)))
  go_ret
  exact endB HB
end
section
attribute [local go_sem high] eqA25
/-! ### bound_Parse: function 16 -/
def bound_Parse.f (k : Nat) (a0 : ByteArray) : Option (Int × Int × Int × Int × Int) := (bound_Read.f k a0).bind fun bt217 => (if bt217.2.2.2.2.2 = 0 then (if bt217.2.2.2.2.1 < (a0.size : Int) then (some (0, 0, 0, 0, 40)) else (some (bt217.1, bt217.2.1, bt217.2.2.1, bt217.2.2.2.1, bt217.2.2.2.2.2))) else (some (bt217.1, bt217.2.1, bt217.2.2.1, bt217.2.2.2.1, bt217.2.2.2.2.2)))
theorem bound_Parse.mono : ∀ a0 k, LeO (bound_Parse.f k a0) (bound_Parse.f (k + 1) a0) := by
 intro a0 k
 unfold bound_Parse.f
 repeat' first
   | (with_reducible exact bound_Read.mono _ _)
   | (with_reducible exact LeO.refl _)
   | (with_reducible exact LeO.none _)
   | (with_reducible refine LeO.ite ?_ ?_)
   | (with_reducible refine LeO.bind ?_ (fun _ => ?_))
   | exact bound_Read.mono _ _
   | exact LeO.none _
   | refine LeO.ite ?_ ?_
   | refine LeO.bind ?_ (fun _ => ?_)
set_option maxHeartbeats 8000000 in
set_option maxRecDepth 100000 in
theorem bound_Parse.calls (k : Nat) (a0 : ByteArray) (r1 : Int) (r2 : Int) (r3 : Int) (r4 : Int) (r5 : Int) (w : World) (h : bound_Parse.f k a0 = some (r1, r2, r3, r4, r5)) :
  Calls Try.prog 16 #[.string a0] w fun e w' => e = .returned (.tuple #[.agg #[.int .i64 r1, .int .i64 r2, .int .i64 r3, .int .i64 r4], .int .i64 r5]) ∧ Below w.heap.size w w' := by
 have hu27 := Try.underlying27
 have HB := Aside0.mk (Below.refl w.heap.size w)
 have H : ((bound_Read.f k a0).bind fun bt217 => (if bt217.2.2.2.2.2 = 0 then (if bt217.2.2.2.2.1 < (a0.size : Int) then (some (0, 0, 0, 0, 40)) else (some (bt217.1, bt217.2.1, bt217.2.2.1, bt217.2.2.2.1, bt217.2.2.2.2.2))) else (some (bt217.1, bt217.2.1, bt217.2.2.1, bt217.2.2.2.1, bt217.2.2.2.2.2)))) = some (r1, r2, r3, r4, r5) := h
 clear h
 replace H := Option.bind_eq_some_iff.mp H
 obtain ⟨⟨t217, t218, t219, t220, t221, t222⟩, A20, H⟩ := H
 replace H : (if t222 = 0 then (if t221 < (a0.size : Int) then (some (0, 0, 0, 0, 40)) else (some (t217, t218, t219, t220, t222))) else (some (t217, t218, t219, t220, t222))) = some (r1, r2, r3, r4, r5) := H
 have A2 := Aside0.mk A20
 clear A20
 by_cases c3 : t222 = 0
 ·rw [if_pos c3] at H
  have c3b0 : (t222 == 0) = true := beq_iff_eq.mpr c3
  have c3b1 : (t222 != 0) = false := bne_eq_false_iff_eq.mpr c3
  clear c3
  by_cases c4 : t221 < (a0.size : Int)
  ·rw [if_pos c4] at H
   have c4b0 : decide (t221 < (a0.size : Int)) = true := decide_eq_true c4
   clear c4
   simp only [Option.some.injEq, Prod.mk.injEq] at H
   obtain ⟨rfl, rfl, rfl, rfl, rfl⟩ := H
   go_enter Try.func16, Try.ntmps16
   go_wp2_with (first | ((with_reducible refine gate_dst (N := 2) rfl ?_); (try (refine gate_guard (by rfl) ?_; dsimp only)); refine bxe (N := 2) (cs := #[.int .i64 0, .int .i64 0, .int .i64 0, .int .i64 0]) (t := 27) ?_; intro gb216 hg w5 hbox hb; have BK216 := Aside0.mk (hbox); have GW216 := lsz hg HB; have GE216 := lsz hg HB; replace HB := bst HB hb; clear hb hbox hg) | ((with_reducible refine gate_callee (f := 12) rfl ?_); refine gol (some 9) Try.func12 #[.string a0] ?_; (with_reducible refine (bound_Read.calls k a0 t217 t218 t219 t220 t221 t222 _ A2.out).mono ?_); rintro e w6 ⟨rfl, hb⟩; refine ⟨_, rfl, ?_⟩; replace BK216 := bkb BK216 hb; replace HB := bst HB hb; (try clear hb); (try clear hb2); (try clear hk); (try clear hi)) | ((with_reducible refine gate_dst (N := 4) rfl ?_); (try (refine gate_guard (by rfl) ?_; dsimp only)); refine bxe (N := 4) (cs := #[.int .i64 0, .int .i64 0, .int .i64 0, .int .i64 0]) (t := 27) ?_; intro gb223 hg w7 hbox hb; have BK223 := Aside0.mk (hbox); have GW223 := lsz hg HB; have GE223 := lsz hg HB; replace HB := bst HB hb; have NB216_223 := nlt hg BK216; have NB223_216 := ngt hg BK216; replace BK216 := bkb BK216 hb; clear hb hbox hg; have hnb8 := NB223_216.out; have hnc8 := NB216_223.out; obtain ⟨hcz9_0, hcz9_1, hcz9_2, hcz9_3⟩ := e4 BK223; obtain ⟨hfz9_0, hfz9_1, hfz9_2, hfz9_3⟩ := f4 BK223; obtain ⟨hcz10_0, hcz10_1, hcz10_2, hcz10_3⟩ := e4 BK216; obtain ⟨hfz10_0, hfz10_1, hfz10_2, hfz10_3⟩ := f4 BK216))
   refine bodyPost_ret (results_ct rfl _ _ gb216 27 #[.int .i64 0, .int .i64 0, .int .i64 0, .int .i64 0] (0, 0) _ rfl (by (with_reducible repeat (first | refine blk_drewN ?_ _ | refine blk_drew ?_ | refine blk_alloc ?_ _)); refine blk_put (cs := #[.int .i64 0, .int .i64 0, .int .i64 0, .int .i64 0]) ?_ 3 _ rfl; (with_reducible repeat (first | refine blk_drewN ?_ _ | refine blk_drew ?_ | refine blk_alloc ?_ _)); refine blk_put (cs := #[.int .i64 0, .int .i64 0, .int .i64 0, .int .i64 0]) ?_ 2 _ rfl; (with_reducible repeat (first | refine blk_drewN ?_ _ | refine blk_drew ?_ | refine blk_alloc ?_ _)); refine blk_put (cs := #[.int .i64 0, .int .i64 0, .int .i64 0, .int .i64 0]) ?_ 1 _ rfl; (with_reducible repeat (first | refine blk_drewN ?_ _ | refine blk_drew ?_ | refine blk_alloc ?_ _)); refine blk_put (cs := #[.int .i64 0, .int .i64 0, .int .i64 0, .int .i64 0]) ?_ 0 _ rfl; (with_reducible repeat (first | refine blk_drewN ?_ _ | refine blk_drew ?_ | refine blk_alloc ?_ _)); refine blk_far ?_ NB216_223.out _; (with_reducible repeat (first | refine blk_drewN ?_ _ | refine blk_drew ?_ | refine blk_alloc ?_ _)); refine blk_far ?_ NB216_223.out _; (with_reducible repeat (first | refine blk_drewN ?_ _ | refine blk_drew ?_ | refine blk_alloc ?_ _)); refine blk_far ?_ NB216_223.out _; (with_reducible repeat (first | refine blk_drewN ?_ _ | refine blk_drew ?_ | refine blk_alloc ?_ _)); refine blk_far ?_ NB216_223.out _; (with_reducible repeat (first | refine blk_drewN ?_ _ | refine blk_drew ?_ | refine blk_alloc ?_ _)); exact BK216.out) Try.underlying27 rfl (by kernel_rfl)) rfl ?_
   exact endB HB
  ·rw [if_neg c4] at H
   have c4b0 : decide (t221 < (a0.size : Int)) = false := decide_eq_false c4
   clear c4
   simp only [Option.some.injEq, Prod.mk.injEq] at H
   obtain ⟨rfl, rfl, rfl, rfl, rfl⟩ := H
   go_enter Try.func16, Try.ntmps16
   go_wp2_with (first | ((with_reducible refine gate_dst (N := 2) rfl ?_); (try (refine gate_guard (by rfl) ?_; dsimp only)); refine bxe (N := 2) (cs := #[.int .i64 0, .int .i64 0, .int .i64 0, .int .i64 0]) (t := 27) ?_; intro gb216 hg w11 hbox hb; have BK216 := Aside0.mk (hbox); have GW216 := lsz hg HB; have GE216 := lsz hg HB; replace HB := bst HB hb; clear hb hbox hg) | ((with_reducible refine gate_callee (f := 12) rfl ?_); refine gol (some 9) Try.func12 #[.string a0] ?_; (with_reducible refine (bound_Read.calls k a0 t217 t218 t219 t220 t221 t222 _ A2.out).mono ?_); rintro e w12 ⟨rfl, hb⟩; refine ⟨_, rfl, ?_⟩; replace BK216 := bkb BK216 hb; replace HB := bst HB hb; (try clear hb); (try clear hb2); (try clear hk); (try clear hi)) | ((with_reducible refine gate_dst (N := 4) rfl ?_); (try (refine gate_guard (by rfl) ?_; dsimp only)); refine bxe (N := 4) (cs := #[.int .i64 0, .int .i64 0, .int .i64 0, .int .i64 0]) (t := 27) ?_; intro gb223 hg w13 hbox hb; have BK223 := Aside0.mk (hbox); have GW223 := lsz hg HB; have GE223 := lsz hg HB; replace HB := bst HB hb; have NB216_223 := nlt hg BK216; have NB223_216 := ngt hg BK216; replace BK216 := bkb BK216 hb; clear hb hbox hg; have hnb14 := NB223_216.out; have hnc14 := NB216_223.out; obtain ⟨hcz15_0, hcz15_1, hcz15_2, hcz15_3⟩ := e4 BK223; obtain ⟨hfz15_0, hfz15_1, hfz15_2, hfz15_3⟩ := f4 BK223; obtain ⟨hcz16_0, hcz16_1, hcz16_2, hcz16_3⟩ := e4 BK216; obtain ⟨hfz16_0, hfz16_1, hfz16_2, hfz16_3⟩ := f4 BK216))
   refine bodyPost_ret (results_ct rfl _ _ gb216 27 #[.int .i64 t217, .int .i64 t218, .int .i64 t219, .int .i64 t220] (0, 0) _ rfl (by (with_reducible repeat (first | refine blk_drewN ?_ _ | refine blk_drew ?_ | refine blk_alloc ?_ _)); refine blk_put (cs := #[.int .i64 t217, .int .i64 t218, .int .i64 t219, .int .i64 0]) ?_ 3 _ rfl; (with_reducible repeat (first | refine blk_drewN ?_ _ | refine blk_drew ?_ | refine blk_alloc ?_ _)); refine blk_put (cs := #[.int .i64 t217, .int .i64 t218, .int .i64 0, .int .i64 0]) ?_ 2 _ rfl; (with_reducible repeat (first | refine blk_drewN ?_ _ | refine blk_drew ?_ | refine blk_alloc ?_ _)); refine blk_put (cs := #[.int .i64 t217, .int .i64 0, .int .i64 0, .int .i64 0]) ?_ 1 _ rfl; (with_reducible repeat (first | refine blk_drewN ?_ _ | refine blk_drew ?_ | refine blk_alloc ?_ _)); refine blk_put (cs := #[.int .i64 0, .int .i64 0, .int .i64 0, .int .i64 0]) ?_ 0 _ rfl; (with_reducible repeat (first | refine blk_drewN ?_ _ | refine blk_drew ?_ | refine blk_alloc ?_ _)); refine blk_far ?_ NB216_223.out _; (with_reducible repeat (first | refine blk_drewN ?_ _ | refine blk_drew ?_ | refine blk_alloc ?_ _)); refine blk_far ?_ NB216_223.out _; (with_reducible repeat (first | refine blk_drewN ?_ _ | refine blk_drew ?_ | refine blk_alloc ?_ _)); refine blk_far ?_ NB216_223.out _; (with_reducible repeat (first | refine blk_drewN ?_ _ | refine blk_drew ?_ | refine blk_alloc ?_ _)); refine blk_far ?_ NB216_223.out _; (with_reducible repeat (first | refine blk_drewN ?_ _ | refine blk_drew ?_ | refine blk_alloc ?_ _)); exact BK216.out) Try.underlying27 rfl (by kernel_rfl)) rfl ?_
   exact endB HB
 ·rw [if_neg c3] at H
  have c3b0 : (t222 == 0) = false := beq_eq_false_iff_ne.mpr c3
  have c3b1 : (t222 != 0) = true := bne_iff_ne.mpr c3
  simp only [Option.some.injEq, Prod.mk.injEq] at H
  obtain ⟨rfl, rfl, rfl, rfl, rfl⟩ := H
  go_enter Try.func16, Try.ntmps16
  go_wp2_with (first | ((with_reducible refine gate_dst (N := 2) rfl ?_); (try (refine gate_guard (by rfl) ?_; dsimp only)); refine bxe (N := 2) (cs := #[.int .i64 0, .int .i64 0, .int .i64 0, .int .i64 0]) (t := 27) ?_; intro gb216 hg w17 hbox hb; have BK216 := Aside0.mk (hbox); have GW216 := lsz hg HB; have GE216 := lsz hg HB; replace HB := bst HB hb; clear hb hbox hg) | ((with_reducible refine gate_callee (f := 12) rfl ?_); refine gol (some 9) Try.func12 #[.string a0] ?_; (with_reducible refine (bound_Read.calls k a0 t217 t218 t219 t220 t221 t222 _ A2.out).mono ?_); rintro e w18 ⟨rfl, hb⟩; refine ⟨_, rfl, ?_⟩; replace BK216 := bkb BK216 hb; replace HB := bst HB hb; (try clear hb); (try clear hb2); (try clear hk); (try clear hi)) | ((with_reducible refine gate_dst (N := 4) rfl ?_); (try (refine gate_guard (by rfl) ?_; dsimp only)); refine bxe (N := 4) (cs := #[.int .i64 0, .int .i64 0, .int .i64 0, .int .i64 0]) (t := 27) ?_; intro gb223 hg w19 hbox hb; have BK223 := Aside0.mk (hbox); have GW223 := lsz hg HB; have GE223 := lsz hg HB; replace HB := bst HB hb; have NB216_223 := nlt hg BK216; have NB223_216 := ngt hg BK216; replace BK216 := bkb BK216 hb; clear hb hbox hg; have hnb20 := NB223_216.out; have hnc20 := NB216_223.out; obtain ⟨hcz21_0, hcz21_1, hcz21_2, hcz21_3⟩ := e4 BK223; obtain ⟨hfz21_0, hfz21_1, hfz21_2, hfz21_3⟩ := f4 BK223; obtain ⟨hcz22_0, hcz22_1, hcz22_2, hcz22_3⟩ := e4 BK216; obtain ⟨hfz22_0, hfz22_1, hfz22_2, hfz22_3⟩ := f4 BK216))
  refine bodyPost_ret (results_ct rfl _ _ gb216 27 #[.int .i64 t217, .int .i64 t218, .int .i64 t219, .int .i64 t220] (0, 0) _ rfl (by (with_reducible repeat (first | refine blk_drewN ?_ _ | refine blk_drew ?_ | refine blk_alloc ?_ _)); refine blk_put (cs := #[.int .i64 t217, .int .i64 t218, .int .i64 t219, .int .i64 0]) ?_ 3 _ rfl; (with_reducible repeat (first | refine blk_drewN ?_ _ | refine blk_drew ?_ | refine blk_alloc ?_ _)); refine blk_put (cs := #[.int .i64 t217, .int .i64 t218, .int .i64 0, .int .i64 0]) ?_ 2 _ rfl; (with_reducible repeat (first | refine blk_drewN ?_ _ | refine blk_drew ?_ | refine blk_alloc ?_ _)); refine blk_put (cs := #[.int .i64 t217, .int .i64 0, .int .i64 0, .int .i64 0]) ?_ 1 _ rfl; (with_reducible repeat (first | refine blk_drewN ?_ _ | refine blk_drew ?_ | refine blk_alloc ?_ _)); refine blk_put (cs := #[.int .i64 0, .int .i64 0, .int .i64 0, .int .i64 0]) ?_ 0 _ rfl; (with_reducible repeat (first | refine blk_drewN ?_ _ | refine blk_drew ?_ | refine blk_alloc ?_ _)); refine blk_far ?_ NB216_223.out _; (with_reducible repeat (first | refine blk_drewN ?_ _ | refine blk_drew ?_ | refine blk_alloc ?_ _)); refine blk_far ?_ NB216_223.out _; (with_reducible repeat (first | refine blk_drewN ?_ _ | refine blk_drew ?_ | refine blk_alloc ?_ _)); refine blk_far ?_ NB216_223.out _; (with_reducible repeat (first | refine blk_drewN ?_ _ | refine blk_drew ?_ | refine blk_alloc ?_ _)); refine blk_far ?_ NB216_223.out _; (with_reducible repeat (first | refine blk_drewN ?_ _ | refine blk_drew ?_ | refine blk_alloc ?_ _)); exact BK216.out) Try.underlying27 rfl (by kernel_rfl)) rfl ?_
  exact endB HB
end
section
attribute [local go_sem high] eqA25
/-! ### cut_Next: function 52 -/
def cut_Next.f (k : Nat) (a0_0 : Int) (a0_1 : Int) : Option (Int × Bool) := (cut_Canon.f k a0_0 a0_1).bind fun bt225 => ((cut_Last.f).bind fun bt227 => (if (bt225.1 == bt227.1 && (bt225.2 == bt227.2)) = true then (some (0, false)) else ((cut_First.f).bind fun bt229 => (if (bt225.1 == bt229.1 && (bt225.2 == bt229.2)) = true then (some ((-9223372036854775808), true)) else (some (bt225.2, true))))))
theorem cut_Next.mono : ∀ a0 a1 k, LeO (cut_Next.f k a0 a1) (cut_Next.f (k + 1) a0 a1) := by
 intro a0 a1 k
 unfold cut_Next.f
 repeat' first
   | (with_reducible exact cut_Canon.mono _ _ _)
   | (with_reducible exact LeO.refl _)
   | (with_reducible exact LeO.none _)
   | (with_reducible refine LeO.ite ?_ ?_)
   | (with_reducible refine LeO.bind ?_ (fun _ => ?_))
   | exact cut_Canon.mono _ _ _
   | exact LeO.none _
   | refine LeO.ite ?_ ?_
   | refine LeO.bind ?_ (fun _ => ?_)
set_option maxHeartbeats 8000000 in
set_option maxRecDepth 100000 in
theorem cut_Next.calls (k : Nat) (a0_0 : Int) (a0_1 : Int) (r1 : Int) (r2 : Bool) (w : World) (h : cut_Next.f k a0_0 a0_1 = some (r1, r2)) :
  Calls Try.prog 52 #[.agg #[.int .i64 a0_0, .int .i64 a0_1]] w fun e w' => e = .returned (.tuple #[.int .i64 r1, .bool r2]) ∧ Below w.heap.size w w' := by
 have hu25 := Try.underlying25
 have HB := Aside0.mk (Below.refl w.heap.size w)
 have H : ((cut_Canon.f k a0_0 a0_1).bind fun bt225 => ((cut_Last.f).bind fun bt227 => (if (bt225.1 == bt227.1 && (bt225.2 == bt227.2)) = true then (some (0, false)) else ((cut_First.f).bind fun bt229 => (if (bt225.1 == bt229.1 && (bt225.2 == bt229.2)) = true then (some ((-9223372036854775808), true)) else (some (bt225.2, true))))))) = some (r1, r2) := h
 clear h
 replace H := Option.bind_eq_some_iff.mp H
 obtain ⟨⟨t225, t226⟩, A20, H⟩ := H
 replace H : ((cut_Last.f).bind fun bt227 => (if (t225 == bt227.1 && (t226 == bt227.2)) = true then (some (0, false)) else ((cut_First.f).bind fun bt229 => (if (t225 == bt229.1 && (t226 == bt229.2)) = true then (some ((-9223372036854775808), true)) else (some (t226, true)))))) = some (r1, r2) := H
 have A2 := Aside0.mk A20
 clear A20
 replace H := Option.bind_eq_some_iff.mp H
 obtain ⟨⟨t227, t228⟩, A30, H⟩ := H
 replace H : (if (t225 == t227 && (t226 == t228)) = true then (some (0, false)) else ((cut_First.f).bind fun bt229 => (if (t225 == bt229.1 && (t226 == bt229.2)) = true then (some ((-9223372036854775808), true)) else (some (t226, true))))) = some (r1, r2) := H
 have A3 := Aside0.mk A30
 clear A30
 by_cases c4 : (t225 == t227 && (t226 == t228)) = true
 ·rw [if_pos c4] at H
  have c4b0 : (t225 == t227 && (t226 == t228)) = true := c4
  (try (have c4b1 : decide (t225 = t227 && (t226 == t228)) = true := by simpa using c4))
  (try (have c4b2 : (t225 == t227 && (t226 == t228)) = true := by simpa using c4))
  clear c4
  simp only [Option.some.injEq, Prod.mk.injEq] at H
  obtain ⟨rfl, rfl⟩ := H
  go_enter Try.func52, Try.ntmps52
  go_wp2_with (first | ((with_reducible refine gate_dst (N := 1) rfl ?_); refine bxe (N := 1) (cs := #[.int .i64 a0_0, .int .i64 a0_1]) (t := 25) ?_; intro gb224 hg w5 hbox hb; have BK224 := Aside0.mk (hbox); have GW224 := lsz hg HB; have GE224 := lsz hg HB; replace HB := bst HB hb; clear hb hbox hg; obtain ⟨hcz6_0, hcz6_1⟩ := e2 BK224; obtain ⟨hfz6_0, hfz6_1⟩ := f2 BK224) | ((with_reducible refine gate_callee (f := 53) rfl ?_); refine gol (some 5) Try.func53 #[.agg #[.int .i64 a0_0, .int .i64 a0_1]] ?_; (with_reducible refine (cut_Canon.calls k a0_0 a0_1 t225 t226 _ A2.out).mono ?_); rintro e w7 ⟨rfl, hb⟩; refine ⟨_, rfl, ?_⟩; replace BK224 := bkb BK224 hb; replace HB := bst HB hb; (try clear hb); (try clear hb2); (try clear hk); (try clear hi); obtain ⟨hcz8_0, hcz8_1⟩ := e2 BK224; obtain ⟨hfz8_0, hfz8_1⟩ := f2 BK224) | ((with_reducible refine gate_callee (f := 30) rfl ?_); refine gol (some 8) Try.func30 #[] ?_; (with_reducible refine (cut_Last.calls  t227 t228 _ A3.out).mono ?_); rintro e w9 ⟨rfl, hb⟩; refine ⟨_, rfl, ?_⟩; replace BK224 := Aside0.mk (blk_below (g := gb224) (o := .cells #[.int .i64 t225, .int .i64 t226] 25 (0, 0)) (bkp BK224) hb); replace HB := bst HB hb; (try clear hb); (try clear hb2); (try clear hk); (try clear hi)))
  go_ret2
  exact endB HB
 ·rw [if_neg c4] at H
  have c4b0 : (t225 == t227 && (t226 == t228)) = false := by simpa using c4
  (try (have c4b1 : decide (t225 = t227 && (t226 == t228)) = false := by simpa using c4))
  (try (have c4b2 : (t225 == t227 && (t226 == t228)) = false := by simpa using c4))
  (try (have c4b3 : ¬ (t225 = t227 && (t226 == t228)) := by simpa using c4))
  clear c4
  replace H := Option.bind_eq_some_iff.mp H
  obtain ⟨⟨t229, t230⟩, A100, H⟩ := H
  replace H : (if (t225 == t229 && (t226 == t230)) = true then (some ((-9223372036854775808), true)) else (some (t226, true))) = some (r1, r2) := H
  have A10 := Aside0.mk A100
  clear A100
  by_cases c11 : (t225 == t229 && (t226 == t230)) = true
  ·rw [if_pos c11] at H
   have c11b0 : (t225 == t229 && (t226 == t230)) = true := c11
   (try (have c11b1 : decide (t225 = t229 && (t226 == t230)) = true := by simpa using c11))
   (try (have c11b2 : (t225 == t229 && (t226 == t230)) = true := by simpa using c11))
   clear c11
   simp only [Option.some.injEq, Prod.mk.injEq] at H
   obtain ⟨rfl, rfl⟩ := H
   go_enter Try.func52, Try.ntmps52
   go_wp2_with (first | ((with_reducible refine gate_dst (N := 1) rfl ?_); refine bxe (N := 1) (cs := #[.int .i64 a0_0, .int .i64 a0_1]) (t := 25) ?_; intro gb224 hg w12 hbox hb; have BK224 := Aside0.mk (hbox); have GW224 := lsz hg HB; have GE224 := lsz hg HB; replace HB := bst HB hb; clear hb hbox hg; obtain ⟨hcz13_0, hcz13_1⟩ := e2 BK224; obtain ⟨hfz13_0, hfz13_1⟩ := f2 BK224) | ((with_reducible refine gate_callee (f := 53) rfl ?_); refine gol (some 5) Try.func53 #[.agg #[.int .i64 a0_0, .int .i64 a0_1]] ?_; (with_reducible refine (cut_Canon.calls k a0_0 a0_1 t225 t226 _ A2.out).mono ?_); rintro e w14 ⟨rfl, hb⟩; refine ⟨_, rfl, ?_⟩; replace BK224 := bkb BK224 hb; replace HB := bst HB hb; (try clear hb); (try clear hb2); (try clear hk); (try clear hi); obtain ⟨hcz15_0, hcz15_1⟩ := e2 BK224; obtain ⟨hfz15_0, hfz15_1⟩ := f2 BK224) | ((with_reducible refine gate_callee (f := 30) rfl ?_); refine gol (some 8) Try.func30 #[] ?_; (with_reducible refine (cut_Last.calls  t227 t228 _ A3.out).mono ?_); rintro e w16 ⟨rfl, hb⟩; refine ⟨_, rfl, ?_⟩; replace BK224 := Aside0.mk (blk_below (g := gb224) (o := .cells #[.int .i64 t225, .int .i64 t226] 25 (0, 0)) (bkp BK224) hb); replace HB := bst HB hb; (try clear hb); (try clear hb2); (try clear hk); (try clear hi)) | ((with_reducible refine gate_callee (f := 29) rfl ?_); refine gol (some 11) Try.func29 #[] ?_; (with_reducible refine (cut_First.calls  t229 t230 _ A10.out).mono ?_); rintro e w17 ⟨rfl, hb⟩; refine ⟨_, rfl, ?_⟩; replace BK224 := bkb BK224 hb; replace HB := bst HB hb; (try clear hb); (try clear hb2); (try clear hk); (try clear hi)))
   go_ret2
   exact endB HB
  ·rw [if_neg c11] at H
   have c11b0 : (t225 == t229 && (t226 == t230)) = false := by simpa using c11
   (try (have c11b1 : decide (t225 = t229 && (t226 == t230)) = false := by simpa using c11))
   (try (have c11b2 : (t225 == t229 && (t226 == t230)) = false := by simpa using c11))
   (try (have c11b3 : ¬ (t225 = t229 && (t226 == t230)) := by simpa using c11))
   clear c11
   simp only [Option.some.injEq, Prod.mk.injEq] at H
   obtain ⟨rfl, rfl⟩ := H
   go_enter Try.func52, Try.ntmps52
   go_wp2_with (first | ((with_reducible refine gate_dst (N := 1) rfl ?_); refine bxe (N := 1) (cs := #[.int .i64 a0_0, .int .i64 a0_1]) (t := 25) ?_; intro gb224 hg w18 hbox hb; have BK224 := Aside0.mk (hbox); have GW224 := lsz hg HB; have GE224 := lsz hg HB; replace HB := bst HB hb; clear hb hbox hg; obtain ⟨hcz19_0, hcz19_1⟩ := e2 BK224; obtain ⟨hfz19_0, hfz19_1⟩ := f2 BK224) | ((with_reducible refine gate_callee (f := 53) rfl ?_); refine gol (some 5) Try.func53 #[.agg #[.int .i64 a0_0, .int .i64 a0_1]] ?_; (with_reducible refine (cut_Canon.calls k a0_0 a0_1 t225 t226 _ A2.out).mono ?_); rintro e w20 ⟨rfl, hb⟩; refine ⟨_, rfl, ?_⟩; replace BK224 := bkb BK224 hb; replace HB := bst HB hb; (try clear hb); (try clear hb2); (try clear hk); (try clear hi); obtain ⟨hcz21_0, hcz21_1⟩ := e2 BK224; obtain ⟨hfz21_0, hfz21_1⟩ := f2 BK224) | ((with_reducible refine gate_callee (f := 30) rfl ?_); refine gol (some 8) Try.func30 #[] ?_; (with_reducible refine (cut_Last.calls  t227 t228 _ A3.out).mono ?_); rintro e w22 ⟨rfl, hb⟩; refine ⟨_, rfl, ?_⟩; replace BK224 := Aside0.mk (blk_below (g := gb224) (o := .cells #[.int .i64 t225, .int .i64 t226] 25 (0, 0)) (bkp BK224) hb); replace HB := bst HB hb; (try clear hb); (try clear hb2); (try clear hk); (try clear hi)) | ((with_reducible refine gate_callee (f := 29) rfl ?_); refine gol (some 11) Try.func29 #[] ?_; (with_reducible refine (cut_First.calls  t229 t230 _ A10.out).mono ?_); rintro e w23 ⟨rfl, hb⟩; refine ⟨_, rfl, ?_⟩; replace BK224 := bkb BK224 hb; replace HB := bst HB hb; (try clear hb); (try clear hb2); (try clear hk); (try clear hi); obtain ⟨hcz24_0, hcz24_1⟩ := e2 BK224; obtain ⟨hfz24_0, hfz24_1⟩ := f2 BK224))
   go_ret2
   exact endB HB
end
section
attribute [local go_sem high] eqA25
/-! ### bound_Low: function 23 -/
def bound_Low.f (k : Nat) (a0_0 : Int) (a0_1 : Int) : Option (Int × Int) := (cut_Next.f k a0_0 a0_1).bind fun bt233 => (if bt233.2 = true then ((cut_Canon.f k a0_0 a0_1).bind fun bt235 => ((cut_First.f).bind fun bt237 => (if (bt235.1 == bt237.1 && (bt235.2 == bt237.2)) = true then (some (0, 0)) else (some (2, bt233.1))))) else (some (1, 9223372036854775807)))
theorem bound_Low.mono : ∀ a0 a1 k, LeO (bound_Low.f k a0 a1) (bound_Low.f (k + 1) a0 a1) := by
 intro a0 a1 k
 unfold bound_Low.f
 repeat' first
   | (with_reducible exact cut_Canon.mono _ _ _)
   | (with_reducible exact cut_Next.mono _ _ _)
   | (with_reducible exact LeO.refl _)
   | (with_reducible exact LeO.none _)
   | (with_reducible refine LeO.ite ?_ ?_)
   | (with_reducible refine LeO.bind ?_ (fun _ => ?_))
   | exact cut_Canon.mono _ _ _
   | exact cut_Next.mono _ _ _
   | exact LeO.none _
   | refine LeO.ite ?_ ?_
   | refine LeO.bind ?_ (fun _ => ?_)
set_option maxHeartbeats 8000000 in
set_option maxRecDepth 100000 in
theorem bound_Low.calls (k : Nat) (a0_0 : Int) (a0_1 : Int) (r1 : Int) (r2 : Int) (w : World) (h : bound_Low.f k a0_0 a0_1 = some (r1, r2)) :
  Calls Try.prog 23 #[.agg #[.int .i64 a0_0, .int .i64 a0_1]] w fun e w' => e = .returned (.agg #[.int .i64 r1, .int .i64 r2]) ∧ Below w.heap.size w w' := by
 have hu25 := Try.underlying25
 have hu23 := Try.underlying23
 have HB := Aside0.mk (Below.refl w.heap.size w)
 have H : ((cut_Next.f k a0_0 a0_1).bind fun bt233 => (if bt233.2 = true then ((cut_Canon.f k a0_0 a0_1).bind fun bt235 => ((cut_First.f).bind fun bt237 => (if (bt235.1 == bt237.1 && (bt235.2 == bt237.2)) = true then (some (0, 0)) else (some (2, bt233.1))))) else (some (1, 9223372036854775807)))) = some (r1, r2) := h
 clear h
 replace H := Option.bind_eq_some_iff.mp H
 obtain ⟨⟨t233, t234⟩, A20, H⟩ := H
 replace H : (if t234 = true then ((cut_Canon.f k a0_0 a0_1).bind fun bt235 => ((cut_First.f).bind fun bt237 => (if (bt235.1 == bt237.1 && (bt235.2 == bt237.2)) = true then (some (0, 0)) else (some (2, t233))))) else (some (1, 9223372036854775807))) = some (r1, r2) := H
 have A2 := Aside0.mk A20
 clear A20
 by_cases c3 : t234 = true
 ·subst c3
  have H1 : ((cut_Canon.f k a0_0 a0_1).bind fun bt235 => ((cut_First.f).bind fun bt237 => (if (bt235.1 == bt237.1 && (bt235.2 == bt237.2)) = true then (some (0, 0)) else (some (2, t233))))) = some (r1, r2) := by rw [if_pos rfl] at H; exact H
  clear H
  have H := H1
  clear H1
  replace H := Option.bind_eq_some_iff.mp H
  obtain ⟨⟨t235, t236⟩, A40, H⟩ := H
  replace H : ((cut_First.f).bind fun bt237 => (if (t235 == bt237.1 && (t236 == bt237.2)) = true then (some (0, 0)) else (some (2, t233)))) = some (r1, r2) := H
  have A4 := Aside0.mk A40
  clear A40
  replace H := Option.bind_eq_some_iff.mp H
  obtain ⟨⟨t237, t238⟩, A50, H⟩ := H
  replace H : (if (t235 == t237 && (t236 == t238)) = true then (some (0, 0)) else (some (2, t233))) = some (r1, r2) := H
  have A5 := Aside0.mk A50
  clear A50
  by_cases c6 : (t235 == t237 && (t236 == t238)) = true
  ·rw [if_pos c6] at H
   have c6b0 : (t235 == t237 && (t236 == t238)) = true := c6
   (try (have c6b1 : decide (t235 = t237 && (t236 == t238)) = true := by simpa using c6))
   (try (have c6b2 : (t235 == t237 && (t236 == t238)) = true := by simpa using c6))
   clear c6
   simp only [Option.some.injEq, Prod.mk.injEq] at H
   obtain ⟨rfl, rfl⟩ := H
   go_enter Try.func23, Try.ntmps23
   go_wp2_with (first | ((with_reducible refine gate_dst (N := 1) rfl ?_); refine bxe (N := 1) (cs := #[.int .i64 a0_0, .int .i64 a0_1]) (t := 25) ?_; intro gb231 hg w7 hbox hb; have BK231 := Aside0.mk (hbox); have GW231 := lsz hg HB; have GE231 := lsz hg HB; replace HB := bst HB hb; clear hb hbox hg) | ((with_reducible refine gate_dst (N := 2) rfl ?_); refine bxe (N := 2) (cs := #[.int .i64 0, .int .i64 0]) (t := 23) ?_; intro gb232 hg w8 hbox hb; have BK232 := Aside0.mk (hbox); have GW232 := lsz hg HB; have GE232 := lsz hg HB; replace HB := bst HB hb; have NB231_232 := nlt hg BK231; have NB232_231 := ngt hg BK231; replace BK231 := bkb BK231 hb; clear hb hbox hg; have hnb9 := NB231_232.out; have hnc9 := NB232_231.out; obtain ⟨hcz10_0, hcz10_1⟩ := e2 BK231; obtain ⟨hfz10_0, hfz10_1⟩ := f2 BK231) | ((with_reducible refine gate_callee (f := 52) rfl ?_); refine gol (some 7) Try.func52 #[.agg #[.int .i64 a0_0, .int .i64 a0_1]] ?_; (with_reducible refine (cut_Next.calls k a0_0 a0_1 t233 true _ A2.out).mono ?_); rintro e w11 ⟨rfl, hb⟩; refine ⟨_, rfl, ?_⟩; replace BK231 := bkb BK231 hb; replace BK232 := bkb BK232 hb; replace HB := bst HB hb; (try clear hb); (try clear hb2); (try clear hk); (try clear hi); obtain ⟨hcz12_0, hcz12_1⟩ := e2 BK231; obtain ⟨hfz12_0, hfz12_1⟩ := f2 BK231) | ((with_reducible refine gate_callee (f := 53) rfl ?_); refine gol (some 16) Try.func53 #[.agg #[.int .i64 a0_0, .int .i64 a0_1]] ?_; (with_reducible refine (cut_Canon.calls k a0_0 a0_1 t235 t236 _ A4.out).mono ?_); rintro e w13 ⟨rfl, hb⟩; refine ⟨_, rfl, ?_⟩; replace BK231 := bkb BK231 hb; replace BK232 := bkb BK232 hb; replace HB := bst HB hb; (try clear hb); (try clear hb2); (try clear hk); (try clear hi)) | ((with_reducible refine gate_callee (f := 29) rfl ?_); refine gol (some 17) Try.func29 #[] ?_; (with_reducible refine (cut_First.calls  t237 t238 _ A5.out).mono ?_); rintro e w14 ⟨rfl, hb⟩; refine ⟨_, rfl, ?_⟩; replace BK231 := bkb BK231 hb; replace BK232 := bkb BK232 hb; replace HB := bst HB hb; (try clear hb); (try clear hb2); (try clear hk); (try clear hi); obtain ⟨hcz15_0, hcz15_1⟩ := e2 BK232; obtain ⟨hfz15_0, hfz15_1⟩ := f2 BK232))
   refine bodyPost_ret (results_cell_row rfl _ _ gb232 23 #[.int .i64 0, .int .i64 0] (0, 0) _ rfl (bkp BK232) Try.underlying23 rfl (by kernel_rfl)) rfl ?_
   exact endB HB
  ·rw [if_neg c6] at H
   have c6b0 : (t235 == t237 && (t236 == t238)) = false := by simpa using c6
   (try (have c6b1 : decide (t235 = t237 && (t236 == t238)) = false := by simpa using c6))
   (try (have c6b2 : (t235 == t237 && (t236 == t238)) = false := by simpa using c6))
   (try (have c6b3 : ¬ (t235 = t237 && (t236 == t238)) := by simpa using c6))
   clear c6
   simp only [Option.some.injEq, Prod.mk.injEq] at H
   obtain ⟨rfl, rfl⟩ := H
   go_enter Try.func23, Try.ntmps23
   go_wp2_with (first | ((with_reducible refine gate_dst (N := 1) rfl ?_); refine bxe (N := 1) (cs := #[.int .i64 a0_0, .int .i64 a0_1]) (t := 25) ?_; intro gb231 hg w16 hbox hb; have BK231 := Aside0.mk (hbox); have GW231 := lsz hg HB; have GE231 := lsz hg HB; replace HB := bst HB hb; clear hb hbox hg) | ((with_reducible refine gate_dst (N := 2) rfl ?_); refine bxe (N := 2) (cs := #[.int .i64 0, .int .i64 0]) (t := 23) ?_; intro gb232 hg w17 hbox hb; have BK232 := Aside0.mk (hbox); have GW232 := lsz hg HB; have GE232 := lsz hg HB; replace HB := bst HB hb; have NB231_232 := nlt hg BK231; have NB232_231 := ngt hg BK231; replace BK231 := bkb BK231 hb; clear hb hbox hg; have hnb18 := NB231_232.out; have hnc18 := NB232_231.out; obtain ⟨hcz19_0, hcz19_1⟩ := e2 BK231; obtain ⟨hfz19_0, hfz19_1⟩ := f2 BK231) | ((with_reducible refine gate_callee (f := 52) rfl ?_); refine gol (some 7) Try.func52 #[.agg #[.int .i64 a0_0, .int .i64 a0_1]] ?_; (with_reducible refine (cut_Next.calls k a0_0 a0_1 t233 true _ A2.out).mono ?_); rintro e w20 ⟨rfl, hb⟩; refine ⟨_, rfl, ?_⟩; replace BK231 := bkb BK231 hb; replace BK232 := bkb BK232 hb; replace HB := bst HB hb; (try clear hb); (try clear hb2); (try clear hk); (try clear hi); obtain ⟨hcz21_0, hcz21_1⟩ := e2 BK231; obtain ⟨hfz21_0, hfz21_1⟩ := f2 BK231) | ((with_reducible refine gate_callee (f := 53) rfl ?_); refine gol (some 16) Try.func53 #[.agg #[.int .i64 a0_0, .int .i64 a0_1]] ?_; (with_reducible refine (cut_Canon.calls k a0_0 a0_1 t235 t236 _ A4.out).mono ?_); rintro e w22 ⟨rfl, hb⟩; refine ⟨_, rfl, ?_⟩; replace BK231 := bkb BK231 hb; replace BK232 := bkb BK232 hb; replace HB := bst HB hb; (try clear hb); (try clear hb2); (try clear hk); (try clear hi)) | ((with_reducible refine gate_callee (f := 29) rfl ?_); refine gol (some 17) Try.func29 #[] ?_; (with_reducible refine (cut_First.calls  t237 t238 _ A5.out).mono ?_); rintro e w23 ⟨rfl, hb⟩; refine ⟨_, rfl, ?_⟩; replace BK231 := bkb BK231 hb; replace BK232 := bkb BK232 hb; replace HB := bst HB hb; (try clear hb); (try clear hb2); (try clear hk); (try clear hi); obtain ⟨hcz24_0, hcz24_1⟩ := e2 BK232; obtain ⟨hfz24_0, hfz24_1⟩ := f2 BK232))
   refine bodyPost_ret (results_cell_row rfl _ _ gb232 23 #[.int .i64 2, .int .i64 t233] (0, 0) _ rfl (bkp BK232) Try.underlying23 rfl (by kernel_rfl)) rfl ?_
   exact endB HB
 ·replace c3 := Bool.eq_false_iff.mpr c3
  subst c3
  have H1 : (some (1, 9223372036854775807)) = some (r1, r2) := by rw [if_neg (show ¬ (false = true) by decide)] at H; exact H
  clear H
  have H := H1
  clear H1
  simp only [Option.some.injEq, Prod.mk.injEq] at H
  obtain ⟨rfl, rfl⟩ := H
  go_enter Try.func23, Try.ntmps23
  go_wp2_with (first | ((with_reducible refine gate_dst (N := 1) rfl ?_); refine bxe (N := 1) (cs := #[.int .i64 a0_0, .int .i64 a0_1]) (t := 25) ?_; intro gb231 hg w25 hbox hb; have BK231 := Aside0.mk (hbox); have GW231 := lsz hg HB; have GE231 := lsz hg HB; replace HB := bst HB hb; clear hb hbox hg) | ((with_reducible refine gate_dst (N := 2) rfl ?_); refine bxe (N := 2) (cs := #[.int .i64 0, .int .i64 0]) (t := 23) ?_; intro gb232 hg w26 hbox hb; have BK232 := Aside0.mk (hbox); have GW232 := lsz hg HB; have GE232 := lsz hg HB; replace HB := bst HB hb; have NB231_232 := nlt hg BK231; have NB232_231 := ngt hg BK231; replace BK231 := bkb BK231 hb; clear hb hbox hg; have hnb27 := NB231_232.out; have hnc27 := NB232_231.out; obtain ⟨hcz28_0, hcz28_1⟩ := e2 BK231; obtain ⟨hfz28_0, hfz28_1⟩ := f2 BK231) | ((with_reducible refine gate_callee (f := 52) rfl ?_); refine gol (some 7) Try.func52 #[.agg #[.int .i64 a0_0, .int .i64 a0_1]] ?_; (with_reducible refine (cut_Next.calls k a0_0 a0_1 t233 false _ A2.out).mono ?_); rintro e w29 ⟨rfl, hb⟩; refine ⟨_, rfl, ?_⟩; replace BK231 := bkb BK231 hb; replace BK232 := bkb BK232 hb; replace HB := bst HB hb; (try clear hb); (try clear hb2); (try clear hk); (try clear hi); obtain ⟨hcz30_0, hcz30_1⟩ := e2 BK232; obtain ⟨hfz30_0, hfz30_1⟩ := f2 BK232))
  refine bodyPost_ret (results_cell_row rfl _ _ gb232 23 #[.int .i64 1, .int .i64 9223372036854775807] (0, 0) _ rfl (bkp BK232) Try.underlying23 rfl (by kernel_rfl)) rfl ?_
  exact endB HB
end
section
attribute [local go_sem high] eqA25
/-! ### bocagelaw04_to: function 34 -/
def bocagelaw04_to.f (a0 : Int) (a1 : Int) : Option (Int × Int × Int × Int) := some (0, a0, 0, a1)
set_option maxHeartbeats 8000000 in
set_option maxRecDepth 100000 in
theorem bocagelaw04_to.calls (a0 : Int) (a1 : Int) (r1 : Int) (r2 : Int) (r3 : Int) (r4 : Int) (w : World) (h : bocagelaw04_to.f a0 a1 = some (r1, r2, r3, r4)) :
  Calls Try.prog 34 #[.int .i64 a0, .int .i64 a1] w fun e w' => e = .returned (.agg #[.int .i64 r1, .int .i64 r2, .int .i64 r3, .int .i64 r4]) ∧ Below w.heap.size w w' := by
 have hu27 := Try.underlying27
 have hu25 := Try.underlying25
 have HB := Aside0.mk (Below.refl w.heap.size w)
 have H : (some (0, a0, 0, a1)) = some (r1, r2, r3, r4) := h
 clear h
 simp only [Option.some.injEq, Prod.mk.injEq] at H
 obtain ⟨rfl, rfl, rfl, rfl⟩ := H
 go_enter Try.func34, Try.ntmps34
 go_wp2_with (first | ((with_reducible refine gate_dst (N := 4) rfl ?_); refine bxe (N := 4) (cs := #[.int .i64 0, .int .i64 0, .int .i64 0, .int .i64 0]) (t := 27) ?_; intro gb239 hg w3 hbox hb; have BK239 := Aside0.mk (hbox); have GW239 := lsz hg HB; have GE239 := lsz hg HB; replace HB := bst HB hb; clear hb hbox hg; obtain ⟨hcz4_0, hcz4_1, hcz4_2, hcz4_3⟩ := e4 BK239; obtain ⟨hfz4_0, hfz4_1, hfz4_2, hfz4_3⟩ := f4 BK239))
 refine bodyPost_ret (results_cell_row rfl _ _ gb239 27 #[.int .i64 0, .int .i64 a0, .int .i64 0, .int .i64 a1] (0, 0) _ rfl (bkp BK239) Try.underlying27 rfl (by kernel_rfl)) rfl ?_
 exact endB HB
end
section
attribute [local go_sem high] eqA23 eqA27
/-! ### bocagelaw04_alive: function 10 -/
def bocagelaw04_alive.f (k : Nat)  : Option (Bool) := (bound_Span.f k 1 3 2 5).bind fun bt240 => ((bound_Parse.f k (⟨#[91, 52, 44, 52, 41]⟩ : ByteArray)).bind fun bt246 => ((bound_Loose.f k (⟨#[40, 32, 51, 32, 44, 32, 53, 32, 93, 120]⟩ : ByteArray)).bind fun bt252 => (if bt240.2.2.2.2 = 0 then ((bocagelaw04_to.f 4 6).bind fun bt259 => (if ((bt240.1 == bt259.1 && (bt240.2.1 == bt259.2.1)) && ((bt240.2.2.1 == bt259.2.2.1 && (bt240.2.2.2.1 == bt259.2.2.2)))) = true then ((bound_Text.f k bt240.1 bt240.2.1 bt240.2.2.1 bt240.2.2.2.1).bind fun t263 => (if t263.toList = ([91, 52, 44, 54, 41] : List UInt8) then (if bt246.2.2.2.2 = 30 then (if ((bt252.1 == bt240.1 && (bt252.2.1 == bt240.2.1)) && ((bt252.2.2.1 == bt240.2.2.1 && (bt252.2.2.2.1 == bt240.2.2.2.1)))) = true then (if bt252.2.2.2.2.1 = 9 then (if bt252.2.2.2.2.2 = 0 then ((bound_Low.f k 0 3).bind fun bt264 => (some (bt264.1 == 2 && (bt264.2 == 3)))) else (some false)) else (some false)) else (some false)) else (some false)) else (some false))) else (some false))) else (some false))))
theorem bocagelaw04_alive.mono : ∀ k, LeO (bocagelaw04_alive.f k ) (bocagelaw04_alive.f (k + 1) ) := by
 intro  k
 unfold bocagelaw04_alive.f
 repeat' first
   | (with_reducible exact bound_Loose.mono _ _)
   | (with_reducible exact bound_Low.mono _ _ _)
   | (with_reducible exact bound_Parse.mono _ _)
   | (with_reducible exact bound_Span.mono _ _ _ _ _)
   | (with_reducible exact bound_Text.mono _ _ _ _ _)
   | (with_reducible exact LeO.refl _)
   | (with_reducible exact LeO.none _)
   | (with_reducible refine LeO.ite ?_ ?_)
   | (with_reducible refine LeO.bind ?_ (fun _ => ?_))
   | exact bound_Loose.mono _ _
   | exact bound_Low.mono _ _ _
   | exact bound_Parse.mono _ _
   | exact bound_Span.mono _ _ _ _ _
   | exact bound_Text.mono _ _ _ _ _
   | exact LeO.none _
   | refine LeO.ite ?_ ?_
   | refine LeO.bind ?_ (fun _ => ?_)
def bocagelaw04_alive.T4 : Bool × List (List Nat × List Nat) := (true, [([], []), ([0], [0]), ([1], [1]), ([2], [2]), ([2, 2], [2]), ([3, 4, 2], [2, 3, 4]), ([2, 5], [2, 5]), ([6, 4], [6]), ([7], [7]), ([8, 7, 7], [7, 8]), ([9, 7], [7, 9]), ([7, 10], [7, 10]), ([11, 9], [11]), ([12], [12]), ([13, 12], [12, 13]), ([12, 14], [12, 14]), ([15, 12], [15]), ([16], [16]), ([16], [16]), ([17, 18, 16], [16, 17, 18]), ([16, 19], [16, 19]), ([20, 16], [20]), ([21], [21]), ([22, 21], [21, 22]), ([21, 23], [21, 23]), ([24, 21], [24]), ([25], [25]), ([26, 25], [25, 26]), ([25, 27], [25, 27]), ([28, 25], [28]), ([29], [29]), ([30, 29, 29], [29, 30]), ([29], [29]), ([31, 32, 29], [29, 31, 32]), ([29, 33], [29, 33]), ([34, 31, 0, 1, 2, 3, 4, 5, 6, 7, 8, 9, 10, 11, 12, 13, 14, 15, 16, 17, 18, 19, 20, 21, 22, 23, 24, 25, 26, 27, 28, 29, 30, 31, 32, 33, 34], [34])])
def bocagelaw04_alive.B4 : List Nat := [0, 1, 3, 7, 7, 31, 63, 127, 255, 511, 1023, 2047, 4095, 8191, 16383, 32767, 65535, 131071, 131071, 524287, 1048575, 2097151, 4194303, 8388607, 16777215, 33554431, 67108863, 134217727, 268435455, 536870911, 1073741823, 2147483647, 1073741823, 8589934591, 17179869183, 34359738367]
theorem bocagelaw04_alive.tab4 : rtab .any (opsOf Try.f10 4) = bocagelaw04_alive.T4 := by kernel_rfl
theorem bocagelaw04_alive.bits4 : waitsOk bocagelaw04_alive.T4.2 bocagelaw04_alive.B4 = true := by kernel_rfl
set_option maxHeartbeats 8000000 in
set_option maxRecDepth 100000 in
theorem bocagelaw04_alive.calls (k : Nat)  (r : Bool) (w : World) (h : bocagelaw04_alive.f k  = some r) (hr : r = true) :
  Calls Try.prog 10 #[] w fun e w' => e = .returned (.bool r) ∧ Below w.heap.size w w' := by
 have HRT := Aside0.mk hr
 clear hr
 have hu23 := Try.underlying23
 have hu27 := Try.underlying27
 have hu25 := Try.underlying25
 have HB := Aside0.mk (Below.refl w.heap.size w)
 have H : ((bound_Span.f k 1 3 2 5).bind fun bt240 => ((bound_Parse.f k (⟨#[91, 52, 44, 52, 41]⟩ : ByteArray)).bind fun bt246 => ((bound_Loose.f k (⟨#[40, 32, 51, 32, 44, 32, 53, 32, 93, 120]⟩ : ByteArray)).bind fun bt252 => (if bt240.2.2.2.2 = 0 then ((bocagelaw04_to.f 4 6).bind fun bt259 => (if ((bt240.1 == bt259.1 && (bt240.2.1 == bt259.2.1)) && ((bt240.2.2.1 == bt259.2.2.1 && (bt240.2.2.2.1 == bt259.2.2.2)))) = true then ((bound_Text.f k bt240.1 bt240.2.1 bt240.2.2.1 bt240.2.2.2.1).bind fun t263 => (if t263.toList = ([91, 52, 44, 54, 41] : List UInt8) then (if bt246.2.2.2.2 = 30 then (if ((bt252.1 == bt240.1 && (bt252.2.1 == bt240.2.1)) && ((bt252.2.2.1 == bt240.2.2.1 && (bt252.2.2.2.1 == bt240.2.2.2.1)))) = true then (if bt252.2.2.2.2.1 = 9 then (if bt252.2.2.2.2.2 = 0 then ((bound_Low.f k 0 3).bind fun bt264 => (some (bt264.1 == 2 && (bt264.2 == 3)))) else (some false)) else (some false)) else (some false)) else (some false)) else (some false))) else (some false))) else (some false))))) = some r := h
 clear h
 replace H := Option.bind_eq_some_iff.mp H
 obtain ⟨⟨t240, t241, t242, t243, t244⟩, A10, H⟩ := H
 replace H : ((bound_Parse.f k (⟨#[91, 52, 44, 52, 41]⟩ : ByteArray)).bind fun bt246 => ((bound_Loose.f k (⟨#[40, 32, 51, 32, 44, 32, 53, 32, 93, 120]⟩ : ByteArray)).bind fun bt252 => (if t244 = 0 then ((bocagelaw04_to.f 4 6).bind fun bt259 => (if ((t240 == bt259.1 && (t241 == bt259.2.1)) && ((t242 == bt259.2.2.1 && (t243 == bt259.2.2.2)))) = true then ((bound_Text.f k t240 t241 t242 t243).bind fun t263 => (if t263.toList = ([91, 52, 44, 54, 41] : List UInt8) then (if bt246.2.2.2.2 = 30 then (if ((bt252.1 == t240 && (bt252.2.1 == t241)) && ((bt252.2.2.1 == t242 && (bt252.2.2.2.1 == t243)))) = true then (if bt252.2.2.2.2.1 = 9 then (if bt252.2.2.2.2.2 = 0 then ((bound_Low.f k 0 3).bind fun bt264 => (some (bt264.1 == 2 && (bt264.2 == 3)))) else (some false)) else (some false)) else (some false)) else (some false)) else (some false))) else (some false))) else (some false)))) = some r := H
 have A1 := Aside0.mk A10
 clear A10
 replace H := Option.bind_eq_some_iff.mp H
 obtain ⟨⟨t246, t247, t248, t249, t250⟩, A20, H⟩ := H
 replace H : ((bound_Loose.f k (⟨#[40, 32, 51, 32, 44, 32, 53, 32, 93, 120]⟩ : ByteArray)).bind fun bt252 => (if t244 = 0 then ((bocagelaw04_to.f 4 6).bind fun bt259 => (if ((t240 == bt259.1 && (t241 == bt259.2.1)) && ((t242 == bt259.2.2.1 && (t243 == bt259.2.2.2)))) = true then ((bound_Text.f k t240 t241 t242 t243).bind fun t263 => (if t263.toList = ([91, 52, 44, 54, 41] : List UInt8) then (if t250 = 30 then (if ((bt252.1 == t240 && (bt252.2.1 == t241)) && ((bt252.2.2.1 == t242 && (bt252.2.2.2.1 == t243)))) = true then (if bt252.2.2.2.2.1 = 9 then (if bt252.2.2.2.2.2 = 0 then ((bound_Low.f k 0 3).bind fun bt264 => (some (bt264.1 == 2 && (bt264.2 == 3)))) else (some false)) else (some false)) else (some false)) else (some false)) else (some false))) else (some false))) else (some false))) = some r := H
 have A2 := Aside0.mk A20
 clear A20
 replace H := Option.bind_eq_some_iff.mp H
 obtain ⟨⟨t252, t253, t254, t255, t256, t257⟩, A30, H⟩ := H
 replace H : (if t244 = 0 then ((bocagelaw04_to.f 4 6).bind fun bt259 => (if ((t240 == bt259.1 && (t241 == bt259.2.1)) && ((t242 == bt259.2.2.1 && (t243 == bt259.2.2.2)))) = true then ((bound_Text.f k t240 t241 t242 t243).bind fun t263 => (if t263.toList = ([91, 52, 44, 54, 41] : List UInt8) then (if t250 = 30 then (if ((t252 == t240 && (t253 == t241)) && ((t254 == t242 && (t255 == t243)))) = true then (if t256 = 9 then (if t257 = 0 then ((bound_Low.f k 0 3).bind fun bt264 => (some (bt264.1 == 2 && (bt264.2 == 3)))) else (some false)) else (some false)) else (some false)) else (some false)) else (some false))) else (some false))) else (some false)) = some r := H
 have A3 := Aside0.mk A30
 clear A30
 by_cases c4 : t244 = 0
 ·rw [if_pos c4] at H
  have c4b0 : (t244 == 0) = true := beq_iff_eq.mpr c4
  have c4b1 : (t244 != 0) = false := bne_eq_false_iff_eq.mpr c4
  clear c4
  replace H := Option.bind_eq_some_iff.mp H
  obtain ⟨⟨t259, t260, t261, t262⟩, A50, H⟩ := H
  replace H : (if ((t240 == t259 && (t241 == t260)) && ((t242 == t261 && (t243 == t262)))) = true then ((bound_Text.f k t240 t241 t242 t243).bind fun t263 => (if t263.toList = ([91, 52, 44, 54, 41] : List UInt8) then (if t250 = 30 then (if ((t252 == t240 && (t253 == t241)) && ((t254 == t242 && (t255 == t243)))) = true then (if t256 = 9 then (if t257 = 0 then ((bound_Low.f k 0 3).bind fun bt264 => (some (bt264.1 == 2 && (bt264.2 == 3)))) else (some false)) else (some false)) else (some false)) else (some false)) else (some false))) else (some false)) = some r := H
  have A5 := Aside0.mk A50
  clear A50
  by_cases c6 : ((t240 == t259 && (t241 == t260)) && ((t242 == t261 && (t243 == t262)))) = true
  ·rw [if_pos c6] at H
   have c6b0 : ((t240 == t259 && (t241 == t260)) && ((t242 == t261 && (t243 == t262)))) = true := c6
   clear c6
   replace H := Option.bind_eq_some_iff.mp H
   obtain ⟨t263, A70, H⟩ := H
   replace H : (if t263.toList = ([91, 52, 44, 54, 41] : List UInt8) then (if t250 = 30 then (if ((t252 == t240 && (t253 == t241)) && ((t254 == t242 && (t255 == t243)))) = true then (if t256 = 9 then (if t257 = 0 then ((bound_Low.f k 0 3).bind fun bt264 => (some (bt264.1 == 2 && (bt264.2 == 3)))) else (some false)) else (some false)) else (some false)) else (some false)) else (some false)) = some r := H
   have A7 := Aside0.mk A70
   clear A70
   by_cases c8 : t263.toList = ([91, 52, 44, 54, 41] : List UInt8)
   ·rw [if_pos c8] at H
    have c8b0 : (t263.toList == ([91, 52, 44, 54, 41] : List UInt8)) = true := beq_iff_eq.mpr c8
    have c8b1 : (t263.toList != ([91, 52, 44, 54, 41] : List UInt8)) = false := bne_eq_false_iff_eq.mpr c8
    clear c8
    by_cases c9 : t250 = 30
    ·rw [if_pos c9] at H
     have c9b0 : (t250 == 30) = true := beq_iff_eq.mpr c9
     have c9b1 : (t250 != 30) = false := bne_eq_false_iff_eq.mpr c9
     clear c9
     by_cases c10 : ((t252 == t240 && (t253 == t241)) && ((t254 == t242 && (t255 == t243)))) = true
     ·rw [if_pos c10] at H
      have c10b0 : ((t252 == t240 && (t253 == t241)) && ((t254 == t242 && (t255 == t243)))) = true := c10
      clear c10
      by_cases c11 : t256 = 9
      ·rw [if_pos c11] at H
       have c11b0 : (t256 == 9) = true := beq_iff_eq.mpr c11
       have c11b1 : (t256 != 9) = false := bne_eq_false_iff_eq.mpr c11
       clear c11
       by_cases c12 : t257 = 0
       ·rw [if_pos c12] at H
        have c12b0 : (t257 == 0) = true := beq_iff_eq.mpr c12
        have c12b1 : (t257 != 0) = false := bne_eq_false_iff_eq.mpr c12
        clear c12
        replace H := Option.bind_eq_some_iff.mp H
        obtain ⟨⟨t264, t265⟩, A130, H⟩ := H
        replace H : (some (t264 == 2 && (t265 == 3))) = some r := H
        have A13 := Aside0.mk A130
        clear A130
        obtain rfl := Option.some.inj H
        go_enter Try.func10, Try.ntmps10
        try go_wp2_with (first | ((with_reducible refine gate_callee (f := 9) rfl ?_); refine gol (some 11) Try.func9 #[.agg #[.int .i64 1, .int .i64 3], .agg #[.int .i64 2, .int .i64 5]] ?_; (with_reducible refine (bound_Span.calls k 1 3 2 5 t240 t241 t242 t243 t244 _ A1.out).mono ?_); rintro e w14 ⟨rfl, hb⟩; refine ⟨_, rfl, ?_⟩; replace HB := bst HB hb; (try clear hb); (try clear hb2); (try clear hk); (try clear hi)) | ((with_reducible refine gate_dst (N := 1) rfl ?_); refine bxe (N := 1) (cs := #[.int .i64 0, .int .i64 0, .int .i64 0, .int .i64 0]) (t := 27) ?_; intro gb245 hg w15 hbox hb; have BK245 := Aside0.mk (hbox); have GW245 := lsz hg HB; have GE245 := lsz hg HB; replace HB := bst HB hb; clear hb hbox hg; obtain ⟨hcz16_0, hcz16_1, hcz16_2, hcz16_3⟩ := e4 BK245; obtain ⟨hfz16_0, hfz16_1, hfz16_2, hfz16_3⟩ := f4 BK245) | ((with_reducible refine gate_callee (f := 16) rfl ?_); refine gol (some 15) Try.func16 #[.string (⟨#[91, 52, 44, 52, 41]⟩ : ByteArray)] ?_; (with_reducible refine (bound_Parse.calls k (⟨#[91, 52, 44, 52, 41]⟩ : ByteArray) t246 t247 t248 t249 t250 _ A2.out).mono ?_); rintro e w17 ⟨rfl, hb⟩; refine ⟨_, rfl, ?_⟩; replace BK245 := Aside0.mk (blk_below (g := gb245) (o := .cells #[.int .i64 t240, .int .i64 t241, .int .i64 t242, .int .i64 t243] 27 (0, 0)) (bkp BK245) hb); replace HB := bst HB hb; (try clear hb); (try clear hb2); (try clear hk); (try clear hi)) | ((with_reducible refine gate_dst (N := 3) rfl ?_); refine bxe (N := 3) (cs := #[.int .i64 0, .int .i64 0, .int .i64 0, .int .i64 0]) (t := 27) ?_; intro gb251 hg w18 hbox hb; have BK251 := Aside0.mk (hbox); have GW251 := lsz hg HB; have GE251 := lsz hg HB; replace HB := bst HB hb; have NB245_251 := nlt hg BK245; have NB251_245 := ngt hg BK245; replace BK245 := bkb BK245 hb; clear hb hbox hg; have hnb19 := NB251_245.out; have hnc19 := NB245_251.out; obtain ⟨hcz20_0, hcz20_1, hcz20_2, hcz20_3⟩ := e4 BK251; obtain ⟨hfz20_0, hfz20_1, hfz20_2, hfz20_3⟩ := f4 BK251) | ((with_reducible refine gate_callee (f := 14) rfl ?_); refine gol (some 19) Try.func14 #[.string (⟨#[40, 32, 51, 32, 44, 32, 53, 32, 93, 120]⟩ : ByteArray)] ?_; (with_reducible refine (bound_Loose.calls k (⟨#[40, 32, 51, 32, 44, 32, 53, 32, 93, 120]⟩ : ByteArray) t252 t253 t254 t255 t256 t257 _ A3.out).mono ?_); rintro e w21 ⟨rfl, hb⟩; refine ⟨_, rfl, ?_⟩; replace BK245 := Aside0.mk (blk_below (bkf BK245 NB245_251) hb); replace BK251 := Aside0.mk (blk_below (g := gb251) (o := .cells #[.int .i64 t246, .int .i64 t247, .int .i64 t248, .int .i64 t249] 27 (0, 0)) (bkp BK251) hb); replace HB := bst HB hb; (try clear hb); (try clear hb2); (try clear hk); (try clear hi)) | ((with_reducible refine gate_dst (N := 5) rfl ?_); refine bxe (N := 5) (cs := #[.int .i64 0, .int .i64 0, .int .i64 0, .int .i64 0]) (t := 27) ?_; intro gb258 hg w22 hbox hb; have BK258 := Aside0.mk (hbox); have GW258 := lsz hg HB; have GE258 := lsz hg HB; replace HB := bst HB hb; have NB245_258 := nlt hg BK245; have NB258_245 := ngt hg BK245; replace BK245 := bkb BK245 hb; have NB251_258 := nlt hg BK251; have NB258_251 := ngt hg BK251; replace BK251 := bkb BK251 hb; clear hb hbox hg; have hnb23 := NB258_245.out; have hnc23 := NB245_258.out; have hnb24 := NB258_251.out; have hnc24 := NB251_258.out; obtain ⟨hcz25_0, hcz25_1, hcz25_2, hcz25_3⟩ := e4 BK258; obtain ⟨hfz25_0, hfz25_1, hfz25_2, hfz25_3⟩ := f4 BK258))
        have n0_ : Aside0 (((((w22.setCell ⟨gb258, 0, none⟩ (.int .i64 t252)).setCell ⟨gb258, 1, none⟩ (.int .i64 t253)).setCell ⟨gb258, 2, none⟩ (.int .i64 t254)).setCell ⟨gb258, 3, none⟩ (.int .i64 t255)).heap[gb245]? = some (.cells #[.int .i64 t240, .int .i64 t241, .int .i64 t242, .int .i64 t243] 27 (0, 0))) := ⟨by (with_reducible repeat (first | refine blk_drewN ?_ _ | refine blk_drew ?_ | refine blk_alloc ?_ _)); refine blk_far ?_ NB245_258.out _; (with_reducible repeat (first | refine blk_drewN ?_ _ | refine blk_drew ?_ | refine blk_alloc ?_ _)); refine blk_far ?_ NB245_258.out _; (with_reducible repeat (first | refine blk_drewN ?_ _ | refine blk_drew ?_ | refine blk_alloc ?_ _)); refine blk_far ?_ NB245_258.out _; (with_reducible repeat (first | refine blk_drewN ?_ _ | refine blk_drew ?_ | refine blk_alloc ?_ _)); refine blk_far ?_ NB245_258.out _; (with_reducible repeat (first | refine blk_drewN ?_ _ | refine blk_drew ?_ | refine blk_alloc ?_ _)); exact BK245.out⟩
        have n1_ : Aside0 (((((w22.setCell ⟨gb258, 0, none⟩ (.int .i64 t252)).setCell ⟨gb258, 1, none⟩ (.int .i64 t253)).setCell ⟨gb258, 2, none⟩ (.int .i64 t254)).setCell ⟨gb258, 3, none⟩ (.int .i64 t255)).heap[gb251]? = some (.cells #[.int .i64 t246, .int .i64 t247, .int .i64 t248, .int .i64 t249] 27 (0, 0))) := ⟨by (with_reducible repeat (first | refine blk_drewN ?_ _ | refine blk_drew ?_ | refine blk_alloc ?_ _)); refine blk_far ?_ NB251_258.out _; (with_reducible repeat (first | refine blk_drewN ?_ _ | refine blk_drew ?_ | refine blk_alloc ?_ _)); refine blk_far ?_ NB251_258.out _; (with_reducible repeat (first | refine blk_drewN ?_ _ | refine blk_drew ?_ | refine blk_alloc ?_ _)); refine blk_far ?_ NB251_258.out _; (with_reducible repeat (first | refine blk_drewN ?_ _ | refine blk_drew ?_ | refine blk_alloc ?_ _)); refine blk_far ?_ NB251_258.out _; (with_reducible repeat (first | refine blk_drewN ?_ _ | refine blk_drew ?_ | refine blk_alloc ?_ _)); exact BK251.out⟩
        have n2_ : Aside0 (((((w22.setCell ⟨gb258, 0, none⟩ (.int .i64 t252)).setCell ⟨gb258, 1, none⟩ (.int .i64 t253)).setCell ⟨gb258, 2, none⟩ (.int .i64 t254)).setCell ⟨gb258, 3, none⟩ (.int .i64 t255)).heap[gb258]? = some (.cells #[.int .i64 t252, .int .i64 t253, .int .i64 t254, .int .i64 t255] 27 (0, 0))) := ⟨by (with_reducible repeat (first | refine blk_drewN ?_ _ | refine blk_drew ?_ | refine blk_alloc ?_ _)); refine blk_put (cs := #[.int .i64 t252, .int .i64 t253, .int .i64 t254, .int .i64 0]) ?_ 3 _ rfl; (with_reducible repeat (first | refine blk_drewN ?_ _ | refine blk_drew ?_ | refine blk_alloc ?_ _)); refine blk_put (cs := #[.int .i64 t252, .int .i64 t253, .int .i64 0, .int .i64 0]) ?_ 2 _ rfl; (with_reducible repeat (first | refine blk_drewN ?_ _ | refine blk_drew ?_ | refine blk_alloc ?_ _)); refine blk_put (cs := #[.int .i64 t252, .int .i64 0, .int .i64 0, .int .i64 0]) ?_ 1 _ rfl; (with_reducible repeat (first | refine blk_drewN ?_ _ | refine blk_drew ?_ | refine blk_alloc ?_ _)); refine blk_put (cs := #[.int .i64 0, .int .i64 0, .int .i64 0, .int .i64 0]) ?_ 0 _ rfl; (with_reducible repeat (first | refine blk_drewN ?_ _ | refine blk_drew ?_ | refine blk_alloc ?_ _)); exact BK258.out⟩
        have n3_ : Aside0 (Below w.heap.size w ((((w22.setCell ⟨gb258, 0, none⟩ (.int .i64 t252)).setCell ⟨gb258, 1, none⟩ (.int .i64 t253)).setCell ⟨gb258, 2, none⟩ (.int .i64 t254)).setCell ⟨gb258, 3, none⟩ (.int .i64 t255))) := ⟨bl HB⟩
        (try clear BK245)
        (try clear BK251)
        (try clear BK258)
        (try clear HB)
        generalize ((((w22.setCell ⟨gb258, 0, none⟩ (.int .i64 t252)).setCell ⟨gb258, 1, none⟩ (.int .i64 t253)).setCell ⟨gb258, 2, none⟩ (.int .i64 t254)).setCell ⟨gb258, 3, none⟩ (.int .i64 t255)) = w26 at n0_ n1_ n2_ n3_ ⊢
        have BK245 := n0_
        have BK251 := n1_
        have BK258 := n2_
        have HB := n3_
        clear n0_ n1_ n2_ n3_
        replace BK245 := Aside0.mk (blk_drew BK245.out)
        replace BK251 := Aside0.mk (blk_drew BK251.out)
        replace BK258 := Aside0.mk (blk_drew BK258.out)
        replace HB := Aside0.mk (below_drew1 HB.out)
        refine start_ (n := 36) (S := fun w' => w'.cell? ⟨gb245, 0, none⟩ = some (.int .i64 t240) ∧ w'.cell? ⟨gb245, 1, none⟩ = some (.int .i64 t241) ∧ w'.cell? ⟨gb245, 2, none⟩ = some (.int .i64 t242) ∧ w'.cell? ⟨gb245, 3, none⟩ = some (.int .i64 t243) ∧ w'.cell? ⟨gb258, 0, none⟩ = some (.int .i64 t252) ∧ w'.cell? ⟨gb258, 1, none⟩ = some (.int .i64 t253) ∧ w'.cell? ⟨gb258, 2, none⟩ = some (.int .i64 t254) ∧ w'.cell? ⟨gb258, 3, none⟩ = some (.int .i64 t255)) (ds := []) #[false, false, false, false, false, false, false, false, false, false, false, false, false, false, false, false, false, false, false, false, false, false, false, false, false, false, false, false, false, false, false, false, false, false, false, false] (by kernel_rfl) rfl rfl (c4 BK245 (e4 BK258)) (fun hHeld => ?_); refine with_tabW bocagelaw04_alive.tab4 bocagelaw04_alive.bits4 (fun HT_ HW_ => ?_)
        generalize w26.drew = w27 at BK245 BK251 BK258 HB hHeld ⊢
        refine pw 0 23 HT_ ?_; refine pw 1 24 HT_ ?_; refine pw 2 25 HT_ ?_; refine tw8 3 26 HT_ HW_ hHeld ?_
        refine one_ (i := 4) (N := some 27) #[true, true, true, true, true, false, false, false, false, false, false, false, false, false, false, false, false, false, false, false, false, false, false, false, false, false, false, false, false, false, false, false, false, false, false, false] rfl rfl (one_of HT_.out (by kernel_rfl)) (by decide) (fun K hK => ?_)
        refine goes_ Try.func34 (by kernel_rfl) rfl #[.int .i64 4, .int .i64 6] (by rfl) rfl rfl (by (try simp only [List.map_toArray, List.map_cons, List.map_nil]); first | done | rfl | (simp only [List.length_drop, List.length_take]; rfl)) ?_
        with_reducible refine (bocagelaw04_to.calls 4 6 t259 t260 t261 t262 _ A5.out).mono ?_
        rintro e w28 ⟨rfl, hb⟩
        refine ⟨_, rfl, ?_⟩
        replace BK245 := bkb BK245 hb
        replace BK251 := bkb BK251 hb
        replace BK258 := bkb BK258 hb
        replace HB := bst HB hb
        (try clear hb)
        (try clear hb2)
        (try clear hk)
        (try clear hi)
        refine hK.out _ _ (c4 BK245 (e4 BK258)) (fun hHeld => ?_)
        clear hK K
        refine nrp 27 ?_
        refine pw 5 28 HT_ ?_; refine pw 6 29 HT_ ?_; refine pw 7 30 HT_ ?_; refine tw8 8 31 HT_ HW_ hHeld ?_
        refine one_ (i := 9) (N := some 32) #[true, true, true, true, true, true, true, true, true, true, false, false, false, false, false, false, false, false, false, false, false, false, false, false, false, false, false, false, false, false, false, false, false, false, false, false] rfl rfl (one_of HT_.out (by kernel_rfl)) (by decide) (fun K hK => ?_)
        refine goes_ Try.func18 (by kernel_rfl) rfl #[.agg #[.int .i64 t240, .int .i64 t241, .int .i64 t242, .int .i64 t243]] (by rfl) rfl rfl (by (try simp only [List.map_toArray, List.map_cons, List.map_nil]); first | done | rfl | (simp only [List.length_drop, List.length_take]; rfl)) ?_
        with_reducible refine (bound_Text.calls k t240 t241 t242 t243 t263 _ A7.out).mono ?_
        rintro e w29 ⟨rfl, hb⟩
        refine ⟨_, rfl, ?_⟩
        replace BK245 := bkb BK245 hb
        replace BK251 := bkb BK251 hb
        replace BK258 := bkb BK258 hb
        replace HB := bst HB hb
        (try clear hb)
        refine hK.out _ _ (c4 BK245 (e4 BK258)) (fun hHeld => ?_)
        clear hK K
        refine nrp 32 ?_
        refine pw 10 33 HT_ ?_; refine pw 11 34 HT_ ?_; refine pw 12 35 HT_ ?_; refine pw 13 36 HT_ ?_; refine pw 14 37 HT_ ?_; refine pw 15 38 HT_ ?_; refine pw 16 39 HT_ ?_; refine tw8 17 40 HT_ HW_ hHeld ?_; refine tw8 18 41 HT_ HW_ hHeld ?_; refine pw 19 42 HT_ ?_; refine pw 20 43 HT_ ?_; refine pw 21 44 HT_ ?_; refine pw 22 45 HT_ ?_; refine pw 23 46 HT_ ?_; refine pw 24 47 HT_ ?_; refine pw 25 48 HT_ ?_; refine pw 26 49 HT_ ?_; refine pw 27 50 HT_ ?_; refine pw 28 51 HT_ ?_; refine pw 29 52 HT_ ?_; refine pw 30 53 HT_ ?_; refine pw 32 55 HT_ ?_
        refine one_ (i := 31) (N := some 54) #[true, true, true, true, true, true, true, true, true, true, true, true, true, true, true, true, true, true, true, true, true, true, true, true, true, true, true, true, true, true, true, true, true, false, false, false] rfl rfl (one_of HT_.out (by kernel_rfl)) (by decide) (fun K hK => ?_)
        refine goes_ Try.func23 (by kernel_rfl) rfl #[.agg #[.int .i64 0, .int .i64 3]] (by rfl) rfl rfl (by (try simp only [List.map_toArray, List.map_cons, List.map_nil]); first | done | rfl | (simp only [List.length_drop, List.length_take]; rfl)) ?_
        with_reducible refine (bound_Low.calls k 0 3 t264 t265 _ A13.out).mono ?_
        rintro e w30 ⟨rfl, hb⟩
        refine ⟨_, rfl, ?_⟩
        replace BK245 := bkb BK245 hb
        replace BK251 := bkb BK251 hb
        replace BK258 := bkb BK258 hb
        replace HB := bst HB hb
        (try clear hb)
        refine hK.out _ _ (c4 BK245 (e4 BK258)) (fun hHeld => ?_)
        clear hK K
        refine nrp 54 ?_
        refine pw 33 56 HT_ ?_; refine pw 34 57 HT_ ?_; refine pw 35 0 HT_ ?_
        refine done_ (done_of HT_.out (by kernel_rfl)) ?_
        try go_wp2
        go_ret
        exact endB HB
       ·rw [if_neg c12] at H
        exact absurd ((Option.some.inj H).trans HRT.out) Bool.false_ne_true
      ·rw [if_neg c11] at H
       exact absurd ((Option.some.inj H).trans HRT.out) Bool.false_ne_true
     ·rw [if_neg c10] at H
      exact absurd ((Option.some.inj H).trans HRT.out) Bool.false_ne_true
    ·rw [if_neg c9] at H
     exact absurd ((Option.some.inj H).trans HRT.out) Bool.false_ne_true
   ·rw [if_neg c8] at H
    exact absurd ((Option.some.inj H).trans HRT.out) Bool.false_ne_true
  ·rw [if_neg c6] at H
   exact absurd ((Option.some.inj H).trans HRT.out) Bool.false_ne_true
 ·rw [if_neg c4] at H
  exact absurd ((Option.some.inj H).trans HRT.out) Bool.false_ne_true
end
end Go.Proofs.Ytpeidnkbliafkaa.Print
