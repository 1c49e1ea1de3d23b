-- Laid by wip/print/bprint.py of this repo, over the kit's printer, with functions given by hand; not trusted: Lean checks it.
import Derived.Test.YtihhagfdfhojnaaPrint0
import Derived.Test.YtihhagfdfhojnaaPrint2
namespace Go.Proofs.Ytihhagfdfhojnaa.Print
open Go.RowKit Go.Proofs.YtihhagfdfhojnaaW.PrintWords Go.Proofs.YtihhagfdfhojnaaW.PrintLast Go.Proofs.YtihhagfdfhojnaaW.PrintMore
attribute [local go_sem] max2_int min2_int max_two min_two max_three min_three max_four min_four   -- for this text's walks alone
set_option linter.unusedVariables false
set_option linter.unusedSimpArgs false

/-! ### sat_Text: function 43 -/
theorem sat_Text.info5' : (Try.prog.info? 5).map (fun i => (i.zero, i.size, i.bytes)) = some (some (.int .u8 0), 1, 1) := by kernel_rfl
theorem sat_Text.info5 : (Try.prog.info? 5).map (fun i => (i.zero, i.size, i.bytes)) = some (some (.int .u8 0), 1, 1) := by kernel_rfl

/-- the two captured variables of sat.Text: block B: the bytes so far; block B + 1: what is left -/
structure sat_Text.Inv (B : Nat) (xs : List Int) (L : Int) (w : World) : Prop where
  bs : ∃ v, w.heap[B]? = some (.cells #[v] 70 (0, 0)) ∧ w.ownsRow (B + 2) 5 1 v xs.length (nums .u8 xs)
  left : w.heap[B + 1]? = some (.cells #[.int .u64 L] 65 (0, 0))
  lt : B + 1 < w.heap.size

theorem sat_Text.blk_ne {w : World} {b g : Nat} {v : Value} {t e : TypeId} {cur : Array Value} (hb : w.heap[b]? = some (.cells #[v] t (0, 0))) (hg : w.heap[g]? = some (.cells cur e (0, 0))) (ht : t ≠ e) : g ≠ b := fun h => by
  subst h; rw [hb] at hg; simp at hg; exact ht hg.2

set_option maxHeartbeats 1600000 in
set_option maxRecDepth 100000 in
theorem sat_Text.step (B : Nat) (xs : List Int) (L : Int) (w : World) (h : sat_Text.Inv B xs L w) (h0 : 0 ≤ L) (h1 : L ≤ 18446744073709551615) (hn : xs.length ≤ 100) :
    Calls Try.prog 59 #[.pointer (some ⟨B, 0, none⟩), .pointer (some ⟨B + 1, 0, none⟩)] w fun e w' => e = .returned (.bool (decide (0 < L / 10))) ∧ sat_Text.Inv B (xs ++ [48 + L % 10]) (L / 10) w' ∧ Below B w w' := by
  obtain ⟨⟨v, hv, hown⟩, hleft, hlt⟩ := h
  obtain ⟨i0, hi, hz0, hz1, hz2⟩ := info_parts sat_Text.info5
  have cB := cell_of_one hv
  have fB := free_of_one hv
  have cL := cell_of_one hleft
  have fL := free_of_one hleft
  go_enter Try.func59, Try.ntmps59
  go_wp2_with (at_builtin; refine wpList_append_own _ rfl _ _ 70 rfl (B + 2) 5 i0 (.int .u8 0) 1 1 Try.underlying70 hi hz0 hz1 hz2 rfl (by decide) _ _ _ rfl (hown.alloc _) ⟨w.heap.size, 0, none⟩ 1 1 [.int .u8 (48 + L % 10)] rfl rfl ?c1 ?c2 ?c3 ?c4 ?c5 ?_)
  case c1 =>
    intro j u hj
    match j, hj with
    | 0, hj => simp at hj; subst hj; simp [Addr.add]
  case c2 => intro u hu; simp at hu; subst hu; rfl
  case c3 => unfold maxLen; omega
  case c4 => omega
  case c5 => simp; omega
  intro v' w1 hown' hgrow _
  have hB0 : some B ≠ v.ownBlock := fun e => by have := (hown.lt B e.symm).1; omega
  have hB1 : some (B + 1) ≠ v.ownBlock := fun e => by have := (hown.lt (B + 1) e.symm).1; omega
  have hv1 : w1.heap[B]? = some (.cells #[v] 70 (0, 0)) := by
    rw [hgrow.block B (by simp; omega) hB0, heap_alloc_old _ _ (by omega)]; exact hv
  have hl1 : w1.heap[B + 1]? = some (.cells #[.int .u64 L] 65 (0, 0)) := by
    rw [hgrow.block (B + 1) (by simp; omega) hB1, heap_alloc_old _ _ (by omega)]; exact hleft
  have hb1 : Below B w w1 := ((Below.refl B w).alloc (by omega) _).grown hgrow (by simp; omega) (fun j hj => by have := (hown.lt j hj).1; omega)
  have hsz : B + 1 < w1.heap.size := by have := lt_of_block hl1; omega
  have cB1 := cell_of_one hv1
  have fB1 := free_of_one hv1
  have cL1 := cell_of_one hl1
  have fL1 := free_of_one hl1
  obtain ⟨g, cap, rfl, hgb⟩ : ∃ g cap, v' = .slice (some ⟨g, 0, none⟩) (xs.length + 1) cap ∧ B + 2 ≤ g := by
    rcases hown'.2 with ⟨_, hz⟩ | ⟨g, cap, cur, rfl, hb, _⟩
    · omega
    · exact ⟨g, cap, rfl, hb⟩
  have hN := Aside0.mk (show nums .u8 xs ++ [Value.int .u8 (48 + L % 10)] = nums .u8 (xs ++ [48 + L % 10]) by simp [nums])
  have HO := Aside0.mk hown'
  clear hown hown' hgrow cB fB cL fL hB0 hB1 hz0 hz1 hz2 hi
  go_wp2
  go_ret
  have HO' := HO.out
  rw [hN.out] at HO'
  refine ⟨?_, ⟨⟨.slice (some ⟨g, 0, none⟩) (xs.length + 1) cap, ?_, ?_⟩, ?_, ?_⟩, ?_⟩
  · simp
  · exact (Below.heap_setCell _ _ _ _ (by simp)).trans (one_setCell hv1)
  · rw [List.length_append]
    exact ownsRow_setCell_other (ownsRow_setCell_other HO' (by simp [Value.ownBlock]; omega) _) (by simp [Value.ownBlock]; omega) _
  · exact one_setCell ((Below.heap_setCell _ _ _ _ (by simp)).trans hl1)
  · simpa using hsz
  · exact (hb1.setCell (by simp) _).setCell (by simp) _

def sat_Text.digs : Nat → Int → List Int
  | 0, _ => []
  | k + 1, x => (48 + x % 10) :: (if 0 < x / 10 then sat_Text.digs k (x / 10) else [])
def sat_Text.fits : Nat → Int → Bool
  | 0, _ => false
  | k + 1, x => decide (x < 10) || sat_Text.fits k (x / 10)
def sat_Text.rev (a : Int) : List Int := sat_Text.digs 20 (if a < 0 then -a else a) ++ (if a < 0 then [45] else [])
def sat_Text.f (a0 : Int) : Option ByteArray := if -9223372036854775808 ≤ a0 ∧ a0 ≤ 9223372036854775807 then some (strOfNums (sat_Text.rev a0).reverse) else none
theorem sat_Text.digs_len : ∀ k x, (sat_Text.digs k x).length ≤ k
  | 0, _ => by simp [sat_Text.digs]
  | k + 1, x => by
    simp only [sat_Text.digs, List.length_cons]
    split
    · have := sat_Text.digs_len k (x / 10); omega
    · simp
theorem sat_Text.fits_start (L : Int) (h : L ≤ 9223372036854775808) : sat_Text.fits 20 L = true := by
  simp [sat_Text.fits]; omega
theorem sat_Text.fits_next {k : Nat} {L : Int} (h : sat_Text.fits (k + 1) L = true) (h1 : 0 < L / 10) : sat_Text.fits k (L / 10) = true := by
  simp only [sat_Text.fits, Bool.or_eq_true, decide_eq_true_eq] at h
  rcases h with h | h
  · omega
  · exact h
theorem sat_Text.fits_pos {k : Nat} {L : Int} (h : sat_Text.fits k L = true) : ∃ m, k = m + 1 := by
  cases k with
  | zero => simp [sat_Text.fits] at h
  | succ k => exact ⟨k, rfl⟩
theorem sat_Text.size_some (a : Int) (h0 : -9223372036854775808 ≤ a) (h1 : a ≤ 9223372036854775807) : sat_size.f a = some (if a < 0 then -a else a) := by
  unfold sat_size.f
  by_cases h : a < 0
  · rw [if_pos h, if_pos h]
    have : IntKind.u64.wrap (-(IntKind.u64.wrap a)) = -a := by simp [IntKind.wrap, IntKind.bits, IntKind.signed]; omega
    rw [this]
  · rw [if_neg h, if_neg h]
    have : IntKind.u64.wrap a = a := by simp [IntKind.wrap, IntKind.bits, IntKind.signed]; omega
    rw [this]

def sat_Text.outs (zs : List Int) (i : Nat) : List Int := List.replicate (zs.length - i) 0 ++ (zs.take i).reverse
theorem sat_Text.outs_len (zs : List Int) (i : Nat) (h : i ≤ zs.length) : (sat_Text.outs zs i).length = zs.length := by
  simp [sat_Text.outs]; omega
theorem sat_Text.outs_all (zs : List Int) : sat_Text.outs zs zs.length = zs.reverse := by simp [sat_Text.outs]
theorem sat_Text.outs_step (zs : List Int) (i : Nat) (h : i < zs.length) : (sat_Text.outs zs i).set (zs.length - 1 - i) (rd zs (i : Int)) = sat_Text.outs zs (i + 1) := by
  have e : zs.length - i = (zs.length - 1 - i) + 1 := by omega
  have e2 : zs.length - (i + 1) = zs.length - 1 - i := by omega
  unfold sat_Text.outs
  rw [e2, e, List.replicate_succ', List.append_assoc, List.set_append_right _ _ (by simp)]
  simp only [List.length_replicate, Nat.sub_self, List.singleton_append, List.set_cons_zero]
  congr 1
  rw [List.take_succ_eq_append_getElem h, List.reverse_append]
  simp [rd, List.getElem?_eq_getElem h, List.getD_eq_getElem?_getD]
/-- what the last loop keeps -/
structure sat_Text.Last (w : World) (g cap G : Nat) (zs : List Int) (i : Nat) (wr : World) : Prop where
  var : wr.heap[w.heap.size]? = some (.cells #[.slice (some ⟨g, 0, none⟩) zs.length cap] 70 (0, 0))
  src : wr.ownsRow (w.heap.size + 2) 5 1 (.slice (some ⟨g, 0, none⟩) zs.length cap) zs.length (nums .u8 zs)
  out : wr.ownsRow (w.heap.size + 2) 5 1 (.slice (some ⟨G, 0, none⟩) zs.length zs.length) zs.length (nums .u8 (sat_Text.outs zs i))
  ne : g ≠ G
  bel : Below w.heap.size w wr
theorem sat_Text.Last.step {w wr : World} {g cap G : Nat} {zs : List Int} {i : Nat} (h : sat_Text.Last w g cap G zs i wr) (hG : w.heap.size < G) (hi : i < zs.length) : sat_Text.Last w g cap G zs (i + 1) (wr.drew.setCell ⟨G, zs.length - 1 - i, none⟩ (.int .u8 (rd zs (i : Int)))) := by
  have hs := (own_store (h.out.drew) ((zs.length : Int) - 1 - i) (rd zs (i : Int))).1
  have hi2 : ((zs.length : Int) - 1 - i).toNat = zs.length - 1 - i := by omega
  rw [hi2, sat_Text.outs_step zs i hi] at hs
  refine ⟨?_, ownsRow_setCell_other h.src.drew ?_ _, hs, h.ne, (below_drew h.bel).setCell (by show w.heap.size ≤ G; omega) _⟩
  · exact (Below.heap_setCell _ _ _ _ (by show w.heap.size ≠ G; omega)).trans h.var
  · have := h.ne; simp [Value.ownBlock]; exact this

set_option maxHeartbeats 8000000 in
set_option maxRecDepth 100000 in
theorem sat_Text.calls (a0 : Int) (r : ByteArray) (w : World) (h : sat_Text.f a0 = some r) :
    Calls Try.prog 43 #[.int .i64 a0] w fun e w' => e = .returned (.string r) ∧ Below w.heap.size w w' := by
  unfold sat_Text.f at h
  split at h
  · rename_i hb
    obtain ⟨hb0, hb1⟩ := hb
    have hr := Aside0.mk (Option.some.inj h)
    clear h
    have hsz := Aside0.mk (sat_Text.size_some a0 hb0 hb1)
    obtain ⟨L, hL⟩ : ∃ L, L = if a0 < 0 then -a0 else a0 := ⟨_, rfl⟩
    rw [← hL] at hsz
    have hL0 : 0 ≤ L := by rw [hL]; split <;> omega
    have hL1 : L ≤ 9223372036854775808 := by rw [hL]; split <;> omega
    have HL := Aside0.mk hL
    clear hL
    have hT : Aside0 (sat_Text.digs 20 L ++ (if a0 < 0 then [45] else []) = sat_Text.rev a0) := ⟨by rw [HL.out]; rfl⟩
    have hTl := sat_Text.digs_len 20 L
    have hT0 : 1 ≤ (sat_Text.digs 20 L).length := by simp [sat_Text.digs]
    obtain ⟨T, hTT⟩ : ∃ T, T = sat_Text.digs 20 L := ⟨_, rfl⟩
    rw [← hTT] at hT hTl hT0
    have HTT := Aside0.mk hTT
    clear hTT
    go_enter Try.func43, Try.ntmps43
    go_upto_block 0 with (go_at_call 57; refine (sat_size.calls a0 L _ hsz.out).mono ?_; rintro e w' ⟨rfl, ⟨nd, rfl⟩⟩)
    go_cut [] (fun wc => ∃ l, sat_Text.Inv w.heap.size T l wc ∧ Below w.heap.size w wc)
    case first =>
      go_wp2
      go_loopg [] 20 (fun k wr => ∃ (xs : List Int) (l : Int), sat_Text.Inv w.heap.size xs l wr ∧ Below w.heap.size w wr ∧ 0 ≤ l ∧ l ≤ 18446744073709551615 ∧ Aside0 (sat_Text.fits k l = true) ∧ Aside0 (xs ++ sat_Text.digs k l = T) ∧ Aside0 (xs.length + k ≤ 20))
      case atStart =>
        refine ⟨[], L, ⟨⟨.slice none 0 0, ?_, World.ownsRow_nil _ _ _ _⟩, ?_, ?_⟩, ?_, hL0, by omega, ⟨sat_Text.fits_start L hL1⟩, ⟨HTT.out.symm⟩, ⟨by simp⟩⟩
        · rw [heap_alloc_old _ _ (by simp)]; exact heap_alloc_new _ _
        · have := heap_alloc_new ((w.alloc (Obj.cells #[Value.slice none 0 0] 70)).drewN nd) (Obj.cells #[Value.int .u64 L] 65); simpa using this
        · simp
        · exact (pw_below_drewN ((Below.refl _ w).alloc (Nat.le_refl _) _) nd).alloc (by simp) _
      case round =>
        obtain ⟨xs, l, hinv, hbel, h0, h1, hfit, hsum, hlen⟩ := hrel
        obtain ⟨k, rfl⟩ := sat_Text.fits_pos hfit.out
        have hlen' := hlen.out
        by_cases hc : 0 < l / 10
        · have hc' : decide (0 < l / 10) = true := decide_eq_true hc
          go_wp2_with (go_at_call 59; refine (sat_Text.step w.heap.size xs l _ hinv h0 h1 (by omega)).mono ?_; rintro e w' ⟨rfl, hinv', hbel'⟩)
          go_roundg k
          case rel => exact ⟨_, _, hinv', hbel.trans hbel', by omega, by omega, ⟨sat_Text.fits_next hfit.out hc⟩, ⟨by have := hsum.out; rw [← this]; simp only [sat_Text.digs, if_pos hc, List.append_assoc, List.singleton_append]⟩, ⟨by simp; omega⟩⟩
          case measure => omega
        · have hc' : decide (0 < l / 10) = false := decide_eq_false hc
          have hall : Aside0 (xs ++ [48 + l % 10] = T) := ⟨by have := hsum.out; rw [← this]; simp only [sat_Text.digs, if_neg hc]⟩
          go_wp2_with (go_at_call 59; refine (sat_Text.step w.heap.size xs l _ hinv h0 h1 (by omega)).mono ?_; rintro e w' ⟨rfl, hinv', hbel'⟩)
          go_meet
          case rel => exact ⟨_, hall.out ▸ hinv', hbel.trans hbel'⟩
    case rest =>
      obtain ⟨l, ⟨⟨v, hv, hown⟩, hleft, hlt⟩, hbel⟩ := hcut
      obtain ⟨g, cap, rfl, hgb, hgl⟩ := hown.form hT0
      obtain ⟨i0, hi, hz0, hz1, hz2⟩ := info_parts sat_Text.info5
      go_upto_if 14 with (fail)
      go_cut [] (fun wc => ∃ (zs : List Int) (g cap : Nat), Aside0 (zs = sat_Text.rev a0) ∧ wc.heap[w.heap.size]? = some (.cells #[.slice (some ⟨g, 0, none⟩) zs.length cap] 70 (0, 0)) ∧ wc.ownsRow (w.heap.size + 2) 5 1 (.slice (some ⟨g, 0, none⟩) zs.length cap) zs.length (nums .u8 zs) ∧ Below w.heap.size w wc ∧ 1 ≤ zs.length ∧ zs.length ≤ 21)
      case first =>
        have cB := cell_of_one hv
        have fB := free_of_one hv
        by_cases hneg : a0 < 0
        · have hneg' : decide (a0 < 0) = true := decide_eq_true hneg
          have hrev := Aside0.mk (show T ++ [45] = sat_Text.rev a0 by have := hT.out; rwa [if_pos hneg] at this)
          clear hT
          go_wp2_with (at_builtin; refine wpList_append_own _ rfl _ _ 70 rfl (w.heap.size + 2) 5 i0 (.int .u8 0) 1 1 Try.underlying70 hi hz0 hz1 hz2 rfl (by decide) _ _ _ rfl (hown.alloc _) ⟨wc.heap.size, 0, none⟩ 1 1 [.int .u8 45] rfl rfl ?c1 ?c2 ?c3 ?c4 ?c5 ?_)
          case c1 =>
            intro j u hj
            match j, hj with
            | 0, hj => simp at hj; subst hj; simp [Addr.add]
          case c2 => intro u hu; simp at hu; subst hu; rfl
          case c3 => unfold maxLen; omega
          case c4 => omega
          case c5 => simp; omega
          intro v' w1 hown' hgrow _
          have hN := Aside0.mk (show nums .u8 T ++ [Value.int .u8 45] = nums .u8 (T ++ [45]) by simp [nums])
          have HO := Aside0.mk hown'
          have HG := Aside0.mk hgrow
          have hB0 : w.heap.size ≠ g := by omega
          have hv1 : w1.heap[w.heap.size]? = some (.cells #[.slice (some ⟨g, 0, none⟩) T.length cap] 70 (0, 0)) := by
            rw [hgrow.block w.heap.size (by simp; omega) (by simp [Value.ownBlock]; omega), heap_alloc_old _ _ (by omega)]; exact hv
          have hb1 : Below w.heap.size w w1 := (hbel.alloc (by omega) _).grown hgrow (by simp; omega) (fun j hj => by simp [Value.ownBlock] at hj; omega)
          obtain ⟨g', cap', rfl, hgb', hgl'⟩ := hown'.form (by omega)
          have cB1 := cell_of_one hv1
          have fB1 := free_of_one hv1
          clear hown hown' hgrow cB fB hB0 hv
          go_wp2
          go_meet
          case rel =>
            have HO' := HO.out
            rw [hN.out] at HO'
            refine ⟨T ++ [45], g', cap', hrev, ?_, ?_, ?_, by simp, by simp; omega⟩
            · rw [List.length_append]; exact one_setCell hv1
            · rw [List.length_append]; exact ownsRow_setCell_other HO' (by simp [Value.ownBlock]; omega) _
            · exact hb1.setCell (by simp) _
        · have hneg' : decide (a0 < 0) = false := decide_eq_false hneg
          have hrev := Aside0.mk (show T = sat_Text.rev a0 by have := hT.out; rwa [if_neg hneg, List.append_nil] at this)
          clear hT
          go_wp2
          go_meet
          case rel => exact ⟨T, g, cap, hrev, hv, hown, hbel, hT0, by omega⟩
      case rest =>
        obtain ⟨zs, g1, cap1, hzs, hv1, hown1, hbel1, hz1', hz2'⟩ := hcut
        clear hown hv hleft hlt hbel hTl hT0 hi hz0 hz1 hz2 i0 hsz HTT hT
        obtain ⟨g, cap, he, hgb1, hgl1⟩ := hown1.form (by omega)
        obtain ⟨rfl, rfl⟩ : g1 = g ∧ cap1 = cap := by simpa using he
        clear he hgb hgl
        have cB := cell_of_one hv1
        have fB := free_of_one hv1
        have hlt1 : w.heap.size < wc.heap.size := lt_of_block hv1
        have hmk := run_make_row' (P := Try.prog) 70 5 (.int .u8 0) 1 Try.underlying70 sat_Text.info5' rfl .i64 .i64 zs.length (by omega) (by omega)
        go_wp2_with fail
        clear hmk
        have cG := own_made wc (w.heap.size + 2) 5 .u8 zs.length (by omega) (by omega)
        have hvn : (wc.alloc (.cells (madeCells #[.int .u8 0] zs.length) 5)).heap[w.heap.size]? = some (.cells #[.slice (some ⟨g1, 0, none⟩) zs.length cap1] 70 (0, 0)) := by rw [heap_alloc_old _ _ hlt1]; exact hv1
        have hl0 : sat_Text.Last w g1 cap1 wc.heap.size zs 0 (wc.alloc (.cells (madeCells #[.int .u8 0] zs.length) 5)) := ⟨hvn, hown1.alloc _, by simpa [sat_Text.outs] using cG, by omega, hbel1.alloc (by omega) _⟩
        obtain ⟨G, hG⟩ : ∃ G, G = wc.heap.size := ⟨_, rfl⟩
        rw [← hG] at hl0 ⊢
        have hGlt : w.heap.size < G := by omega
        clear cG hvn cB fB hG hown1 hv1
        go_loopg [23] zs.length (fun k i wr => ∃ n : Nat, i = .int .i64 n ∧ n ≤ zs.length ∧ Aside0 (k = zs.length - n) ∧ Aside0 (sat_Text.Last w g1 cap1 G zs n wr))
        case atStart => exact ⟨0, rfl, by omega, ⟨by omega⟩, ⟨hl0⟩⟩
        case round =>
          obtain ⟨n, rfl, hn, hk, hlast⟩ := hrel
          have hl := hlast.out
          have cB := cell_of_one hl.var
          have hconv := own_string (P := Try.prog) (src := 70) (dst := 9) (e := 5) Try.underlying70 Try.underlying5 Try.underlying9 hl.out
          by_cases hlt : n < zs.length
          · clear hconv
            have hsrc := (own_at hl.src (n : Int) (by omega) (by omega)).1
            have hdst := own_at hl.out ((zs.length : Int) - 1 - n) (by omega) (by omega)
            have hi1 : ((n : Int)).toNat = n := by omega
            have hi2 : ((zs.length : Int) - 1 - n).toNat = zs.length - 1 - n := by omega
            rw [hi1] at hsrc
            rw [hi2] at hdst
            obtain ⟨hdst, hdstf⟩ := hdst
            clear hi1 hi2 hl
            go_wp2
            go_region
            go_wp2
            go_roundg (zs.length - (n + 1))
            case rel => exact ⟨n + 1, by go_num, by omega, ⟨rfl⟩, ⟨hlast.out.step hGlt hlt⟩⟩
            case measure => have := hk.out; omega
          · clear hl
            obtain rfl : n = zs.length := by omega
            go_wp2
            go_ret
            refine ⟨?_, hlast.out.bel⟩
            have hr' := hr.out
            rw [← hzs.out] at hr'
            show Ending.returned (.string (strOfNums (sat_Text.outs zs zs.length))) = _
            rw [← hr', sat_Text.outs_all]
  · cases h

end Go.Proofs.Ytihhagfdfhojnaa.Print
