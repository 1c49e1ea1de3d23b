import Derived.Test.YtkkbmjfhpngalaaPrint0
import Derived.Test.YtkkbmjfhpngalaaPrint1
import Derived.Test.YtkkbmjfhpngalaaPrint2
import Derived.Test.YtkkbmjfhpngalaaSh
import Derived.Test.YtkkbmjfhpngalaaHSort
import Derived.Test.YtkkbmjfhpngalaaHCopy
import Derived.Test.YtkkbmjfhpngalaaLSpanL
import Derived.Lib.SlBuf
namespace Go.Proofs.Ytkkbmjfhpngalaa.Print
open Go.RowKit Go.Proofs.YtkkbmjfhpngalaaW.PrintWords Go.Proofs.YtkkbmjfhpngalaaW.PrintLast Go.Proofs.YtkkbmjfhpngalaaW.PrintMore
attribute [local go_sem] max2_int min2_int max_two min_two max_three min_three max_four min_four
set_option linter.unusedVariables false
set_option linter.unusedSimpArgs false
def span_List.l0 : Nat → List (S25) → List (S25) → Int → Int → Option ((List (S25)))
  | 0, _, _, _, _ => none
  | k + 1, x4, x16, x17, x18 => if x18 < x17 then (if 0 ≤ x18 then (if x18 < (x16.length : Int) then ((span_Right.f k ((rd_T25 x16 x18).f0.f0) ((rd_T25 x16 x18).f0.f1) ((rd_T25 x16 x18).f1.f0) ((rd_T25 x16 x18).f1.f1)).bind fun t350 => (if t350 = true then (if (wrap64 ((x4.length : Int) - 1)) ≥ 0 then (if 0 ≤ (wrap64 ((x4.length : Int) - 1)) then (if (wrap64 ((x4.length : Int) - 1)) < (x4.length : Int) then ((span_Overlap.f k ((rd_T25 x4 (wrap64 ((x4.length : Int) - 1))).f0.f0) ((rd_T25 x4 (wrap64 ((x4.length : Int) - 1))).f0.f1) ((rd_T25 x4 (wrap64 ((x4.length : Int) - 1))).f1.f0) ((rd_T25 x4 (wrap64 ((x4.length : Int) - 1))).f1.f1) ((rd_T25 x16 x18).f0.f0) ((rd_T25 x16 x18).f0.f1) ((rd_T25 x16 x18).f1.f0) ((rd_T25 x16 x18).f1.f1)).bind fun t352 => (if t352 = true then ((span_Hull.f k ((rd_T25 x4 (wrap64 ((x4.length : Int) - 1))).f0.f0) ((rd_T25 x4 (wrap64 ((x4.length : Int) - 1))).f0.f1) ((rd_T25 x4 (wrap64 ((x4.length : Int) - 1))).f1.f0) ((rd_T25 x4 (wrap64 ((x4.length : Int) - 1))).f1.f1) ((rd_T25 x16 x18).f0.f0) ((rd_T25 x16 x18).f0.f1) ((rd_T25 x16 x18).f1.f0) ((rd_T25 x16 x18).f1.f1)).bind fun bt354 => (span_List.l0 k (x4.set ((wrap64 ((x4.length : Int) - 1)) : Int).toNat (⟨(⟨bt354.1, bt354.2.1⟩ : S23), (⟨bt354.2.2.1, bt354.2.2.2⟩ : S23)⟩ : S25)) x16 x17 (wrap64 (x18 + 1)))) else ((span_Touch.f k ((rd_T25 x4 (wrap64 ((x4.length : Int) - 1))).f0.f0) ((rd_T25 x4 (wrap64 ((x4.length : Int) - 1))).f0.f1) ((rd_T25 x4 (wrap64 ((x4.length : Int) - 1))).f1.f0) ((rd_T25 x4 (wrap64 ((x4.length : Int) - 1))).f1.f1) ((rd_T25 x16 x18).f0.f0) ((rd_T25 x16 x18).f0.f1) ((rd_T25 x16 x18).f1.f0) ((rd_T25 x16 x18).f1.f1)).bind fun t360 => (if t360 = true then ((span_Hull.f k ((rd_T25 x4 (wrap64 ((x4.length : Int) - 1))).f0.f0) ((rd_T25 x4 (wrap64 ((x4.length : Int) - 1))).f0.f1) ((rd_T25 x4 (wrap64 ((x4.length : Int) - 1))).f1.f0) ((rd_T25 x4 (wrap64 ((x4.length : Int) - 1))).f1.f1) ((rd_T25 x16 x18).f0.f0) ((rd_T25 x16 x18).f0.f1) ((rd_T25 x16 x18).f1.f0) ((rd_T25 x16 x18).f1.f1)).bind fun bt362 => (span_List.l0 k (x4.set ((wrap64 ((x4.length : Int) - 1)) : Int).toNat (⟨(⟨bt362.1, bt362.2.1⟩ : S23), (⟨bt362.2.2.1, bt362.2.2.2⟩ : S23)⟩ : S25)) x16 x17 (wrap64 (x18 + 1)))) else (if x4.length < 4398046511104 then (span_List.l0 k (x4 ++ [(⟨(⟨(rd_T25 x16 x18).f0.f0, (rd_T25 x16 x18).f0.f1⟩ : S23), (⟨(rd_T25 x16 x18).f1.f0, (rd_T25 x16 x18).f1.f1⟩ : S23)⟩ : S25)]) x16 x17 (wrap64 (x18 + 1))) else (none)))))) else (none)) else (none)) else (if x4.length < 4398046511104 then (span_List.l0 k (x4 ++ [(⟨(⟨(rd_T25 x16 x18).f0.f0, (rd_T25 x16 x18).f0.f1⟩ : S23), (⟨(rd_T25 x16 x18).f1.f0, (rd_T25 x16 x18).f1.f1⟩ : S23)⟩ : S25)]) x16 x17 (wrap64 (x18 + 1))) else (none))) else (span_List.l0 k x4 x16 x17 (wrap64 (x18 + 1))))) else (none)) else (none)) else (some x4)
theorem span_List.mono_l : ∀ k, (∀ y0 y1 y2 y3, LeO (span_List.l0 k y0 y1 y2 y3) (span_List.l0 (k + 1) y0 y1 y2 y3))
  | 0 => fun _ _ _ _ r h => by simp [span_List.l0] at h
  | k + 1 => by
    have ih0 := span_List.mono_l k
    · intro y0 y1 y2 y3
      unfold span_List.l0
      repeat' first
      | (with_reducible exact ih0 _ _ _ _)
      | (with_reducible exact span_Hull.mono _ _ _ _ _ _ _ _ _)
      | (with_reducible exact span_Overlap.mono _ _ _ _ _ _ _ _ _)
      | (with_reducible exact span_Right.mono _ _ _ _ _)
      | (with_reducible exact span_Touch.mono _ _ _ _ _ _ _ _ _)
      | (with_reducible exact LeO.refl _)
      | (with_reducible exact LeO.none _)
      | (with_reducible refine LeO.ite ?_ ?_)
      | (with_reducible refine LeO.bind ?_ (fun _ => ?_))
      | exact ih0 _ _ _ _
      | exact span_Hull.mono _ _ _ _ _ _ _ _ _
      | exact span_Overlap.mono _ _ _ _ _ _ _ _ _
      | exact span_Right.mono _ _ _ _ _
      | exact span_Touch.mono _ _ _ _ _ _ _ _ _
      | exact LeO.none _
      | refine LeO.ite ?_ ?_
      | refine LeO.bind ?_ (fun _ => ?_)
def span_List.T11 : Bool × List (List Nat × List Nat) := (true, [([], []), ([0], [0]), ([1], [1]), ([2], [2]), ([2], [2]), ([3, 4, 2], [2, 3, 4]), ([5, 2], [2, 5]), ([2], [2]), ([6, 7, 2, 2], [2, 6, 7]), ([8, 8, 2], [2, 8]), ([9], [9]), ([9], [9]), ([10, 11, 9], [9, 10, 11]), ([12, 9], [9, 12]), ([9], [9]), ([13, 14, 9, 9], [9, 13, 14]), ([9, 15, 2], [2, 9, 15]), ([2, 16], [2, 16]), ([17, 15], [17])])
def span_List.B11 : List Nat := [0, 1, 3, 7, 7, 31, 63, 7, 255, 511, 1023, 1023, 4095, 8191, 1023, 32767, 65535, 131071, 262143]
theorem span_List.tab11 : rtab .any (opsOf Try.f37 11) = span_List.T11 := by kernel_rfl
theorem span_List.bits11 : waitsOk span_List.T11.2 span_List.B11 = true := by kernel_rfl
def span_List.T12 : Bool × List (List Nat × List Nat) := (true, [([], []), ([], []), ([], []), ([], []), ([2, 3], [2, 3]), ([4], [4]), ([], []), ([5, 6], [5, 6]), ([0, 1, 0, 1, 2, 3, 4, 5, 6, 7], [0, 1]), ([8, 7, 7, 0, 1, 2, 3, 4, 5, 6, 7], [7, 8])])
def span_List.B12 : List Nat := [0, 0, 0, 0, 12, 28, 0, 124, 255, 511]
theorem span_List.tab12 : rtab .any (opsOf Try.f37 12) = span_List.T12 := by kernel_rfl
theorem span_List.bits12 : waitsOk span_List.T12.2 span_List.B12 = true := by kernel_rfl

theorem span_List.l0_eq (d : List S25) (hd : d.length ≤ 1000000) : ∀ (n : Nat) (i : Nat) (x4 : List S25) (k : Nat), i + n = d.length → x4.length ≤ i → n + 12 ≤ k → span_List.l0 k x4 d (d.length : Int) (i : Int) = some ((d.drop i).foldl stepS x4) := by
  intro n
  induction n with
  | zero =>
    intro i x4 k hin hx hk
    obtain ⟨k, rfl⟩ : ∃ m, k = m + 1 := ⟨k - 1, by omega⟩
    rw [span_List.l0, if_neg (by omega), List.drop_of_length_le (by omega)]
    rfl
  | succ n ih =>
    intro i x4 k hin hx hk
    obtain ⟨k, rfl⟩ : ∃ m, k = m + 1 := ⟨k - 1, by omega⟩
    have hlt : i < d.length := by omega
    have hw : wrap64 ((i : Int) + 1) = ((i + 1 : Nat) : Int) := by unfold wrap64; omega
    have hrd : rd_T25 d (i : Int) = d[i] := by simp [rd_T25, List.getD, hlt]
    have hdrop : d.drop i = d[i] :: d.drop (i + 1) := List.drop_eq_getElem_cons hlt
    rw [span_List.l0, if_pos (by omega), if_pos (by omega), if_pos (by omega), hrd, span_Right.eq _ _ _ _ k (by omega), Option.bind_some, hdrop, List.foldl_cons, hw]
    generalize d[i] = s
    have ih' : ∀ y : List S25, y.length ≤ i + 1 → span_List.l0 k y d (d.length : Int) ((i + 1 : Nat) : Int) = some ((d.drop (i + 1)).foldl stepS y) := fun y hy => ih (i + 1) y k (by omega) hy (by omega)
    have eR : decide (RS (s.f0.f0, s.f0.f1) (s.f1.f0, s.f1.f1)) = RX s := rfl
    rw [eR]
    by_cases hR : RX s = true
    · rw [if_pos hR]
      have est : stepS x4 s = joinS x4 s := by unfold stepS; rw [if_pos hR]
      rw [est]
      rcases List.eq_nil_or_concat x4 with rfl | ⟨ys, o, rfl⟩
      · have hm : wrap64 ((([] : List S25).length : Int) - 1) = -1 := by unfold wrap64; simp
        rw [hm, if_neg (by decide), if_pos (by decide)]
        exact ih' [s] (by show 1 ≤ i + 1; omega)
      · rw [List.concat_eq_append] at *
        have hlen : ((ys ++ [o]).length : Int) = ys.length + 1 := by simp
        have hys : ys.length + 1 ≤ i := by simpa using hx
        have hm : wrap64 (((ys ++ [o]).length : Int) - 1) = (ys.length : Int) := by rw [hlen]; unfold wrap64; omega
        have hrd2 : rd_T25 (ys ++ [o]) (ys.length : Int) = o := by simp [rd_T25, List.getD]
        have hset : ∀ v : S25, (ys ++ [o]).set (ys.length : Int).toNat v = ys ++ [v] := fun v => by simp
        have hjoin : joinS (ys ++ [o]) s = if OV o s = true ∨ TC o s = true then ys ++ [HU o s] else ys ++ [o] ++ [s] := by
          unfold joinS; rw [List.getLast?_concat]; simp only [List.dropLast_concat]
        rw [hm, if_pos (by omega), if_pos (by omega), if_pos (by omega), hrd2, span_Overlap.eq _ _ _ _ _ _ _ _ k (by omega), Option.bind_some, hjoin]
        have eO : decide (RS (o.f0.f0, o.f0.f1) (o.f1.f0, o.f1.f1) ∧ RS (s.f0.f0, s.f0.f1) (s.f1.f0, s.f1.f1) ∧ cmp2 (maxC (o.f0.f0, o.f0.f1) (s.f0.f0, s.f0.f1)) (minC (o.f1.f0, o.f1.f1) (s.f1.f0, s.f1.f1)) < 0) = OV o s := rfl
        have eT : decide (RS (o.f0.f0, o.f0.f1) (o.f1.f0, o.f1.f1) ∧ RS (s.f0.f0, s.f0.f1) (s.f1.f0, s.f1.f1) ∧ ((o.f1.f0, o.f1.f1) = (s.f0.f0, s.f0.f1) ∨ (s.f1.f0, s.f1.f1) = (o.f0.f0, o.f0.f1))) = TC o s := rfl
        have hH : ∀ {β : Type} (g : Int × Int × Int × Int → Option β), (span_Hull.f k o.f0.f0 o.f0.f1 o.f1.f0 o.f1.f1 s.f0.f0 s.f0.f1 s.f1.f0 s.f1.f1).bind g = g ((HU o s).f0.f0, (HU o s).f0.f1, (HU o s).f1.f0, (HU o s).f1.f1) := by
          intro β g
          rw [span_Hull.eq _ _ _ _ _ _ _ _ k (by omega), Option.bind_some]
          congr 1
          by_cases hh : RS (o.f0.f0, o.f0.f1) (o.f1.f0, o.f1.f1) ∧ RS (s.f0.f0, s.f0.f1) (s.f1.f0, s.f1.f1)
          · rw [if_pos hh]
            have e : HU o s = sp (minC (lo o) (lo s)) (maxC (hi o) (hi s)) := by unfold HU; exact if_pos hh
            rw [e]; rfl
          · rw [if_neg hh]
            have e : HU o s = sp (0, 0) (0, 0) := by unfold HU; exact if_neg hh
            rw [e]; rfl
        rw [eO]
        by_cases hO : OV o s = true
        · rw [if_pos hO, if_pos (Or.inl hO), hH]
          dsimp only
          rw [hset]
          exact ih' (ys ++ [HU o s]) (by rw [List.length_append]; show ys.length + 1 ≤ _; omega)
        · rw [if_neg hO, span_Touch.eq _ _ _ _ _ _ _ _ k (by omega), Option.bind_some, eT]
          by_cases hT : TC o s = true
          · rw [if_pos hT, if_pos (Or.inr hT), hH]
            dsimp only
            rw [hset]
            exact ih' (ys ++ [HU o s]) (by rw [List.length_append]; show ys.length + 1 ≤ _; omega)
          · have hno : ¬ (OV o s = true ∨ TC o s = true) := fun hh => hh.elim hO hT
            have hl4 : (ys ++ [o]).length < 4398046511104 := by rw [List.length_append]; show ys.length + 1 < _; omega
            rw [if_neg hT, if_neg hno, if_pos hl4]
            exact ih' (ys ++ [o] ++ [s]) (by rw [List.length_append, List.length_append]; show ys.length + 1 + 1 ≤ _; omega)
    · rw [if_neg hR]
      have est : stepS x4 s = x4 := by unfold stepS; rw [if_neg hR]
      rw [est]
      exact ih' _ (by omega)
theorem flat_length (l : List S25) : (l.flatMap PrintG.enc25).length = l.length * 4 := by
  induction l with
  | nil => rfl
  | cons x l ih => rw [List.flatMap_cons, List.length_append, ih, List.length_cons]; show 4 + _ = _; omega
/-- the row, read as cells one behind the other -/
theorem cells_of_C {w : World} {A : Option Addr} {l : List S25} (h : Kd.C k25 w A l.length l) (hp : 0 < l.length) : ∃ ad, A = some ad ∧ ∀ j v, (l.flatMap PrintG.enc25)[j]? = some v → w.cell? (ad.add j) = some v := by
  obtain ⟨_, _, hc⟩ := h
  obtain ⟨ad, hA, hc⟩ := hc hp
  refine ⟨ad, hA, fun j v hv => ?_⟩
  have hj : j < l.length * 4 := by
    have := (List.getElem?_eq_some_iff.1 hv).1
    rw [flat_length] at this
    omega
  rw [PrintG.flat_get l j hj] at hv
  have hj4 : j / 4 < l.length := by omega
  obtain ⟨c, hcl, hK, hcell⟩ := hc (j / 4) l[j / 4] (List.getElem?_eq_getElem hj4)
  have ec := k25_open hK
  rw [getElem!_pos l.toArray (j / 4) (by simpa using hj4)] at hv
  have h4 : j % 4 < (PrintG.enc25 l[j / 4]).length := by show j % 4 < 4; omega
  have h5 : (PrintG.enc25 l[j / 4])[j % 4]? = some v := by
    rw [List.getElem?_eq_getElem h4, ← hv]
    simp only [List.getElem_toArray]
    rw [getElem!_pos (PrintG.enc25 l[j / 4]) (j % 4) h4]
  have h6 := hcell (j % 4) v (by rw [ec]; exact h5)
  have h7 : j / 4 * k25.sz + j % 4 = j := by show j / 4 * 4 + j % 4 = j; omega
  rw [h7] at h6
  exact h6
theorem flat_one (l : List S25) : ∀ v ∈ l.flatMap PrintG.enc25, v.oneCell' = true := by
  intro v hv
  obtain ⟨x, _, hx⟩ := List.mem_flatMap.1 hv
  simp [PrintG.enc25] at hx
  rcases hx with rfl | rfl | rfl | rfl <;> rfl
/-- copy of a whole row into a new one of its length -/
theorem copy_all (w : World) (ty : TypeId) (g : Nat) (A : Option Addr) (c : Nat) (l : List S25) (cur : Array Value) (hg : w.heap[g]? = some (.cells cur 25 (0, 0))) (hcur : cur.size = l.length * 4) (hC : Kd.C k25 w A l.length l) :
    (Builtin.copy_ #[26, 26] ty #[.slice (some ⟨g, 0, none⟩) l.length l.length, .slice A l.length c]).run Try.prog w = .ok (goInt l.length) (w.setRow g (l.flatMap PrintG.enc25).toArray) := by
  have hs : (Try.prog.info? 25).map (·.size) = some 4 := by kernel_rfl
  by_cases hp : 0 < l.length
  · obtain ⟨ad, rfl, hsrc⟩ := cells_of_C hC hp
    have h := run_copyK w 26 26 ty 25 4 g 0 l.length l.length ad l.length c cur 25 (l.flatMap PrintG.enc25) Try.underlying26 hs hg (by rw [flat_length, show Nat.min l.length l.length = l.length from Nat.min_self _]) hsrc (by rw [flat_length]; omega) (flat_one l)
    rw [h, show Nat.min l.length l.length = l.length from Nat.min_self _, List.take_zero, List.nil_append, List.drop_of_length_le (by rw [flat_length, Array.length_toList, hcur]; omega), List.append_nil]
  · obtain rfl : l = [] := List.eq_nil_of_length_eq_zero (by omega)
    have hc0 : cur = #[] := Array.eq_empty_of_size_eq_zero (by simpa using hcur)
    subst hc0
    have h1 : w.setRow g #[] = w := setRow_self w g #[] 25 (0, 0) hg
    show _ = Result.ok (goInt 0) (w.setRow g #[])
    cases A with
    | some ad =>
      have h := run_copyK w 26 26 ty 25 4 g 0 0 0 ad 0 c #[] 25 [] Try.underlying26 hs hg (by rfl) (fun j v hv => by cases hv) (by decide) (fun v hv => by cases hv)
      exact h
    | none =>
      rw [h1]
      cases hq : Try.prog.info? 25 with
      | none => rw [hq] at hs; cases hs
      | some i =>
        have hsz : i.size = 4 := by rw [hq] at hs; exact Option.some.inj hs
        simp [Builtin.copy_, run_underlying Try.underlying26, Builtin.lenOf, Builtin.firstCells, sizeOf, typeInfo, hq, hsz, storeCells]

set_option maxHeartbeats 16000000 in
set_option maxRecDepth 100000 in
theorem span_List.calls (k : Nat) (Az : Option Addr) (cz : Nat) (lz : List (S25)) (r : List (S25)) (wz : World) (hr0 : Kd.C k25 wz Az lz.length lz) (hc0 : lz.length ≤ cz) (h : span_List.f k lz = some r) :
    Calls Try.prog 37 #[.slice Az lz.length cz] wz fun e w' => ∃ v0_ : Value, e = .returned (v0_) ∧ Kd.R k25 25 w' wz.heap.size (fun _ => True) v0_ r ∧ Below wz.heap.size wz w' := by
  have hu25 := Try.underlying25
  unfold span_List.f at h
  by_cases hlen : lz.length < 1000000
  · rw [if_pos hlen] at h
    have HR := Aside0.mk (Option.some.inj h)
    clear h
    obtain ⟨i0, hi, hzz⟩ := Option.map_eq_some_iff.1 info25
    simp only [Prod.mk.injEq] at hzz
    obtain ⟨hz0, hz1, hz2⟩ := hzz
    have hmk0 := run_make (P := Try.prog) wz 26 25 i0 _ Try.underlying26 hi hz0 .i64 .i64 (lz.length : Int) (lz.length : Int) (by omega) (by omega) (by rw [hz2]; omega) (by omega)
    rw [hz1] at hmk0
    simp only [Int.toNat_natCast] at hmk0
    have hcsz : (madeCells (Value.agg #[(.int .i64 0), (.int .i64 0), (.int .i64 0), (.int .i64 0)]).cells (lz.length * 4)).size = lz.length * 4 := by rw [size_madeCells]
    generalize madeCells (Value.agg #[(.int .i64 0), (.int .i64 0), (.int .i64 0), (.int .i64 0)]).cells (lz.length * 4) = CU at hmk0 hcsz
    have hb1 := blk_new wz (Obj.cells CU 25)
    have hB1 := below_alloc (Below.refl wz.heap.size wz) (Obj.cells CU 25)
    have hcp := copy_all (wz.alloc (Obj.cells CU 25)) 3 wz.heap.size Az cz lz CU hb1 hcsz (Kd.C_below hr0 hB1)
    have hB2 : Below wz.heap.size wz ((wz.alloc (Obj.cells CU 25)).setRow wz.heap.size (lz.flatMap PrintG.enc25).toArray) := below_setRow hB1 (Nat.le_refl _) _
    have hb2 : ((wz.alloc (Obj.cells CU 25)).setRow wz.heap.size (lz.flatMap PrintG.enc25).toArray).heap[wz.heap.size]? = some (.cells (lz.flatMap PrintG.enc25).toArray 25 (0, 0)) := by
      simp only [World.setRow, Array.getElem?_modify, if_pos]
      rw [hb1]; rfl
    generalize (wz.alloc (Obj.cells CU 25)).setRow wz.heap.size (lz.flatMap PrintG.enc25).toArray = w2 at hcp hB2 hb2
    have hsort := PrintG.sort25 lz wz.heap.size lz.length _ 25 w2 hb2 (by simp) (by omega)
    have hlz : lz.length = lz.length := rfl
    obtain ⟨n, hn⟩ : ∃ n, lz.length = n := ⟨_, rfl⟩
    rw [hn] at hmk0 hcp hsort
    rw [show (Value.slice Az lz.length cz) = Value.slice Az n cz by rw [hn]]
    generalize wz.alloc (Obj.cells CU 25) = w1 at hmk0 hcp hb1 hB1
    have MK := Aside0.mk hmk0
    have CP := Aside0.mk hcp
    have SO := Aside0.mk hsort
    have HN := Aside0.mk hn
    have HZ2 := Aside0.mk hB2
    have HLEN := Aside0.mk hlen
    clear hmk0 hcp hsort hn hB2 hb2 hb1 hB1 hr0 hc0 hlen hi hz0 hz1 hz2 hcsz hlz
    go_enter Try.func37, Try.ntmps37
    have hmk := MK.out
    go_upto_region 2 with fail
    clear hmk MK
    have hcp := CP.out
    go_upto_region 3 with fail
    clear hcp CP
    go_upto_region 4 with (go_at_call 65; (with_reducible refine SO.out.mono ?_); rintro e w ⟨rfl, l0, hp, hs, hC, hB⟩; have HP := Aside0.mk hp; have HS := Aside0.mk hs; have HC := Aside0.mk hC; have HBz := Aside0.mk hB; clear hp hs hC hB)
    have HN1 := HN.out
    have hl0 : n = l0.length := by rw [← HN1]; exact HP.out.length_eq.symm
    clear HN1
    subst hl0
    have HN' := HN
    clear HN SO
    have hsorted : l0.Pairwise (fun a b => leS a b = true) := HS.out.imp (fun {a b} hab => by
      unfold leS
      rw [decide_eq_true_eq]
      intro hh
      have : Go.Proofs.ltOf PrintG.cf25 b a = true := by
        unfold Go.Proofs.ltOf PrintG.cf25
        rw [decide_eq_true_eq]
        rcases hh with hh | ⟨h1, h2⟩
        · rw [if_neg (by omega)]; exact hh
        · rw [if_pos h1]; exact h2
      rw [this] at hab
      exact absurd hab (by decide))
    have hl0 : l0.length ≤ 1000000 := by have e := HP.out.length_eq; have e2 := HLEN.out; omega
    have hfin : span_List.l0 (l0.length + 12) [] l0 (l0.length : Int) 0 = some r := by
      have e := span_List.l0_eq l0 hl0 l0.length 0 [] (l0.length + 12) (by omega) (by simp) (Nat.le_refl _)
      rw [List.drop_zero, listS_of lz l0 HP.out hsorted, HR.out] at e
      exact e
    have HR0 := Aside0.mk HC.out
    have HC0 := Aside0.mk (Nat.le_refl l0.length)
    have HZ := Aside0.mk (HZ2.out.trans HBz.out)
    have H' := Aside0.mk hfin
    clear hfin hl0 hsorted HC HP HS HZ2 HBz HN' HLEN HR
    have HB := Aside0.mk (Below.refl w.heap.size w)
    generalize l0.length + 12 = k at H'
    generalize hA0 : (some (⟨wz.heap.size, 0, none⟩ : Addr)) = A0 at *
    clear hA0
    go_wp2
    go_loopg [4, 18] k (fun kq v4 v18 w' => ∃ (x4_1 : List (S25)) (x18_1 : Int), v18 = .int .i64 x18_1 ∧ Aside0 (span_List.l0 kq x4_1 l0 (l0.length : Int) x18_1 = some r) ∧ Aside0 (kq ≤ k) ∧ Aside0 (Kd.R k25 25 w' w.heap.size (fun _ => True) v4 x4_1) ∧ Aside0 (Below w.heap.size w w'))
    case atStart => exact ⟨(([] : List (S25))), (0), (by first | rfl | (simp; done) | (simp [*]; done)), H', ⟨Nat.le_refl _⟩, ⟨by first | exact Kd.R_nil _ _ _ _ _ | exact Kd.N_nil _ _ _ _ _ | exact Kd.V_nil _ _ _ _ _ | exact Kd.Q_nil _ _ _ _ _ | exact Kd.S_nil _ _ _ _ _⟩, ⟨bl HB⟩⟩
    case round =>
      clear H'
      obtain ⟨x4_1, x18_1, rfl, HA, HK1, HO_4, HB⟩ := hrel
      cases gk with
      | zero => exact absurd HA.out (by simp [span_List.l0])
      | succ k1 =>
        have H := HA.out
        clear HA
        simp only [span_List.l0] at H
        by_cases c2 : x18_1 < (l0.length : Int)
        · rw [if_pos c2] at H
          have c2b0 : decide (x18_1 < (l0.length : Int)) = true := decide_eq_true c2
          clear c2
          by_cases c3 : 0 ≤ x18_1
          · rw [if_pos c3] at H
            have c3b0 : decide (0 ≤ x18_1) = true := decide_eq_true c3
            clear c3
            by_cases c4 : x18_1 < (l0.length : Int)
            · rw [if_pos c4] at H
              have c4b0 : decide (x18_1 < (l0.length : Int)) = true := decide_eq_true c4
              clear c4
              replace H := Option.bind_eq_some_iff.mp H
              obtain ⟨t350, A50, H⟩ := H
              (try (set_option simprocs false in dsimp only at H))
              have A5 := Aside0.mk A50
              clear A50
              by_cases c6 : t350 = true
              · subst c6
                have H1 : (if (wrap64 ((x4_1.length : Int) - 1)) ≥ 0 then (if 0 ≤ (wrap64 ((x4_1.length : Int) - 1)) then (if (wrap64 ((x4_1.length : Int) - 1)) < (x4_1.length : Int) then ((span_Overlap.f k1 ((rd_T25 x4_1 (wrap64 ((x4_1.length : Int) - 1))).f0.f0) ((rd_T25 x4_1 (wrap64 ((x4_1.length : Int) - 1))).f0.f1) ((rd_T25 x4_1 (wrap64 ((x4_1.length : Int) - 1))).f1.f0) ((rd_T25 x4_1 (wrap64 ((x4_1.length : Int) - 1))).f1.f1) ((rd_T25 l0 x18_1).f0.f0) ((rd_T25 l0 x18_1).f0.f1) ((rd_T25 l0 x18_1).f1.f0) ((rd_T25 l0 x18_1).f1.f1)).bind fun t352 => (if t352 = true then ((span_Hull.f k1 ((rd_T25 x4_1 (wrap64 ((x4_1.length : Int) - 1))).f0.f0) ((rd_T25 x4_1 (wrap64 ((x4_1.length : Int) - 1))).f0.f1) ((rd_T25 x4_1 (wrap64 ((x4_1.length : Int) - 1))).f1.f0) ((rd_T25 x4_1 (wrap64 ((x4_1.length : Int) - 1))).f1.f1) ((rd_T25 l0 x18_1).f0.f0) ((rd_T25 l0 x18_1).f0.f1) ((rd_T25 l0 x18_1).f1.f0) ((rd_T25 l0 x18_1).f1.f1)).bind fun bt354 => (span_List.l0 k1 (x4_1.set ((wrap64 ((x4_1.length : Int) - 1)) : Int).toNat (⟨(⟨bt354.1, bt354.2.1⟩ : S23), (⟨bt354.2.2.1, bt354.2.2.2⟩ : S23)⟩ : S25)) l0 (l0.length : Int) (wrap64 (x18_1 + 1)))) else ((span_Touch.f k1 ((rd_T25 x4_1 (wrap64 ((x4_1.length : Int) - 1))).f0.f0) ((rd_T25 x4_1 (wrap64 ((x4_1.length : Int) - 1))).f0.f1) ((rd_T25 x4_1 (wrap64 ((x4_1.length : Int) - 1))).f1.f0) ((rd_T25 x4_1 (wrap64 ((x4_1.length : Int) - 1))).f1.f1) ((rd_T25 l0 x18_1).f0.f0) ((rd_T25 l0 x18_1).f0.f1) ((rd_T25 l0 x18_1).f1.f0) ((rd_T25 l0 x18_1).f1.f1)).bind fun t360 => (if t360 = true then ((span_Hull.f k1 ((rd_T25 x4_1 (wrap64 ((x4_1.length : Int) - 1))).f0.f0) ((rd_T25 x4_1 (wrap64 ((x4_1.length : Int) - 1))).f0.f1) ((rd_T25 x4_1 (wrap64 ((x4_1.length : Int) - 1))).f1.f0) ((rd_T25 x4_1 (wrap64 ((x4_1.length : Int) - 1))).f1.f1) ((rd_T25 l0 x18_1).f0.f0) ((rd_T25 l0 x18_1).f0.f1) ((rd_T25 l0 x18_1).f1.f0) ((rd_T25 l0 x18_1).f1.f1)).bind fun bt362 => (span_List.l0 k1 (x4_1.set ((wrap64 ((x4_1.length : Int) - 1)) : Int).toNat (⟨(⟨bt362.1, bt362.2.1⟩ : S23), (⟨bt362.2.2.1, bt362.2.2.2⟩ : S23)⟩ : S25)) l0 (l0.length : Int) (wrap64 (x18_1 + 1)))) else (if x4_1.length < 4398046511104 then (span_List.l0 k1 (x4_1 ++ [(⟨(⟨(rd_T25 l0 x18_1).f0.f0, (rd_T25 l0 x18_1).f0.f1⟩ : S23), (⟨(rd_T25 l0 x18_1).f1.f0, (rd_T25 l0 x18_1).f1.f1⟩ : S23)⟩ : S25)]) l0 (l0.length : Int) (wrap64 (x18_1 + 1))) else (none)))))) else (none)) else (none)) else (if x4_1.length < 4398046511104 then (span_List.l0 k1 (x4_1 ++ [(⟨(⟨(rd_T25 l0 x18_1).f0.f0, (rd_T25 l0 x18_1).f0.f1⟩ : S23), (⟨(rd_T25 l0 x18_1).f1.f0, (rd_T25 l0 x18_1).f1.f1⟩ : S23)⟩ : S25)]) l0 (l0.length : Int) (wrap64 (x18_1 + 1))) else (none))) = some r := by rw [if_pos rfl] at H; exact H
                clear H
                have H := H1
                clear H1
                by_cases c7 : (wrap64 ((x4_1.length : Int) - 1)) ≥ 0
                · rw [if_pos c7] at H
                  have c7b0 : decide (0 ≤ (wrap64 ((x4_1.length : Int) - 1))) = true := decide_eq_true c7
                  clear c7
                  obtain ⟨ji8, hji8⟩ : ∃ j_ : Int, (wrap64 ((x4_1.length : Int) - 1)) = j_ := ⟨_, rfl⟩
                  replace H : (if 0 ≤ (ji8) then (if (ji8) < (x4_1.length : Int) then ((span_Overlap.f k1 ((rd_T25 x4_1 (ji8)).f0.f0) ((rd_T25 x4_1 (ji8)).f0.f1) ((rd_T25 x4_1 (ji8)).f1.f0) ((rd_T25 x4_1 (ji8)).f1.f1) ((rd_T25 l0 x18_1).f0.f0) ((rd_T25 l0 x18_1).f0.f1) ((rd_T25 l0 x18_1).f1.f0) ((rd_T25 l0 x18_1).f1.f1)).bind fun t352 => (if t352 = true then ((span_Hull.f k1 ((rd_T25 x4_1 (ji8)).f0.f0) ((rd_T25 x4_1 (ji8)).f0.f1) ((rd_T25 x4_1 (ji8)).f1.f0) ((rd_T25 x4_1 (ji8)).f1.f1) ((rd_T25 l0 x18_1).f0.f0) ((rd_T25 l0 x18_1).f0.f1) ((rd_T25 l0 x18_1).f1.f0) ((rd_T25 l0 x18_1).f1.f1)).bind fun bt354 => (span_List.l0 k1 (x4_1.set ((ji8) : Int).toNat (⟨(⟨bt354.1, bt354.2.1⟩ : S23), (⟨bt354.2.2.1, bt354.2.2.2⟩ : S23)⟩ : S25)) l0 (l0.length : Int) (wrap64 (x18_1 + 1)))) else ((span_Touch.f k1 ((rd_T25 x4_1 (ji8)).f0.f0) ((rd_T25 x4_1 (ji8)).f0.f1) ((rd_T25 x4_1 (ji8)).f1.f0) ((rd_T25 x4_1 (ji8)).f1.f1) ((rd_T25 l0 x18_1).f0.f0) ((rd_T25 l0 x18_1).f0.f1) ((rd_T25 l0 x18_1).f1.f0) ((rd_T25 l0 x18_1).f1.f1)).bind fun t360 => (if t360 = true then ((span_Hull.f k1 ((rd_T25 x4_1 (ji8)).f0.f0) ((rd_T25 x4_1 (ji8)).f0.f1) ((rd_T25 x4_1 (ji8)).f1.f0) ((rd_T25 x4_1 (ji8)).f1.f1) ((rd_T25 l0 x18_1).f0.f0) ((rd_T25 l0 x18_1).f0.f1) ((rd_T25 l0 x18_1).f1.f0) ((rd_T25 l0 x18_1).f1.f1)).bind fun bt362 => (span_List.l0 k1 (x4_1.set ((ji8) : Int).toNat (⟨(⟨bt362.1, bt362.2.1⟩ : S23), (⟨bt362.2.2.1, bt362.2.2.2⟩ : S23)⟩ : S25)) l0 (l0.length : Int) (wrap64 (x18_1 + 1)))) else (if x4_1.length < 4398046511104 then (span_List.l0 k1 (x4_1 ++ [(⟨(⟨(rd_T25 l0 x18_1).f0.f0, (rd_T25 l0 x18_1).f0.f1⟩ : S23), (⟨(rd_T25 l0 x18_1).f1.f0, (rd_T25 l0 x18_1).f1.f1⟩ : S23)⟩ : S25)]) l0 (l0.length : Int) (wrap64 (x18_1 + 1))) else (none)))))) else (none)) else (none)) = some r := by first | (rw [hji8] at H; exact H) | (simp only [hji8] at H ⊢; exact H)
                  (try rw [hji8] at c7b0)
                  (try rw [hji8] at A5)
                  have hji8w : (IntKind.i64.wrap ((x4_1.length : Int) - 1)) = ji8 := (i64_w _).trans hji8
                  by_cases c9 : 0 ≤ (ji8)
                  · rw [if_pos c9] at H
                    have c9b0 : decide (0 ≤ (ji8)) = true := decide_eq_true c9
                    clear c9
                    by_cases c10 : (ji8) < (x4_1.length : Int)
                    · rw [if_pos c10] at H
                      have c10b0 : decide ((ji8) < (x4_1.length : Int)) = true := decide_eq_true c10
                      clear c10
                      replace H := Option.bind_eq_some_iff.mp H
                      obtain ⟨t352, A110, H⟩ := H
                      (try (set_option simprocs false in dsimp only at H))
                      have A11 := Aside0.mk A110
                      clear A110
                      by_cases c12 : t352 = true
                      · subst c12
                        have H1 : ((span_Hull.f k1 ((rd_T25 x4_1 (ji8)).f0.f0) ((rd_T25 x4_1 (ji8)).f0.f1) ((rd_T25 x4_1 (ji8)).f1.f0) ((rd_T25 x4_1 (ji8)).f1.f1) ((rd_T25 l0 x18_1).f0.f0) ((rd_T25 l0 x18_1).f0.f1) ((rd_T25 l0 x18_1).f1.f0) ((rd_T25 l0 x18_1).f1.f1)).bind fun bt354 => (span_List.l0 k1 (x4_1.set ((ji8) : Int).toNat (⟨(⟨bt354.1, bt354.2.1⟩ : S23), (⟨bt354.2.2.1, bt354.2.2.2⟩ : S23)⟩ : S25)) l0 (l0.length : Int) (wrap64 (x18_1 + 1)))) = some r := by rw [if_pos rfl] at H; exact H
                        clear H
                        have H := H1
                        clear H1
                        replace H := Option.bind_eq_some_iff.mp H
                        obtain ⟨⟨t354, t355, t356, t357⟩, A130, H⟩ := H
                        (try (set_option simprocs false in dsimp only at H))
                        have A13 := Aside0.mk A130
                        clear A130
                        obtain ⟨y358, hy358⟩ : ∃ y_ : List (S25), y_ = (x4_1.set ((ji8) : Int).toNat (⟨(⟨t354, t355⟩ : S23), (⟨t356, t357⟩ : S23)⟩ : S25)) := ⟨_, rfl⟩
                        replace H : (span_List.l0 k1 y358 l0 (l0.length : Int) (wrap64 (x18_1 + 1))) = some r := by first | (rw [hy358]; with_reducible exact H) | (have H2_ := (Option.bind_some _ _).symm.trans H; rw [hy358]; with_reducible exact H2_) | (have H2_ := (Option.bind_some _ _).symm.trans H; with_reducible exact H2_) | with_reducible exact H | (rw [hy358]; exact H) | exact H
                        have Ny358 := Aside0.mk hy358
                        clear hy358
                        have H' := Aside0.mk H
                        clear H
                        have p348 : 0 ≤ (x18_1 : Int) := of_decide_eq_true (by first | (with_reducible assumption) | assumption)
                        have q348 : x18_1 < (l0.length : Int) := of_decide_eq_true (by first | (with_reducible assumption) | assumption)
                        obtain ⟨ad348, e348, hx348_0, hx348_1, hx348_2, hx348_3⟩ := at_T25 HR0.out x18_1 p348 q348
                        cases e348
                        replace hx348_0 := (HB.out.cell (World.block_lt_of_cell? w _ hx348_0)).trans hx348_0
                        replace hx348_1 := (HB.out.cell (World.block_lt_of_cell? w _ hx348_1)).trans hx348_1
                        replace hx348_2 := (HB.out.cell (World.block_lt_of_cell? w _ hx348_2)).trans hx348_2
                        replace hx348_3 := (HB.out.cell (World.block_lt_of_cell? w _ hx348_3)).trans hx348_3
                        replace p348 := eq_true p348
                        replace q348 := eq_true q348
                        try go_wp2_with (first | ((with_reducible refine gate_dst (N := 6) rfl ?_); refine bxe (N := 6) (cs := #[.int .i64 0, .int .i64 0, .int .i64 0, .int .i64 0]) (t := 25) ?_; intro gb349 hg w15 hbox hb; replace HO_4 := Aside0.mk (Kd.R_below (Kd.R_elderB (kr HO_4) gb349 (Nat.le_of_eq hg.symm)) hb); have BK349 := Aside0.mk (hbox); have GW349 := lsz hg HB; have GE349 := lsz hg HB; replace HB := bst HB hb; clear hb hbox hg; obtain ⟨hcz16_0, hcz16_1, hcz16_2, hcz16_3⟩ := e4 BK349; obtain ⟨hfz16_0, hfz16_1, hfz16_2, hfz16_3⟩ := f4 BK349; obtain ⟨Ao17, co17, eo17⟩ := Kd.R_slice HO_4.out; subst eo17) | ((with_reducible refine gate_callee (f := 28) rfl ?_); refine gol (some 31) Try.func28 #[.agg #[.int .i64 ((rd_T25 l0 x18_1).f0.f0), .int .i64 ((rd_T25 l0 x18_1).f0.f1), .int .i64 ((rd_T25 l0 x18_1).f1.f0), .int .i64 ((rd_T25 l0 x18_1).f1.f1)]] ?_; (with_reducible refine (span_Right.calls k1 ((rd_T25 l0 x18_1).f0.f0) ((rd_T25 l0 x18_1).f0.f1) ((rd_T25 l0 x18_1).f1.f0) ((rd_T25 l0 x18_1).f1.f1) true _ A5.out).mono ?_); rintro e w18 ⟨rfl, hb⟩; refine ⟨_, rfl, ?_⟩; replace HO_4 := Aside0.mk (Kd.R_below (by (with_reducible repeat (first | apply Kd.R_alloc | apply Kd.R_drewN | apply Kd.R_drew)); exact (Kd.R_mono (Kd.R_far (p := ⟨gb349, 3, none⟩) (Kd.R_far (p := ⟨gb349, 2, none⟩) (Kd.R_far (p := ⟨gb349, 1, none⟩) (Kd.R_far (p := ⟨gb349, 0, none⟩) (Kd.R_mono HO_4.out (fun k_ hk => (⟨hk, hk.2⟩ : _ ∧ k_ ≠ gb349))) (fun _ hk => hk.2) (.int .i64 ((rd_T25 l0 x18_1).f0.f0))) (fun _ hk => hk.2) (.int .i64 ((rd_T25 l0 x18_1).f0.f1))) (fun _ hk => hk.2) (.int .i64 ((rd_T25 l0 x18_1).f1.f0))) (fun _ hk => hk.2) (.int .i64 ((rd_T25 l0 x18_1).f1.f1))) (fun _ h_ => h_.1))) hb); replace BK349 := Aside0.mk (blk_below (g := gb349) (o := .cells #[.int .i64 ((rd_T25 l0 x18_1).f0.f0), .int .i64 ((rd_T25 l0 x18_1).f0.f1), .int .i64 ((rd_T25 l0 x18_1).f1.f0), .int .i64 ((rd_T25 l0 x18_1).f1.f1)] 25 (0, 0)) (bkp BK349) hb); replace HB := bst HB hb; (try clear hb); (try clear hb2); (try clear hk); (try clear hi)))
                        replace HO_4 := Aside0.mk (Kd.R_drew HO_4.out)
                        replace BK349 := Aside0.mk (blk_drew BK349.out)
                        replace HB := Aside0.mk (below_drew1 HB.out)
                        have p351 : 0 ≤ ((ji8) : Int) := of_decide_eq_true (by first | (with_reducible assumption) | assumption)
                        have q351 : (ji8) < (x4_1.length : Int) := of_decide_eq_true (by first | (with_reducible assumption) | assumption)
                        obtain ⟨ad351, e351, hx351_0, hx351_1, hx351_2, hx351_3⟩ := at_T25 (Kd.R_reads' HO_4.out).2.2 (ji8) p351 q351
                        cases e351
                        replace p351 := eq_true p351
                        replace q351 := eq_true q351
                        refine start_ (n := 19) (S := fun w' => w'.cell? ⟨gb349, 0, none⟩ = some (.int .i64 ((rd_T25 l0 x18_1).f0.f0)) ∧ w'.cell? ⟨gb349, 1, none⟩ = some (.int .i64 ((rd_T25 l0 x18_1).f0.f1)) ∧ w'.cell? ⟨gb349, 2, none⟩ = some (.int .i64 ((rd_T25 l0 x18_1).f1.f0)) ∧ w'.cell? ⟨gb349, 3, none⟩ = some (.int .i64 ((rd_T25 l0 x18_1).f1.f1)) ∧ w'.cell? (ad351.add (((ji8)).toNat * 4)) = some (.int .i64 ((rd_T25 x4_1 (ji8)).f0.f0)) ∧ w'.cell? ⟨(ad351.add (((ji8)).toNat * 4)).block, (ad351.add (((ji8)).toNat * 4)).off + 1, none⟩ = some (.int .i64 ((rd_T25 x4_1 (ji8)).f0.f1)) ∧ w'.cell? ⟨(ad351.add (((ji8)).toNat * 4)).block, (ad351.add (((ji8)).toNat * 4)).off + 2, none⟩ = some (.int .i64 ((rd_T25 x4_1 (ji8)).f1.f0)) ∧ w'.cell? ⟨(ad351.add (((ji8)).toNat * 4)).block, (ad351.add (((ji8)).toNat * 4)).off + 3, none⟩ = some (.int .i64 ((rd_T25 x4_1 (ji8)).f1.f1))) (ds := []) #[false, false, false, false, false, false, false, false, false, false, false, false, false, false, false, false, false, false, false] (by kernel_rfl) rfl rfl ⟨(blk_cell BK349.out 0).trans rfl, (blk_cell BK349.out 1).trans rfl, (blk_cell BK349.out 2).trans rfl, (blk_cell BK349.out 3).trans rfl, hx351_0, hx351_1, hx351_2, hx351_3⟩ (fun hHeld => ?_); refine with_tabW span_List.tab11 span_List.bits11 (fun HT_ HW_ => ?_)
                        generalize w18.drew = w19 at HO_4 BK349 HB hx351_0 hx351_1 hx351_2 hx351_3 hHeld ⊢
                        refine pu 0 (some 34) #[true, false, false, false, false, false, false, false, false, false, false, false, false, false, false, false, false, false, false] (any_of HT_.out (by kernel_rfl)) ?_
                        refine pu 1 (some 35) #[true, true, false, false, false, false, false, false, false, false, false, false, false, false, false, false, false, false, false] (any_of HT_.out (by kernel_rfl)) ?_
                        refine pu 2 (some 36) #[true, true, true, false, false, false, false, false, false, false, false, false, false, false, false, false, false, false, false] (any_of HT_.out (by kernel_rfl)) ?_
                        refine pu 3 (some 37) #[true, true, true, true, false, false, false, false, false, false, false, false, false, false, false, false, false, false, false] (any_of HT_.out (by kernel_rfl)) ?_
                        refine pu 4 (some 38) #[true, true, true, true, true, false, false, false, false, false, false, false, false, false, false, false, false, false, false] (any_of HT_.out (by kernel_rfl)) ?_
                        refine pu 5 (some 39) #[true, true, true, true, true, true, false, false, false, false, false, false, false, false, false, false, false, false, false] (any_of HT_.out (by kernel_rfl)) ?_
                        refine tk8 6 (some 40) #[true, true, true, true, true, true, true, false, false, false, false, false, false, false, false, false, false, false, false] (take_ofW HT_.out HW_.out (by kernel_rfl)) hHeld ?_
                        refine tk8 7 (some 41) #[true, true, true, true, true, true, true, true, false, false, false, false, false, false, false, false, false, false, false] (take_ofW HT_.out HW_.out (by kernel_rfl)) hHeld ?_
                        refine one_ (i := 8) (N := some 42) #[true, true, true, true, true, true, true, true, true, false, false, false, false, false, false, false, false, false, false] rfl rfl (one_of HT_.out (by kernel_rfl)) (by decide) (fun K hK => ?_)
                        refine goes_ Try.func13 (by kernel_rfl) rfl #[.agg #[.int .i64 ((rd_T25 x4_1 (ji8)).f0.f0), .int .i64 ((rd_T25 x4_1 (ji8)).f0.f1), .int .i64 ((rd_T25 x4_1 (ji8)).f1.f0), .int .i64 ((rd_T25 x4_1 (ji8)).f1.f1)], .agg #[.int .i64 ((rd_T25 l0 x18_1).f0.f0), .int .i64 ((rd_T25 l0 x18_1).f0.f1), .int .i64 ((rd_T25 l0 x18_1).f1.f0), .int .i64 ((rd_T25 l0 x18_1).f1.f1)]] (by rfl) rfl rfl (by (try simp only [List.map_toArray, List.map_cons, List.map_nil]); first | done | (simp only [hji8]; rfl) | rfl | (simp only [List.length_drop, List.length_take]; rfl)) ?_
                        with_reducible refine (span_Overlap.calls k1 ((rd_T25 x4_1 (ji8)).f0.f0) ((rd_T25 x4_1 (ji8)).f0.f1) ((rd_T25 x4_1 (ji8)).f1.f0) ((rd_T25 x4_1 (ji8)).f1.f1) ((rd_T25 l0 x18_1).f0.f0) ((rd_T25 l0 x18_1).f0.f1) ((rd_T25 l0 x18_1).f1.f0) ((rd_T25 l0 x18_1).f1.f1) true _ A11.out).mono ?_
                        rintro e w20 ⟨rfl, hb⟩
                        have HS4_ := (hb.cell (World.block_lt_of_cell? _ _ (hHeld.2.2.2.2.1))).trans (hHeld.2.2.2.2.1)
                        have HS5_ := (hb.cell (World.block_lt_of_cell? _ _ (hHeld.2.2.2.2.2.1))).trans (hHeld.2.2.2.2.2.1)
                        have HS6_ := (hb.cell (World.block_lt_of_cell? _ _ (hHeld.2.2.2.2.2.2.1))).trans (hHeld.2.2.2.2.2.2.1)
                        have HS7_ := (hb.cell (World.block_lt_of_cell? _ _ (hHeld.2.2.2.2.2.2.2))).trans (hHeld.2.2.2.2.2.2.2)
                        refine ⟨_, rfl, ?_⟩
                        replace HO_4 := krb HO_4 hb
                        replace BK349 := bkb BK349 hb
                        replace HB := bst HB hb
                        (try clear hb)
                        (try clear hb2)
                        (try clear hk)
                        (try clear hi)
                        refine hK.out _ _ ⟨(blk_cell BK349.out 0).trans rfl, (blk_cell BK349.out 1).trans rfl, (blk_cell BK349.out 2).trans rfl, (blk_cell BK349.out 3).trans rfl, HS4_, HS5_, HS6_, HS7_⟩ (fun hHeld => ?_)
                        clear hK K
                        refine nrp 42 ?_
                        refine pu 9 (some 43) #[true, true, true, true, true, true, true, true, true, true, false, false, false, false, false, false, false, false, false] (any_of HT_.out (by kernel_rfl)) ?_
                        refine pv 10 (some 44) #[true, true, true, true, true, true, true, true, true, true, true, false, false, false, false, false, false, false, false] (any_of HT_.out (by kernel_rfl)) ?_
                        refine pv 11 (some 45) #[true, true, true, true, true, true, true, true, true, true, true, true, false, false, false, false, false, false, false] (any_of HT_.out (by kernel_rfl)) ?_
                        refine pv 12 (some 46) #[true, true, true, true, true, true, true, true, true, true, true, true, true, false, false, false, false, false, false] (any_of HT_.out (by kernel_rfl)) ?_
                        refine pv 13 (some 47) #[true, true, true, true, true, true, true, true, true, true, true, true, true, true, false, false, false, false, false] (any_of HT_.out (by kernel_rfl)) ?_
                        refine pv 14 (some 48) #[true, true, true, true, true, true, true, true, true, true, true, true, true, true, true, false, false, false, false] (any_of HT_.out (by kernel_rfl)) ?_
                        refine pv 15 (some 49) #[true, true, true, true, true, true, true, true, true, true, true, true, true, true, true, true, false, false, false] (any_of HT_.out (by kernel_rfl)) ?_
                        refine pu 16 (some 50) #[true, true, true, true, true, true, true, true, true, true, true, true, true, true, true, true, true, false, false] (any_of HT_.out (by kernel_rfl)) ?_
                        refine pu 17 (some 51) #[true, true, true, true, true, true, true, true, true, true, true, true, true, true, true, true, true, true, false] (any_of HT_.out (by kernel_rfl)) ?_
                        refine pu 18 (some 33) #[true, true, true, true, true, true, true, true, true, true, true, true, true, true, true, true, true, true, true] (any_of HT_.out (by kernel_rfl)) ?_
                        refine done_ (done_of HT_.out (by kernel_rfl)) ?_
                        try go_wp2
                        replace HO_4 := Aside0.mk (Kd.R_drew HO_4.out)
                        replace BK349 := Aside0.mk (blk_drew BK349.out)
                        replace HB := Aside0.mk (below_drew1 HB.out)
                        have p353 : 0 ≤ ((ji8) : Int) := of_decide_eq_true (by first | (with_reducible assumption) | assumption)
                        have q353 : (ji8) < (x4_1.length : Int) := of_decide_eq_true (by first | (with_reducible assumption) | assumption)
                        obtain ⟨ad353, e353, hx353_0, hx353_1, hx353_2, hx353_3⟩ := at_T25 (Kd.R_reads' HO_4.out).2.2 (ji8) p353 q353
                        obtain rfl : ad351 = ad353 := (by injection e353)
                        replace p353 := eq_true p353
                        replace q353 := eq_true q353
                        refine start_ (n := 10) (S := fun w' => w'.cell? ⟨gb349, 0, none⟩ = some (.int .i64 ((rd_T25 l0 x18_1).f0.f0)) ∧ w'.cell? ⟨gb349, 1, none⟩ = some (.int .i64 ((rd_T25 l0 x18_1).f0.f1)) ∧ w'.cell? ⟨gb349, 2, none⟩ = some (.int .i64 ((rd_T25 l0 x18_1).f1.f0)) ∧ w'.cell? ⟨gb349, 3, none⟩ = some (.int .i64 ((rd_T25 l0 x18_1).f1.f1)) ∧ w'.cell? (ad351.add (((ji8)).toNat * 4)) = some (.int .i64 ((rd_T25 x4_1 (ji8)).f0.f0)) ∧ w'.cell? ⟨(ad351.add (((ji8)).toNat * 4)).block, (ad351.add (((ji8)).toNat * 4)).off + 1, none⟩ = some (.int .i64 ((rd_T25 x4_1 (ji8)).f0.f1)) ∧ w'.cell? ⟨(ad351.add (((ji8)).toNat * 4)).block, (ad351.add (((ji8)).toNat * 4)).off + 2, none⟩ = some (.int .i64 ((rd_T25 x4_1 (ji8)).f1.f0)) ∧ w'.cell? ⟨(ad351.add (((ji8)).toNat * 4)).block, (ad351.add (((ji8)).toNat * 4)).off + 3, none⟩ = some (.int .i64 ((rd_T25 x4_1 (ji8)).f1.f1))) (ds := [9]) #[false, false, false, false, false, false, false, false, false, false] (by kernel_rfl) rfl rfl ⟨(blk_cell BK349.out 0).trans rfl, (blk_cell BK349.out 1).trans rfl, (blk_cell BK349.out 2).trans rfl, (blk_cell BK349.out 3).trans rfl, hx353_0, hx353_1, hx353_2, hx353_3⟩ (fun hHeld => ?_); refine with_tabW span_List.tab12 span_List.bits12 (fun HT_ HW_ => ?_)
                        generalize w20.drew = w21 at HO_4 BK349 HB hx353_0 hx353_1 hx353_2 hx353_3 hHeld ⊢
                        refine pu 0 (some 52) #[true, false, false, false, false, false, false, false, false, false] (any_of HT_.out (by kernel_rfl)) ?_
                        refine pu 1 (some 53) #[true, true, false, false, false, false, false, false, false, false] (any_of HT_.out (by kernel_rfl)) ?_
                        refine pu 2 (some 54) #[true, true, true, false, false, false, false, false, false, false] (any_of HT_.out (by kernel_rfl)) ?_
                        refine pu 3 (some 55) #[true, true, true, true, false, false, false, false, false, false] (any_of HT_.out (by kernel_rfl)) ?_
                        refine pu 4 (some 56) #[true, true, true, true, true, false, false, false, false, false] (any_of HT_.out (by kernel_rfl)) ?_
                        refine tk8 5 (some 57) #[true, true, true, true, true, true, false, false, false, false] (take_ofW HT_.out HW_.out (by kernel_rfl)) hHeld ?_
                        refine tk8 6 (some 58) #[true, true, true, true, true, true, true, false, false, false] (take_ofW HT_.out HW_.out (by kernel_rfl)) hHeld ?_
                        refine one_ (i := 7) (N := some 59) #[true, true, true, true, true, true, true, true, false, false] rfl rfl (one_of HT_.out (by kernel_rfl)) (by decide) (fun K hK => ?_)
                        refine goes_ Try.func21 (by kernel_rfl) rfl #[.agg #[.int .i64 ((rd_T25 x4_1 (ji8)).f0.f0), .int .i64 ((rd_T25 x4_1 (ji8)).f0.f1), .int .i64 ((rd_T25 x4_1 (ji8)).f1.f0), .int .i64 ((rd_T25 x4_1 (ji8)).f1.f1)], .agg #[.int .i64 ((rd_T25 l0 x18_1).f0.f0), .int .i64 ((rd_T25 l0 x18_1).f0.f1), .int .i64 ((rd_T25 l0 x18_1).f1.f0), .int .i64 ((rd_T25 l0 x18_1).f1.f1)]] (by rfl) rfl rfl (by (try simp only [List.map_toArray, List.map_cons, List.map_nil]); first | done | (simp only [hji8]; rfl) | rfl | (simp only [List.length_drop, List.length_take]; rfl)) ?_
                        with_reducible refine (span_Hull.calls k1 ((rd_T25 x4_1 (ji8)).f0.f0) ((rd_T25 x4_1 (ji8)).f0.f1) ((rd_T25 x4_1 (ji8)).f1.f0) ((rd_T25 x4_1 (ji8)).f1.f1) ((rd_T25 l0 x18_1).f0.f0) ((rd_T25 l0 x18_1).f0.f1) ((rd_T25 l0 x18_1).f1.f0) ((rd_T25 l0 x18_1).f1.f1) t354 t355 t356 t357 _ A13.out).mono ?_
                        rintro e w22 ⟨rfl, hb⟩
                        have HS4_ := (hb.cell (World.block_lt_of_cell? _ _ (hHeld.2.2.2.2.1))).trans (hHeld.2.2.2.2.1)
                        have HS5_ := (hb.cell (World.block_lt_of_cell? _ _ (hHeld.2.2.2.2.2.1))).trans (hHeld.2.2.2.2.2.1)
                        have HS6_ := (hb.cell (World.block_lt_of_cell? _ _ (hHeld.2.2.2.2.2.2.1))).trans (hHeld.2.2.2.2.2.2.1)
                        have HS7_ := (hb.cell (World.block_lt_of_cell? _ _ (hHeld.2.2.2.2.2.2.2))).trans (hHeld.2.2.2.2.2.2.2)
                        refine ⟨_, rfl, ?_⟩
                        replace HO_4 := krb HO_4 hb
                        replace BK349 := bkb BK349 hb
                        replace HB := bst HB hb
                        (try clear hb)
                        (try clear hb2)
                        (try clear hk)
                        (try clear hi)
                        have p14 : 0 ≤ ((ji8) : Int) := of_decide_eq_true (by first | (with_reducible assumption) | assumption)
                        have q14 : ((ji8) : Int) < ((x4_1.length : Int) : Int) := of_decide_eq_true (by first | (with_reducible assumption) | assumption)
                        obtain ⟨go14, co14, eo14, gb14, gl14, cl14, HG14⟩ := Kd.R_form HO_4.out (by omega)
                        (first | cases eo14 | (injection eo14 with ea_ en_ ec_; (first | subst ea_ | (injection ea_ with ea_; subst ea_)); subst ec_; clear en_))
                        have GB14 := Aside0.mk gb14
                        have GG14 := Aside0.mk HG14
                        clear gb14 gl14 HG14
                        (first | simp only [add_plain] at hx351_0 | skip)
                        (first | simp only [add_plain] at hx351_1 | skip)
                        (first | simp only [add_plain] at hx351_2 | skip)
                        (first | simp only [add_plain] at hx351_3 | skip)
                        (first | simp only [add_plain] at hx353_0 | skip)
                        (first | simp only [add_plain] at hx353_1 | skip)
                        (first | simp only [add_plain] at hx353_2 | skip)
                        (first | simp only [add_plain] at hx353_3 | skip)
                        obtain ⟨ce14, hcl14, hM14, hcc14, hfr14⟩ := Kd.R_elem HO_4.out z25 ((ji8) : Int) p14 q14
                        obtain rfl := k25_openM hM14
                        have hx14_0 : World.cell? _ ⟨go14, ((ji8) : Int).toNat * 4, none⟩ = some (.int .i64 ((rd_T25 x4_1 (ji8)).f0.f0)) := hcc14 0 _ rfl
                        have hx14_1 : World.cell? _ ⟨go14, ((ji8) : Int).toNat * 4 + 1, none⟩ = some (.int .i64 ((rd_T25 x4_1 (ji8)).f0.f1)) := hcc14 1 _ rfl
                        have hx14_2 : World.cell? _ ⟨go14, ((ji8) : Int).toNat * 4 + 2, none⟩ = some (.int .i64 ((rd_T25 x4_1 (ji8)).f1.f0)) := hcc14 2 _ rfl
                        have hx14_3 : World.cell? _ ⟨go14, ((ji8) : Int).toNat * 4 + 3, none⟩ = some (.int .i64 ((rd_T25 x4_1 (ji8)).f1.f1)) := hcc14 3 _ rfl
                        have hf14_0 : World.frozen? _ ⟨go14, ((ji8) : Int).toNat * 4, none⟩ = false := hfr14 0
                        have hf14_1 : World.frozen? _ ⟨go14, ((ji8) : Int).toNat * 4 + 1, none⟩ = false := hfr14 1
                        have hf14_2 : World.frozen? _ ⟨go14, ((ji8) : Int).toNat * 4 + 2, none⟩ = false := hfr14 2
                        have hf14_3 : World.frozen? _ ⟨go14, ((ji8) : Int).toNat * 4 + 3, none⟩ = false := hfr14 3
                        clear hcl14 hcc14 hfr14 hM14
                        replace p14 := eq_true p14
                        replace q14 := eq_true q14
                        obtain ⟨ce23, hcl23, hM23, hcc23, hfr23⟩ := Kd.R_elem HO_4.out z25 ((ji8) : Int) (of_decide_eq_true (by first | (with_reducible assumption) | assumption)) (by have h_ : ((ji8) : Int) < ((x4_1.length : Int) : Int) := of_decide_eq_true (by first | (with_reducible assumption) | assumption); first | exact h_ | (have e_ := (Kd.R_reads' HO_4.out).1; omega) | simpa using h_)
                        obtain rfl := k25_openM hM23
                        have HP23 := (Kd.R_seg HO_4.out ((ji8) : Int) (of_decide_eq_true (by first | (with_reducible assumption) | assumption)) (by have h_ : ((ji8) : Int) < ((x4_1.length : Int) : Int) := of_decide_eq_true (by first | (with_reducible assumption) | assumption); first | exact h_ | (have e_ := (Kd.R_reads' HO_4.out).1; omega) | simpa using h_) (seg := [.int .i64 t354, .int .i64 t355, .int .i64 t356, .int .i64 t357]) (j := 0) hcl23 hcc23 (show 4 ≤ 4 from by decide) (x' := (⟨(⟨t354, t355⟩ : S23), (⟨t356, t357⟩ : S23)⟩ : S25)) (k25_mkM _ _ _ (⟨(⟨t354, t355⟩ : S23), (⟨t356, t357⟩ : S23)⟩ : S25) ) (fun _ hk => hk)).1
                        rw [← Ny358.out] at HP23
                        have HQ23 := Aside0.mk HP23
                        clear hcl23 hcc23 hfr23 hM23 HP23
                        refine hK.out _ _ ⟨(blk_cell BK349.out 0).trans rfl, (blk_cell BK349.out 1).trans rfl, (blk_cell BK349.out 2).trans rfl, (blk_cell BK349.out 3).trans rfl, HS4_, HS5_, HS6_, HS7_⟩ (fun hHeld => ?_)
                        clear hK K
                        refine nrp 59 ?_
                        refine pu 8 (some 60) #[true, true, true, true, true, true, true, true, true, false] (any_of HT_.out (by kernel_rfl)) ?_
                        refine last_ (i := 9) (N := none) #[true, true, true, true, true, true, true, true, true, true] rfl rfl (one_of HT_.out (by kernel_rfl)) (by decide) (fun K hK => ?_)
                        refine skip_ (w1 := ?_) (by rfl) rfl ?_ ?_
                        rotate_left
                        · go_simp
                          rfl
                        refine hK.out _ _ ?_
                        clear hK K
                        refine done_ (done_of HT_.out (by kernel_rfl)) ?_
                        try go_wp2
                        go_roundg k1
                        case measure => have := HK1.out; omega
                        case rel => exact ⟨(y358), (wrap64 (x18_1 + 1)), (by first | rfl | (simp; done) | (simp [*]; done)), H', ⟨by have := HK1.out; omega⟩, ⟨by (with_reducible repeat (first | apply Kd.R_alloc | apply Kd.R_drewN | apply Kd.R_drew)); exact Kd.R_mono HQ23.out (fun _ hk => trivial)⟩, ⟨bl HB⟩⟩
                      · replace c12 := Bool.eq_false_iff.mpr c12
                        subst c12
                        have H1 : ((span_Touch.f k1 ((rd_T25 x4_1 (ji8)).f0.f0) ((rd_T25 x4_1 (ji8)).f0.f1) ((rd_T25 x4_1 (ji8)).f1.f0) ((rd_T25 x4_1 (ji8)).f1.f1) ((rd_T25 l0 x18_1).f0.f0) ((rd_T25 l0 x18_1).f0.f1) ((rd_T25 l0 x18_1).f1.f0) ((rd_T25 l0 x18_1).f1.f1)).bind fun t360 => (if t360 = true then ((span_Hull.f k1 ((rd_T25 x4_1 (ji8)).f0.f0) ((rd_T25 x4_1 (ji8)).f0.f1) ((rd_T25 x4_1 (ji8)).f1.f0) ((rd_T25 x4_1 (ji8)).f1.f1) ((rd_T25 l0 x18_1).f0.f0) ((rd_T25 l0 x18_1).f0.f1) ((rd_T25 l0 x18_1).f1.f0) ((rd_T25 l0 x18_1).f1.f1)).bind fun bt362 => (span_List.l0 k1 (x4_1.set ((ji8) : Int).toNat (⟨(⟨bt362.1, bt362.2.1⟩ : S23), (⟨bt362.2.2.1, bt362.2.2.2⟩ : S23)⟩ : S25)) l0 (l0.length : Int) (wrap64 (x18_1 + 1)))) else (if x4_1.length < 4398046511104 then (span_List.l0 k1 (x4_1 ++ [(⟨(⟨(rd_T25 l0 x18_1).f0.f0, (rd_T25 l0 x18_1).f0.f1⟩ : S23), (⟨(rd_T25 l0 x18_1).f1.f0, (rd_T25 l0 x18_1).f1.f1⟩ : S23)⟩ : S25)]) l0 (l0.length : Int) (wrap64 (x18_1 + 1))) else (none)))) = some r := by rw [if_neg (show ¬ (false = true) by decide)] at H; exact H
                        clear H
                        have H := H1
                        clear H1
                        replace H := Option.bind_eq_some_iff.mp H
                        obtain ⟨t360, A240, H⟩ := H
                        (try (set_option simprocs false in dsimp only at H))
                        have A24 := Aside0.mk A240
                        clear A240
                        by_cases c25 : t360 = true
                        · subst c25
                          have H1 : ((span_Hull.f k1 ((rd_T25 x4_1 (ji8)).f0.f0) ((rd_T25 x4_1 (ji8)).f0.f1) ((rd_T25 x4_1 (ji8)).f1.f0) ((rd_T25 x4_1 (ji8)).f1.f1) ((rd_T25 l0 x18_1).f0.f0) ((rd_T25 l0 x18_1).f0.f1) ((rd_T25 l0 x18_1).f1.f0) ((rd_T25 l0 x18_1).f1.f1)).bind fun bt362 => (span_List.l0 k1 (x4_1.set ((ji8) : Int).toNat (⟨(⟨bt362.1, bt362.2.1⟩ : S23), (⟨bt362.2.2.1, bt362.2.2.2⟩ : S23)⟩ : S25)) l0 (l0.length : Int) (wrap64 (x18_1 + 1)))) = some r := by rw [if_pos rfl] at H; exact H
                          clear H
                          have H := H1
                          clear H1
                          replace H := Option.bind_eq_some_iff.mp H
                          obtain ⟨⟨t362, t363, t364, t365⟩, A260, H⟩ := H
                          (try (set_option simprocs false in dsimp only at H))
                          have A26 := Aside0.mk A260
                          clear A260
                          obtain ⟨y366, hy366⟩ : ∃ y_ : List (S25), y_ = (x4_1.set ((ji8) : Int).toNat (⟨(⟨t362, t363⟩ : S23), (⟨t364, t365⟩ : S23)⟩ : S25)) := ⟨_, rfl⟩
                          replace H : (span_List.l0 k1 y366 l0 (l0.length : Int) (wrap64 (x18_1 + 1))) = some r := by first | (rw [hy366]; with_reducible exact H) | (have H2_ := (Option.bind_some _ _).symm.trans H; rw [hy366]; with_reducible exact H2_) | (have H2_ := (Option.bind_some _ _).symm.trans H; with_reducible exact H2_) | with_reducible exact H | (rw [hy366]; exact H) | exact H
                          have Ny366 := Aside0.mk hy366
                          clear hy366
                          have H' := Aside0.mk H
                          clear H
                          have p348 : 0 ≤ (x18_1 : Int) := of_decide_eq_true (by first | (with_reducible assumption) | assumption)
                          have q348 : x18_1 < (l0.length : Int) := of_decide_eq_true (by first | (with_reducible assumption) | assumption)
                          obtain ⟨ad348, e348, hx348_0, hx348_1, hx348_2, hx348_3⟩ := at_T25 HR0.out x18_1 p348 q348
                          cases e348
                          replace hx348_0 := (HB.out.cell (World.block_lt_of_cell? w _ hx348_0)).trans hx348_0
                          replace hx348_1 := (HB.out.cell (World.block_lt_of_cell? w _ hx348_1)).trans hx348_1
                          replace hx348_2 := (HB.out.cell (World.block_lt_of_cell? w _ hx348_2)).trans hx348_2
                          replace hx348_3 := (HB.out.cell (World.block_lt_of_cell? w _ hx348_3)).trans hx348_3
                          replace p348 := eq_true p348
                          replace q348 := eq_true q348
                          try go_wp2_with (first | ((with_reducible refine gate_dst (N := 6) rfl ?_); refine bxe (N := 6) (cs := #[.int .i64 0, .int .i64 0, .int .i64 0, .int .i64 0]) (t := 25) ?_; intro gb349 hg w28 hbox hb; replace HO_4 := Aside0.mk (Kd.R_below (Kd.R_elderB (kr HO_4) gb349 (Nat.le_of_eq hg.symm)) hb); have BK349 := Aside0.mk (hbox); have GW349 := lsz hg HB; have GE349 := lsz hg HB; replace HB := bst HB hb; clear hb hbox hg; obtain ⟨hcz29_0, hcz29_1, hcz29_2, hcz29_3⟩ := e4 BK349; obtain ⟨hfz29_0, hfz29_1, hfz29_2, hfz29_3⟩ := f4 BK349; obtain ⟨Ao30, co30, eo30⟩ := Kd.R_slice HO_4.out; subst eo30) | ((with_reducible refine gate_callee (f := 28) rfl ?_); refine gol (some 31) Try.func28 #[.agg #[.int .i64 ((rd_T25 l0 x18_1).f0.f0), .int .i64 ((rd_T25 l0 x18_1).f0.f1), .int .i64 ((rd_T25 l0 x18_1).f1.f0), .int .i64 ((rd_T25 l0 x18_1).f1.f1)]] ?_; (with_reducible refine (span_Right.calls k1 ((rd_T25 l0 x18_1).f0.f0) ((rd_T25 l0 x18_1).f0.f1) ((rd_T25 l0 x18_1).f1.f0) ((rd_T25 l0 x18_1).f1.f1) true _ A5.out).mono ?_); rintro e w31 ⟨rfl, hb⟩; refine ⟨_, rfl, ?_⟩; replace HO_4 := Aside0.mk (Kd.R_below (by (with_reducible repeat (first | apply Kd.R_alloc | apply Kd.R_drewN | apply Kd.R_drew)); exact (Kd.R_mono (Kd.R_far (p := ⟨gb349, 3, none⟩) (Kd.R_far (p := ⟨gb349, 2, none⟩) (Kd.R_far (p := ⟨gb349, 1, none⟩) (Kd.R_far (p := ⟨gb349, 0, none⟩) (Kd.R_mono HO_4.out (fun k_ hk => (⟨hk, hk.2⟩ : _ ∧ k_ ≠ gb349))) (fun _ hk => hk.2) (.int .i64 ((rd_T25 l0 x18_1).f0.f0))) (fun _ hk => hk.2) (.int .i64 ((rd_T25 l0 x18_1).f0.f1))) (fun _ hk => hk.2) (.int .i64 ((rd_T25 l0 x18_1).f1.f0))) (fun _ hk => hk.2) (.int .i64 ((rd_T25 l0 x18_1).f1.f1))) (fun _ h_ => h_.1))) hb); replace BK349 := Aside0.mk (blk_below (g := gb349) (o := .cells #[.int .i64 ((rd_T25 l0 x18_1).f0.f0), .int .i64 ((rd_T25 l0 x18_1).f0.f1), .int .i64 ((rd_T25 l0 x18_1).f1.f0), .int .i64 ((rd_T25 l0 x18_1).f1.f1)] 25 (0, 0)) (bkp BK349) hb); replace HB := bst HB hb; (try clear hb); (try clear hb2); (try clear hk); (try clear hi)))
                          replace HO_4 := Aside0.mk (Kd.R_drew HO_4.out)
                          replace BK349 := Aside0.mk (blk_drew BK349.out)
                          replace HB := Aside0.mk (below_drew1 HB.out)
                          have p351 : 0 ≤ ((ji8) : Int) := of_decide_eq_true (by first | (with_reducible assumption) | assumption)
                          have q351 : (ji8) < (x4_1.length : Int) := of_decide_eq_true (by first | (with_reducible assumption) | assumption)
                          obtain ⟨ad351, e351, hx351_0, hx351_1, hx351_2, hx351_3⟩ := at_T25 (Kd.R_reads' HO_4.out).2.2 (ji8) p351 q351
                          cases e351
                          replace p351 := eq_true p351
                          replace q351 := eq_true q351
                          have p359 : 0 ≤ ((ji8) : Int) := of_decide_eq_true (by first | (with_reducible assumption) | assumption)
                          have q359 : (ji8) < (x4_1.length : Int) := of_decide_eq_true (by first | (with_reducible assumption) | assumption)
                          obtain ⟨ad359, e359, hx359_0, hx359_1, hx359_2, hx359_3⟩ := at_T25 (Kd.R_reads' HO_4.out).2.2 (ji8) p359 q359
                          obtain rfl : ad351 = ad359 := (by injection e359)
                          replace p359 := eq_true p359
                          replace q359 := eq_true q359
                          refine start_ (n := 19) (S := fun w' => w'.cell? ⟨gb349, 0, none⟩ = some (.int .i64 ((rd_T25 l0 x18_1).f0.f0)) ∧ w'.cell? ⟨gb349, 1, none⟩ = some (.int .i64 ((rd_T25 l0 x18_1).f0.f1)) ∧ w'.cell? ⟨gb349, 2, none⟩ = some (.int .i64 ((rd_T25 l0 x18_1).f1.f0)) ∧ w'.cell? ⟨gb349, 3, none⟩ = some (.int .i64 ((rd_T25 l0 x18_1).f1.f1)) ∧ w'.cell? (ad351.add (((ji8)).toNat * 4)) = some (.int .i64 ((rd_T25 x4_1 (ji8)).f0.f0)) ∧ w'.cell? ⟨(ad351.add (((ji8)).toNat * 4)).block, (ad351.add (((ji8)).toNat * 4)).off + 1, none⟩ = some (.int .i64 ((rd_T25 x4_1 (ji8)).f0.f1)) ∧ w'.cell? ⟨(ad351.add (((ji8)).toNat * 4)).block, (ad351.add (((ji8)).toNat * 4)).off + 2, none⟩ = some (.int .i64 ((rd_T25 x4_1 (ji8)).f1.f0)) ∧ w'.cell? ⟨(ad351.add (((ji8)).toNat * 4)).block, (ad351.add (((ji8)).toNat * 4)).off + 3, none⟩ = some (.int .i64 ((rd_T25 x4_1 (ji8)).f1.f1)) ∧ w'.cell? (ad351.add (((ji8)).toNat * 4)) = some (.int .i64 ((rd_T25 x4_1 (ji8)).f0.f0)) ∧ w'.cell? ⟨(ad351.add (((ji8)).toNat * 4)).block, (ad351.add (((ji8)).toNat * 4)).off + 1, none⟩ = some (.int .i64 ((rd_T25 x4_1 (ji8)).f0.f1)) ∧ w'.cell? ⟨(ad351.add (((ji8)).toNat * 4)).block, (ad351.add (((ji8)).toNat * 4)).off + 2, none⟩ = some (.int .i64 ((rd_T25 x4_1 (ji8)).f1.f0)) ∧ w'.cell? ⟨(ad351.add (((ji8)).toNat * 4)).block, (ad351.add (((ji8)).toNat * 4)).off + 3, none⟩ = some (.int .i64 ((rd_T25 x4_1 (ji8)).f1.f1))) (ds := []) #[false, false, false, false, false, false, false, false, false, false, false, false, false, false, false, false, false, false, false] (by kernel_rfl) rfl rfl ⟨(blk_cell BK349.out 0).trans rfl, (blk_cell BK349.out 1).trans rfl, (blk_cell BK349.out 2).trans rfl, (blk_cell BK349.out 3).trans rfl, hx351_0, hx351_1, hx351_2, hx351_3, hx359_0, hx359_1, hx359_2, hx359_3⟩ (fun hHeld => ?_); refine with_tabW span_List.tab11 span_List.bits11 (fun HT_ HW_ => ?_)
                          generalize w31.drew = w32 at HO_4 BK349 HB hx351_0 hx351_1 hx351_2 hx351_3 hx359_0 hx359_1 hx359_2 hx359_3 hHeld ⊢
                          refine pu 0 (some 34) #[true, false, false, false, false, false, false, false, false, false, false, false, false, false, false, false, false, false, false] (any_of HT_.out (by kernel_rfl)) ?_
                          refine pu 1 (some 35) #[true, true, false, false, false, false, false, false, false, false, false, false, false, false, false, false, false, false, false] (any_of HT_.out (by kernel_rfl)) ?_
                          refine pu 2 (some 36) #[true, true, true, false, false, false, false, false, false, false, false, false, false, false, false, false, false, false, false] (any_of HT_.out (by kernel_rfl)) ?_
                          refine pu 3 (some 37) #[true, true, true, true, false, false, false, false, false, false, false, false, false, false, false, false, false, false, false] (any_of HT_.out (by kernel_rfl)) ?_
                          refine pu 4 (some 38) #[true, true, true, true, true, false, false, false, false, false, false, false, false, false, false, false, false, false, false] (any_of HT_.out (by kernel_rfl)) ?_
                          refine pu 5 (some 39) #[true, true, true, true, true, true, false, false, false, false, false, false, false, false, false, false, false, false, false] (any_of HT_.out (by kernel_rfl)) ?_
                          refine tk12 6 (some 40) #[true, true, true, true, true, true, true, false, false, false, false, false, false, false, false, false, false, false, false] (take_ofW HT_.out HW_.out (by kernel_rfl)) hHeld ?_
                          refine tk12 7 (some 41) #[true, true, true, true, true, true, true, true, false, false, false, false, false, false, false, false, false, false, false] (take_ofW HT_.out HW_.out (by kernel_rfl)) hHeld ?_
                          refine one_ (i := 8) (N := some 42) #[true, true, true, true, true, true, true, true, true, false, false, false, false, false, false, false, false, false, false] rfl rfl (one_of HT_.out (by kernel_rfl)) (by decide) (fun K hK => ?_)
                          refine goes_ Try.func13 (by kernel_rfl) rfl #[.agg #[.int .i64 ((rd_T25 x4_1 (ji8)).f0.f0), .int .i64 ((rd_T25 x4_1 (ji8)).f0.f1), .int .i64 ((rd_T25 x4_1 (ji8)).f1.f0), .int .i64 ((rd_T25 x4_1 (ji8)).f1.f1)], .agg #[.int .i64 ((rd_T25 l0 x18_1).f0.f0), .int .i64 ((rd_T25 l0 x18_1).f0.f1), .int .i64 ((rd_T25 l0 x18_1).f1.f0), .int .i64 ((rd_T25 l0 x18_1).f1.f1)]] (by rfl) rfl rfl (by (try simp only [List.map_toArray, List.map_cons, List.map_nil]); first | done | (simp only [hji8]; rfl) | rfl | (simp only [List.length_drop, List.length_take]; rfl)) ?_
                          with_reducible refine (span_Overlap.calls k1 ((rd_T25 x4_1 (ji8)).f0.f0) ((rd_T25 x4_1 (ji8)).f0.f1) ((rd_T25 x4_1 (ji8)).f1.f0) ((rd_T25 x4_1 (ji8)).f1.f1) ((rd_T25 l0 x18_1).f0.f0) ((rd_T25 l0 x18_1).f0.f1) ((rd_T25 l0 x18_1).f1.f0) ((rd_T25 l0 x18_1).f1.f1) false _ A11.out).mono ?_
                          rintro e w33 ⟨rfl, hb⟩
                          have HS4_ := (hb.cell (World.block_lt_of_cell? _ _ (hHeld.2.2.2.2.1))).trans (hHeld.2.2.2.2.1)
                          have HS5_ := (hb.cell (World.block_lt_of_cell? _ _ (hHeld.2.2.2.2.2.1))).trans (hHeld.2.2.2.2.2.1)
                          have HS6_ := (hb.cell (World.block_lt_of_cell? _ _ (hHeld.2.2.2.2.2.2.1))).trans (hHeld.2.2.2.2.2.2.1)
                          have HS7_ := (hb.cell (World.block_lt_of_cell? _ _ (hHeld.2.2.2.2.2.2.2.1))).trans (hHeld.2.2.2.2.2.2.2.1)
                          have HS8_ := (hb.cell (World.block_lt_of_cell? _ _ (hHeld.2.2.2.2.2.2.2.2.1))).trans (hHeld.2.2.2.2.2.2.2.2.1)
                          have HS9_ := (hb.cell (World.block_lt_of_cell? _ _ (hHeld.2.2.2.2.2.2.2.2.2.1))).trans (hHeld.2.2.2.2.2.2.2.2.2.1)
                          have HS10_ := (hb.cell (World.block_lt_of_cell? _ _ (hHeld.2.2.2.2.2.2.2.2.2.2.1))).trans (hHeld.2.2.2.2.2.2.2.2.2.2.1)
                          have HS11_ := (hb.cell (World.block_lt_of_cell? _ _ (hHeld.2.2.2.2.2.2.2.2.2.2.2))).trans (hHeld.2.2.2.2.2.2.2.2.2.2.2)
                          refine ⟨_, rfl, ?_⟩
                          replace HO_4 := krb HO_4 hb
                          replace BK349 := bkb BK349 hb
                          replace HB := bst HB hb
                          (try clear hb)
                          (try clear hb2)
                          (try clear hk)
                          (try clear hi)
                          refine hK.out _ _ ⟨(blk_cell BK349.out 0).trans rfl, (blk_cell BK349.out 1).trans rfl, (blk_cell BK349.out 2).trans rfl, (blk_cell BK349.out 3).trans rfl, HS4_, HS5_, HS6_, HS7_, HS8_, HS9_, HS10_, HS11_⟩ (fun hHeld => ?_)
                          clear hK K
                          refine nrp 42 ?_
                          refine pu 9 (some 43) #[true, true, true, true, true, true, true, true, true, true, false, false, false, false, false, false, false, false, false] (any_of HT_.out (by kernel_rfl)) ?_
                          refine pu 10 (some 44) #[true, true, true, true, true, true, true, true, true, true, true, false, false, false, false, false, false, false, false] (any_of HT_.out (by kernel_rfl)) ?_
                          refine pu 11 (some 45) #[true, true, true, true, true, true, true, true, true, true, true, true, false, false, false, false, false, false, false] (any_of HT_.out (by kernel_rfl)) ?_
                          refine pu 12 (some 46) #[true, true, true, true, true, true, true, true, true, true, true, true, true, false, false, false, false, false, false] (any_of HT_.out (by kernel_rfl)) ?_
                          refine tk12 13 (some 47) #[true, true, true, true, true, true, true, true, true, true, true, true, true, true, false, false, false, false, false] (take_ofW HT_.out HW_.out (by kernel_rfl)) hHeld ?_
                          refine tk12 14 (some 48) #[true, true, true, true, true, true, true, true, true, true, true, true, true, true, true, false, false, false, false] (take_ofW HT_.out HW_.out (by kernel_rfl)) hHeld ?_
                          refine one_ (i := 15) (N := some 49) #[true, true, true, true, true, true, true, true, true, true, true, true, true, true, true, true, false, false, false] rfl rfl (one_of HT_.out (by kernel_rfl)) (by decide) (fun K hK => ?_)
                          refine goes_ Try.func20 (by kernel_rfl) rfl #[.agg #[.int .i64 ((rd_T25 x4_1 (ji8)).f0.f0), .int .i64 ((rd_T25 x4_1 (ji8)).f0.f1), .int .i64 ((rd_T25 x4_1 (ji8)).f1.f0), .int .i64 ((rd_T25 x4_1 (ji8)).f1.f1)], .agg #[.int .i64 ((rd_T25 l0 x18_1).f0.f0), .int .i64 ((rd_T25 l0 x18_1).f0.f1), .int .i64 ((rd_T25 l0 x18_1).f1.f0), .int .i64 ((rd_T25 l0 x18_1).f1.f1)]] (by rfl) rfl rfl (by (try simp only [List.map_toArray, List.map_cons, List.map_nil]); first | done | (simp only [hji8]; rfl) | rfl | (simp only [List.length_drop, List.length_take]; rfl)) ?_
                          with_reducible refine (span_Touch.calls k1 ((rd_T25 x4_1 (ji8)).f0.f0) ((rd_T25 x4_1 (ji8)).f0.f1) ((rd_T25 x4_1 (ji8)).f1.f0) ((rd_T25 x4_1 (ji8)).f1.f1) ((rd_T25 l0 x18_1).f0.f0) ((rd_T25 l0 x18_1).f0.f1) ((rd_T25 l0 x18_1).f1.f0) ((rd_T25 l0 x18_1).f1.f1) true _ A24.out).mono ?_
                          rintro e w34 ⟨rfl, hb⟩
                          have HS4_ := (hb.cell (World.block_lt_of_cell? _ _ (hHeld.2.2.2.2.1))).trans (hHeld.2.2.2.2.1)
                          have HS5_ := (hb.cell (World.block_lt_of_cell? _ _ (hHeld.2.2.2.2.2.1))).trans (hHeld.2.2.2.2.2.1)
                          have HS6_ := (hb.cell (World.block_lt_of_cell? _ _ (hHeld.2.2.2.2.2.2.1))).trans (hHeld.2.2.2.2.2.2.1)
                          have HS7_ := (hb.cell (World.block_lt_of_cell? _ _ (hHeld.2.2.2.2.2.2.2.1))).trans (hHeld.2.2.2.2.2.2.2.1)
                          have HS8_ := (hb.cell (World.block_lt_of_cell? _ _ (hHeld.2.2.2.2.2.2.2.2.1))).trans (hHeld.2.2.2.2.2.2.2.2.1)
                          have HS9_ := (hb.cell (World.block_lt_of_cell? _ _ (hHeld.2.2.2.2.2.2.2.2.2.1))).trans (hHeld.2.2.2.2.2.2.2.2.2.1)
                          have HS10_ := (hb.cell (World.block_lt_of_cell? _ _ (hHeld.2.2.2.2.2.2.2.2.2.2.1))).trans (hHeld.2.2.2.2.2.2.2.2.2.2.1)
                          have HS11_ := (hb.cell (World.block_lt_of_cell? _ _ (hHeld.2.2.2.2.2.2.2.2.2.2.2))).trans (hHeld.2.2.2.2.2.2.2.2.2.2.2)
                          refine ⟨_, rfl, ?_⟩
                          replace HO_4 := krb HO_4 hb
                          replace BK349 := bkb BK349 hb
                          replace HB := bst HB hb
                          (try clear hb)
                          (try clear hb2)
                          (try clear hk)
                          (try clear hi)
                          refine hK.out _ _ ⟨(blk_cell BK349.out 0).trans rfl, (blk_cell BK349.out 1).trans rfl, (blk_cell BK349.out 2).trans rfl, (blk_cell BK349.out 3).trans rfl, HS4_, HS5_, HS6_, HS7_, HS8_, HS9_, HS10_, HS11_⟩ (fun hHeld => ?_)
                          clear hK K
                          refine nrp 49 ?_
                          refine pu 16 (some 50) #[true, true, true, true, true, true, true, true, true, true, true, true, true, true, true, true, true, false, false] (any_of HT_.out (by kernel_rfl)) ?_
                          refine pu 17 (some 51) #[true, true, true, true, true, true, true, true, true, true, true, true, true, true, true, true, true, true, false] (any_of HT_.out (by kernel_rfl)) ?_
                          refine pu 18 (some 33) #[true, true, true, true, true, true, true, true, true, true, true, true, true, true, true, true, true, true, true] (any_of HT_.out (by kernel_rfl)) ?_
                          refine done_ (done_of HT_.out (by kernel_rfl)) ?_
                          try go_wp2
                          replace HO_4 := Aside0.mk (Kd.R_drew HO_4.out)
                          replace BK349 := Aside0.mk (blk_drew BK349.out)
                          replace HB := Aside0.mk (below_drew1 HB.out)
                          have p361 : 0 ≤ ((ji8) : Int) := of_decide_eq_true (by first | (with_reducible assumption) | assumption)
                          have q361 : (ji8) < (x4_1.length : Int) := of_decide_eq_true (by first | (with_reducible assumption) | assumption)
                          obtain ⟨ad361, e361, hx361_0, hx361_1, hx361_2, hx361_3⟩ := at_T25 (Kd.R_reads' HO_4.out).2.2 (ji8) p361 q361
                          obtain rfl : ad351 = ad361 := (by injection e361)
                          replace p361 := eq_true p361
                          replace q361 := eq_true q361
                          refine start_ (n := 10) (S := fun w' => w'.cell? ⟨gb349, 0, none⟩ = some (.int .i64 ((rd_T25 l0 x18_1).f0.f0)) ∧ w'.cell? ⟨gb349, 1, none⟩ = some (.int .i64 ((rd_T25 l0 x18_1).f0.f1)) ∧ w'.cell? ⟨gb349, 2, none⟩ = some (.int .i64 ((rd_T25 l0 x18_1).f1.f0)) ∧ w'.cell? ⟨gb349, 3, none⟩ = some (.int .i64 ((rd_T25 l0 x18_1).f1.f1)) ∧ w'.cell? (ad351.add (((ji8)).toNat * 4)) = some (.int .i64 ((rd_T25 x4_1 (ji8)).f0.f0)) ∧ w'.cell? ⟨(ad351.add (((ji8)).toNat * 4)).block, (ad351.add (((ji8)).toNat * 4)).off + 1, none⟩ = some (.int .i64 ((rd_T25 x4_1 (ji8)).f0.f1)) ∧ w'.cell? ⟨(ad351.add (((ji8)).toNat * 4)).block, (ad351.add (((ji8)).toNat * 4)).off + 2, none⟩ = some (.int .i64 ((rd_T25 x4_1 (ji8)).f1.f0)) ∧ w'.cell? ⟨(ad351.add (((ji8)).toNat * 4)).block, (ad351.add (((ji8)).toNat * 4)).off + 3, none⟩ = some (.int .i64 ((rd_T25 x4_1 (ji8)).f1.f1))) (ds := [9]) #[false, false, false, false, false, false, false, false, false, false] (by kernel_rfl) rfl rfl ⟨(blk_cell BK349.out 0).trans rfl, (blk_cell BK349.out 1).trans rfl, (blk_cell BK349.out 2).trans rfl, (blk_cell BK349.out 3).trans rfl, hx361_0, hx361_1, hx361_2, hx361_3⟩ (fun hHeld => ?_); refine with_tabW span_List.tab12 span_List.bits12 (fun HT_ HW_ => ?_)
                          generalize w34.drew = w35 at HO_4 BK349 HB hx361_0 hx361_1 hx361_2 hx361_3 hHeld ⊢
                          refine pu 0 (some 52) #[true, false, false, false, false, false, false, false, false, false] (any_of HT_.out (by kernel_rfl)) ?_
                          refine pu 1 (some 53) #[true, true, false, false, false, false, false, false, false, false] (any_of HT_.out (by kernel_rfl)) ?_
                          refine pu 2 (some 54) #[true, true, true, false, false, false, false, false, false, false] (any_of HT_.out (by kernel_rfl)) ?_
                          refine pu 3 (some 55) #[true, true, true, true, false, false, false, false, false, false] (any_of HT_.out (by kernel_rfl)) ?_
                          refine pu 4 (some 56) #[true, true, true, true, true, false, false, false, false, false] (any_of HT_.out (by kernel_rfl)) ?_
                          refine tk8 5 (some 57) #[true, true, true, true, true, true, false, false, false, false] (take_ofW HT_.out HW_.out (by kernel_rfl)) hHeld ?_
                          refine tk8 6 (some 58) #[true, true, true, true, true, true, true, false, false, false] (take_ofW HT_.out HW_.out (by kernel_rfl)) hHeld ?_
                          refine one_ (i := 7) (N := some 59) #[true, true, true, true, true, true, true, true, false, false] rfl rfl (one_of HT_.out (by kernel_rfl)) (by decide) (fun K hK => ?_)
                          refine goes_ Try.func21 (by kernel_rfl) rfl #[.agg #[.int .i64 ((rd_T25 x4_1 (ji8)).f0.f0), .int .i64 ((rd_T25 x4_1 (ji8)).f0.f1), .int .i64 ((rd_T25 x4_1 (ji8)).f1.f0), .int .i64 ((rd_T25 x4_1 (ji8)).f1.f1)], .agg #[.int .i64 ((rd_T25 l0 x18_1).f0.f0), .int .i64 ((rd_T25 l0 x18_1).f0.f1), .int .i64 ((rd_T25 l0 x18_1).f1.f0), .int .i64 ((rd_T25 l0 x18_1).f1.f1)]] (by rfl) rfl rfl (by (try simp only [List.map_toArray, List.map_cons, List.map_nil]); first | done | (simp only [hji8]; rfl) | rfl | (simp only [List.length_drop, List.length_take]; rfl)) ?_
                          with_reducible refine (span_Hull.calls k1 ((rd_T25 x4_1 (ji8)).f0.f0) ((rd_T25 x4_1 (ji8)).f0.f1) ((rd_T25 x4_1 (ji8)).f1.f0) ((rd_T25 x4_1 (ji8)).f1.f1) ((rd_T25 l0 x18_1).f0.f0) ((rd_T25 l0 x18_1).f0.f1) ((rd_T25 l0 x18_1).f1.f0) ((rd_T25 l0 x18_1).f1.f1) t362 t363 t364 t365 _ A26.out).mono ?_
                          rintro e w36 ⟨rfl, hb⟩
                          have HS4_ := (hb.cell (World.block_lt_of_cell? _ _ (hHeld.2.2.2.2.1))).trans (hHeld.2.2.2.2.1)
                          have HS5_ := (hb.cell (World.block_lt_of_cell? _ _ (hHeld.2.2.2.2.2.1))).trans (hHeld.2.2.2.2.2.1)
                          have HS6_ := (hb.cell (World.block_lt_of_cell? _ _ (hHeld.2.2.2.2.2.2.1))).trans (hHeld.2.2.2.2.2.2.1)
                          have HS7_ := (hb.cell (World.block_lt_of_cell? _ _ (hHeld.2.2.2.2.2.2.2))).trans (hHeld.2.2.2.2.2.2.2)
                          refine ⟨_, rfl, ?_⟩
                          replace HO_4 := krb HO_4 hb
                          replace BK349 := bkb BK349 hb
                          replace HB := bst HB hb
                          (try clear hb)
                          (try clear hb2)
                          (try clear hk)
                          (try clear hi)
                          have p27 : 0 ≤ ((ji8) : Int) := of_decide_eq_true (by first | (with_reducible assumption) | assumption)
                          have q27 : ((ji8) : Int) < ((x4_1.length : Int) : Int) := of_decide_eq_true (by first | (with_reducible assumption) | assumption)
                          obtain ⟨go27, co27, eo27, gb27, gl27, cl27, HG27⟩ := Kd.R_form HO_4.out (by omega)
                          (first | cases eo27 | (injection eo27 with ea_ en_ ec_; (first | subst ea_ | (injection ea_ with ea_; subst ea_)); subst ec_; clear en_))
                          have GB27 := Aside0.mk gb27
                          have GG27 := Aside0.mk HG27
                          clear gb27 gl27 HG27
                          (first | simp only [add_plain] at hx351_0 | skip)
                          (first | simp only [add_plain] at hx351_1 | skip)
                          (first | simp only [add_plain] at hx351_2 | skip)
                          (first | simp only [add_plain] at hx351_3 | skip)
                          (first | simp only [add_plain] at hx359_0 | skip)
                          (first | simp only [add_plain] at hx359_1 | skip)
                          (first | simp only [add_plain] at hx359_2 | skip)
                          (first | simp only [add_plain] at hx359_3 | skip)
                          (first | simp only [add_plain] at hx361_0 | skip)
                          (first | simp only [add_plain] at hx361_1 | skip)
                          (first | simp only [add_plain] at hx361_2 | skip)
                          (first | simp only [add_plain] at hx361_3 | skip)
                          obtain ⟨ce27, hcl27, hM27, hcc27, hfr27⟩ := Kd.R_elem HO_4.out z25 ((ji8) : Int) p27 q27
                          obtain rfl := k25_openM hM27
                          have hx27_0 : World.cell? _ ⟨go27, ((ji8) : Int).toNat * 4, none⟩ = some (.int .i64 ((rd_T25 x4_1 (ji8)).f0.f0)) := hcc27 0 _ rfl
                          have hx27_1 : World.cell? _ ⟨go27, ((ji8) : Int).toNat * 4 + 1, none⟩ = some (.int .i64 ((rd_T25 x4_1 (ji8)).f0.f1)) := hcc27 1 _ rfl
                          have hx27_2 : World.cell? _ ⟨go27, ((ji8) : Int).toNat * 4 + 2, none⟩ = some (.int .i64 ((rd_T25 x4_1 (ji8)).f1.f0)) := hcc27 2 _ rfl
                          have hx27_3 : World.cell? _ ⟨go27, ((ji8) : Int).toNat * 4 + 3, none⟩ = some (.int .i64 ((rd_T25 x4_1 (ji8)).f1.f1)) := hcc27 3 _ rfl
                          have hf27_0 : World.frozen? _ ⟨go27, ((ji8) : Int).toNat * 4, none⟩ = false := hfr27 0
                          have hf27_1 : World.frozen? _ ⟨go27, ((ji8) : Int).toNat * 4 + 1, none⟩ = false := hfr27 1
                          have hf27_2 : World.frozen? _ ⟨go27, ((ji8) : Int).toNat * 4 + 2, none⟩ = false := hfr27 2
                          have hf27_3 : World.frozen? _ ⟨go27, ((ji8) : Int).toNat * 4 + 3, none⟩ = false := hfr27 3
                          clear hcl27 hcc27 hfr27 hM27
                          replace p27 := eq_true p27
                          replace q27 := eq_true q27
                          obtain ⟨ce37, hcl37, hM37, hcc37, hfr37⟩ := Kd.R_elem HO_4.out z25 ((ji8) : Int) (of_decide_eq_true (by first | (with_reducible assumption) | assumption)) (by have h_ : ((ji8) : Int) < ((x4_1.length : Int) : Int) := of_decide_eq_true (by first | (with_reducible assumption) | assumption); first | exact h_ | (have e_ := (Kd.R_reads' HO_4.out).1; omega) | simpa using h_)
                          obtain rfl := k25_openM hM37
                          have HP37 := (Kd.R_seg HO_4.out ((ji8) : Int) (of_decide_eq_true (by first | (with_reducible assumption) | assumption)) (by have h_ : ((ji8) : Int) < ((x4_1.length : Int) : Int) := of_decide_eq_true (by first | (with_reducible assumption) | assumption); first | exact h_ | (have e_ := (Kd.R_reads' HO_4.out).1; omega) | simpa using h_) (seg := [.int .i64 t362, .int .i64 t363, .int .i64 t364, .int .i64 t365]) (j := 0) hcl37 hcc37 (show 4 ≤ 4 from by decide) (x' := (⟨(⟨t362, t363⟩ : S23), (⟨t364, t365⟩ : S23)⟩ : S25)) (k25_mkM _ _ _ (⟨(⟨t362, t363⟩ : S23), (⟨t364, t365⟩ : S23)⟩ : S25) ) (fun _ hk => hk)).1
                          rw [← Ny366.out] at HP37
                          have HQ37 := Aside0.mk HP37
                          clear hcl37 hcc37 hfr37 hM37 HP37
                          refine hK.out _ _ ⟨(blk_cell BK349.out 0).trans rfl, (blk_cell BK349.out 1).trans rfl, (blk_cell BK349.out 2).trans rfl, (blk_cell BK349.out 3).trans rfl, HS4_, HS5_, HS6_, HS7_⟩ (fun hHeld => ?_)
                          clear hK K
                          refine nrp 59 ?_
                          refine pu 8 (some 60) #[true, true, true, true, true, true, true, true, true, false] (any_of HT_.out (by kernel_rfl)) ?_
                          refine last_ (i := 9) (N := none) #[true, true, true, true, true, true, true, true, true, true] rfl rfl (one_of HT_.out (by kernel_rfl)) (by decide) (fun K hK => ?_)
                          refine skip_ (w1 := ?_) (by rfl) rfl ?_ ?_
                          rotate_left
                          · go_simp
                            rfl
                          refine hK.out _ _ ?_
                          clear hK K
                          refine done_ (done_of HT_.out (by kernel_rfl)) ?_
                          try go_wp2
                          go_roundg k1
                          case measure => have := HK1.out; omega
                          case rel => exact ⟨(y366), (wrap64 (x18_1 + 1)), (by first | rfl | (simp; done) | (simp [*]; done)), H', ⟨by have := HK1.out; omega⟩, ⟨by (with_reducible repeat (first | apply Kd.R_alloc | apply Kd.R_drewN | apply Kd.R_drew)); exact Kd.R_mono HQ37.out (fun _ hk => trivial)⟩, ⟨bl HB⟩⟩
                        · replace c25 := Bool.eq_false_iff.mpr c25
                          subst c25
                          have H1 : (if x4_1.length < 4398046511104 then (span_List.l0 k1 (x4_1 ++ [(⟨(⟨(rd_T25 l0 x18_1).f0.f0, (rd_T25 l0 x18_1).f0.f1⟩ : S23), (⟨(rd_T25 l0 x18_1).f1.f0, (rd_T25 l0 x18_1).f1.f1⟩ : S23)⟩ : S25)]) l0 (l0.length : Int) (wrap64 (x18_1 + 1))) else (none)) = some r := by rw [if_neg (show ¬ (false = true) by decide)] at H; exact H
                          clear H
                          have H := H1
                          clear H1
                          by_cases c38 : x4_1.length < 4398046511104
                          · rw [if_pos c38] at H
                            have LMc38 := Aside0.mk c38
                            clear c38
                            obtain ⟨y367, hy367⟩ : ∃ y_ : List (S25), y_ = (x4_1 ++ [(⟨(⟨(rd_T25 l0 x18_1).f0.f0, (rd_T25 l0 x18_1).f0.f1⟩ : S23), (⟨(rd_T25 l0 x18_1).f1.f0, (rd_T25 l0 x18_1).f1.f1⟩ : S23)⟩ : S25)]) := ⟨_, rfl⟩
                            replace H : (span_List.l0 k1 y367 l0 (l0.length : Int) (wrap64 (x18_1 + 1))) = some r := by first | (rw [hy367]; with_reducible exact H) | (have H2_ := (Option.bind_some _ _).symm.trans H; rw [hy367]; with_reducible exact H2_) | (have H2_ := (Option.bind_some _ _).symm.trans H; with_reducible exact H2_) | with_reducible exact H | (rw [hy367]; exact H) | exact H
                            have Ny367 := Aside0.mk hy367
                            clear hy367
                            have H' := Aside0.mk H
                            clear H
                            have p348 : 0 ≤ (x18_1 : Int) := of_decide_eq_true (by first | (with_reducible assumption) | assumption)
                            have q348 : x18_1 < (l0.length : Int) := of_decide_eq_true (by first | (with_reducible assumption) | assumption)
                            obtain ⟨ad348, e348, hx348_0, hx348_1, hx348_2, hx348_3⟩ := at_T25 HR0.out x18_1 p348 q348
                            cases e348
                            replace hx348_0 := (HB.out.cell (World.block_lt_of_cell? w _ hx348_0)).trans hx348_0
                            replace hx348_1 := (HB.out.cell (World.block_lt_of_cell? w _ hx348_1)).trans hx348_1
                            replace hx348_2 := (HB.out.cell (World.block_lt_of_cell? w _ hx348_2)).trans hx348_2
                            replace hx348_3 := (HB.out.cell (World.block_lt_of_cell? w _ hx348_3)).trans hx348_3
                            replace p348 := eq_true p348
                            replace q348 := eq_true q348
                            try go_wp2_with (first | ((with_reducible refine gate_dst (N := 6) rfl ?_); refine bxe (N := 6) (cs := #[.int .i64 0, .int .i64 0, .int .i64 0, .int .i64 0]) (t := 25) ?_; intro gb349 hg w39 hbox hb; replace HO_4 := Aside0.mk (Kd.R_below (Kd.R_elderB (kr HO_4) gb349 (Nat.le_of_eq hg.symm)) hb); have BK349 := Aside0.mk (hbox); have GW349 := lsz hg HB; have GE349 := lsz hg HB; replace HB := bst HB hb; clear hb hbox hg; obtain ⟨hcz40_0, hcz40_1, hcz40_2, hcz40_3⟩ := e4 BK349; obtain ⟨hfz40_0, hfz40_1, hfz40_2, hfz40_3⟩ := f4 BK349; obtain ⟨Ao41, co41, eo41⟩ := Kd.R_slice HO_4.out; subst eo41) | ((with_reducible refine gate_callee (f := 28) rfl ?_); refine gol (some 31) Try.func28 #[.agg #[.int .i64 ((rd_T25 l0 x18_1).f0.f0), .int .i64 ((rd_T25 l0 x18_1).f0.f1), .int .i64 ((rd_T25 l0 x18_1).f1.f0), .int .i64 ((rd_T25 l0 x18_1).f1.f1)]] ?_; (with_reducible refine (span_Right.calls k1 ((rd_T25 l0 x18_1).f0.f0) ((rd_T25 l0 x18_1).f0.f1) ((rd_T25 l0 x18_1).f1.f0) ((rd_T25 l0 x18_1).f1.f1) true _ A5.out).mono ?_); rintro e w42 ⟨rfl, hb⟩; refine ⟨_, rfl, ?_⟩; replace HO_4 := Aside0.mk (Kd.R_below (by (with_reducible repeat (first | apply Kd.R_alloc | apply Kd.R_drewN | apply Kd.R_drew)); exact (Kd.R_mono (Kd.R_far (p := ⟨gb349, 3, none⟩) (Kd.R_far (p := ⟨gb349, 2, none⟩) (Kd.R_far (p := ⟨gb349, 1, none⟩) (Kd.R_far (p := ⟨gb349, 0, none⟩) (Kd.R_mono HO_4.out (fun k_ hk => (⟨hk, hk.2⟩ : _ ∧ k_ ≠ gb349))) (fun _ hk => hk.2) (.int .i64 ((rd_T25 l0 x18_1).f0.f0))) (fun _ hk => hk.2) (.int .i64 ((rd_T25 l0 x18_1).f0.f1))) (fun _ hk => hk.2) (.int .i64 ((rd_T25 l0 x18_1).f1.f0))) (fun _ hk => hk.2) (.int .i64 ((rd_T25 l0 x18_1).f1.f1))) (fun _ h_ => h_.1))) hb); replace BK349 := Aside0.mk (blk_below (g := gb349) (o := .cells #[.int .i64 ((rd_T25 l0 x18_1).f0.f0), .int .i64 ((rd_T25 l0 x18_1).f0.f1), .int .i64 ((rd_T25 l0 x18_1).f1.f0), .int .i64 ((rd_T25 l0 x18_1).f1.f1)] 25 (0, 0)) (bkp BK349) hb); replace HB := bst HB hb; (try clear hb); (try clear hb2); (try clear hk); (try clear hi)))
                            replace HO_4 := Aside0.mk (Kd.R_drew HO_4.out)
                            replace BK349 := Aside0.mk (blk_drew BK349.out)
                            replace HB := Aside0.mk (below_drew1 HB.out)
                            have p351 : 0 ≤ ((ji8) : Int) := of_decide_eq_true (by first | (with_reducible assumption) | assumption)
                            have q351 : (ji8) < (x4_1.length : Int) := of_decide_eq_true (by first | (with_reducible assumption) | assumption)
                            obtain ⟨ad351, e351, hx351_0, hx351_1, hx351_2, hx351_3⟩ := at_T25 (Kd.R_reads' HO_4.out).2.2 (ji8) p351 q351
                            cases e351
                            replace p351 := eq_true p351
                            replace q351 := eq_true q351
                            have p359 : 0 ≤ ((ji8) : Int) := of_decide_eq_true (by first | (with_reducible assumption) | assumption)
                            have q359 : (ji8) < (x4_1.length : Int) := of_decide_eq_true (by first | (with_reducible assumption) | assumption)
                            obtain ⟨ad359, e359, hx359_0, hx359_1, hx359_2, hx359_3⟩ := at_T25 (Kd.R_reads' HO_4.out).2.2 (ji8) p359 q359
                            obtain rfl : ad351 = ad359 := (by injection e359)
                            replace p359 := eq_true p359
                            replace q359 := eq_true q359
                            refine start_ (n := 19) (S := fun w' => w'.cell? ⟨gb349, 0, none⟩ = some (.int .i64 ((rd_T25 l0 x18_1).f0.f0)) ∧ w'.cell? ⟨gb349, 1, none⟩ = some (.int .i64 ((rd_T25 l0 x18_1).f0.f1)) ∧ w'.cell? ⟨gb349, 2, none⟩ = some (.int .i64 ((rd_T25 l0 x18_1).f1.f0)) ∧ w'.cell? ⟨gb349, 3, none⟩ = some (.int .i64 ((rd_T25 l0 x18_1).f1.f1)) ∧ w'.cell? (ad351.add (((ji8)).toNat * 4)) = some (.int .i64 ((rd_T25 x4_1 (ji8)).f0.f0)) ∧ w'.cell? ⟨(ad351.add (((ji8)).toNat * 4)).block, (ad351.add (((ji8)).toNat * 4)).off + 1, none⟩ = some (.int .i64 ((rd_T25 x4_1 (ji8)).f0.f1)) ∧ w'.cell? ⟨(ad351.add (((ji8)).toNat * 4)).block, (ad351.add (((ji8)).toNat * 4)).off + 2, none⟩ = some (.int .i64 ((rd_T25 x4_1 (ji8)).f1.f0)) ∧ w'.cell? ⟨(ad351.add (((ji8)).toNat * 4)).block, (ad351.add (((ji8)).toNat * 4)).off + 3, none⟩ = some (.int .i64 ((rd_T25 x4_1 (ji8)).f1.f1)) ∧ w'.cell? (ad351.add (((ji8)).toNat * 4)) = some (.int .i64 ((rd_T25 x4_1 (ji8)).f0.f0)) ∧ w'.cell? ⟨(ad351.add (((ji8)).toNat * 4)).block, (ad351.add (((ji8)).toNat * 4)).off + 1, none⟩ = some (.int .i64 ((rd_T25 x4_1 (ji8)).f0.f1)) ∧ w'.cell? ⟨(ad351.add (((ji8)).toNat * 4)).block, (ad351.add (((ji8)).toNat * 4)).off + 2, none⟩ = some (.int .i64 ((rd_T25 x4_1 (ji8)).f1.f0)) ∧ w'.cell? ⟨(ad351.add (((ji8)).toNat * 4)).block, (ad351.add (((ji8)).toNat * 4)).off + 3, none⟩ = some (.int .i64 ((rd_T25 x4_1 (ji8)).f1.f1))) (ds := []) #[false, false, false, false, false, false, false, false, false, false, false, false, false, false, false, false, false, false, false] (by kernel_rfl) rfl rfl ⟨(blk_cell BK349.out 0).trans rfl, (blk_cell BK349.out 1).trans rfl, (blk_cell BK349.out 2).trans rfl, (blk_cell BK349.out 3).trans rfl, hx351_0, hx351_1, hx351_2, hx351_3, hx359_0, hx359_1, hx359_2, hx359_3⟩ (fun hHeld => ?_); refine with_tabW span_List.tab11 span_List.bits11 (fun HT_ HW_ => ?_)
                            generalize w42.drew = w43 at HO_4 BK349 HB hx351_0 hx351_1 hx351_2 hx351_3 hx359_0 hx359_1 hx359_2 hx359_3 hHeld ⊢
                            refine pu 0 (some 34) #[true, false, false, false, false, false, false, false, false, false, false, false, false, false, false, false, false, false, false] (any_of HT_.out (by kernel_rfl)) ?_
                            refine pu 1 (some 35) #[true, true, false, false, false, false, false, false, false, false, false, false, false, false, false, false, false, false, false] (any_of HT_.out (by kernel_rfl)) ?_
                            refine pu 2 (some 36) #[true, true, true, false, false, false, false, false, false, false, false, false, false, false, false, false, false, false, false] (any_of HT_.out (by kernel_rfl)) ?_
                            refine pu 3 (some 37) #[true, true, true, true, false, false, false, false, false, false, false, false, false, false, false, false, false, false, false] (any_of HT_.out (by kernel_rfl)) ?_
                            refine pu 4 (some 38) #[true, true, true, true, true, false, false, false, false, false, false, false, false, false, false, false, false, false, false] (any_of HT_.out (by kernel_rfl)) ?_
                            refine pu 5 (some 39) #[true, true, true, true, true, true, false, false, false, false, false, false, false, false, false, false, false, false, false] (any_of HT_.out (by kernel_rfl)) ?_
                            refine tk12 6 (some 40) #[true, true, true, true, true, true, true, false, false, false, false, false, false, false, false, false, false, false, false] (take_ofW HT_.out HW_.out (by kernel_rfl)) hHeld ?_
                            refine tk12 7 (some 41) #[true, true, true, true, true, true, true, true, false, false, false, false, false, false, false, false, false, false, false] (take_ofW HT_.out HW_.out (by kernel_rfl)) hHeld ?_
                            refine one_ (i := 8) (N := some 42) #[true, true, true, true, true, true, true, true, true, false, false, false, false, false, false, false, false, false, false] rfl rfl (one_of HT_.out (by kernel_rfl)) (by decide) (fun K hK => ?_)
                            refine goes_ Try.func13 (by kernel_rfl) rfl #[.agg #[.int .i64 ((rd_T25 x4_1 (ji8)).f0.f0), .int .i64 ((rd_T25 x4_1 (ji8)).f0.f1), .int .i64 ((rd_T25 x4_1 (ji8)).f1.f0), .int .i64 ((rd_T25 x4_1 (ji8)).f1.f1)], .agg #[.int .i64 ((rd_T25 l0 x18_1).f0.f0), .int .i64 ((rd_T25 l0 x18_1).f0.f1), .int .i64 ((rd_T25 l0 x18_1).f1.f0), .int .i64 ((rd_T25 l0 x18_1).f1.f1)]] (by rfl) rfl rfl (by (try simp only [List.map_toArray, List.map_cons, List.map_nil]); first | done | (simp only [hji8]; rfl) | rfl | (simp only [List.length_drop, List.length_take]; rfl)) ?_
                            with_reducible refine (span_Overlap.calls k1 ((rd_T25 x4_1 (ji8)).f0.f0) ((rd_T25 x4_1 (ji8)).f0.f1) ((rd_T25 x4_1 (ji8)).f1.f0) ((rd_T25 x4_1 (ji8)).f1.f1) ((rd_T25 l0 x18_1).f0.f0) ((rd_T25 l0 x18_1).f0.f1) ((rd_T25 l0 x18_1).f1.f0) ((rd_T25 l0 x18_1).f1.f1) false _ A11.out).mono ?_
                            rintro e w44 ⟨rfl, hb⟩
                            have HS4_ := (hb.cell (World.block_lt_of_cell? _ _ (hHeld.2.2.2.2.1))).trans (hHeld.2.2.2.2.1)
                            have HS5_ := (hb.cell (World.block_lt_of_cell? _ _ (hHeld.2.2.2.2.2.1))).trans (hHeld.2.2.2.2.2.1)
                            have HS6_ := (hb.cell (World.block_lt_of_cell? _ _ (hHeld.2.2.2.2.2.2.1))).trans (hHeld.2.2.2.2.2.2.1)
                            have HS7_ := (hb.cell (World.block_lt_of_cell? _ _ (hHeld.2.2.2.2.2.2.2.1))).trans (hHeld.2.2.2.2.2.2.2.1)
                            have HS8_ := (hb.cell (World.block_lt_of_cell? _ _ (hHeld.2.2.2.2.2.2.2.2.1))).trans (hHeld.2.2.2.2.2.2.2.2.1)
                            have HS9_ := (hb.cell (World.block_lt_of_cell? _ _ (hHeld.2.2.2.2.2.2.2.2.2.1))).trans (hHeld.2.2.2.2.2.2.2.2.2.1)
                            have HS10_ := (hb.cell (World.block_lt_of_cell? _ _ (hHeld.2.2.2.2.2.2.2.2.2.2.1))).trans (hHeld.2.2.2.2.2.2.2.2.2.2.1)
                            have HS11_ := (hb.cell (World.block_lt_of_cell? _ _ (hHeld.2.2.2.2.2.2.2.2.2.2.2))).trans (hHeld.2.2.2.2.2.2.2.2.2.2.2)
                            refine ⟨_, rfl, ?_⟩
                            replace HO_4 := krb HO_4 hb
                            replace BK349 := bkb BK349 hb
                            replace HB := bst HB hb
                            (try clear hb)
                            (try clear hb2)
                            (try clear hk)
                            (try clear hi)
                            refine hK.out _ _ ⟨(blk_cell BK349.out 0).trans rfl, (blk_cell BK349.out 1).trans rfl, (blk_cell BK349.out 2).trans rfl, (blk_cell BK349.out 3).trans rfl, HS4_, HS5_, HS6_, HS7_, HS8_, HS9_, HS10_, HS11_⟩ (fun hHeld => ?_)
                            clear hK K
                            refine nrp 42 ?_
                            refine pu 9 (some 43) #[true, true, true, true, true, true, true, true, true, true, false, false, false, false, false, false, false, false, false] (any_of HT_.out (by kernel_rfl)) ?_
                            refine pu 10 (some 44) #[true, true, true, true, true, true, true, true, true, true, true, false, false, false, false, false, false, false, false] (any_of HT_.out (by kernel_rfl)) ?_
                            refine pu 11 (some 45) #[true, true, true, true, true, true, true, true, true, true, true, true, false, false, false, false, false, false, false] (any_of HT_.out (by kernel_rfl)) ?_
                            refine pu 12 (some 46) #[true, true, true, true, true, true, true, true, true, true, true, true, true, false, false, false, false, false, false] (any_of HT_.out (by kernel_rfl)) ?_
                            refine tk12 13 (some 47) #[true, true, true, true, true, true, true, true, true, true, true, true, true, true, false, false, false, false, false] (take_ofW HT_.out HW_.out (by kernel_rfl)) hHeld ?_
                            refine tk12 14 (some 48) #[true, true, true, true, true, true, true, true, true, true, true, true, true, true, true, false, false, false, false] (take_ofW HT_.out HW_.out (by kernel_rfl)) hHeld ?_
                            refine one_ (i := 15) (N := some 49) #[true, true, true, true, true, true, true, true, true, true, true, true, true, true, true, true, false, false, false] rfl rfl (one_of HT_.out (by kernel_rfl)) (by decide) (fun K hK => ?_)
                            refine goes_ Try.func20 (by kernel_rfl) rfl #[.agg #[.int .i64 ((rd_T25 x4_1 (ji8)).f0.f0), .int .i64 ((rd_T25 x4_1 (ji8)).f0.f1), .int .i64 ((rd_T25 x4_1 (ji8)).f1.f0), .int .i64 ((rd_T25 x4_1 (ji8)).f1.f1)], .agg #[.int .i64 ((rd_T25 l0 x18_1).f0.f0), .int .i64 ((rd_T25 l0 x18_1).f0.f1), .int .i64 ((rd_T25 l0 x18_1).f1.f0), .int .i64 ((rd_T25 l0 x18_1).f1.f1)]] (by rfl) rfl rfl (by (try simp only [List.map_toArray, List.map_cons, List.map_nil]); first | done | (simp only [hji8]; rfl) | rfl | (simp only [List.length_drop, List.length_take]; rfl)) ?_
                            with_reducible refine (span_Touch.calls k1 ((rd_T25 x4_1 (ji8)).f0.f0) ((rd_T25 x4_1 (ji8)).f0.f1) ((rd_T25 x4_1 (ji8)).f1.f0) ((rd_T25 x4_1 (ji8)).f1.f1) ((rd_T25 l0 x18_1).f0.f0) ((rd_T25 l0 x18_1).f0.f1) ((rd_T25 l0 x18_1).f1.f0) ((rd_T25 l0 x18_1).f1.f1) false _ A24.out).mono ?_
                            rintro e w45 ⟨rfl, hb⟩
                            have HS4_ := (hb.cell (World.block_lt_of_cell? _ _ (hHeld.2.2.2.2.1))).trans (hHeld.2.2.2.2.1)
                            have HS5_ := (hb.cell (World.block_lt_of_cell? _ _ (hHeld.2.2.2.2.2.1))).trans (hHeld.2.2.2.2.2.1)
                            have HS6_ := (hb.cell (World.block_lt_of_cell? _ _ (hHeld.2.2.2.2.2.2.1))).trans (hHeld.2.2.2.2.2.2.1)
                            have HS7_ := (hb.cell (World.block_lt_of_cell? _ _ (hHeld.2.2.2.2.2.2.2.1))).trans (hHeld.2.2.2.2.2.2.2.1)
                            have HS8_ := (hb.cell (World.block_lt_of_cell? _ _ (hHeld.2.2.2.2.2.2.2.2.1))).trans (hHeld.2.2.2.2.2.2.2.2.1)
                            have HS9_ := (hb.cell (World.block_lt_of_cell? _ _ (hHeld.2.2.2.2.2.2.2.2.2.1))).trans (hHeld.2.2.2.2.2.2.2.2.2.1)
                            have HS10_ := (hb.cell (World.block_lt_of_cell? _ _ (hHeld.2.2.2.2.2.2.2.2.2.2.1))).trans (hHeld.2.2.2.2.2.2.2.2.2.2.1)
                            have HS11_ := (hb.cell (World.block_lt_of_cell? _ _ (hHeld.2.2.2.2.2.2.2.2.2.2.2))).trans (hHeld.2.2.2.2.2.2.2.2.2.2.2)
                            refine ⟨_, rfl, ?_⟩
                            replace HO_4 := krb HO_4 hb
                            replace BK349 := bkb BK349 hb
                            replace HB := bst HB hb
                            (try clear hb)
                            (try clear hb2)
                            (try clear hk)
                            (try clear hi)
                            refine hK.out _ _ ⟨(blk_cell BK349.out 0).trans rfl, (blk_cell BK349.out 1).trans rfl, (blk_cell BK349.out 2).trans rfl, (blk_cell BK349.out 3).trans rfl, HS4_, HS5_, HS6_, HS7_, HS8_, HS9_, HS10_, HS11_⟩ (fun hHeld => ?_)
                            clear hK K
                            refine nrp 49 ?_
                            refine pu 16 (some 50) #[true, true, true, true, true, true, true, true, true, true, true, true, true, true, true, true, true, false, false] (any_of HT_.out (by kernel_rfl)) ?_
                            refine pu 17 (some 51) #[true, true, true, true, true, true, true, true, true, true, true, true, true, true, true, true, true, true, false] (any_of HT_.out (by kernel_rfl)) ?_
                            refine pu 18 (some 33) #[true, true, true, true, true, true, true, true, true, true, true, true, true, true, true, true, true, true, true] (any_of HT_.out (by kernel_rfl)) ?_
                            refine done_ (done_of HT_.out (by kernel_rfl)) ?_
                            have hcz46_0 : w45.cell? ⟨gb349, 0, none⟩ = some (.int .i64 ((rd_T25 l0 x18_1).f0.f0)) := (blk_cell BK349.out 0).trans rfl
                            have hcz46_1 : w45.cell? ⟨gb349, 1, none⟩ = some (.int .i64 ((rd_T25 l0 x18_1).f0.f1)) := (blk_cell BK349.out 1).trans rfl
                            have hcz46_2 : w45.cell? ⟨gb349, 2, none⟩ = some (.int .i64 ((rd_T25 l0 x18_1).f1.f0)) := (blk_cell BK349.out 2).trans rfl
                            have hcz46_3 : w45.cell? ⟨gb349, 3, none⟩ = some (.int .i64 ((rd_T25 l0 x18_1).f1.f1)) := (blk_cell BK349.out 3).trans rfl
                            have hfz46_0 := blk_frozen BK349.out 0
                            have hfz46_1 := blk_frozen BK349.out 1
                            have hfz46_2 := blk_frozen BK349.out 2
                            have hfz46_3 := blk_frozen BK349.out 3
                            try go_wp2_with (first | ((with_reducible refine gate_builtin (b := .append) (xs := #[.tmp 25, .tmp 27]) rfl ?_); at_builtin; refine Kd.R_append k25 (w0 := w) w.heap.size rfl (.tmp 25) (.tmp 27) 26 25 (.agg #[(.int .i64 0), (.int .i64 0), (.int .i64 0), (.int .i64 0)]) 32 rfl Try.underlying26 info25 rfl (by decide) (by omega) (.slice (some ad351) x4_1.length co41) x4_1 (⟨(⟨(rd_T25 l0 x18_1).f0.f0, (rd_T25 l0 x18_1).f0.f1⟩ : S23), (⟨(rd_T25 l0 x18_1).f1.f0, (rd_T25 l0 x18_1).f1.f1⟩ : S23)⟩ : S25) [.int .i64 ((rd_T25 l0 x18_1).f0.f0), .int .i64 ((rd_T25 l0 x18_1).f0.f1), .int .i64 ((rd_T25 l0 x18_1).f1.f0), .int .i64 ((rd_T25 l0 x18_1).f1.f1)] (fun k_ => k_ ≠ gb349) (fun _ => False) rfl rfl ?aP (fun _ hk => hk.elim) ?aF ?aO ?aB ?aS ?aL ?_; (case aP => exact k25_mkM _ _ _ (⟨(⟨(rd_T25 l0 x18_1).f0.f0, (rd_T25 l0 x18_1).f0.f1⟩ : S23), (⟨(rd_T25 l0 x18_1).f1.f0, (rd_T25 l0 x18_1).f1.f1⟩ : S23)⟩ : S25)); (case aB => exact (bl HB)); (case aF => exact (fun k_ hk => Kd.freshB (bk BK349) k_ hk)); (case aO => exact (by (with_reducible repeat (first | apply Kd.R_alloc | apply Kd.R_drewN | apply Kd.R_drew)); exact Kd.R_mono HO_4.out (fun _ hk => hk.2))); (case aS => exact (below_size (bl HB))); (case aL => have := LMc38.out; omega); intro v368 w47 ho hb hg hat; rw [← Ny367.out] at ho; replace BK349 := Aside0.mk (blk_grown (bk BK349) hg (Kd.R_away HO_4.out (fun _ hk => hk.2))); replace HB := Aside0.mk (hb); have HO369 := Aside0.mk (ho); clear HO_4; clear ho hb hg hat))
                            go_roundg k1
                            case measure => have := HK1.out; omega
                            case rel => exact ⟨(y367), (wrap64 (x18_1 + 1)), (by first | rfl | (simp; done) | (simp [*]; done)), H', ⟨by have := HK1.out; omega⟩, ⟨by (with_reducible repeat (first | apply Kd.R_alloc | apply Kd.R_drewN | apply Kd.R_drew)); exact Kd.R_mono HO369.out (fun _ hk => trivial)⟩, ⟨bl HB⟩⟩
                          · rw [if_neg c38] at H
                            exact absurd H (by simp)
                    · rw [if_neg c10] at H
                      exact absurd H (by simp)
                  · rw [if_neg c9] at H
                    exact absurd H (by simp)
                · rw [if_neg c7] at H
                  have c7b0 : decide (0 ≤ (wrap64 ((x4_1.length : Int) - 1))) = false := decide_eq_false c7
                  clear c7
                  by_cases c48 : x4_1.length < 4398046511104
                  · rw [if_pos c48] at H
                    have LMc48 := Aside0.mk c48
                    clear c48
                    obtain ⟨y370, hy370⟩ : ∃ y_ : List (S25), y_ = (x4_1 ++ [(⟨(⟨(rd_T25 l0 x18_1).f0.f0, (rd_T25 l0 x18_1).f0.f1⟩ : S23), (⟨(rd_T25 l0 x18_1).f1.f0, (rd_T25 l0 x18_1).f1.f1⟩ : S23)⟩ : S25)]) := ⟨_, rfl⟩
                    replace H : (span_List.l0 k1 y370 l0 (l0.length : Int) (wrap64 (x18_1 + 1))) = some r := by first | (rw [hy370]; with_reducible exact H) | (have H2_ := (Option.bind_some _ _).symm.trans H; rw [hy370]; with_reducible exact H2_) | (have H2_ := (Option.bind_some _ _).symm.trans H; with_reducible exact H2_) | with_reducible exact H | (rw [hy370]; exact H) | exact H
                    have Ny370 := Aside0.mk hy370
                    clear hy370
                    have H' := Aside0.mk H
                    clear H
                    have p348 : 0 ≤ (x18_1 : Int) := of_decide_eq_true (by first | (with_reducible assumption) | assumption)
                    have q348 : x18_1 < (l0.length : Int) := of_decide_eq_true (by first | (with_reducible assumption) | assumption)
                    obtain ⟨ad348, e348, hx348_0, hx348_1, hx348_2, hx348_3⟩ := at_T25 HR0.out x18_1 p348 q348
                    cases e348
                    replace hx348_0 := (HB.out.cell (World.block_lt_of_cell? w _ hx348_0)).trans hx348_0
                    replace hx348_1 := (HB.out.cell (World.block_lt_of_cell? w _ hx348_1)).trans hx348_1
                    replace hx348_2 := (HB.out.cell (World.block_lt_of_cell? w _ hx348_2)).trans hx348_2
                    replace hx348_3 := (HB.out.cell (World.block_lt_of_cell? w _ hx348_3)).trans hx348_3
                    replace p348 := eq_true p348
                    replace q348 := eq_true q348
                    try go_wp2_with (first | ((with_reducible refine gate_dst (N := 6) rfl ?_); refine bxe (N := 6) (cs := #[.int .i64 0, .int .i64 0, .int .i64 0, .int .i64 0]) (t := 25) ?_; intro gb349 hg w49 hbox hb; replace HO_4 := Aside0.mk (Kd.R_below (Kd.R_elderB (kr HO_4) gb349 (Nat.le_of_eq hg.symm)) hb); have BK349 := Aside0.mk (hbox); have GW349 := lsz hg HB; have GE349 := lsz hg HB; replace HB := bst HB hb; clear hb hbox hg; obtain ⟨hcz50_0, hcz50_1, hcz50_2, hcz50_3⟩ := e4 BK349; obtain ⟨hfz50_0, hfz50_1, hfz50_2, hfz50_3⟩ := f4 BK349; obtain ⟨Ao51, co51, eo51⟩ := Kd.R_slice HO_4.out; subst eo51) | ((with_reducible refine gate_callee (f := 28) rfl ?_); refine gol (some 31) Try.func28 #[.agg #[.int .i64 ((rd_T25 l0 x18_1).f0.f0), .int .i64 ((rd_T25 l0 x18_1).f0.f1), .int .i64 ((rd_T25 l0 x18_1).f1.f0), .int .i64 ((rd_T25 l0 x18_1).f1.f1)]] ?_; (with_reducible refine (span_Right.calls k1 ((rd_T25 l0 x18_1).f0.f0) ((rd_T25 l0 x18_1).f0.f1) ((rd_T25 l0 x18_1).f1.f0) ((rd_T25 l0 x18_1).f1.f1) true _ A5.out).mono ?_); rintro e w52 ⟨rfl, hb⟩; refine ⟨_, rfl, ?_⟩; replace HO_4 := Aside0.mk (Kd.R_below (by (with_reducible repeat (first | apply Kd.R_alloc | apply Kd.R_drewN | apply Kd.R_drew)); exact (Kd.R_mono (Kd.R_far (p := ⟨gb349, 3, none⟩) (Kd.R_far (p := ⟨gb349, 2, none⟩) (Kd.R_far (p := ⟨gb349, 1, none⟩) (Kd.R_far (p := ⟨gb349, 0, none⟩) (Kd.R_mono HO_4.out (fun k_ hk => (⟨hk, hk.2⟩ : _ ∧ k_ ≠ gb349))) (fun _ hk => hk.2) (.int .i64 ((rd_T25 l0 x18_1).f0.f0))) (fun _ hk => hk.2) (.int .i64 ((rd_T25 l0 x18_1).f0.f1))) (fun _ hk => hk.2) (.int .i64 ((rd_T25 l0 x18_1).f1.f0))) (fun _ hk => hk.2) (.int .i64 ((rd_T25 l0 x18_1).f1.f1))) (fun _ h_ => h_.1))) hb); replace BK349 := Aside0.mk (blk_below (g := gb349) (o := .cells #[.int .i64 ((rd_T25 l0 x18_1).f0.f0), .int .i64 ((rd_T25 l0 x18_1).f0.f1), .int .i64 ((rd_T25 l0 x18_1).f1.f0), .int .i64 ((rd_T25 l0 x18_1).f1.f1)] 25 (0, 0)) (bkp BK349) hb); replace HB := bst HB hb; (try clear hb); (try clear hb2); (try clear hk); (try clear hi)))
                    replace HO_4 := Aside0.mk (Kd.R_drew HO_4.out)
                    replace BK349 := Aside0.mk (blk_drew BK349.out)
                    replace HB := Aside0.mk (below_drew1 HB.out)
                    refine start_ (n := 19) (S := fun w' => True) (ds := []) #[false, false, false, false, false, false, false, false, false, false, false, false, false, false, false, false, false, false, false] (by kernel_rfl) rfl rfl trivial (fun hHeld => ?_); refine with_tabW span_List.tab11 span_List.bits11 (fun HT_ HW_ => ?_)
                    generalize w52.drew = w53 at HO_4 BK349 HB hHeld ⊢
                    refine pu 0 (some 34) #[true, false, false, false, false, false, false, false, false, false, false, false, false, false, false, false, false, false, false] (any_of HT_.out (by kernel_rfl)) ?_
                    refine pu 1 (some 35) #[true, true, false, false, false, false, false, false, false, false, false, false, false, false, false, false, false, false, false] (any_of HT_.out (by kernel_rfl)) ?_
                    refine pu 2 (some 36) #[true, true, true, false, false, false, false, false, false, false, false, false, false, false, false, false, false, false, false] (any_of HT_.out (by kernel_rfl)) ?_
                    refine pv 3 (some 37) #[true, true, true, true, false, false, false, false, false, false, false, false, false, false, false, false, false, false, false] (any_of HT_.out (by kernel_rfl)) ?_
                    refine pv 4 (some 38) #[true, true, true, true, true, false, false, false, false, false, false, false, false, false, false, false, false, false, false] (any_of HT_.out (by kernel_rfl)) ?_
                    refine pv 5 (some 39) #[true, true, true, true, true, true, false, false, false, false, false, false, false, false, false, false, false, false, false] (any_of HT_.out (by kernel_rfl)) ?_
                    refine pv 6 (some 40) #[true, true, true, true, true, true, true, false, false, false, false, false, false, false, false, false, false, false, false] (any_of HT_.out (by kernel_rfl)) ?_
                    refine pv 7 (some 41) #[true, true, true, true, true, true, true, true, false, false, false, false, false, false, false, false, false, false, false] (any_of HT_.out (by kernel_rfl)) ?_
                    refine pv 8 (some 42) #[true, true, true, true, true, true, true, true, true, false, false, false, false, false, false, false, false, false, false] (any_of HT_.out (by kernel_rfl)) ?_
                    refine pv 9 (some 43) #[true, true, true, true, true, true, true, true, true, true, false, false, false, false, false, false, false, false, false] (any_of HT_.out (by kernel_rfl)) ?_
                    refine pv 10 (some 44) #[true, true, true, true, true, true, true, true, true, true, true, false, false, false, false, false, false, false, false] (any_of HT_.out (by kernel_rfl)) ?_
                    refine pv 11 (some 45) #[true, true, true, true, true, true, true, true, true, true, true, true, false, false, false, false, false, false, false] (any_of HT_.out (by kernel_rfl)) ?_
                    refine pv 12 (some 46) #[true, true, true, true, true, true, true, true, true, true, true, true, true, false, false, false, false, false, false] (any_of HT_.out (by kernel_rfl)) ?_
                    refine pv 13 (some 47) #[true, true, true, true, true, true, true, true, true, true, true, true, true, true, false, false, false, false, false] (any_of HT_.out (by kernel_rfl)) ?_
                    refine pv 14 (some 48) #[true, true, true, true, true, true, true, true, true, true, true, true, true, true, true, false, false, false, false] (any_of HT_.out (by kernel_rfl)) ?_
                    refine pv 15 (some 49) #[true, true, true, true, true, true, true, true, true, true, true, true, true, true, true, true, false, false, false] (any_of HT_.out (by kernel_rfl)) ?_
                    refine pv 16 (some 50) #[true, true, true, true, true, true, true, true, true, true, true, true, true, true, true, true, true, false, false] (any_of HT_.out (by kernel_rfl)) ?_
                    refine pu 17 (some 51) #[true, true, true, true, true, true, true, true, true, true, true, true, true, true, true, true, true, true, false] (any_of HT_.out (by kernel_rfl)) ?_
                    refine pu 18 (some 33) #[true, true, true, true, true, true, true, true, true, true, true, true, true, true, true, true, true, true, true] (any_of HT_.out (by kernel_rfl)) ?_
                    refine done_ (done_of HT_.out (by kernel_rfl)) ?_
                    have hcz54_0 : w53.cell? ⟨gb349, 0, none⟩ = some (.int .i64 ((rd_T25 l0 x18_1).f0.f0)) := (blk_cell BK349.out 0).trans rfl
                    have hcz54_1 : w53.cell? ⟨gb349, 1, none⟩ = some (.int .i64 ((rd_T25 l0 x18_1).f0.f1)) := (blk_cell BK349.out 1).trans rfl
                    have hcz54_2 : w53.cell? ⟨gb349, 2, none⟩ = some (.int .i64 ((rd_T25 l0 x18_1).f1.f0)) := (blk_cell BK349.out 2).trans rfl
                    have hcz54_3 : w53.cell? ⟨gb349, 3, none⟩ = some (.int .i64 ((rd_T25 l0 x18_1).f1.f1)) := (blk_cell BK349.out 3).trans rfl
                    have hfz54_0 := blk_frozen BK349.out 0
                    have hfz54_1 := blk_frozen BK349.out 1
                    have hfz54_2 := blk_frozen BK349.out 2
                    have hfz54_3 := blk_frozen BK349.out 3
                    try go_wp2_with (first | ((with_reducible refine gate_builtin (b := .append) (xs := #[.tmp 25, .tmp 27]) rfl ?_); at_builtin; refine Kd.R_append k25 (w0 := w) w.heap.size rfl (.tmp 25) (.tmp 27) 26 25 (.agg #[(.int .i64 0), (.int .i64 0), (.int .i64 0), (.int .i64 0)]) 32 rfl Try.underlying26 info25 rfl (by decide) (by omega) (.slice Ao51 x4_1.length co51) x4_1 (⟨(⟨(rd_T25 l0 x18_1).f0.f0, (rd_T25 l0 x18_1).f0.f1⟩ : S23), (⟨(rd_T25 l0 x18_1).f1.f0, (rd_T25 l0 x18_1).f1.f1⟩ : S23)⟩ : S25) [.int .i64 ((rd_T25 l0 x18_1).f0.f0), .int .i64 ((rd_T25 l0 x18_1).f0.f1), .int .i64 ((rd_T25 l0 x18_1).f1.f0), .int .i64 ((rd_T25 l0 x18_1).f1.f1)] (fun k_ => k_ ≠ gb349) (fun _ => False) rfl rfl ?aP (fun _ hk => hk.elim) ?aF ?aO ?aB ?aS ?aL ?_; (case aP => exact k25_mkM _ _ _ (⟨(⟨(rd_T25 l0 x18_1).f0.f0, (rd_T25 l0 x18_1).f0.f1⟩ : S23), (⟨(rd_T25 l0 x18_1).f1.f0, (rd_T25 l0 x18_1).f1.f1⟩ : S23)⟩ : S25)); (case aB => exact (bl HB)); (case aF => exact (fun k_ hk => Kd.freshB (bk BK349) k_ hk)); (case aO => exact (by (with_reducible repeat (first | apply Kd.R_alloc | apply Kd.R_drewN | apply Kd.R_drew)); exact Kd.R_mono HO_4.out (fun _ hk => hk.2))); (case aS => exact (below_size (bl HB))); (case aL => have := LMc48.out; omega); intro v371 w55 ho hb hg hat; rw [← Ny370.out] at ho; replace BK349 := Aside0.mk (blk_grown (bk BK349) hg (Kd.R_away HO_4.out (fun _ hk => hk.2))); replace HB := Aside0.mk (hb); have HO372 := Aside0.mk (ho); clear HO_4; clear ho hb hg hat))
                    go_roundg k1
                    case measure => have := HK1.out; omega
                    case rel => exact ⟨(y370), (wrap64 (x18_1 + 1)), (by first | rfl | (simp; done) | (simp [*]; done)), H', ⟨by have := HK1.out; omega⟩, ⟨by (with_reducible repeat (first | apply Kd.R_alloc | apply Kd.R_drewN | apply Kd.R_drew)); exact Kd.R_mono HO372.out (fun _ hk => trivial)⟩, ⟨bl HB⟩⟩
                  · rw [if_neg c48] at H
                    exact absurd H (by simp)
              · replace c6 := Bool.eq_false_iff.mpr c6
                subst c6
                have H1 : (span_List.l0 k1 x4_1 l0 (l0.length : Int) (wrap64 (x18_1 + 1))) = some r := by rw [if_neg (show ¬ (false = true) by decide)] at H; exact H
                clear H
                have H := H1
                clear H1
                have H' := Aside0.mk H
                clear H
                have p348 : 0 ≤ (x18_1 : Int) := of_decide_eq_true (by first | (with_reducible assumption) | assumption)
                have q348 : x18_1 < (l0.length : Int) := of_decide_eq_true (by first | (with_reducible assumption) | assumption)
                obtain ⟨ad348, e348, hx348_0, hx348_1, hx348_2, hx348_3⟩ := at_T25 HR0.out x18_1 p348 q348
                cases e348
                replace hx348_0 := (HB.out.cell (World.block_lt_of_cell? w _ hx348_0)).trans hx348_0
                replace hx348_1 := (HB.out.cell (World.block_lt_of_cell? w _ hx348_1)).trans hx348_1
                replace hx348_2 := (HB.out.cell (World.block_lt_of_cell? w _ hx348_2)).trans hx348_2
                replace hx348_3 := (HB.out.cell (World.block_lt_of_cell? w _ hx348_3)).trans hx348_3
                replace p348 := eq_true p348
                replace q348 := eq_true q348
                go_wp2_with (first | ((with_reducible refine gate_dst (N := 6) rfl ?_); refine bxe (N := 6) (cs := #[.int .i64 0, .int .i64 0, .int .i64 0, .int .i64 0]) (t := 25) ?_; intro gb349 hg w56 hbox hb; replace HO_4 := Aside0.mk (Kd.R_below (Kd.R_elderB (kr HO_4) gb349 (Nat.le_of_eq hg.symm)) hb); have BK349 := Aside0.mk (hbox); have GW349 := lsz hg HB; have GE349 := lsz hg HB; replace HB := bst HB hb; clear hb hbox hg; obtain ⟨hcz57_0, hcz57_1, hcz57_2, hcz57_3⟩ := e4 BK349; obtain ⟨hfz57_0, hfz57_1, hfz57_2, hfz57_3⟩ := f4 BK349; obtain ⟨Ao58, co58, eo58⟩ := Kd.R_slice HO_4.out; subst eo58) | ((with_reducible refine gate_callee (f := 28) rfl ?_); refine gol (some 31) Try.func28 #[.agg #[.int .i64 ((rd_T25 l0 x18_1).f0.f0), .int .i64 ((rd_T25 l0 x18_1).f0.f1), .int .i64 ((rd_T25 l0 x18_1).f1.f0), .int .i64 ((rd_T25 l0 x18_1).f1.f1)]] ?_; (with_reducible refine (span_Right.calls k1 ((rd_T25 l0 x18_1).f0.f0) ((rd_T25 l0 x18_1).f0.f1) ((rd_T25 l0 x18_1).f1.f0) ((rd_T25 l0 x18_1).f1.f1) false _ A5.out).mono ?_); rintro e w59 ⟨rfl, hb⟩; refine ⟨_, rfl, ?_⟩; replace HO_4 := Aside0.mk (Kd.R_below (by (with_reducible repeat (first | apply Kd.R_alloc | apply Kd.R_drewN | apply Kd.R_drew)); exact (Kd.R_mono (Kd.R_far (p := ⟨gb349, 3, none⟩) (Kd.R_far (p := ⟨gb349, 2, none⟩) (Kd.R_far (p := ⟨gb349, 1, none⟩) (Kd.R_far (p := ⟨gb349, 0, none⟩) (Kd.R_mono HO_4.out (fun k_ hk => (⟨hk, hk.2⟩ : _ ∧ k_ ≠ gb349))) (fun _ hk => hk.2) (.int .i64 ((rd_T25 l0 x18_1).f0.f0))) (fun _ hk => hk.2) (.int .i64 ((rd_T25 l0 x18_1).f0.f1))) (fun _ hk => hk.2) (.int .i64 ((rd_T25 l0 x18_1).f1.f0))) (fun _ hk => hk.2) (.int .i64 ((rd_T25 l0 x18_1).f1.f1))) (fun _ h_ => h_.1))) hb); replace BK349 := Aside0.mk (blk_below (g := gb349) (o := .cells #[.int .i64 ((rd_T25 l0 x18_1).f0.f0), .int .i64 ((rd_T25 l0 x18_1).f0.f1), .int .i64 ((rd_T25 l0 x18_1).f1.f0), .int .i64 ((rd_T25 l0 x18_1).f1.f1)] 25 (0, 0)) (bkp BK349) hb); replace HB := bst HB hb; (try clear hb); (try clear hb2); (try clear hk); (try clear hi)))
                go_roundg k1
                case measure => have := HK1.out; omega
                case rel => exact ⟨(x4_1), (wrap64 (x18_1 + 1)), (by first | rfl | (simp; done) | (simp [*]; done)), H', ⟨by have := HK1.out; omega⟩, ⟨by (with_reducible repeat (first | apply Kd.R_alloc | apply Kd.R_drewN | apply Kd.R_drew)); exact Kd.R_mono HO_4.out (fun _ hk => trivial)⟩, ⟨bl HB⟩⟩
            · rw [if_neg c4] at H
              exact absurd H (by simp)
          · rw [if_neg c3] at H
            exact absurd H (by simp)
        · rw [if_neg c2] at H
          have c2b0 : decide (x18_1 < (l0.length : Int)) = false := decide_eq_false c2
          clear c2
          obtain rfl := Option.some.inj H
          go_wp2
          go_ret
          have hR_ := Kd.R_lower HO_4.out HZ.out.size; have hB_ := HZ.out.trans (HB.out.mono HZ.out.size); exact ⟨_, by first | rfl | (simp [errW_none, errW_some] <;> rfl) | (simp [*, errW_none, errW_some] <;> rfl), by exact hR_, by exact hB_⟩

  · rw [if_neg hlen] at h; exact absurd h (by simp)
end Go.Proofs.Ytkkbmjfhpngalaa.Print
