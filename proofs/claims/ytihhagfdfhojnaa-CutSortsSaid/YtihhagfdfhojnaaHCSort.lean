import Derived.Test.YtihhagfdfhojnaaProg
import Derived.Test.YtihhagfdfhojnaaWWords
import Derived.Test.YtihhagfdfhojnaaWEqStruct
import Derived.Shelf.SlicesQ.Reverse
import Derived.Lib.SlicesCompact
import Derived.Shelf.SlicesE.Kit
import Derived.Deep.LoopGhost
import Derived.Deep.Draws
import Derived.Lib.Walk
import Derived.Sort.WalkB12
import Derived.Lib.SliceRun
import Derived.Test.YtihhagfdfhojnaaG
import Derived.Test.YtihhagfdfhojnaaLCutA
import Derived.Test.YtihhagfdfhojnaaHLay
import Derived.Test.YtihhagfdfhojnaaLCutSo
import Derived.Test.YtihhagfdfhojnaaPrint5
namespace Go.Proofs.Ytihhagfdfhojnaa.PrintG
open Go.Shelf Go.RowKit Go.Lib Go.Sort Go.Proofs Go.Proofs.YtihhagfdfhojnaaW.PrintWords
set_option linter.unusedVariables false
set_option linter.unusedSimpArgs false
/-- a cut's two cells -/
def encP (x : Int × Int) : List Value := [.int .i64 x.1, .int .i64 x.2]
theorem eqP (d : Nat) (w : World) (x0 y0 : Int) (x1 y1 : Int) :
    (Op.equalIn (d + 2) 23 (.agg #[.int .i64 x0, .int .i64 x1]) (.agg #[.int .i64 y0, .int .i64 y1])).run Try.prog w = .ok (x0 == y0 && (x1 == y1)) w := by
  refine eqA_of Try.underlying23 (by kernel_rfl) ?_
  refine eqf_cons (by rfl) (by go_simp; rfl) (by go_simp; rfl) (by go_simp) ?_
  exact eqf_last (by rfl) (by go_simp; rfl) (by go_simp; rfl) (by go_simp)
attribute [local go_sem high] eqP
theorem cellP {w : World} {blk off : Nat} {d : Array (Int × Int)} (h : HoldsK encP 2 w blk off d) {i : Nat} (hi : i < d.size) :
    (w.cell? ⟨blk, off + i * 2, none⟩ = some (.int .i64 d[i]!.1) ∧ w.cell? ⟨blk, off + i * 2 + 1, none⟩ = some (.int .i64 d[i]!.2)) ∧ w.frozen? ⟨blk, off + i * 2, none⟩ = false ∧ w.frozen? ⟨blk, off + i * 2 + 1, none⟩ = false :=
  ⟨⟨(h.cell hi (show 0 < 2 by decide)).1, (h.cell hi (show 1 < 2 by decide)).1⟩, (h.cell hi (show 0 < 2 by decide)).2, (h.cell hi (show 1 < 2 by decide)).2⟩
theorem zcells (n : Nat) : (Builtin.zeroCells #[(.int .i64 0 : Value), .int .i64 0] n).toList = List.replicate (n * 2) (.int .i64 0) := by
  apply List.ext_getElem
  · simp [Builtin.zeroCells]
  · intro i h1 h2
    rcases (by omega : i % 2 = 0 ∨ i % 2 = 1) with h | h <;> simp [Builtin.zeroCells, h]
theorem clearP {w : World} {blk off : Nat} {F : Array Value} (h : Holds id w blk off F) (s n c : Nat) (hs : s + n * 2 ≤ F.size) (hn : 0 < n) (ty : TypeId) :
    (Builtin.clear_ #[44] ty #[.slice (some ⟨blk, off + s, none⟩) n c]).run Try.prog w = .ok (.tuple #[]) (w.setCells blk (off + s) (List.replicate (n * 2) (.int .i64 0))) := by
  have hst := stores_of_holds Try.prog h s (List.replicate (n * 2) (.int .i64 0)) (by simpa using hs) (fun v hv => by rw [List.eq_of_mem_replicate hv]; rfl)
  have hz := Try.zeroValue23
  obtain ⟨m, rfl⟩ : ∃ m, n = m + 1 := ⟨n - 1, by omega⟩
  have hc : (Value.agg #[(.int .i64 0 : Value), .int .i64 0]).cells = #[.int .i64 0, .int .i64 0] := rfl
  simp [Builtin.clear_, run_underlying Try.underlying44, hz]
  rw [hc, zcells, hst]
  rfl
theorem storeP {w wr : World} {n blk off : Nat} {dk : Array (Int × Int)} {i : Nat} (hi : i < dk.size) (hwr : wr = putRowK encP 2 (Sort.ahead w n) blk off dk) (a b : Int) :
    ((wr.setCell ⟨blk, off + i * 2, none⟩ (.int .i64 a)).setCell ⟨blk, off + i * 2 + 1, none⟩ (.int .i64 b)).drew = putRowK encP 2 (Sort.ahead w (n + 1)) blk off (dk.setIfInBounds i (a, b)) := by
  have h1 : (wr.drew.setCells blk (off + i * 2) (encP (a, b))) = putRowK encP 2 (Sort.ahead w (n + 1)) blk off (dk.setIfInBounds i (a, b)) := by
    subst hwr
    unfold putRowK
    rw [show (putRow id (Sort.ahead w n) blk off (flatK encP 2 dk)).drew = (putRow id (Sort.ahead w n) blk off (flatK encP 2 dk)).drewN 1 from rfl, Go.Proofs.putRow_drewN, setCells_putRow _ _ _ _ _ _ (by rw [size_flatK]; show i * 2 + 2 ≤ _; omega)]
    congr 1
    apply Array.ext
    · simp
    · intro t ht1 ht2
      have ht : t < dk.size * 2 := by simpa using ht1
      have e1 := get_setMany (encP (a, b)) (i * 2) (flatK encP 2 dk) t (by simpa using ht)
      have e2 := get_flatK encP 2 (dk.setIfInBounds i (a, b)) t (by simpa using ht)
      rw [getElem!_pos _ t (by simpa using ht)] at e1 e2
      rw [e1, e2, get_flatK encP 2 dk t ht]
      by_cases hti : t / 2 = i
      · rw [if_pos (by show i * 2 ≤ t ∧ t < i * 2 + 2; omega)]
        rw [hti, Go.Sort.getElem!_set_same dk i _ hi, show t - i * 2 = t % 2 by omega]
      · rw [if_neg (by show ¬ (i * 2 ≤ t ∧ t < i * 2 + 2); omega), Go.Sort.getElem!_set_other dk i (t / 2) _ hti]
  rw [← h1]
  rfl
theorem neqP {a b c d : Int} (h : ¬ (a = c ∧ b = d)) : (a == c && b == d) = false ∧ (!(a == c) || !(b == d)) = true := by
  have e : (a == c && b == d) = false := by
    rw [Bool.eq_false_iff]; intro g; rw [Bool.and_eq_true, beq_iff_eq, beq_iff_eq] at g; exact h g
  exact ⟨e, by rw [← Bool.not_and, e]; rfl⟩
set_option maxHeartbeats 4000000 in
set_option maxRecDepth 1000000 in
theorem compactP (blk off cap : Nat) (d : Array (Int × Int)) (w : World) (hH : HoldsK encP 2 w blk off d) (hsz : d.size ≤ 1000000) (hcap : d.size ≤ cap) :
    Calls Try.prog 56 #[.slice (some ⟨blk, off, none⟩) d.size cap] w fun e w' => e = .returned (.slice (some ⟨blk, off, none⟩) (compactUpTo d d.size).length cap) ∧
      ∃ q F, F.size = d.size * 2 ∧ (∀ t, t < (compactUpTo d d.size).length * 2 → F[t]! = (encP (compactUpTo d d.size)[t / 2]!)[t % 2]!) ∧ w' = putRow id (Sort.ahead w q) blk off F := by
  have h0 := Try.underlying44
  have h1 := Try.underlying23
  have mixed : Try.prog.follows Departure.mixedOrders = true := by kernel_rfl
  have same : ∀ q, (∀ j, j < d.size → keeps d j = true) → (compactUpTo d d.size).length = d.size ∧ ∃ F : Array Value, F.size = d.size * 2 ∧ (∀ t, t < (compactUpTo d d.size).length * 2 → F[t]! = (encP (compactUpTo d d.size)[t / 2]!)[t % 2]!) ∧ w.drewN q = putRow id (Sort.ahead w q) blk off F := by
    intro q hall
    have e : compactUpTo d d.size = d.toList := by rw [compactUpTo_all d _ hall, range_map_get]
    rw [e]
    refine ⟨by simp, flatK encP 2 d, by simp, fun t ht => ?_, (putRowK_self encP 2 (Sort.ahead w q) blk off d (holdsK_ahead encP 2 w q blk off d hH)).symm⟩
    have ht' : t < d.size * 2 := by simpa using ht
    rw [get_flatK encP 2 d t ht', getElem!_pos d (t / 2) (by omega), getElem!_pos d.toList (t / 2) (by simp; omega)]
    simp
  have HS : Aside _ := same
  clear same
  by_cases h2 : d.size < 2
  · have HH : Aside _ := hH
    clear hH
    go_enter Try.func56, Try.ntmps56
    go_wp2
    go_ret
    obtain ⟨e1, e2⟩ := HS.out 0 (fun j hj => keeps_lt_one d j (by omega))
    exact ⟨by rw [e1]; rfl, 0, e2⟩
  · go_enter Try.func56, Try.ntmps56
    go_wp2
    go_loopg [3] d.size (fun g s3 wr => ∃ k q : Nat, 1 ≤ k ∧ k ≤ d.size ∧ d.size - k ≤ g ∧ s3 = .int .i64 k ∧ wr = w.drewN q ∧ ∀ j, j < k → keeps d j = true)
    case atStart => exact ⟨1, 0, Nat.le_refl _, by omega, by omega, rfl, rfl, keeps_lt_one d⟩
    case round =>
      obtain ⟨k, q, hk1, hk, hg, rfl, rfl, hall⟩ := hrel
      by_cases hlt : k < d.size
      · obtain ⟨⟨c1, c1'⟩, f1, f1'⟩ := cellP hH hlt
        obtain ⟨⟨c0, c0'⟩, f0, f0'⟩ := cellP hH (show k - 1 < d.size by omega)
        have A : Aside _ := hall
        have HH : Aside _ := hH
        clear hall hH
        generalize hx1 : d[k]!.1 = x1 at c1
        generalize hx2 : d[k]!.2 = x2 at c1'
        generalize hy1 : d[k - 1]!.1 = y1 at c0
        generalize hy2 : d[k - 1]!.2 = y2 at c0'
        have B : Aside (d[k]! = (x1, x2) ∧ d[k - 1]! = (y1, y2)) := ⟨by rw [← hx1, ← hx2], by rw [← hy1, ← hy2]⟩
        clear hx1 hx2 hy1 hy2
        by_cases hdup : x1 = y1 ∧ x2 = y2
        · obtain ⟨rfl, rfl⟩ := hdup
          go_wp2_with fail
          go_region_o
          go_wp2
          clear c0 c1 f0 f1 c0' c1' f0' f1'
          go_loopg [3, 5] d.size (fun g s3 s5 wr => ∃ (kk k2 q2 : Nat) (dk : Array (Int × Int)), s3 = .int .i64 kk ∧ s5 = .int .i64 k2 ∧ 1 ≤ k2 ∧ k + k2 ≤ d.size ∧ d.size - (k + k2) ≤ g ∧ wr = putRowK encP 2 (Sort.ahead w q2) blk off dk ∧ CompInv d (k + k2) kk dk)
          case atStart => exact ⟨k, 1, q + 1, d, rfl, rfl, Nat.le_refl _, by omega, by omega, (putRowK_self encP 2 (Sort.ahead w (q + 1)) blk off d (holdsK_ahead encP 2 w (q + 1) blk off d HH.out)).symm, CompInv.start A.out (keeps_neg (by omega) (by rw [B.out.1, B.out.2]))⟩
          case round =>
            obtain ⟨kk, k2, q2, dk, rfl, rfl, h1', hle, hg2, hwr, hI⟩ := hrel
            have hkk := hI.lt
            have hds := hI.size
            have hHk : HoldsK encP 2 wr blk off dk := by rw [hwr]; exact holdsK_putRowK encP 2 _ blk off d dk (holdsK_ahead encP 2 w q2 blk off d HH.out) hds
            have W2 : Aside (wr = putRowK encP 2 (Sort.ahead w q2) blk off dk) := hwr
            have I2 : Aside (CompInv d (k + k2) kk dk) := hI
            clear hwr
            by_cases hlt2 : k + k2 < d.size
            · obtain ⟨⟨cm, cm'⟩, _⟩ := cellP hHk (show k + k2 < dk.size by omega)
              obtain ⟨⟨cp, cp'⟩, _⟩ := cellP hHk (show k + k2 - 1 < dk.size by omega)
              obtain ⟨⟨ck, ck'⟩, fk, fk'⟩ := cellP hHk (show kk < dk.size by omega)
              rw [hI.high (k + k2) (by omega), show off + (k + k2) * 2 = off + k * 2 + k2 * 2 by omega] at cm cm'
              rw [hI.high (k + k2 - 1) (by omega), show off + (k + k2 - 1) * 2 = off + k * 2 + (k2 - 1) * 2 by omega] at cp cp'
              have HHK : Aside _ := hHk
              clear hHk hI
              generalize hu1 : d[k + k2]!.1 = u1 at cm
              generalize hu2 : d[k + k2]!.2 = u2 at cm'
              generalize hv1 : d[k + k2 - 1]!.1 = v1 at cp
              generalize hv2 : d[k + k2 - 1]!.2 = v2 at cp'
              generalize dk[kk]!.1 = old1 at ck
              generalize dk[kk]!.2 = old2 at ck'
              have C : Aside (d[k + k2]! = (u1, u2) ∧ d[k + k2 - 1]! = (v1, v2)) := ⟨by rw [← hu1, ← hu2], by rw [← hv1, ← hv2]⟩
              clear hu1 hu2 hv1 hv2
              by_cases huv : u1 = v1 ∧ u2 = v2
              · obtain ⟨rfl, rfl⟩ := huv
                go_wp2_with fail
                go_region_o
                go_wp2
                go_roundg (d.size - (k + (k2 + 1)))
                case measure => omega
                case rel => exact ⟨kk, k2 + 1, q2 + 1, dk, rfl, by go_num, by omega, by omega, Nat.le_refl _, by rw [W2.out]; rfl, I2.out.skip (keeps_neg (by omega) (by rw [C.out.1, C.out.2]))⟩
              · obtain ⟨b1, b2⟩ := neqP huv
                have UV : Aside _ := huv
                clear huv
                go_wp2_with fail
                go_region_o
                go_wp2
                go_roundg (d.size - (k + (k2 + 1)))
                case measure => omega
                case rel =>
                  have K := I2.out.keep hlt2 (keeps_pos (by rw [C.out.1, C.out.2]; exact fun h => UV.out ⟨congrArg Prod.fst h, congrArg Prod.snd h⟩))
                  rw [C.out.1] at K
                  exact ⟨kk + 1, k2 + 1, q2 + 1, dk.setIfInBounds kk (u1, u2), by go_num, by go_num, by omega, by omega, Nat.le_refl _, storeP (by omega) W2.out u1 u2, K⟩
            · have hend : k + k2 = d.size := by omega
              have hn0 : 0 < d.size - kk := by omega
              have hcl := clearP hHk (kk * 2) (d.size - kk) (cap - kk) (by rw [size_flatK]; omega) hn0
              clear hHk
              go_wp2
              go_ret
              have hI := I2.out
              rw [hend] at hI
              refine ⟨by rw [hI.len]; rfl, q2, setMany (flatK encP 2 dk) (kk * 2) (List.replicate ((d.size - kk) * 2) (.int .i64 0)), by simp [hds], fun t ht => ?_, ?_⟩
              · rw [hI.len] at ht
                rw [get_setMany _ _ _ t (by simp; omega), if_neg (by omega), get_flatK encP 2 dk t (by omega)]
                have e := hI.low (t / 2) (by omega)
                rw [getElem!_pos (compactUpTo d d.size) (t / 2) (by rw [hI.len]; omega)]
                rw [List.getElem?_eq_getElem (by rw [hI.len]; omega)] at e
                rw [Option.some.inj e]
              · rw [W2.out]
                exact setCells_putRow _ _ _ _ _ _ (by simp; omega)
        · obtain ⟨b1, b2⟩ := neqP hdup
          have DU : Aside _ := hdup
          clear hdup
          go_wp2_with fail
          go_region_o
          go_wp2
          go_roundg (d.size - (k + 1))
          case measure => omega
          case rel =>
            refine ⟨k + 1, q + 1, by omega, by omega, Nat.le_refl _, by go_num, rfl, fun j hj => ?_⟩
            by_cases e : j = k
            · subst e
              exact keeps_pos (by rw [B.out.1, B.out.2]; exact fun h => DU.out ⟨congrArg Prod.fst h, congrArg Prod.snd h⟩)
            · exact A.out j (by omega)
      · have : k = d.size := by omega
        subst this
        have HH : Aside _ := hH
        clear hH
        go_wp2
        go_ret
        obtain ⟨e1, e2⟩ := HS.out q hall
        exact ⟨by rw [e1]; rfl, q, e2⟩
end Go.Proofs.Ytihhagfdfhojnaa.PrintG
namespace Go.Proofs.Ytihhagfdfhojnaa.PrintG
open Go.Shelf Go.Lib Go.Sort Go.Proofs Go.Proofs.YtihhagfdfhojnaaW.PrintWords
set_option linter.unusedVariables false
set_option linter.unusedSimpArgs false
/-- a block of the call's own holds a row of cuts, two cells each -/
def OwnP (W : World) (g cap : Nat) (l : List (Int × Int)) : Prop :=
  ∃ cur, W.heap[g]? = some (.cells cur 23 (0, 0)) ∧ l.length ≤ cap ∧ cur.size = cap * 2 ∧ cur.toList.take (l.length * 2) = l.flatMap encP
theorem flatP_get (l : List (Int × Int)) : ∀ j, j < l.length * 2 → (l.flatMap encP)[j]? = some ((encP (l.toArray[j / 2]!))[j % 2]!) := by
  induction l with
  | nil => intro j hj; simp at hj
  | cons x l ih =>
    intro j hj
    rw [List.flatMap_cons]
    by_cases h : j < 2
    · rw [List.getElem?_append_left (by simpa [encP] using h)]
      have : j / 2 = 0 := by omega
      rw [this]
      obtain rfl | rfl : j = 0 ∨ j = 1 := by omega
      all_goals rfl
    · rw [List.getElem?_append_right (by simp [encP]; omega)]
      have hl : (encP x).length = 2 := rfl
      rw [hl, ih (j - 2) (by simp at hj; omega)]
      have e1 : j / 2 = (j - 2) / 2 + 1 := by omega
      have e2 : (j - 2) % 2 = j % 2 := by omega
      rw [e1, e2]
      have hj4 : (j - 2) / 2 < l.length := by simp at hj; omega
      rw [getElem!_pos (x :: l).toArray _ (by simpa using hj4), getElem!_pos l.toArray _ (by simpa using hj4)]
      simp
theorem flatP_length (l : List (Int × Int)) : (l.flatMap encP).length = l.length * 2 := by
  induction l with
  | nil => rfl
  | cons x l ih => rw [List.flatMap_cons, List.length_append, ih, List.length_cons]; show 2 + _ = _; omega
theorem OwnP.lt {W : World} {g cap : Nat} {l : List (Int × Int)} (h : OwnP W g cap l) : g < W.heap.size := by
  obtain ⟨cur, h1, _⟩ := h
  exact (Array.getElem?_eq_some_iff.1 h1).1
theorem OwnP.holds {W : World} {g cap : Nat} {l : List (Int × Int)} (h : OwnP W g cap l) : HoldsK encP 2 W g 0 l.toArray := by
  obtain ⟨cur, hb, hc, hs, ht⟩ := h
  intro j hj
  have hj' : j < l.length * 2 := by simpa using hj
  rw [Nat.zero_add]
  refine ⟨(blk_cell hb j).trans ?_, blk_frozen hb j⟩
  rw [get_flatK encP 2 l.toArray j (by simpa using hj')]
  have h0 := flatP_get l j hj'
  rw [← ht, List.getElem?_take, if_pos hj'] at h0
  simpa using h0
/-- the row written anew, and cut -/
theorem OwnP.put {W W' : World} {g cap q : Nat} {os : Array Obj} {l m : List (Int × Int)} (h : OwnP W g cap l) {F : Array Value} (hF : F.size = l.length * 2) (hm : m.length ≤ l.length)
    (hFm : F.toList.take (m.length * 2) = m.flatMap encP) (hW : W' = grow (putRow id (Sort.ahead W q) g 0 F) os) : OwnP W' g cap m := by
  obtain ⟨cur, hb, hc, hs, ht⟩ := h
  have hg : g < W.heap.size := (Array.getElem?_eq_some_iff.1 hb).1
  refine ⟨putCells id 0 F cur, ?_, by omega, by simp [putCells, hs], ?_⟩
  · rw [hW]
    show ((Sort.ahead W q).heap.modify g _ ++ os)[g]? = _
    rw [Array.getElem?_append_left (by simpa [Sort.ahead] using hg)]
    show (W.heap.modify g _)[g]? = _
    rw [Array.getElem?_modify, if_pos rfl, hb]
    rfl
  · rw [← hFm]
    apply List.ext_getElem?
    intro j
    rw [List.getElem?_take, List.getElem?_take]
    by_cases hj : j < m.length * 2
    · rw [if_pos hj, if_pos hj]
      have h1 : j < F.size := by omega
      have h2 : j < cur.size := by rw [hs]; omega
      simp [putCells, h1, h2]
    · rw [if_neg hj, if_neg hj]
/-- all else below stands -/
theorem below_put {W W' : World} {g q : Nat} {os : Array Obj} {F : Array Value} (hg : g < W.heap.size) (hW : W' = grow (putRow id (Sort.ahead W q) g 0 F) os) : Go.RowKit.Below g W W' := by
  subst hW
  refine ⟨rfl, rfl, rfl, ?_, fun k hk => ?_⟩
  · simp [grow, putRow, mapBlock, Sort.ahead]
  · have hkl : k < W.heap.size := Nat.lt_trans hk hg
    simp only [grow, putRow, mapBlock, Sort.ahead]
    rw [Array.getElem?_append_left (by simpa using hkl), Array.getElem?_modify, if_neg (by omega)]
end Go.Proofs.Ytihhagfdfhojnaa.PrintG
namespace Go.Proofs.Ytihhagfdfhojnaa.PrintG
open Go.RowKit hiding Below
open Go.Shelf Go.Lib Go.Sort Go.Proofs.Ytihhagfdfhojnaa.Print Go.Proofs.YtihhagfdfhojnaaW.PrintWords
set_option linter.unusedVariables false
set_option linter.unusedSimpArgs false
theorem below_grow {w w' : World} (h : PrintG.Below w.heap.size w w') : ∃ (q : Nat) (os : Array Obj), w' = grow (w.drewN q) os := by
  refine ⟨w'.drawn - w.drawn, w'.heap.extract w.heap.size w'.heap.size, ?_⟩
  have hd : w.drawn + (w'.drawn - w.drawn) = w'.drawn := by have := h.d; omega
  have hh : w'.heap = w.heap ++ w'.heap.extract w.heap.size w'.heap.size := by
    apply Array.ext_getElem?
    intro i
    have hs := h.size
    by_cases hi : i < w.heap.size
    · rw [Array.getElem?_append_left hi, h.b.block i hi]
    · rw [Array.getElem?_append_right (by omega), Array.getElem?_extract]
      by_cases h2 : i < w'.heap.size
      · rw [if_pos (by omega), show w.heap.size + (i - w.heap.size) = i by omega]
      · rw [if_neg (by omega), Array.getElem?_eq_none (by omega)]
  have h1 := h.b.os
  have h2 := h.b.tape
  have h3 := h.b.output
  cases w with
  | mk heap tape drawn os output =>
    cases w' with
    | mk heap' tape' drawn' os' output' =>
      simp only [grow, World.drewN] at *
      subst h1 h2 h3
      simp only [World.mk.injEq, true_and, and_true]
      exact ⟨hh, hd.symm⟩
/-- which of two cuts stands ahead, in one number -/
def cfP (x y : Int × Int) : Int := cmp2 (canon x.1 x.2) (canon y.1 y.2)
theorem cmpLaysP (blk off size : Nat) (w : World) : CmpLays Try.prog 16 #[] encP 2 cfP blk off size w :=
  fun m os dk _ x y => (cut_Compare.calls 10 x.1 x.2 y.1 y.2 (cfP x y) _ (cut_Compare.eq x.1 x.2 y.1 y.2 10 (by omega))).mono fun _ _ ⟨he, hb⟩ => ⟨he, below_grow hb⟩
theorem cfP_lt (x y : Int × Int) : ltOf cfP x y = true ↔ (canon x.1 x.2).1 < (canon y.1 y.2).1 ∨ ((canon x.1 x.2).1 = (canon y.1 y.2).1 ∧ (canon x.1 x.2).2 < (canon y.1 y.2).2) := by
  unfold ltOf cfP
  rw [decide_eq_true_eq]
  rcases cmp2_cases (canon x.1 x.2) (canon y.1 y.2) with ⟨h, g⟩ | ⟨h, g⟩ | ⟨h, g⟩
  · rw [h]; exact ⟨fun _ => g, fun _ => by decide⟩
  · rw [h]; exact ⟨fun hh => absurd hh (by decide), fun hh => by omega⟩
  · rw [h, g]; exact ⟨fun hh => absurd hh (by decide), fun hh => by omega⟩
theorem swoP : SWO (ltOf cfP) where
  irrefl x := by
    rw [Bool.eq_false_iff]; intro h; rw [cfP_lt] at h; omega
  trans x y z h1 h2 := by rw [cfP_lt] at h1 h2 ⊢; omega
  ntrans x y z h1 h2 := by
    rw [Bool.eq_false_iff, Ne, cfP_lt] at h1 h2 ⊢; omega
/-- the row in order -/
theorem sortP (g cap : Nat) (l : List (Int × Int)) (W : World) (h : OwnP W g cap l) (hn : l.length ≤ 1000000) :
    Calls Try.prog 55 #[.slice (some ⟨g, 0, none⟩) l.length cap, .func (.func 16) #[] #[]] W fun e w' => e = .returned (.tuple #[]) ∧ ∃ d : List (Int × Int), d.Perm l ∧ d.Pairwise (fun x y => ltOf cfP y x = false) ∧ OwnP w' g cap d ∧ Go.RowKit.Below g W w' := by
  have eg : ∀ args w, (callFunc 16 args).run Try.prog w = .ok (.enter 16 args) w := enters_of Try.func16 (by kernel_rfl) rfl
  have hcon := AnyQ.slices_SortFunc Try.sortCut 2 Try.isAgg23 Try.sizeOf23 encP (fun _ => rfl) (fun x v hv => by simp [encP] at hv; rcases hv with rfl | rfl <;> rfl) cfP swoP 16 #[] g 0 cap l.toArray W eg (cmpLaysP g 0 l.toArray.size W) h.holds h.lt (by simp; omega)
  change Calls Try.prog 55 _ _ _ at hcon
  refine hcon.mono ?_
  rintro e w' ⟨he, d, n, os, hp, hs, rfl⟩
  have h4 : d.size = l.length := by have := hp.1; simpa using this
  refine ⟨he, d.toList, ?_, ?_, ?_, ?_⟩
  · have h3 := hp.2.2
    simp only [List.size_toArray] at h3
    rw [← h4] at h3
    simp only [Array.extract_size] at h3
    refine h3.trans ?_
    simp [h4]
  · rw [List.pairwise_iff_getElem]
    intro i j hi hj hij
    have h5 := hs i j (Nat.zero_le _) hij (by simp at hj; simp; omega)
    rw [getElem!_pos d j (by simpa using hj), getElem!_pos d i (by simpa using hi)] at h5
    simpa using h5
  · refine h.put (F := flatK encP 2 d) (q := n) (os := os) (by simp [h4]) (by simp [h4]) ?_ rfl
    apply List.ext_getElem?
    intro j
    rw [List.getElem?_take]
    by_cases hj : j < d.toList.length * 2
    · rw [if_pos hj, flatP_get d.toList j hj]
      have hj' : j < d.size * 2 := by simpa using hj
      have e := get_flatK encP 2 d j hj'
      rw [getElem!_pos _ j (by simpa using hj')] at e
      rw [Array.getElem?_toList, Array.getElem?_eq_getElem (by simpa using hj'), e]
    · rw [if_neg hj, List.getElem?_eq_none (by rw [flatP_length]; omega)]
  · exact below_put h.lt rfl
end Go.Proofs.Ytihhagfdfhojnaa.PrintG
namespace Go.Proofs.Ytihhagfdfhojnaa.PrintG
open Go.RowKit hiding Below
open Go.Shelf Go.Lib Go.Sort Go.Proofs.Ytihhagfdfhojnaa.Print Go.Proofs.YtihhagfdfhojnaaW.PrintWords
set_option linter.unusedVariables false
set_option linter.unusedSimpArgs false
/-- each once -/
theorem uniqP (g cap : Nat) (l : List (Int × Int)) (W : World) (h : OwnP W g cap l) (hn : l.length ≤ 1000000) (hc : l.length ≤ cap) :
    Calls Try.prog 56 #[.slice (some ⟨g, 0, none⟩) l.length cap] W fun e w' => e = .returned (.slice (some ⟨g, 0, none⟩) (compactUpTo l.toArray l.length).length cap) ∧ OwnP w' g cap (compactUpTo l.toArray l.length) ∧ Go.RowKit.Below g W w' := by
  have hle : ∀ m, (compactUpTo l.toArray m).length ≤ m := fun m => by
    unfold compactUpTo
    rw [List.length_map]
    exact Nat.le_trans (List.length_filter_le _ _) (by simp)
  have hcon := compactP g 0 cap l.toArray W h.holds (by simpa using hn) (by simpa using hc)
  simp only [List.size_toArray] at hcon
  refine hcon.mono ?_
  rintro e w' ⟨he, q, F, hF, hv, hw⟩
  have hm := hle l.length
  generalize compactUpTo l.toArray l.length = m at *
  refine ⟨he, ?_, below_put (os := #[]) h.lt (by rw [grow_empty]; exact hw)⟩
  refine h.put (F := F) (q := q) (os := #[]) hF hm ?_ (by rw [grow_empty]; exact hw)
  apply List.ext_getElem?
  intro j
  rw [List.getElem?_take]
  by_cases hj : j < m.length * 2
  · have hj' : j < F.size := by omega
    have e := hv j hj
    rw [if_pos hj, flatP_get m j hj, Array.getElem?_toList, Array.getElem?_eq_getElem hj']
    rw [getElem!_pos F j hj', getElem!_pos m (j / 2) (by omega)] at e
    rw [e, getElem!_pos m.toArray (j / 2) (by simp; omega)]
    simp
  · rw [if_neg hj, List.getElem?_eq_none (by rw [flatP_length]; omega)]
/-- none at all -/
theorem insNone (fv : Value) (w : World) : Calls Try.prog 70 #[.slice none 0 0, .int .i64 0, .int .i64 0, fv] w fun e w' => e = .returned (.tuple #[]) ∧ w' = w := by
  have mixed : Try.prog.follows Departure.mixedOrders = true := by kernel_rfl
  go_enter Try.func70, Try.ntmps70
  go_wp2
  refine wp_loop_rounds 1 ?_
  rw [rounds_succ]
  go_wp2
  go_end0
  exact ⟨rfl, rfl⟩
theorem pdqNone (lim : Int) (fv : Value) (w : World) : Calls Try.prog 67 #[.slice none 0 0, .int .i64 0, .int .i64 0, .int .i64 lim, fv] w fun e w' => e = .returned (.tuple #[]) ∧ w' = w := by
  have mixed : Try.prog.follows Departure.mixedOrders = true := by kernel_rfl
  have hi := insNone fv
  go_enter Try.func67, Try.ntmps67
  go_wp2
  refine wp_loop_rounds 1 ?_
  rw [rounds_succ]
  go_wp2_with (go_at_call 70; refine (hi _).mono ?_; rintro e w' ⟨rfl, rfl⟩)
  (try simp only [Exit.inBlock, Exit.then]); refine bodyPost_ret (results_none rfl _ _ _) rfl ?_
  exact ⟨rfl, rfl⟩
theorem sortNone (fv : Value) (w : World) : Calls Try.prog 55 #[.slice none 0 0, fv] w fun e w' => e = .returned (.tuple #[]) ∧ w' = w := by
  have mixed : Try.prog.follows Departure.mixedOrders = true := by kernel_rfl
  have hp := fun lim W => pdqNone lim fv W
  have hl : ∀ W, Calls Try.prog 68 #[.int .u64 0] W fun e w' => e = .returned (.int .i64 (Lib.bitLen 0 : Nat)) ∧ w' = W := fun W => by
    have h := Any.bits_Len (SlLaysF0.n15.bits (P := Try.prog) (ρ := Try.sortCut_ren) { Try.sortCut with }) 0 W (by omega) (by omega)
    exact h
  go_enter Try.func55, Try.ntmps55
  go_wp2_with (first | (go_at_call 68; refine (hl _).mono ?_; rintro e w' ⟨rfl, rfl⟩) | (go_at_call 67; refine (hp _ _).mono ?_; rintro e w' ⟨rfl, rfl⟩))
  go_end0
  exact ⟨rfl, rfl⟩
theorem uniqNone (w : World) : Calls Try.prog 56 #[.slice none 0 0] w fun e w' => e = .returned (.slice none 0 0) ∧ w' = w := by
  have mixed : Try.prog.follows Departure.mixedOrders = true := by kernel_rfl
  go_enter Try.func56, Try.ntmps56
  go_wp2
  go_ret
  exact ⟨rfl, rfl⟩
end Go.Proofs.Ytihhagfdfhojnaa.PrintG
namespace Go.Proofs.Ytihhagfdfhojnaa.PrintG
open Go.RowKit hiding Below
open Go.Shelf Go.Lib Go.Sort Go.Proofs.Ytihhagfdfhojnaa.Print Go.Proofs.YtihhagfdfhojnaaW.PrintWords
set_option linter.unusedVariables false
set_option linter.unusedSimpArgs false
theorem comp_of {α : Type} [Inhabited α] [DecidableEq α] (a : Array α) : ∀ m z, z ∈ compactUpTo a m → ∃ j, j < m ∧ z = a[j]! := by
  intro m z h
  unfold compactUpTo at h
  obtain ⟨j, hj, rfl⟩ := List.mem_map.1 h
  exact ⟨j, List.mem_range.1 (List.mem_filter.1 hj).1, rfl⟩
theorem comp_mem {α : Type} [Inhabited α] [DecidableEq α] (a : Array α) : ∀ m j, j < m → a[j]! ∈ compactUpTo a m := by
  intro m
  induction m with
  | zero => intro j hj; omega
  | succ m ih =>
    intro j hj
    rw [compactUpTo_succ]
    by_cases h : j < m
    · exact List.mem_append_left _ (ih j h)
    · obtain rfl : j = m := by omega
      by_cases k : keeps a j = true
      · rw [if_pos k]; exact List.mem_append_right _ List.mem_cons_self
      · have hn : ¬ (j = 0 ∨ a[j]! ≠ a[j - 1]!) := fun g => k (decide_eq_true g)
        have h0 : j ≠ 0 := fun g => hn (.inl g)
        have h1 : a[j]! = a[j - 1]! := Classical.byContradiction fun g => hn (.inr g)
        rw [h1]
        exact List.mem_append_left _ (ih (j - 1) (by omega))
theorem comp_up {α : Type} [Inhabited α] [DecidableEq α] (R : α → α → Prop) (a : Array α) (hR : ∀ j m, j < m → m < a.size → a[m]! ≠ a[m - 1]! → R a[j]! a[m]!) : ∀ m, m ≤ a.size → (compactUpTo a m).Pairwise R := by
  intro m
  induction m with
  | zero => intro _; exact List.Pairwise.nil
  | succ m ih =>
    intro hm
    rw [compactUpTo_succ]
    by_cases k : keeps a m = true
    · rw [if_pos k]
      refine List.pairwise_append.2 ⟨ih (by omega), List.pairwise_singleton _ _, fun z hz y hy => ?_⟩
      rcases List.mem_singleton.1 hy with rfl
      obtain ⟨j, hj, rfl⟩ := comp_of a m z hz
      have hk := of_decide_eq_true k
      exact hR j m hj (by omega) (hk.resolve_left (by omega))
    · rw [if_neg k, List.append_nil]; exact ih (by omega)
/-- what the sort and the cut leave is the row in order, each once -/
theorem sorted_uniq (L : List Ct) (hL : ∀ c ∈ L, canon c.f0 c.f1 = (c.f0, c.f1)) (d : List (Int × Int)) (hp : d.Perm (L.map ct)) (hs : d.Pairwise (fun x y => ltOf cfP y x = false)) :
    (compactUpTo d.toArray d.length).map tc = sortC L := by
  have hcan : ∀ p ∈ d, canon p.1 p.2 = p := fun p hpd => by
    obtain ⟨c, hc, rfl⟩ := List.mem_map.1 (hp.mem_iff.1 hpd)
    exact hL c hc
  have hget : ∀ j, j < d.length → d.toArray[j]! ∈ d := fun j hj => by
    rw [getElem!_pos d.toArray j (by simpa using hj)]; simp
  have hle : ∀ i j, i < j → j < d.length → ¬ (d.toArray[j]!.1 < d.toArray[i]!.1 ∨ (d.toArray[j]!.1 = d.toArray[i]!.1 ∧ d.toArray[j]!.2 < d.toArray[i]!.2)) := fun i j hij hj => by
    have h := List.pairwise_iff_getElem.1 hs i j (by omega) hj hij
    rw [Bool.eq_false_iff, Ne, cfP_lt] at h
    have e1 := hcan _ (hget j hj)
    have e2 := hcan _ (hget i (by omega))
    rw [getElem!_pos d.toArray j (by simpa using hj), getElem!_pos d.toArray i (by simp; omega)] at *
    simp only [List.getElem_toArray] at *
    rw [e1, e2] at h
    exact h
  refine up_unique ?_ (sortC_up L) (fun z => ?_)
  · rw [List.pairwise_map]
    refine comp_up (fun x y => ltC (tc x) (tc y) = true) d.toArray (fun j m hjm hm hne => ?_) d.length (by simp)
    have hm' : m < d.length := by simpa using hm
    rw [ltC_iff]
    show d.toArray[j]!.1 < d.toArray[m]!.1 ∨ (d.toArray[j]!.1 = d.toArray[m]!.1 ∧ d.toArray[j]!.2 < d.toArray[m]!.2)
    have h1 := hle (m - 1) m (by omega) hm'
    have h2 : d.toArray[m]!.1 ≠ d.toArray[m - 1]!.1 ∨ d.toArray[m]!.2 ≠ d.toArray[m - 1]!.2 := by
      by_cases a : d.toArray[m]!.1 = d.toArray[m - 1]!.1
      · exact .inr fun b => hne (Prod.ext a b)
      · exact .inl a
    by_cases hj : j = m - 1
    · subst hj; omega
    · have h3 := hle j (m - 1) (by omega) (by omega)
      omega
  · rw [sortC_mem, List.mem_map]
    constructor
    · rintro ⟨p, hpm, rfl⟩
      obtain ⟨j, hj, rfl⟩ := comp_of _ _ _ hpm
      obtain ⟨c, hc, e⟩ := List.mem_map.1 (hp.mem_iff.1 (hget j hj))
      rw [← e]; exact hc
    · intro hz
      have : ct z ∈ d := hp.mem_iff.2 (List.mem_map.2 ⟨z, hz, rfl⟩)
      obtain ⟨j, hj, e⟩ := List.getElem_of_mem this
      refine ⟨ct z, ?_, rfl⟩
      have h := comp_mem d.toArray d.length j hj
      rw [getElem!_pos d.toArray j (by simpa using hj)] at h
      simp only [List.getElem_toArray] at h
      rwa [e] at h
/-- the printer's words for such a row, and back -/
theorem own_of_R {w : World} {base : Nat} {ok : Nat → Prop} {v : Value} {xs : List Ct} (h : Kd.R k23 23 w base ok v xs) :
    (v = .slice none 0 0 ∧ xs = []) ∨ ∃ g cap, v = .slice (some ⟨g, 0, none⟩) xs.length cap ∧ base ≤ g ∧ xs.length ≤ cap ∧ cap ≤ maxLen ∧ OwnP w g cap (xs.map ct) := by
  obtain ⟨_, inner, ⟨hl, ho⟩, hlen, hr⟩ := h
  rcases ho with ⟨h1, h2⟩ | ⟨g, cap, cur, h1, h2, h3, h4, h5, h6, h7⟩
  · exact .inl ⟨h1, List.eq_nil_of_length_eq_zero h2⟩
  · refine .inr ⟨g, cap, h1, h2, h4, h5, cur, h3, by simpa using h4, h6, ?_⟩
    rw [List.length_map]
    refine h7.trans ?_
    apply List.ext_getElem?
    intro j
    have hsz : k23.sz = 2 := rfl
    rw [hsz] at hl hr
    by_cases hj : j < xs.length * 2
    · rw [flatP_get _ j (by simpa using hj)]
      have hj2 : j / 2 < xs.length := by omega
      have e := k23_openM (hr (j / 2) xs[j / 2] (List.getElem?_eq_getElem hj2))
      have e2 : ((inner.drop (j / 2 * 2)).take 2)[j % 2]? = inner[j]? := by
        rw [List.getElem?_take, if_pos (by omega), List.getElem?_drop, show j / 2 * 2 + j % 2 = j by omega]
      rw [e] at e2
      rw [← e2, getElem!_pos _ (j / 2) (by simpa using hj2)]
      simp only [List.getElem_toArray, List.getElem_map]
      have h2 : j % 2 < 2 := by omega
      obtain h0 | h0 : j % 2 = 0 ∨ j % 2 = 1 := by omega
      · rw [h0]; rfl
      · rw [h0]; rfl
    · rw [List.getElem?_eq_none (by omega), List.getElem?_eq_none (by rw [flatP_length]; simp; omega)]
theorem R_of_own {w : World} {base g cap : Nat} {l : List (Int × Int)} (h : OwnP w g cap l) (hg : base ≤ g) (hc : cap ≤ maxLen) : Kd.R k23 23 w base (fun _ => True) (.slice (some ⟨g, 0, none⟩) l.length cap) (l.map tc) := by
  obtain ⟨cur, h1, h2, h3, h4⟩ := h
  refine ⟨fun _ _ => trivial, l.flatMap encP, ⟨by rw [flatP_length, List.length_map]; rfl, .inr ⟨g, cap, cur, by rw [List.length_map], hg, h1, by simpa using h2, hc, h3, by rw [List.length_map]; exact h4⟩⟩, by rw [flatP_length, List.length_map]; rfl, fun j p hp => ?_⟩
  rw [List.getElem?_map] at hp
  obtain ⟨q, hq, rfl⟩ := Option.map_eq_some_iff.1 hp
  obtain ⟨hj, e⟩ := List.getElem?_eq_some_iff.1 hq
  have e2 : ((l.flatMap encP).drop (j * k23.sz)).take k23.sz = [.int .i64 q.1, .int .i64 q.2] := by
    show ((l.flatMap encP).drop (j * 2)).take 2 = _
    apply List.ext_getElem?
    intro i
    rw [List.getElem?_take]
    by_cases hi : i < 2
    · rw [if_pos hi, List.getElem?_drop, flatP_get l _ (by omega), show (j * 2 + i) / 2 = j by omega, show (j * 2 + i) % 2 = i by omega, getElem!_pos l.toArray j (by simpa using hj)]
      simp only [List.getElem_toArray, e]
      obtain rfl | rfl : i = 0 ∨ i = 1 := by omega
      · rfl
      · rfl
    · rw [if_neg hi, List.getElem?_eq_none (by simp; omega)]
  rw [e2]
  exact k23_mkM _ _ _ (tc q)
end Go.Proofs.Ytihhagfdfhojnaa.PrintG
namespace Go.Proofs.Ytihhagfdfhojnaa.Print
open Go.RowKit Go.Proofs.YtihhagfdfhojnaaW.PrintWords Go.Proofs.YtihhagfdfhojnaaW.PrintLast Go.Proofs.YtihhagfdfhojnaaW.PrintMore
set_option linter.unusedVariables false
set_option linter.unusedSimpArgs false
def cut_Sort.l0 : Nat → List (S23) → List (S23) → Int → Int → Option ((List (S23)))
  | 0, _, _, _, _ => none
  | k + 1, x3, x6, x7, x8 => if x8 < x7 then (if 0 ≤ x8 then (if x8 < (x6.length : Int) then ((cut_Canon.f k ((rd_T23 x6 x8).f0) ((rd_T23 x6 x8).f1)).bind fun bt208 => (if x3.length < 8796093022208 then (cut_Sort.l0 k (x3 ++ [(⟨bt208.1, bt208.2⟩ : S23)]) x6 x7 (wrap64 (x8 + 1))) else (none))) else (none)) else (none)) else (some x3)
theorem cn_canon (q : Ct) : canon (cnC q).f0 (cnC q).f1 = ((cnC q).f0, (cnC q).f1) := by
  show canon (canon q.f0 q.f1).1 (canon q.f0 q.f1).2 = canon q.f0 q.f1
  unfold canon
  by_cases h1 : q.f0 < 0 ∨ (q.f0 = 0 ∧ q.f1 = -9223372036854775808)
  · rw [if_pos h1]; rfl
  · rw [if_neg h1]
    by_cases h2 : q.f0 > 0
    · rw [if_pos h2]; rfl
    · rw [if_neg h2, if_neg h1, if_neg h2]
theorem cut_Sort.l0_eq (l : List S23) (hl : l.length ≤ 1000000) : ∀ (n i : Nat) (x : List S23) (k : Nat), i + n = l.length → x.length ≤ i → n + 12 ≤ k → cut_Sort.l0 k x l (l.length : Int) (i : Int) = some (x ++ (l.drop i).map cnC) := by
  intro n
  induction n with
  | zero =>
    intro i x k hin hx hk
    obtain ⟨k, rfl⟩ : ∃ m, k = m + 1 := ⟨k - 1, by omega⟩
    rw [cut_Sort.l0, if_neg (by omega), List.drop_of_length_le (by omega), List.map_nil, List.append_nil]
  | succ n ih =>
    intro i x k hin hx hk
    obtain ⟨k, rfl⟩ : ∃ m, k = m + 1 := ⟨k - 1, by omega⟩
    have hlt : i < l.length := by omega
    have hw : wrap64 ((i : Int) + 1) = ((i + 1 : Nat) : Int) := by unfold wrap64; omega
    have hrd : rd_T23 l (i : Int) = l[i] := by simp [rd_T23, List.getD, hlt]
    have hdrop : l.drop i = l[i] :: l.drop (i + 1) := List.drop_eq_getElem_cons hlt
    rw [cut_Sort.l0, if_pos (by omega), if_pos (by omega), if_pos (by omega), hrd, cut_Canon.eq _ _ k (by omega), Option.bind_some, if_pos (by omega), hw, ih (i + 1) _ k (by omega) (by rw [List.length_append]; show x.length + 1 ≤ _; omega) (by omega), hdrop, List.map_cons, List.append_assoc]
    rfl
set_option maxHeartbeats 8000000 in
set_option maxRecDepth 100000 in
theorem cut_Sort.calls (k : Nat) (A0 : Option Addr) (c0 : Nat) (l0 : List (S23)) (r : List (S23)) (w : World) (hr0 : Kd.C k23 w A0 l0.length l0) (hc0 : l0.length ≤ c0) (h : cut_Sort.f k l0 = some r) :
    Calls Try.prog 37 #[.slice A0 l0.length c0] w fun e w' => ∃ v0_ : Value, e = .returned (v0_) ∧ Kd.R k23 23 w' w.heap.size (fun _ => True) v0_ r ∧ Below w.heap.size w w' := by
  have hu23 := Try.underlying23
  unfold cut_Sort.f at h
  by_cases hlen : l0.length < 1000000
  case neg => rw [if_neg hlen] at h; exact absurd h (by simp)
  rw [if_pos hlen] at h
  have hl0 := cut_Sort.l0_eq l0 (by omega) l0.length 0 [] (l0.length + 12) (by omega) (by simp) (Nat.le_refl _)
  rw [List.drop_zero, List.nil_append] at hl0
  have HRR := Aside0.mk (Option.some.inj h)
  have HLEN := Aside0.mk hlen
  clear h hlen
  generalize hk0 : l0.length + 12 = k' at hl0
  clear hk0
  obtain ⟨r', hr'⟩ : ∃ r', r' = l0.map cnC := ⟨_, rfl⟩
  rw [← hr'] at hl0
  have HR' := Aside0.mk hr'
  clear hr'
  have HR0 := Aside0.mk hr0
  have HC0 := Aside0.mk hc0
  clear hr0 hc0
  have HB := Aside0.mk (Below.refl w.heap.size w)
  have H : (cut_Sort.l0 k' ([] : List (S23)) l0 (l0.length : Int) 0) = some r' := hl0
  clear hl0
  have H' := Aside0.mk H
  clear H
  go_enter Try.func37, Try.ntmps37
  go_wp2
  go_loopg [3, 8] k' (fun kq v3 v8 w' => ∃ (x3_1 : List (S23)) (x8_1 : Int), v8 = .int .i64 x8_1 ∧ Aside0 (cut_Sort.l0 kq x3_1 l0 (l0.length : Int) x8_1 = some r') ∧ Aside0 (kq ≤ k') ∧ Aside0 (Kd.R k23 23 w' w.heap.size (fun _ => True) v3 x3_1) ∧ Aside0 (Below w.heap.size w w'))
  case atStart => exact ⟨(([] : List (S23))), (0), (by first | rfl | (simp; done) | (simp [*]; done)), H', ⟨Nat.le_refl _⟩, ⟨by first | exact Kd.R_nil _ _ _ _ _ | exact Kd.N_nil _ _ _ _ _ | exact Kd.V_nil _ _ _ _ _ | exact Kd.Q_nil _ _ _ _ _ | exact Kd.S_nil _ _ _ _ _⟩, ⟨by repeat (first | (with_reducible first | exact HB.out | apply below_alloc | apply pw_below_drewN | apply below_drew1) | exact HB.out)⟩⟩
  case round =>
    clear H'
    obtain ⟨x3_1, x8_1, rfl, HA, HK1, HO_3, HB⟩ := hrel
    cases gk with
    | zero => exact absurd HA.out (by simp [cut_Sort.l0])
    | succ k1 =>
      have H := HA.out
      clear HA
      simp only [cut_Sort.l0] at H
      by_cases c2 : x8_1 < (l0.length : Int)
      · rw [if_pos c2] at H
        have c2b0 : decide (x8_1 < (l0.length : Int)) = true := decide_eq_true c2
        clear c2
        by_cases c3 : 0 ≤ x8_1
        · rw [if_pos c3] at H
          have c3b0 : decide (0 ≤ x8_1) = true := decide_eq_true c3
          clear c3
          by_cases c4 : x8_1 < (l0.length : Int)
          · rw [if_pos c4] at H
            have c4b0 : decide (x8_1 < (l0.length : Int)) = true := decide_eq_true c4
            clear c4
            replace H := Option.bind_eq_some_iff.mp H
            obtain ⟨⟨t208, t209⟩, A50, H⟩ := H
            replace H : (if x3_1.length < 8796093022208 then (cut_Sort.l0 k1 (x3_1 ++ [(⟨t208, t209⟩ : S23)]) l0 (l0.length : Int) (wrap64 (x8_1 + 1))) else (none)) = some r' := H
            have A5 := Aside0.mk A50
            clear A50
            by_cases c6 : x3_1.length < 8796093022208
            · rw [if_pos c6] at H
              have LMc6 := Aside0.mk c6
              clear c6
              obtain ⟨y210, hy210⟩ : ∃ y_ : List (S23), y_ = (x3_1 ++ [(⟨t208, t209⟩ : S23)]) := ⟨_, rfl⟩
              replace H : (cut_Sort.l0 k1 y210 l0 (l0.length : Int) (wrap64 (x8_1 + 1))) = some r' := by first | (rw [hy210]; with_reducible exact H) | (have H2_ := (Option.bind_some _ _).symm.trans H; rw [hy210]; with_reducible exact H2_) | (have H2_ := (Option.bind_some _ _).symm.trans H; with_reducible exact H2_) | with_reducible exact H | (rw [hy210]; exact H) | exact H
              have Ny210 := Aside0.mk hy210
              clear hy210
              have H' := Aside0.mk H
              clear H
              have p206 : 0 ≤ (x8_1 : Int) := of_decide_eq_true (by first | (with_reducible assumption) | assumption)
              have q206 : x8_1 < (l0.length : Int) := of_decide_eq_true (by first | (with_reducible assumption) | assumption)
              obtain ⟨ad206, e206, hx206_0, hx206_1⟩ := at_T23 HR0.out x8_1 p206 q206
              cases e206
              replace hx206_0 := (HB.out.cell (World.block_lt_of_cell? w _ hx206_0)).trans hx206_0
              replace hx206_1 := (HB.out.cell (World.block_lt_of_cell? w _ hx206_1)).trans hx206_1
              replace p206 := eq_true p206
              replace q206 := eq_true q206
              go_wp2_with (first | ((with_reducible refine gate_dst (N := 5) rfl ?_); refine box_event ?hg (N := 5) ?hd (cs := #[.int .i64 0, .int .i64 0]) (t := 23) ?hr ?_; (case hd => rfl); (case hg => rfl); (case hr => first | (go_simp; done) | (go_simp; rfl)); intro gb207 hg w7 hbox hb; have n0_ := Aside0.mk (Kd.R_below (Kd.R_elderB (by (with_reducible repeat (first | apply Kd.R_alloc | apply Kd.R_drewN | apply Kd.R_drew)); exact HO_3.out) gb207 (Nat.le_of_eq hg.symm)) hb); have n1_ := Aside0.mk (below_step (by repeat (first | (with_reducible first | exact HB.out | apply below_alloc | apply pw_below_drewN | apply below_drew1) | exact HB.out)) hb); have n2_ := Aside0.mk (hbox); have n3_ := Aside0.mk ((by rw [hg]; exact (below_size (by repeat (first | (with_reducible first | exact HB.out | apply below_alloc | apply pw_below_drewN | apply below_drew1) | exact HB.out))) : w.heap.size ≤ gb207)); have n4_ := Aside0.mk ((by rw [hg]; exact (below_size (by repeat (first | (with_reducible first | exact HB.out | apply below_alloc | apply pw_below_drewN | apply below_drew1) | exact HB.out))) : w.heap.size ≤ gb207)); clear HO_3; clear HB; have HO_3 := n0_; have HB := n1_; have BK207 := n2_; have GW207 := n3_; have GE207 := n4_; clear n0_ n1_ n2_ n3_ n4_; clear hb hbox hg; have hcz8_0 : w7.cell? ⟨gb207, 0, none⟩ = some (.int .i64 0) := (blk_cell BK207.out 0).trans rfl; have hcz8_1 : w7.cell? ⟨gb207, 1, none⟩ = some (.int .i64 0) := (blk_cell BK207.out 1).trans rfl; have hfz8_0 := blk_frozen BK207.out 0; have hfz8_1 := blk_frozen BK207.out 1) | ((with_reducible refine gate_callee (f := 15) rfl ?_); refine goesL_ (some 14) rfl rfl Try.func15 (by kernel_rfl) rfl #[.agg #[.int .i64 ((rd_T23 l0 x8_1).f0), .int .i64 ((rd_T23 l0 x8_1).f1)]] rfl (by (try simp only [List.map_toArray, List.map_cons, List.map_nil]); first | done | rfl | (simp only [List.length_drop, List.length_take]; rfl)) ?_; (with_reducible refine (cut_Canon.calls k1 ((rd_T23 l0 x8_1).f0) ((rd_T23 l0 x8_1).f1) t208 t209 _ A5.out).mono ?_); rintro e w9 ⟨rfl, hb⟩; refine ⟨_, rfl, ?_⟩; have n0_ := Aside0.mk (Kd.R_below (by (with_reducible repeat (first | apply Kd.R_alloc | apply Kd.R_drewN | apply Kd.R_drew)); exact (Kd.R_mono (Kd.R_far (p := ⟨gb207, 1, none⟩) (Kd.R_far (p := ⟨gb207, 0, none⟩) (Kd.R_mono HO_3.out (fun k_ hk => (⟨hk, hk.2⟩ : _ ∧ k_ ≠ gb207))) (fun _ hk => hk.2) (.int .i64 ((rd_T23 l0 x8_1).f0))) (fun _ hk => hk.2) (.int .i64 ((rd_T23 l0 x8_1).f1))) (fun _ h_ => h_.1))) hb); have n1_ := Aside0.mk (blk_below (g := gb207) (o := .cells #[.int .i64 ((rd_T23 l0 x8_1).f0), .int .i64 ((rd_T23 l0 x8_1).f1)] 23 (0, 0)) (by (with_reducible repeat (first | refine blk_drewN ?_ _ | refine blk_drew ?_ | refine blk_alloc ?_ _)); refine blk_put (cs := #[.int .i64 ((rd_T23 l0 x8_1).f0), .int .i64 0]) ?_ 1 _ rfl; (with_reducible repeat (first | refine blk_drewN ?_ _ | refine blk_drew ?_ | refine blk_alloc ?_ _)); refine blk_put (cs := #[.int .i64 0, .int .i64 0]) ?_ 0 _ rfl; (with_reducible repeat (first | refine blk_drewN ?_ _ | refine blk_drew ?_ | refine blk_alloc ?_ _)); exact BK207.out) hb); have n2_ := Aside0.mk (below_step (by repeat (first | (with_reducible first | exact HB.out | apply below_alloc | apply pw_below_drewN | apply below_drew1 | refine below_set ?_ GE207.out) | exact HB.out)) hb); clear HO_3; clear BK207; clear HB; have HO_3 := n0_; have BK207 := n1_; have HB := n2_; clear n0_ n1_ n2_; (try clear hb); (try clear hb2); (try clear hk); (try clear hi)) | ((with_reducible refine gate_builtin (b := .append) (xs := #[.tmp 12, .tmp 15]) rfl ?_); at_builtin; refine Kd.R_append k23 (w0 := w) w.heap.size rfl (.tmp 12) (.tmp 15) 44 23 (.agg #[(.int .i64 0), (.int .i64 0)]) 16 rfl Try.underlying44 info23 rfl (by decide) (by omega) u3 x3_1 (⟨t208, t209⟩ : S23) [.int .i64 t208, .int .i64 t209] (fun k_ => k_ ≠ gb207) (fun _ => False) rfl rfl ?aP (fun _ hk => hk.elim) ?aF ?aO ?aB ?aS ?aL ?_; (case aP => exact k23_mkM _ _ _ (⟨t208, t209⟩ : S23)); (case aB => exact (by repeat (first | (with_reducible first | exact HB.out | apply below_alloc | apply pw_below_drewN | apply below_drew1 | refine below_set ?_ GE207.out) | exact HB.out))); (case aF => exact (fun k_ hk => Kd.freshB (g := gb207) (o := .cells #[.int .i64 ((rd_T23 l0 x8_1).f0), .int .i64 ((rd_T23 l0 x8_1).f1)] 23 (0, 0)) (by (with_reducible repeat (first | refine blk_drewN ?_ _ | refine blk_drew ?_ | refine blk_alloc ?_ _)); exact BK207.out) k_ hk)); (case aO => exact (by (with_reducible repeat (first | apply Kd.R_alloc | apply Kd.R_drewN | apply Kd.R_drew)); exact Kd.R_mono HO_3.out (fun _ hk => hk.2))); (case aS => exact (below_size (by repeat (first | (with_reducible first | exact HB.out | apply below_alloc | apply pw_below_drewN | apply below_drew1 | refine below_set ?_ GE207.out) | exact HB.out)))); (case aL => have := LMc6.out; omega); intro v211 w10 ho hb hg hat; rw [← Ny210.out] at ho; have n0_ := Aside0.mk (blk_grown (g := gb207) (o := .cells #[.int .i64 ((rd_T23 l0 x8_1).f0), .int .i64 ((rd_T23 l0 x8_1).f1)] 23 (0, 0)) (by (with_reducible repeat (first | refine blk_drewN ?_ _ | refine blk_drew ?_ | refine blk_alloc ?_ _)); exact BK207.out) hg (Kd.R_away HO_3.out (fun _ hk => hk.2))); have n1_ := Aside0.mk (hb); have n2_ := Aside0.mk (ho); clear BK207; clear HB; clear HO_3; have BK207 := n0_; have HB := n1_; have HO212 := n2_; clear n0_ n1_ n2_; clear ho hb hg hat))
              go_roundg k1
              case measure => have := HK1.out; omega
              case rel => exact ⟨(y210), (wrap64 (x8_1 + 1)), (by first | rfl | (simp; done) | (simp [*]; done)), H', ⟨by have := HK1.out; omega⟩, ⟨by (with_reducible repeat (first | apply Kd.R_alloc | apply Kd.R_drewN | apply Kd.R_drew)); exact Kd.R_mono HO212.out (fun _ hk => trivial)⟩, ⟨by repeat (first | (with_reducible first | exact HB.out | apply below_alloc | apply pw_below_drewN | apply below_drew1 | refine below_set ?_ GE207.out) | exact HB.out)⟩⟩
            · rw [if_neg c6] at H
              exact absurd H (by simp)
          · rw [if_neg c4] at H
            exact absurd H (by simp)
        · rw [if_neg c3] at H
          exact absurd H (by simp)
      · rw [if_neg c2] at H
        have c2b0 : decide (x8_1 < (l0.length : Int)) = false := decide_eq_false c2
        clear c2
        have hx := Option.some.inj H
        clear H
        rw [HR'.out] at hx
        rcases PrintG.own_of_R HO_3.out with ⟨rfl, hnil⟩ | ⟨g, cap, rfl, hg, hcap, hmax, hown⟩
        · have hsn := PrintG.sortNone (.func (.func 16) #[] #[])
          have hun := PrintG.uniqNone
          rw [hnil] at hx
          have hx' := Aside0.mk hx
          clear hx hnil
          go_wp2_with (first | (go_at_call 55; refine (hsn _).mono ?_; rintro e w' ⟨rfl, rfl⟩) | (go_at_call 56; refine (hun _).mono ?_; rintro e w' ⟨rfl, rfl⟩))
          go_ret
          refine ⟨_, rfl, ?_, HB.out⟩
          rw [← HRR.out, ← hx'.out]
          exact Kd.R_nil _ _ _ _ _
        · have hlx : x3_1.length ≤ 1000000 := by rw [hx, List.length_map]; have := HLEN.out; omega
          have SO : ∀ W, PrintG.OwnP W g cap (x3_1.map ct) → Calls Try.prog 55 #[.slice (some ⟨g, 0, none⟩) x3_1.length cap, .func (.func 16) #[] #[]] W fun e w' => e = .returned (.tuple #[]) ∧ ∃ d : List (Int × Int), d.Perm (x3_1.map ct) ∧ d.Pairwise (fun x y => Go.Proofs.ltOf PrintG.cfP y x = false) ∧ PrintG.OwnP w' g cap d ∧ Go.RowKit.Below g W w' := fun W hW => by
            have h := PrintG.sortP g cap (x3_1.map ct) W hW (by rw [List.length_map]; exact hlx)
            rw [List.length_map] at h
            exact h
          have UN : ∀ W (d : List (Int × Int)), d.length = x3_1.length → PrintG.OwnP W g cap d → Calls Try.prog 56 #[.slice (some ⟨g, 0, none⟩) x3_1.length cap] W fun e w' => e = .returned (.slice (some ⟨g, 0, none⟩) (Go.Lib.compactUpTo d.toArray d.length).length cap) ∧ PrintG.OwnP w' g cap (Go.Lib.compactUpTo d.toArray d.length) ∧ Go.RowKit.Below g W w' := fun W d hd hW => by
            have h := PrintG.uniqP g cap d W hW (by omega) (by omega)
            rw [hd] at h ⊢
            exact h
          have SO_ := Aside0.mk SO
          have UN_ := Aside0.mk UN
          have HOWN := Aside0.mk hown
          have HX := Aside0.mk hx
          have HG := Aside0.mk hg
          have HMAX := Aside0.mk hmax
          clear SO UN hown hx hg hmax hlx hcap HO_3
          go_wp2_with (first
            | (go_at_call 55; refine (SO_.out _ HOWN.out).mono ?_; rintro e w1 ⟨rfl, d, hp, hs, ho, hb⟩; have HP := Aside0.mk hp; have HS := Aside0.mk hs; have HO := Aside0.mk ho; have HB1 := Aside0.mk hb; clear hp hs ho hb)
            | (go_at_call 56; refine (UN_.out _ d (HP.out.length_eq.trans (List.length_map ..)) HO.out).mono ?_; rintro e w2 ⟨rfl, ho, hb⟩; have HO2 := Aside0.mk ho; have HB2 := Aside0.mk hb; clear ho hb))
          go_ret
          have hsu := PrintG.sorted_uniq x3_1 (by rw [HX.out]; intro c hc; obtain ⟨q, _, rfl⟩ := List.mem_map.1 hc; exact cn_canon q) d HP.out HS.out
          have e1 : r = (Go.Lib.compactUpTo d.toArray d.length).map tc := by rw [hsu, HX.out]; exact HRR.out.symm
          refine ⟨_, rfl, ?_, (HB.out.trans (HB1.out.mono HG.out)).trans (HB2.out.mono HG.out)⟩
          rw [e1]
          exact PrintG.R_of_own HO2.out HG.out HMAX.out
end Go.Proofs.Ytihhagfdfhojnaa.Print
