import Derived.Test.YtpeidnkbliafkaaPrint3
import Derived.Test.YtpeidnkbliafkaaLBndT
namespace Go.Proofs.Ytpeidnkbliafkaa.Print
open Go.RowKit Go.Proofs.YtpeidnkbliafkaaW.PrintWords Go.Proofs.YtpeidnkbliafkaaW.PrintLast
set_option linter.unusedVariables false
set_option linter.unusedSimpArgs false
/-- an end's text: a word of infinity, or a number's -/
def EndOk (o : Bool) (w E : ByteArray) (k v : Int) : Prop := (E = w ∧ k = 0 ∧ v = 0) ∨ (k = 1 ∧ E = textOf v ∧ I64 v ∧ (o = false → v ≠ -9223372036854775808))
theorem textOf_first {v : Int} (hv : I64 v) : bt (textOf v) 0 = 45 ∨ (48 ≤ bt (textOf v) 0 ∧ bt (textOf v) 0 ≤ 57) := by
  obtain ⟨m, l1, l2, l3, l4⟩ := textOf_read hv (⟨#[]⟩ : ByteArray) (fun h => by have := h.1; exact absurd this (by show ¬ (0 < 0); decide))
  have hsz := textOf_size hv
  have hb : ∀ i : Nat, i < (textOf v).size → bt (textOf v ++ (⟨#[]⟩ : ByteArray)) (i : Int) = bt (textOf v) (i : Int) := fun i hi => by rw [bt_append, if_pos hi]
  have h0 := hb 0 (by omega)
  by_cases hf : 0 < fromOf (textOf v ++ (⟨#[]⟩ : ByteArray))
  · unfold fromOf at hf
    split at hf
    · rename_i h; left; rw [← h.2]; exact h0.symm
    · omega
  · have hd := (l1.good.dg 0 (by have := l2.1; omega)).2
    have e : fromOf (textOf v ++ (⟨#[]⟩ : ByteArray)) + 0 = 0 := by omega
    rw [e] at hd
    right
    have h0' : bt (textOf v ++ (⟨#[]⟩ : ByteArray)) 0 = bt (textOf v) 0 := h0
    rw [← h0']
    exact hd
theorem EndOk.first {o : Bool} {w E : ByteArray} {k v : Int} (hw : w = MI ∨ w = PI) (h : EndOk o w E k v) : 1 ≤ E.size ∧ E.size ≤ 20 ∧ bt E 0 ≠ 32 := by
  rcases h with ⟨rfl, _, _⟩ | ⟨_, rfl, hv, _⟩
  · rcases hw with rfl | rfl
    · exact ⟨by decide, by decide, by decide⟩
    · exact ⟨by decide, by decide, by decide⟩
  · have := textOf_size hv
    have := textOf_first hv
    omega
theorem endS_at {o : Bool} {w E : ByteArray} {k v : Int} (hw : w = MI ∨ w = PI) (h : EndOk o w E k v) (x R : ByteArray) (hR : ¬ isD R 0) (hz : R.size ≤ 100000) (hx : x.size ≤ 100000) :
    endS o (x ++ (E ++ R)) x.size w = some (k, v, x.size + E.size) := by
  have hE := h.first hw
  have hs : (x ++ (E ++ R)).size ≤ 140737488351232 := by rw [ByteArray.size_append, ByteArray.size_append]; omega
  rcases h with ⟨rfl, rfl, rfl⟩ | ⟨rfl, rfl, hv, hm⟩
  · unfold endS
    have h4 : E.size = 4 := by rcases hw with rfl | rfl <;> rfl
    rw [if_pos (isW_at x E R), h4]
  · exact endS_num o hs hw (by rw [ext_rest]; exact nv_text o hv hm hR hz) (by omega)
theorem bt_cons (x y : ByteArray) (h : 1 ≤ x.size) : bt (x ++ y) 0 = bt x 0 := by
  have := bt_append (a := x) (b := y) 0
  rw [if_pos (by omega)] at this
  exact this
theorem sp_first (n : Nat) (y : ByteArray) : bt (sp32 n ++ y) 0 = if n = 0 then bt y 0 else 32 := by
  cases n with
  | zero => rw [if_pos rfl]; have := bt_at (sp32 0) y; rw [sp32_size] at this; exact this
  | succ n =>
    rw [if_neg (by omega)]
    have := bt_rep ⟨#[]⟩ (n + 1) y 0 (by omega)
    have e : (⟨#[]⟩ : ByteArray) ++ (sp32 (n + 1) ++ y) = sp32 (n + 1) ++ y := by apply ext_eq; rw [ByteArray.data_append]; simp
    rw [e] at this
    exact this
theorem one_first (c : UInt8) (y : ByteArray) : bt ((⟨#[c]⟩ : ByteArray) ++ y) 0 = (c.toNat : Int) := by
  rw [bt_cons _ _ (by show 1 ≤ 1; decide)]; rfl
theorem noD (n : Nat) (c : UInt8) (hc : (c.toNat : Int) < 48 ∨ 57 < (c.toNat : Int)) (y : ByteArray) : ¬ isD (sp32 n ++ ((⟨#[c]⟩ : ByteArray) ++ y)) 0 := by
  rintro ⟨_, h2, h3⟩
  have e : bt (sp32 n ++ ((⟨#[c]⟩ : ByteArray) ++ y)) ((0 : Nat) : Int) = if n = 0 then (c.toNat : Int) else 32 := by
    have := sp_first n ((⟨#[c]⟩ : ByteArray) ++ y)
    rw [one_first] at this
    exact this
  rw [e] at h2 h3
  split at h2 <;> omega
/-- a text of two ends with blanks between its parts -/
theorem rd_form {o : Bool} {n : Nat} (hn : o = false → n = 0) (hn2 : n ≤ 1000) {E1 E2 : ByteArray} {k1 v1 k2 v2 : Int} (h1 : EndOk o MI E1 k1 v1) (h2 : EndOk o PI E2 k2 v2) {op cl : Bool} (hop : o = false → (op = true ↔ k1 = 0)) (hcl : cl = true → o = true)
    (rest : ByteArray) (hr : rest.size ≤ 10000) {s : ByteArray}
    (hs : s = (⟨#[if op then 40 else 91]⟩ : ByteArray) ++ (sp32 n ++ (E1 ++ (sp32 n ++ ((⟨#[44]⟩ : ByteArray) ++ (sp32 n ++ (E2 ++ (sp32 n ++ ((⟨#[if cl then 93 else 41]⟩ : ByteArray) ++ rest))))))))) :
    rdS o s = tellS (if k1 = 1 ∧ op = false then 2 else k1) v1 (if k2 = 1 ∧ cl = true then 2 else k2) v2 (1 + n + E1.size + n + 1 + n) (1 + n + E1.size + n + 1 + n + E2.size + n + 1) := by
  obtain ⟨a1, a2, a3⟩ := h1.first (.inl rfl)
  obtain ⟨b1, b2, b3⟩ := h2.first (.inr rfl)
  generalize hO : (⟨#[if op then 40 else 91]⟩ : ByteArray) = O at hs
  have zO : O.size = 1 := by rw [← hO]; rfl
  generalize hX : (⟨#[if cl then 93 else 41]⟩ : ByteArray) ++ rest = X at hs
  have zX : X.size ≤ 10001 := by rw [← hX, ByteArray.size_append]; show 1 + rest.size ≤ 10001; omega
  have zn := sp32_size n
  -- the text at its places
  have t1 : s = O ++ (sp32 n ++ (E1 ++ (sp32 n ++ ((⟨#[44]⟩ : ByteArray) ++ (sp32 n ++ (E2 ++ (sp32 n ++ X))))))) := hs
  have t2 : s = (O ++ sp32 n) ++ (E1 ++ (sp32 n ++ ((⟨#[44]⟩ : ByteArray) ++ (sp32 n ++ (E2 ++ (sp32 n ++ X)))))) := by rw [t1]; simp only [bapp]
  have t3 : s = (O ++ sp32 n ++ E1) ++ (sp32 n ++ ((⟨#[44]⟩ : ByteArray) ++ (sp32 n ++ (E2 ++ (sp32 n ++ X))))) := by rw [t1]; simp only [bapp]
  have t4 : s = (O ++ sp32 n ++ E1 ++ sp32 n) ++ ((⟨#[44]⟩ : ByteArray) ++ (sp32 n ++ (E2 ++ (sp32 n ++ X)))) := by rw [t1]; simp only [bapp]
  have t5 : s = (O ++ sp32 n ++ E1 ++ sp32 n ++ (⟨#[44]⟩ : ByteArray)) ++ (sp32 n ++ (E2 ++ (sp32 n ++ X))) := by rw [t1]; simp only [bapp]
  have t6 : s = (O ++ sp32 n ++ E1 ++ sp32 n ++ (⟨#[44]⟩ : ByteArray) ++ sp32 n) ++ (E2 ++ (sp32 n ++ X)) := by rw [t1]; simp only [bapp]
  have t7 : s = (O ++ sp32 n ++ E1 ++ sp32 n ++ (⟨#[44]⟩ : ByteArray) ++ sp32 n ++ E2) ++ (sp32 n ++ X) := by rw [t1]; simp only [bapp]
  have t8 : s = (O ++ sp32 n ++ E1 ++ sp32 n ++ (⟨#[44]⟩ : ByteArray) ++ sp32 n ++ E2 ++ sp32 n) ++ X := by rw [t1]; simp only [bapp]
  have z2 : (O ++ sp32 n).size = 1 + n := by simp only [ByteArray.size_append, zO, zn]
  have z3 : (O ++ sp32 n ++ E1).size = 1 + n + E1.size := by rw [ByteArray.size_append, z2]
  have z4 : (O ++ sp32 n ++ E1 ++ sp32 n).size = 1 + n + E1.size + n := by rw [ByteArray.size_append, z3, zn]
  have z5 : (O ++ sp32 n ++ E1 ++ sp32 n ++ (⟨#[44]⟩ : ByteArray)).size = 1 + n + E1.size + n + 1 := by rw [ByteArray.size_append, z4]; rfl
  have z6 : (O ++ sp32 n ++ E1 ++ sp32 n ++ (⟨#[44]⟩ : ByteArray) ++ sp32 n).size = 1 + n + E1.size + n + 1 + n := by rw [ByteArray.size_append, z5, zn]
  have z7 : (O ++ sp32 n ++ E1 ++ sp32 n ++ (⟨#[44]⟩ : ByteArray) ++ sp32 n ++ E2).size = 1 + n + E1.size + n + 1 + n + E2.size := by rw [ByteArray.size_append, z6]
  have z8 : (O ++ sp32 n ++ E1 ++ sp32 n ++ (⟨#[44]⟩ : ByteArray) ++ sp32 n ++ E2 ++ sp32 n).size = 1 + n + E1.size + n + 1 + n + E2.size + n := by rw [ByteArray.size_append, z7, zn]
  -- the steps
  have p1 : blO o s 1 = 1 + n := by
    have := blO_over o O n hn (E1 ++ (sp32 n ++ ((⟨#[44]⟩ : ByteArray) ++ (sp32 n ++ (E2 ++ (sp32 n ++ X)))))) (by rw [bt_cons _ _ a1]; exact a3)
    rw [← t1, zO] at this
    exact this
  have tl : (sp32 n ++ (E2 ++ (sp32 n ++ X))).size ≤ 50000 := by simp only [ByteArray.size_append, zn]; omega
  have p2 : endS o s (1 + n) MI = some (k1, v1, 1 + n + E1.size) := by
    have := endS_at (.inl rfl) h1 (O ++ sp32 n) (sp32 n ++ ((⟨#[44]⟩ : ByteArray) ++ (sp32 n ++ (E2 ++ (sp32 n ++ X))))) (noD n 44 (.inl (by decide)) _) (by rw [ByteArray.size_append, ByteArray.size_append, zn]; show n + (1 + _) ≤ _; omega) (by omega)
    rw [← t2, z2] at this
    exact this
  have p3 : blO o s (1 + n + E1.size) = 1 + n + E1.size + n := by
    have := blO_over o (O ++ sp32 n ++ E1) n hn ((⟨#[44]⟩ : ByteArray) ++ (sp32 n ++ (E2 ++ (sp32 n ++ X)))) (by rw [one_first]; decide)
    rw [← t3, z3] at this
    exact this
  have p4 : isC s (1 + n + E1.size + n) 44 = true := by
    have := isC_at (O ++ sp32 n ++ E1 ++ sp32 n) 44 (sp32 n ++ (E2 ++ (sp32 n ++ X)))
    rw [← t4, z4] at this
    exact this
  have p5 : blO o s (1 + n + E1.size + n + 1) = 1 + n + E1.size + n + 1 + n := by
    have := blO_over o (O ++ sp32 n ++ E1 ++ sp32 n ++ (⟨#[44]⟩ : ByteArray)) n hn (E2 ++ (sp32 n ++ X)) (by rw [bt_cons _ _ b1]; exact b3)
    rw [← t5, z5] at this
    exact this
  have hXd : ¬ isD (sp32 n ++ X) 0 := by rw [← hX]; exact noD n _ (by cases cl; exact .inl (by decide); exact .inr (by decide)) rest
  have hXf : bt X 0 = if cl = true then 93 else 41 := by rw [← hX, one_first]; cases cl <;> rfl
  have p6 : endS o s (1 + n + E1.size + n + 1 + n) PI = some (k2, v2, 1 + n + E1.size + n + 1 + n + E2.size) := by
    have := endS_at (.inr rfl) h2 (O ++ sp32 n ++ E1 ++ sp32 n ++ (⟨#[44]⟩ : ByteArray) ++ sp32 n) (sp32 n ++ X) hXd (by rw [ByteArray.size_append, zn]; omega) (by omega)
    rw [← t6, z6] at this
    exact this
  have p7 : blO o s (1 + n + E1.size + n + 1 + n + E2.size) = 1 + n + E1.size + n + 1 + n + E2.size + n := by
    have := blO_over o (O ++ sp32 n ++ E1 ++ sp32 n ++ (⟨#[44]⟩ : ByteArray) ++ sp32 n ++ E2) n hn X (by rw [hXf]; split <;> decide)
    rw [← t7, z7] at this
    exact this
  have p8 : isC s (1 + n + E1.size + n + 1 + n + E2.size + n) (if cl = true then 93 else 41) = true := by
    have := isC_at (O ++ sp32 n ++ E1 ++ sp32 n ++ (⟨#[44]⟩ : ByteArray) ++ sp32 n ++ E2 ++ sp32 n) (if cl then 93 else 41) rest
    rw [hX, ← t8, z8] at this
    cases cl
    · exact this
    · exact this
  have p0 : isC s 0 (if op = true then 40 else 91) = true := by
    have := isC_at (⟨#[]⟩ : ByteArray) (if op then 40 else 91) (sp32 n ++ (E1 ++ (sp32 n ++ ((⟨#[44]⟩ : ByteArray) ++ (sp32 n ++ (E2 ++ (sp32 n ++ X)))))))
    rw [hO, show (⟨#[]⟩ : ByteArray) ++ (O ++ (sp32 n ++ (E1 ++ (sp32 n ++ ((⟨#[44]⟩ : ByteArray) ++ (sp32 n ++ (E2 ++ (sp32 n ++ X)))))))) = s from by apply ext_eq; rw [ByteArray.data_append, ← t1]; simp] at this
    cases op
    · exact this
    · exact this
  have hrd : rdS o s = rd1 o s op := by
    unfold rdS
    cases op
    · have ne : ¬ isC s 0 40 = true := fun g => by have h1 := (isC_lt g).2; have h2 := (isC_lt p0).2; rw [if_neg Bool.false_ne_true] at h2; omega
      rw [if_neg ne]
      rw [if_neg Bool.false_ne_true] at p0
      rw [if_pos p0]
    · rw [if_pos rfl] at p0
      rw [if_pos p0]
  rw [hrd]
  unfold rd1
  rw [p1, p2]
  show (if o = false ∧ (op != isW s (1 + n) MI) = true then _ else rd2 o s (if k1 = 1 ∧ op = false then 2 else k1) v1 (1 + n + E1.size)) = _
  have hne : ¬ (o = false ∧ (op != isW s (1 + n) MI) = true) := by
    rintro ⟨ho, hx⟩
    have hi := hop ho
    have hw : isW s (1 + n) MI = op := by
      rcases h1 with ⟨e, e2, _⟩ | ⟨e, e2, hv, hm⟩
      · rw [hi.2 e2]
        have := isW_at (O ++ sp32 n) MI (sp32 n ++ ((⟨#[44]⟩ : ByteArray) ++ (sp32 n ++ (E2 ++ (sp32 n ++ X)))))
        rw [← e, ← t2, z2] at this
        rw [← e]; exact this
      · have ho2 : op = false := Bool.eq_false_iff.2 (fun g => by have := hi.1 g; omega)
        rw [ho2]
        refine Bool.eq_false_iff.2 (fun g => ?_)
        unfold endS at p2
        rw [if_pos g] at p2
        have := congrArg Prod.fst (Option.some.inj p2)
        have h0 : (0 : Int) = k1 := this
        omega
    rw [hw] at hx
    simp at hx
  rw [if_neg hne]
  unfold rd2
  rw [p3, if_pos p4, p5, p6]
  show rd3 o s (if k1 = 1 ∧ op = false then 2 else k1) v1 (1 + n + E1.size + n + 1 + n) k2 v2 (1 + n + E1.size + n + 1 + n + E2.size) = _
  unfold rd3
  rw [p7]
  cases cl
  · rw [if_neg Bool.false_ne_true] at p8
    have ne : ¬ (o = true ∧ isC s (1 + n + E1.size + n + 1 + n + E2.size + n) 93 = true) := fun g => by have h1 := (isC_lt g.2).2; have h2 := (isC_lt p8).2; omega
    rw [if_neg ne, if_pos p8, if_neg (c := (k2 = 1 ∧ false = true)) (fun g => Bool.false_ne_true g.2)]
  · rw [if_pos rfl] at p8
    rw [if_pos ⟨hcl rfl, p8⟩]
    congr 1
    by_cases h : k2 = 1
    · rw [if_pos h, if_pos ⟨h, rfl⟩]
    · rw [if_neg h, if_neg (fun g => h g.1)]

end Go.Proofs.Ytpeidnkbliafkaa.Print
