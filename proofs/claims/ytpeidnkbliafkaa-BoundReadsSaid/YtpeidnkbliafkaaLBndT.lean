import Derived.Test.YtpeidnkbliafkaaPrint3
import Derived.Test.YtpeidnkbliafkaaLBndP
namespace Go.Proofs.Ytpeidnkbliafkaa.Print
open Go.RowKit Go.Proofs.YtpeidnkbliafkaaW.PrintWords Go.Proofs.YtpeidnkbliafkaaW.PrintLast
set_option linter.unusedVariables false
set_option linter.unusedSimpArgs false
theorem ext_eq {a b : ByteArray} (h : a.data = b.data) : a = b := ByteArray.ext h
theorem ext_none (x : ByteArray) (n : Nat) : x.data.extract x.size n = #[] := by
  apply Array.extract_eq_empty_of_le
  show min _ x.data.size ≤ x.data.size
  omega
theorem ext_all (y : ByteArray) : y.data.extract 0 y.size = y.data := by
  show y.data.extract 0 y.data.size = y.data
  exact Array.extract_size
theorem ext_rest (x y : ByteArray) : (x ++ y).extract x.size (x ++ y).size = y := by
  apply ext_eq
  rw [ByteArray.data_extract, ByteArray.data_append]
  show (x.data ++ y.data).extract x.data.size (x ++ y).data.size = y.data
  rw [ByteArray.data_append, Array.size_append, Array.extract_append]
  simp [ext_none, ext_all]
theorem ext_mid (x w y : ByteArray) : (x ++ (w ++ y)).extract x.size (x.size + w.size) = w := by
  apply ext_eq
  rw [ByteArray.data_extract, ByteArray.data_append, ByteArray.data_append]
  show (x.data ++ (w.data ++ y.data)).extract x.data.size (x.data.size + w.data.size) = w.data
  rw [Array.extract_append, Array.extract_append]
  simp [ext_none, ext_all]
theorem bapp (x y z : ByteArray) : x ++ y ++ z = x ++ (y ++ z) := ByteArray.append_assoc
theorem isW_at (x w y : ByteArray) : isW (x ++ (w ++ y)) x.size w = true := by
  unfold isW
  rw [Bool.and_eq_true, decide_eq_true_eq, beq_iff_eq, ext_mid]
  refine ⟨?_, rfl⟩
  simp only [ByteArray.size_append]
  omega
theorem isC_at (x : ByteArray) (c : UInt8) (y : ByteArray) : isC (x ++ ((⟨#[c]⟩ : ByteArray) ++ y)) x.size (c.toNat : Int) = true := by
  rw [← isW_one]; exact isW_at x ⟨#[c]⟩ y
theorem bt_at (x y : ByteArray) : bt (x ++ y) (x.size : Int) = bt y 0 := by
  rw [bt_append, if_neg (Nat.lt_irrefl _), Nat.sub_self]; rfl
/-- no blank: the place stays -/
theorem blO_stay (o : Bool) {s : ByteArray} {a : Nat} (h : bt s (a : Int) ≠ 32) : blO o s a = a := by
  unfold blO
  cases o
  · rfl
  · rw [if_pos rfl]
    have e : isC s a 32 = false := decide_eq_false (fun g => h g.2)
    cases s.size - a with
    | zero => rfl
    | succ n => rw [blk, if_neg (by rw [e]; exact Bool.false_ne_true)]
theorem nv_inf' (o : Bool) {s : ByteArray} (hs : s.size ≤ 140737488351232) {a : Nat} {w : ByteArray} (hw : w = MI ∨ w = PI) (h : isW s a w = true) : (nv o (s.extract a s.size)).2 = 0 := by
  cases o
  · exact nv_inf hs hw h
  · have hp := Pre_of (by rcases hw with rfl | rfl <;> rfl) h
    obtain ⟨_, _, m, hl, e⟩ := num_loose (t := s.extract a s.size) (by rw [rest_size]; omega)
    rw [e, (readOf_no hl (hp.noNum hw m)).1]
theorem endS_num (o : Bool) {s : ByteArray} (hs : s.size ≤ 140737488351232) {a : Nat} {w : ByteArray} (hw : w = MI ∨ w = PI) {v : Int} {L : Nat} (h : nv o (s.extract a s.size) = (v, (L : Int))) (hL : 1 ≤ L) : endS o s a w = some (1, v, a + L) := by
  have hn : ¬ isW s a w = true := fun g => by
    have := nv_inf' o hs hw g
    rw [h] at this
    have h2 : (L : Int) = 0 := this
    omega
  unfold endS
  rw [if_neg hn, h, if_neg (show ¬ ((L : Int) = 0) by omega)]
  rfl
theorem nv_text (o : Bool) {v : Int} (hv : I64 v) (hm : o = false → v ≠ -9223372036854775808) {R : ByteArray} (hR : ¬ isD R 0) (hz : R.size ≤ 100000) : nv o (textOf v ++ R) = (v, ((textOf v).size : Int)) := by
  have hsz := textOf_size hv
  have ht : (textOf v ++ R).size ≤ 140737488351232 := by rw [ByteArray.size_append]; omega
  cases o
  · have hm := hm rfl
    have hc : CC (0, v) := .inr (.inr ⟨v, rfl, by unfold I64 at hv; omega, hv.2⟩)
    have hb := read_back hc R hR hz 500 (Nat.le_refl _)
    rw [show ctext (0, v) = textOf v from rfl] at hb
    obtain ⟨r, _, _, hp, _⟩ := num_strict ht
    have := hp 500 (Nat.le_refl _)
    unfold bound_plain.f at this
    rw [hb, Option.bind_some, if_pos rfl] at this
    exact (Option.some.inj this).symm
  · obtain ⟨_, _, m, hl, e⟩ := num_loose ht
    obtain ⟨m', l1, l2, l3, l4⟩ := textOf_read hv R hR
    rw [e, longest_uniq l1 hl, readOf_ok l1 l2, l3, l4]
/-- blanks -/
def sp32 (n : Nat) : ByteArray := ⟨(List.replicate n (32 : UInt8)).toArray⟩
theorem sp32_size (n : Nat) : (sp32 n).size = n := by unfold sp32 ByteArray.size; simp
theorem bt_rep (x : ByteArray) (n : Nat) (y : ByteArray) (i : Nat) (h : i < n) : bt (x ++ (sp32 n ++ y)) ((x.size + i : Nat) : Int) = 32 := by
  rw [bt_append, if_neg (by omega), show x.size + i - x.size = i by omega, bt_append, if_pos (by rw [sp32_size]; exact h), bt_lt (by rw [sp32_size]; exact h)]
  have : (sp32 n).data[i]'(by show i < (sp32 n).size; rw [sp32_size]; exact h) = 32 := by simp [sp32]
  rw [this]; rfl
theorem blk_over {s : ByteArray} {n : Nat} : ∀ (m a f : Nat), (∀ i, i < m → a + i < s.size ∧ bt s ((a + i : Nat) : Int) = 32) → bt s ((a + m : Nat) : Int) ≠ 32 → m ≤ f → blk s f a = a + m
  | 0, a, f, _, h, _ => by
    have e : isC s a 32 = false := decide_eq_false (fun g => h g.2)
    cases f with
    | zero => rfl
    | succ n => rw [blk, if_neg (by rw [e]; exact Bool.false_ne_true)]; rfl
  | m + 1, a, f, h1, h2, h3 => by
    obtain ⟨f, rfl⟩ : ∃ j, f = j + 1 := ⟨f - 1, by omega⟩
    have h0 := h1 0 (by omega)
    have e : isC s a 32 = true := decide_eq_true h0
    rw [blk, if_pos e, blk_over (n := n) m (a + 1) f (fun i hi => by have := h1 (i + 1) (by omega); rwa [show a + (i + 1) = a + 1 + i by omega] at this) (by rwa [show a + (m + 1) = a + 1 + m by omega] at h2) (by omega)]
    omega
/-- behind blanks -/
theorem blO_over (o : Bool) (x : ByteArray) (n : Nat) (hn : o = false → n = 0) (y : ByteArray) (hy : bt y 0 ≠ 32) : blO o (x ++ (sp32 n ++ y)) x.size = x.size + n := by
  have hlast : bt (x ++ (sp32 n ++ y)) ((x.size + n : Nat) : Int) ≠ 32 := by
    have := bt_at (x ++ sp32 n) y
    rw [bapp, ByteArray.size_append, sp32_size] at this
    rw [this]; exact hy
  cases o
  · rw [hn rfl]; rfl
  · unfold blO
    rw [if_pos rfl]
    have hsz : (x ++ (sp32 n ++ y)).size = x.size + (n + y.size) := by rw [ByteArray.size_append, ByteArray.size_append, sp32_size]
    exact blk_over (n := 0) n x.size _ (fun i hi => ⟨by omega, bt_rep x n y i hi⟩) hlast (by omega)

end Go.Proofs.Ytpeidnkbliafkaa.Print
