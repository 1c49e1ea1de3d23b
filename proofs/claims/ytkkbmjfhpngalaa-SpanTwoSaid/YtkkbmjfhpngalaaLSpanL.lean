import Derived.Test.YtkkbmjfhpngalaaPrint1
import Derived.Test.YtkkbmjfhpngalaaPrint2
import Derived.Test.YtkkbmjfhpngalaaLSpanA
namespace Go.Proofs.Ytkkbmjfhpngalaa.Print
open Go.RowKit Go.Proofs.YtkkbmjfhpngalaaW.PrintWords Go.Proofs.YtkkbmjfhpngalaaW.PrintLast
set_option linter.unusedVariables false
set_option linter.unusedSimpArgs false
/-- a span's two cuts -/
def lo (x : Sp) : Int × Int := (x.f0.f0, x.f0.f1)
def hi (x : Sp) : Int × Int := (x.f1.f0, x.f1.f1)
def sp (p q : Int × Int) : Sp := ⟨⟨p.1, p.2⟩, ⟨q.1, q.2⟩⟩
theorem sp_lo_hi (x : Sp) : sp (lo x) (hi x) = x := rfl
/-- is it right -/
def RX (x : Sp) : Bool := decide (RS (lo x) (hi x))
/-- have two a number or a cut in common -/
def OV (x y : Sp) : Bool := decide (RS (lo x) (hi x) ∧ RS (lo y) (hi y) ∧ cmp2 (maxC (lo x) (lo y)) (minC (hi x) (hi y)) < 0)
def TC (x y : Sp) : Bool := decide (RS (lo x) (hi x) ∧ RS (lo y) (hi y) ∧ (hi x = lo y ∨ hi y = lo x))
def HU (x y : Sp) : Sp := if RS (lo x) (hi x) ∧ RS (lo y) (hi y) then sp (minC (lo x) (lo y)) (maxC (hi x) (hi y)) else sp (0, 0) (0, 0)
/-- one more comes to a row that is as few as can be -/
def joinS (out : List Sp) (s : Sp) : List Sp :=
  match out.getLast? with
  | some o => if OV o s = true ∨ TC o s = true then out.dropLast ++ [HU o s] else out ++ [s]
  | none => out ++ [s]
def stepS (out : List Sp) (s : Sp) : List Sp := if RX s = true then joinS out s else out
/-- which of two stands ahead, or neither -/
def leS (x y : Sp) : Bool := decide (¬ (cmp2 (canon y.f0.f0 y.f0.f1) (canon x.f0.f0 x.f0.f1) < 0 ∨ (cmp2 (canon y.f0.f0 y.f0.f1) (canon x.f0.f0 x.f0.f1) = 0 ∧ cmp2 (canon y.f1.f0 y.f1.f1) (canon x.f1.f0 x.f1.f1) < 0)))
def insS (x : Sp) : List Sp → List Sp
  | [] => [x]
  | y :: l => if leS x y = true then x :: y :: l else y :: insS x l
def sortS (l : List Sp) : List Sp := l.foldr insS []
/-- all numbers of some, in as few as can be -/
def listS (l : List Sp) : List Sp := (sortS (l.filter RX)).foldl joinS []
def span_List.f (k : Nat) (l0 : List Sp) : Option (List Sp) := if l0.length < 1000000 then some (listS l0) else none
theorem span_List.mono : ∀ a0 k, LeO (span_List.f k a0) (span_List.f (k + 1) a0) := fun _ _ => LeO.refl _
/-! the order -/
theorem lex_lt {p q : Int × Int} : cmp2 p q < 0 ↔ p.1 < q.1 ∨ (p.1 = q.1 ∧ p.2 < q.2) := by
  rcases cmp2_cases p q with ⟨h, g⟩ | ⟨h, g⟩ | ⟨h, g⟩
  · rw [h]; exact ⟨fun _ => g, fun _ => by decide⟩
  · rw [h]; exact ⟨fun e => absurd e (by decide), fun e => by omega⟩
  · rw [h, g]; exact ⟨fun e => absurd e (by decide), fun e => by omega⟩
theorem lex_eq {p q : Int × Int} : cmp2 p q = 0 ↔ p = q := by
  rcases cmp2_cases p q with ⟨h, g⟩ | ⟨h, g⟩ | ⟨h, g⟩
  · rw [h]; exact ⟨fun e => absurd e (by decide), fun e => by subst e; omega⟩
  · rw [h]; exact ⟨fun e => absurd e (by decide), fun e => by subst e; omega⟩
  · exact ⟨fun _ => g, fun _ => h⟩
theorem lex_gt {p q : Int × Int} : cmp2 p q > 0 ↔ cmp2 q p < 0 := by
  rw [cmp2_swap p q]; omega
theorem leS_iff (x y : Sp) : leS x y = true ↔ ¬ (((canon y.f0.f0 y.f0.f1).1 < (canon x.f0.f0 x.f0.f1).1 ∨ ((canon y.f0.f0 y.f0.f1).1 = (canon x.f0.f0 x.f0.f1).1 ∧ (canon y.f0.f0 y.f0.f1).2 < (canon x.f0.f0 x.f0.f1).2)) ∨
    (((canon y.f0.f0 y.f0.f1).1 = (canon x.f0.f0 x.f0.f1).1 ∧ (canon y.f0.f0 y.f0.f1).2 = (canon x.f0.f0 x.f0.f1).2) ∧ ((canon y.f1.f0 y.f1.f1).1 < (canon x.f1.f0 x.f1.f1).1 ∨ ((canon y.f1.f0 y.f1.f1).1 = (canon x.f1.f0 x.f1.f1).1 ∧ (canon y.f1.f0 y.f1.f1).2 < (canon x.f1.f0 x.f1.f1).2)))) := by
  unfold leS
  rw [decide_eq_true_eq, lex_lt, lex_eq, lex_lt, Prod.ext_iff]
theorem leS_total (x y : Sp) : leS x y = true ∨ leS y x = true := by
  rw [leS_iff, leS_iff]; omega
theorem leS_trans (x y z : Sp) (h : leS x y = true) (g : leS y z = true) : leS x z = true := by
  rw [leS_iff] at *; omega
theorem RX_iff {x : Sp} : RX x = true ↔ RS (lo x) (hi x) := by unfold RX; rw [decide_eq_true_eq]
theorem leS_anti (x y : Sp) (hx : RX x = true) (hy : RX y = true) (h : leS x y = true) (g : leS y x = true) : x = y := by
  rw [leS_iff] at *
  rw [RX_iff] at *
  have e1 := hx.1
  have e2 := hx.2.1
  have e3 := hy.1
  have e4 := hy.2.1
  obtain ⟨⟨a, b⟩, ⟨c, d⟩⟩ := x
  obtain ⟨⟨a', b'⟩, ⟨c', d'⟩⟩ := y
  simp only [lo, hi] at *
  rw [e1, e2, e3, e4] at *
  dsimp only at h g
  have k1 : a = a' := by omega
  have k2 : b = b' := by omega
  have k3 : c = c' := by omega
  have k4 : d = d' := by omega
  rw [k1, k2, k3, k4]
theorem insS_perm (x : Sp) (l : List Sp) : (insS x l).Perm (x :: l) := by
  induction l with
  | nil => exact List.Perm.refl _
  | cons y l ih =>
    unfold insS
    by_cases h : leS x y = true
    · rw [if_pos h]
    · rw [if_neg h]; exact (List.Perm.cons y ih).trans (List.Perm.swap x y l)
theorem sortS_perm (l : List Sp) : (sortS l).Perm l := by
  induction l with
  | nil => exact List.Perm.refl _
  | cons x l ih => exact (insS_perm x _).trans (List.Perm.cons x ih)
theorem insS_sorted (x : Sp) (l : List Sp) (h : l.Pairwise (fun a b => leS a b = true)) : (insS x l).Pairwise (fun a b => leS a b = true) := by
  induction l with
  | nil => exact List.pairwise_singleton _ _
  | cons y l ih =>
    have h1 := (List.pairwise_cons.1 h).1
    have h2 := (List.pairwise_cons.1 h).2
    unfold insS
    by_cases hl : leS x y = true
    · rw [if_pos hl]
      refine List.pairwise_cons.2 ⟨fun b hb => ?_, h⟩
      rcases List.mem_cons.1 hb with rfl | hb
      · exact hl
      · exact leS_trans _ _ _ hl (h1 b hb)
    · rw [if_neg hl]
      refine List.pairwise_cons.2 ⟨fun b hb => ?_, ih h2⟩
      rcases List.mem_cons.1 ((insS_perm x l).mem_iff.1 hb) with rfl | hb
      · exact (leS_total y b).resolve_right hl
      · exact h1 b hb
theorem sortS_sorted (l : List Sp) : (sortS l).Pairwise (fun a b => leS a b = true) := by
  induction l with
  | nil => exact List.Pairwise.nil
  | cons x l ih => exact insS_sorted x _ ih
/-- any right order gives the same row -/
theorem listS_of (l d : List Sp) (hp : d.Perm l) (hs : d.Pairwise (fun a b => leS a b = true)) : d.foldl stepS [] = listS l := by
  have e : d.foldl stepS [] = (d.filter RX).foldl joinS [] := by
    rw [List.foldl_filter]
    congr 1
  rw [e]
  unfold listS
  congr 1
  refine List.Perm.eq_of_pairwise (le := fun a b => leS a b = true) ?_ (hs.filter _) (sortS_sorted _) ((hp.filter RX).trans (sortS_perm _).symm)
  intro a b ha hb h1 h2
  have ra := (List.mem_filter.1 ha).2
  have rb := (List.mem_filter.1 ((sortS_perm _).mem_iff.1 hb)).2
  exact leS_anti a b ra rb h1 h2

end Go.Proofs.Ytkkbmjfhpngalaa.Print
