/- An interval as a person writes it, with blanks ahead of its parts, is the span of its bounds, or has no numbers (law04 BoundLoose), for every two bounds and number of blanks; no conditions. -/
import Derived.Test.YtpeidnkbliafkaaPrint17
import Derived.Test.YtpeidnkbliafkaaRBoundLoose
import Derived.Test.YtpeidnkbliafkaaLBndF
import Derived.Test.YtpeidnkbliafkaaLBndL
import Derived.Test.YtpeidnkbliafkaaLBndR
import Derived.Test.YtpeidnkbliafkaaLAlive04
namespace Go.Proofs.Ytpeidnkbliafkaa.Pure
open Go.RowKit Go.Proofs.Ytpeidnkbliafkaa.Print Go.Proofs.YtpeidnkbliafkaaW.PrintWords Go.Proofs.YtpeidnkbliafkaaW.PrintLast
set_option linter.unusedVariables false
set_option linter.unusedSimpArgs false
theorem spanB_err {la ha lk hk : Int} (h : (spanB la lk ha hk).2.2.2.2 ≠ 0) : (spanB la lk ha hk).1 = 0 ∧ (spanB la lk ha hk).2.1 = 0 ∧ (spanB la lk ha hk).2.2.1 = 0 ∧ (spanB la lk ha hk).2.2.2.1 = 0 := by
  unfold spanB at h ⊢
  split
  · exact ⟨rfl, rfl, rfl, rfl⟩
  · rename_i g
    rw [if_neg g] at h
    unfold spanOf at h ⊢
    split
    · rename_i g2; rw [if_pos g2] at h; exact absurd rfl h
    · exact ⟨rfl, rfl, rfl, rfl⟩
theorem sp_snoc (n : Nat) : sp32 n ++ (⟨#[32]⟩ : ByteArray) = sp32 (n + 1) := by
  apply ext_eq
  rw [ByteArray.data_append]
  unfold sp32
  rw [List.replicate_succ']
  show (List.replicate n (32 : UInt8)).toArray ++ [(32 : UInt8)].toArray = _
  rw [List.append_toArray]
theorem number_eq {v : Int} (hv : I64 v) (k : Nat) (hk : 30 ≤ k) : bocagelaw04_number.f k v = some (textOf v) := by
  unfold bocagelaw04_number.f
  rw [bocageref01_Text.eq hv k (by omega), Option.bind_some]
theorem blanks_l0 {la ha lk hk : Int} {n : Nat} (hn : n ≤ 20) : ∀ (d i k : Nat), i + d = n → bocagelaw04_BoundLoose.l0 (k + 1 + d) (n : Int) (sp32 i) (n : Int) (i : Int) lk la hk ha =
    if lk = 2 then bocagelaw04_BoundLoose.j2 k (n : Int) (sp32 n) (⟨#[91]⟩ : ByteArray) (⟨#[41]⟩ : ByteArray) lk la hk ha else bocagelaw04_BoundLoose.j2 k (n : Int) (sp32 n) (⟨#[40]⟩ : ByteArray) (⟨#[41]⟩ : ByteArray) lk la hk ha
  | 0, i, k, h => by
    obtain rfl : i = n := by omega
    rw [Nat.add_zero, bocagelaw04_BoundLoose.l0, if_neg (by omega)]
  | d + 1, i, k, h => by
    rw [show k + 1 + (d + 1) = (k + 1 + d) + 1 by omega, bocagelaw04_BoundLoose.l0, if_pos (by omega), if_pos (by rw [sp32_size]; omega), sp_snoc, wrap64_of (show I64 ((i : Int) + 1) by unfold I64; omega), show (i : Int) + 1 = ((i + 1 : Nat) : Int) by omega]
    exact blanks_l0 hn d (i + 1) k (by omega)
set_option maxHeartbeats 4000000 in
theorem loose_j3 {la ha lk hk : Int} (hla : I64 la) (hha : I64 ha) {n : Nat} (hn : n ≤ 20) {op cl : Bool} (h1 : lk = if op = true then 1 else 2) (h2 : hk = if cl = true then 2 else 1) (k : Nat) (hk2 : 3000 ≤ k) :
    bocagelaw04_BoundLoose.j3 (k + 1) (n : Int) (sp32 n) (⟨#[if op then 40 else 91]⟩ : ByteArray) (⟨#[if cl then 93 else 41]⟩ : ByteArray) lk la hk ha = some true := by
  have hA := bocagelaw04_alive.ge k (by omega)
  have s1 := textOf_size hla
  have s2 := textOf_size hha
  have zn := sp32_size n
  generalize hO : (⟨#[if op then 40 else 91]⟩ : ByteArray) = O
  generalize hX : (⟨#[if cl then 93 else 41]⟩ : ByteArray) = X
  have zO : O.size = 1 := by rw [← hO]; rfl
  have zX : X.size = 1 := by rw [← hX]; rfl
  have z44 : (⟨#[44]⟩ : ByteArray).size = 1 := rfl
  have z120 : (⟨#[120]⟩ : ByteArray).size = 1 := rfl
  rw [bocagelaw04_BoundLoose.j3, if_pos (by omega), number_eq hla k (by omega), Option.bind_some]
  rw [if_pos (by simp only [ByteArray.size_append]; omega), if_pos (by simp only [ByteArray.size_append]; omega), if_pos (by simp only [ByteArray.size_append]; omega), if_pos (by simp only [ByteArray.size_append]; omega), number_eq hha k (by omega), Option.bind_some]
  rw [if_pos (by simp only [ByteArray.size_append]; omega), if_pos (by simp only [ByteArray.size_append]; omega), if_pos (by simp only [ByteArray.size_append]; omega), if_pos (by simp only [ByteArray.size_append]; omega)]
  have q1 : (O ++ sp32 n).size + (textOf la).size ≤ 9223372036854775807 := by simp only [ByteArray.size_append]; omega
  have q2 : ((O ++ sp32 n) ++ textOf la).size + (sp32 n).size ≤ 9223372036854775807 := by simp only [ByteArray.size_append]; omega
  have q3 : (((O ++ sp32 n) ++ textOf la) ++ sp32 n).size + 1 ≤ 9223372036854775807 := by simp only [ByteArray.size_append]; omega
  have hT : rdS true (((((((((O ++ sp32 n) ++ textOf la) ++ sp32 n) ++ (⟨#[44]⟩ : ByteArray)) ++ sp32 n) ++ textOf ha) ++ sp32 n) ++ X) ++ (⟨#[120]⟩ : ByteArray)) = tellS lk la hk ha (1 + n + (textOf la).size + n + 1 + n) (1 + n + (textOf la).size + n + 1 + n + (textOf ha).size + n + 1) := by
    have := rd_form (o := true) (n := n) (fun g => absurd g (by decide)) (by omega) (E1 := textOf la) (E2 := textOf ha) (k1 := 1) (v1 := la) (k2 := 1) (v2 := ha) (.inr ⟨rfl, rfl, hla, fun g => absurd g (by decide)⟩) (.inr ⟨rfl, rfl, hha, fun g => absurd g (by decide)⟩) (op := op) (cl := cl) (fun g => absurd g (by decide)) (fun _ => rfl) (⟨#[120]⟩ : ByteArray) (by decide)
      (s := ((((((((O ++ sp32 n) ++ textOf la) ++ sp32 n) ++ (⟨#[44]⟩ : ByteArray)) ++ sp32 n) ++ textOf ha) ++ sp32 n) ++ X) ++ (⟨#[120]⟩ : ByteArray)) (by rw [hO, hX]; simp only [bapp])
    rw [this]
    have e1 : (if (1 : Int) = 1 ∧ op = false then 2 else 1) = lk := by rw [h1]; cases op <;> rfl
    have e2 : (if (1 : Int) = 1 ∧ cl = true then 2 else 1) = hk := by rw [h2]; cases cl <;> rfl
    rw [e1, e2]
  have hsz : (((((((((O ++ sp32 n) ++ textOf la) ++ sp32 n) ++ (⟨#[44]⟩ : ByteArray)) ++ sp32 n) ++ textOf ha) ++ sp32 n) ++ X) ++ (⟨#[120]⟩ : ByteArray)).size ≤ 1000 := by simp only [ByteArray.size_append]; omega
  have hsz2 : (((((((((O ++ sp32 n) ++ textOf la) ++ sp32 n) ++ (⟨#[44]⟩ : ByteArray)) ++ sp32 n) ++ textOf ha) ++ sp32 n) ++ X).size : Int) = ((1 + n + (textOf la).size + n + 1 + n + (textOf ha).size + n + 1 : Nat) : Int) := by
    congr 1
    simp only [ByteArray.size_append, zO, zX, zn, z44]
  have hsz3 : wrap64 ((((((O ++ sp32 n) ++ textOf la) ++ sp32 n) ++ (⟨#[44]⟩ : ByteArray)).size : Int) + (n : Int)) = ((1 + n + (textOf la).size + n + 1 + n : Nat) : Int) := by
    have e : ((((O ++ sp32 n) ++ textOf la) ++ sp32 n) ++ (⟨#[44]⟩ : ByteArray)).size = 1 + n + (textOf la).size + n + 1 := by simp only [ByteArray.size_append, zO, zn, z44]
    rw [e, wrap64_of (by unfold I64; omega)]
    omega
  rw [bound_Loose.eq (by omega) k (by omega), hT, Option.bind_some, bocageref04_Span.eq hla hha lk hk k (by omega), Option.bind_some, Option.bind_some]
  simp only [if_pos q1, if_pos q2, if_pos q3, hA, Option.bind_some, hsz2, hsz3, if_true]
  unfold tellS
  by_cases e : (spanB lk la hk ha).2.2.2.2 = 0
  · rw [if_pos e, if_pos (by simp), if_pos e.symm, if_pos rfl, if_pos rfl]
  · obtain ⟨e1, e2, e3, e4⟩ := spanB_err e
    rw [if_neg e, if_pos (by simp [e1, e2, e3, e4]), if_pos rfl, if_neg e]
    simp
theorem BoundLoose : bocagelaw04_BoundLoose.Pure := by
  intro lk la hk ha n hlk hla hhk hha hn
  have hla := I64.of_wf hla
  have hha := I64.of_wf hha
  refine ⟨4000, ?_⟩
  have hA := bocagelaw04_alive.ge 3999 (by omega)
  have hj : bocagelaw04_BoundLoose.j0 4000 n true lk la hk ha = some true := by
    rw [bocagelaw04_BoundLoose.j0, if_pos rfl, hA]; rfl
  unfold bocagelaw04_BoundLoose.f
  by_cases g1 : n < 0
  · rw [if_pos g1, hj]
  rw [if_neg g1]
  by_cases g2 : n > 20
  · rw [if_pos g2, hj]
  rw [if_neg g2]
  by_cases g3 : lk < 1
  · rw [if_pos g3, hj]
  rw [if_neg g3]
  by_cases g4 : lk > 2
  · rw [if_pos g4, hj]
  rw [if_neg g4]
  by_cases g5 : hk < 1
  · rw [if_pos g5, hj]
  rw [if_neg g5]
  by_cases g6 : hk > 2
  · rw [decide_eq_true g6, hj]
  obtain ⟨m, rfl⟩ : ∃ m : Nat, n = (m : Int) := ⟨n.toNat, by omega⟩
  rw [decide_eq_false g6, bocagelaw04_BoundLoose.j0, if_neg Bool.false_ne_true]
  obtain ⟨k, hk3, hk4⟩ : ∃ k, 3999 = k + 1 + m ∧ 3900 ≤ k := ⟨3998 - m, by omega, by omega⟩
  have e0 : bocagelaw04_BoundLoose.l0 3999 (m : Int) (⟨#[]⟩ : ByteArray) (m : Int) 0 lk la hk ha = if lk = 2 then bocagelaw04_BoundLoose.j2 k (m : Int) (sp32 m) (⟨#[91]⟩ : ByteArray) (⟨#[41]⟩ : ByteArray) lk la hk ha else bocagelaw04_BoundLoose.j2 k (m : Int) (sp32 m) (⟨#[40]⟩ : ByteArray) (⟨#[41]⟩ : ByteArray) lk la hk ha := by
    rw [hk3]
    exact blanks_l0 (la := la) (ha := ha) (lk := lk) (hk := hk) (n := m) (by omega) m 0 k (by omega)
  rw [e0]
  obtain ⟨k, rfl⟩ : ∃ j, k = j + 2 := ⟨k - 2, by omega⟩
  have key : ∀ op : Bool, lk = (if op = true then 1 else 2) → bocagelaw04_BoundLoose.j2 (k + 2) (m : Int) (sp32 m) (⟨#[if op then 40 else 91]⟩ : ByteArray) (⟨#[41]⟩ : ByteArray) lk la hk ha = some true := by
    intro op ho
    rw [bocagelaw04_BoundLoose.j2]
    by_cases e : hk = 2
    · rw [if_pos e]
      exact loose_j3 hla hha (by omega) (op := op) (cl := true) ho (by rw [if_pos rfl]; exact e) k (by omega)
    · rw [if_neg e]
      exact loose_j3 hla hha (by omega) (op := op) (cl := false) ho (by rw [if_neg Bool.false_ne_true]; omega) k (by omega)
  by_cases e : lk = 2
  · rw [if_pos e]
    exact key false (by rw [if_neg Bool.false_ne_true]; exact e)
  · rw [if_neg e]
    exact key true (by rw [if_pos rfl]; omega)

end Go.Proofs.Ytpeidnkbliafkaa.Pure
