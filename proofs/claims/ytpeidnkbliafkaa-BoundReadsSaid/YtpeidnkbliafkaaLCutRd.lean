import Derived.Test.YtpeidnkbliafkaaPrint1
import Derived.Test.YtpeidnkbliafkaaPrint2
import Derived.Test.YtpeidnkbliafkaaPrint3
import Derived.Test.YtpeidnkbliafkaaPrint4
import Derived.Test.YtpeidnkbliafkaaPrint8
import Derived.Test.YtpeidnkbliafkaaPrint9
import Derived.Test.YtpeidnkbliafkaaLNum
import Derived.Test.YtpeidnkbliafkaaLBig
import Derived.Test.YtpeidnkbliafkaaLText
import Derived.Test.YtpeidnkbliafkaaLRead
import Derived.Test.YtpeidnkbliafkaaLCutA
import Derived.Test.YtpeidnkbliafkaaLCutC
import Derived.Test.YtpeidnkbliafkaaLTextRead
namespace Go.Proofs.Ytpeidnkbliafkaa.Print
open Go.RowKit Go.Proofs.YtpeidnkbliafkaaW.PrintWords Go.Proofs.YtpeidnkbliafkaaW.PrintLast
set_option linter.unusedVariables false
set_option linter.unusedSimpArgs false
def MI : ByteArray := ⟨#[45, 105, 110, 102]⟩
def PI : ByteArray := ⟨#[43, 105, 110, 102]⟩
theorem toList_inj {a b : ByteArray} (h : a.toList = b.toList) : a = b := by
  rw [ByteArray.toList_eq, ByteArray.toList_eq] at h
  exact WideShapes.bytes_inj h
/-- begins with four signs -/
def Pre (s w : ByteArray) : Prop := 4 ≤ s.size ∧ s.extract 0 4 = w
theorem cut_begins.eq {s w : ByteArray} (hw : w.size = 4) : (cut_begins.f s w = some true ∧ Pre s w) ∨ (cut_begins.f s w = some false ∧ ¬ Pre s w) := by
  unfold cut_begins.f
  by_cases h : 4 ≤ s.size
  · rw [if_pos (by omega), if_pos (by omega), if_pos (by omega), hw]
    show (some ((s.extract 0 4).toList == w.toList) = _ ∧ _) ∨ (some ((s.extract 0 4).toList == w.toList) = _ ∧ _)
    by_cases h2 : s.extract 0 4 = w
    · left; exact ⟨by rw [h2, beq_self_eq_true], h, h2⟩
    · right; exact ⟨by rw [beq_eq_false_iff_ne.2 (fun hh => h2 (toList_inj hh))], fun hh => h2 hh.2⟩
  · rw [if_neg (by omega)]
    right; exact ⟨rfl, fun hh => h hh.1⟩
theorem Pre_bt {s w : ByteArray} (h : Pre s w) (i : Nat) (hi : i < 4) : bt s (i : Int) = bt w (i : Int) := by
  rw [← h.2, bt_extract h.1 hi]
theorem Pre.noNum {s w : ByteArray} (h : Pre s w) (hw : w = MI ∨ w = PI) (n : Nat) : ¬ ParseOK s n := by
  intro hp
  have hd := hp.2.1.dg 0 hp.1
  rw [Nat.add_zero] at hd
  have h4 := h.1
  rcases hw with rfl | rfl
  · have e0 : bt s ((0 : Nat) : Int) = 45 := by rw [Pre_bt h 0 (by omega)]; decide +kernel
    have hf : fromOf s = 1 := by unfold fromOf; rw [if_pos ⟨by omega, e0⟩]
    rw [hf] at hd
    have e1 : bt s ((1 : Nat) : Int) = 105 := by rw [Pre_bt h 1 (by omega)]; decide +kernel
    have := hd.2.2
    omega
  · have e0 : bt s ((0 : Nat) : Int) = 43 := by rw [Pre_bt h 0 (by omega)]; decide +kernel
    have hf : fromOf s = 0 := by unfold fromOf; rw [if_neg (fun hh => absurd (hh.2.symm.trans (show bt s 0 = 43 from e0)) (by decide))]
    rw [hf] at hd
    have := hd.2.1
    omega
/-- the number that j signs are -/
def NumAt (s : ByteArray) (j : Nat) : Prop := fromOf s < j ∧ ParseOK s (j - fromOf s) ∧ sgnOf s (hv s (fromOf s) (j - fromOf s)) ≠ -9223372036854775808
theorem MI_ne : MI ≠ PI := fun h => absurd (congrArg (fun b => bt b 0) h) (by decide +kernel)
theorem parse_mi (k : Nat) : bocageref02_parse.f k MI = some (-1, 0, true) := by
  unfold bocageref02_parse.f
  rw [if_pos (by decide +kernel)]
theorem parse_pi (k : Nat) : bocageref02_parse.f k PI = some (1, 0, true) := by
  unfold bocageref02_parse.f
  rw [if_neg (by decide +kernel), if_pos (by decide +kernel)]
theorem parse_eq {s : ByteArray} {j : Nat} (h1 : 1 ≤ j) (hj : j ≤ s.size) (h20 : j ≤ 20) (k : Nat) (hk : 100 ≤ k) (hm : s.extract 0 j ≠ MI) (hp : s.extract 0 j ≠ PI) :
    (NumAt s j → bocageref02_parse.f k (s.extract 0 j) = some (0, sgnOf s (hv s (fromOf s) (j - fromOf s)), true)) ∧ (¬ NumAt s j → ∃ v, bocageref02_parse.f k (s.extract 0 j) = some (0, v, false)) := by
  have e1 := extract_size hj
  have hf := fromOf_le s
  have ep := bocageref01_Parse.eq (s := s.extract 0 j) (by omega) k (by omega)
  rw [e1, fromOf_extract hj h1] at ep
  unfold bocageref02_parse.f
  rw [if_neg (fun hh => hm (toList_inj (hh.trans (by decide +kernel)))), if_neg (fun hh => hp (toList_inj (hh.trans (by decide +kernel)))), ep, Option.bind_some, show bocageref02_Least64.f = some (-9223372036854775808) from rfl, Option.bind_some]
  unfold parseOf
  constructor
  · rintro ⟨n1, n2, n3⟩
    rw [if_pos ((ParseOK.extract hj h1 n1).2 n2), if_pos rfl]
    have e : sgnOf (s.extract 0 j) (hv (s.extract 0 j) (fromOf (s.extract 0 j)) (j - fromOf s)) = sgnOf s (hv s (fromOf s) (j - fromOf s)) := by
      unfold sgnOf; rw [fromOf_extract hj h1, hv_extract hj _ (by omega)]
    simp only [e]
    rw [bne_iff_ne.2 n3]
  · intro hn
    by_cases hc : fromOf s < j
    · by_cases hpo : ParseOK s (j - fromOf s)
      · rw [if_pos ((ParseOK.extract hj h1 hc).2 hpo), if_pos rfl]
        have e : sgnOf (s.extract 0 j) (hv (s.extract 0 j) (fromOf (s.extract 0 j)) (j - fromOf s)) = sgnOf s (hv s (fromOf s) (j - fromOf s)) := by
          unfold sgnOf; rw [fromOf_extract hj h1, hv_extract hj _ (by omega)]
        have e2 : sgnOf s (hv s (fromOf s) (j - fromOf s)) = -9223372036854775808 := by
          by_cases hh : sgnOf s (hv s (fromOf s) (j - fromOf s)) = -9223372036854775808
          · exact hh
          · exact absurd ⟨hc, hpo, hh⟩ hn
        simp only [e, e2]
        exact ⟨_, rfl⟩
      · rw [if_neg (fun h => hpo ((ParseOK.extract hj h1 hc).1 h)), if_neg (by decide)]
        exact ⟨_, rfl⟩
    · have h0 : j - fromOf s = 0 := by omega
      have hz : ¬ ParseOK (s.extract 0 j) 0 := fun h => by have := h.1; omega
      rw [h0]
      simp only [if_neg hz]
      rw [if_neg (by decide)]
      exact ⟨_, rfl⟩
theorem ref_scan {s : ByteArray} {res : Int × Int × Int} {stop : Nat} (h1 : 1 ≤ stop → (∀ k, 100 ≤ k → bocageref02_parse.f k (s.extract 0 stop) = some (res.1, res.2.1, true)) ∧ res.2.2 = (stop : Int)) (h0 : stop = 0 → res = (0, 0, 0)) (d : Nat) :
    ∀ (k l : Nat), l = stop + d → l ≤ s.size → l ≤ 20 → (∀ j, stop < j → j ≤ l → ∀ k, 100 ≤ k → ∃ x y, bocageref02_parse.f k (s.extract 0 j) = some (x, y, false)) → 200 + d < k → bocageref02_Read.l0 k s (l : Int) = some res := by
  induction d with
  | zero =>
    intro k l hl hs h20 hno hk
    obtain ⟨k, rfl⟩ : ∃ j, k = j + 1 := ⟨k - 1, by omega⟩
    rw [Nat.add_zero] at hl
    subst hl
    by_cases hz : l = 0
    · rw [bocageref02_Read.l0, if_neg (by omega), h0 hz]
    · obtain ⟨a1, a2⟩ := h1 (by omega)
      rw [bocageref02_Read.l0, if_pos (by omega), if_pos (by omega), if_pos (by omega), Int.toNat_natCast, a1 k (by omega), Option.bind_some, if_pos rfl, ← a2]
  | succ d ih =>
    intro k l hl hs h20 hno hk
    obtain ⟨k, rfl⟩ : ∃ j, k = j + 1 := ⟨k - 1, by omega⟩
    obtain ⟨x, y, e⟩ := hno l (by omega) (by omega) k (by omega)
    rw [bocageref02_Read.l0, if_pos (by omega), if_pos (by omega), if_pos (by omega), Int.toNat_natCast, e, Option.bind_some, if_neg Bool.false_ne_true, wrap64_of (by unfold I64; omega), show (l : Int) - 1 = ((l - 1 : Nat) : Int) by omega]
    exact ih k (l - 1) (by omega) (by omega) (by omega) (fun j j1 j2 => hno j j1 (by omega)) (by omega)
theorem ref_read {s : ByteArray} {res : Int × Int × Int} {stop : Nat} (h1 : 1 ≤ stop → (∀ k, 100 ≤ k → bocageref02_parse.f k (s.extract 0 stop) = some (res.1, res.2.1, true)) ∧ res.2.2 = (stop : Int)) (h0 : stop = 0 → res = (0, 0, 0)) (hs : stop ≤ s.size) (h20 : stop ≤ 20)
    (hno : ∀ j, stop < j → j ≤ s.size → j ≤ 20 → ∀ k, 100 ≤ k → ∃ x y, bocageref02_parse.f k (s.extract 0 j) = some (x, y, false)) (k : Nat) (hk : 400 ≤ k) : bocageref02_Read.f k s = some res := by
  obtain ⟨k, rfl⟩ : ∃ j, k = j + 1 := ⟨k - 1, by omega⟩
  unfold bocageref02_Read.f
  by_cases h : (s.size : Int) > 20
  · rw [if_pos h, bocageref02_Read.j0]
    exact ref_scan h1 h0 (20 - stop) k 20 (by omega) (by omega) (by omega) (fun j j1 j2 => hno j j1 (by omega) (by omega)) (by omega)
  · rw [if_neg h, bocageref02_Read.j0]
    exact ref_scan h1 h0 (s.size - stop) k s.size (by omega) (by omega) (by omega) (fun j j1 j2 => hno j j1 (by omega) (by omega)) (by omega)
theorem ParseOK.inside {s : ByteArray} {n : Nat} (h : ParseOK s n) : fromOf s + n ≤ s.size := by
  have := (h.2.1.dg (n - 1) (by have := h.1; omega)).1
  have := h.1; omega
theorem longest_uniq {s : ByteArray} {m q : Nat} (h : Longest s m) (g : Longest s q) : q = m := by
  by_cases h1 : q ≤ m
  · by_cases h2 : m ≤ q
    · omega
    · exact absurd (h.good.le_of (show q + 1 ≤ m by omega)) g.no
  · exact absurd (g.good.le_of (show m + 1 ≤ q by omega)) h.no
/-- what is read at a text's beginning as a cut -/
def CutAt (s : ByteArray) (r : Int × Int × Int) : Prop := (r = (-1, 0, 4) ∧ Pre s MI) ∨ (r = (1, 0, 4) ∧ Pre s PI) ∨ (∃ j : Nat, r = (0, sgnOf s (hv s (fromOf s) (j - fromOf s)), (j : Int)) ∧ NumAt s j ∧ j ≤ s.size ∧ ¬ Pre s MI ∧ ¬ Pre s PI) ∨ r = (0, 0, 0)
theorem both_read {s : ByteArray} (hs : s.size ≤ 140737488351232) (k : Nat) (hk : 500 ≤ k) : ∃ r, cut_Read.f k s = some r ∧ bocageref02_Read.f k s = some r ∧ CutAt s r := by
  have ext : ∀ {j : Nat} {w : ByteArray}, w.size = 4 → j ≤ s.size → s.extract 0 j = w → j = 4 ∧ Pre s w := by
    intro j w hw hj he
    have := extract_size hj
    rw [he, hw] at this
    subst this
    exact ⟨rfl, hj, he⟩
  have noP : ∀ {w : ByteArray}, (w = MI ∨ w = PI) → Pre s w → ∀ j, 4 < j → j ≤ s.size → j ≤ 20 → ∀ k, 100 ≤ k → ∃ x y, bocageref02_parse.f k (s.extract 0 j) = some (x, y, false) := by
    intro w hw hp j j1 j2 j3 k hk
    obtain ⟨v, e⟩ := (parse_eq (s := s) (j := j) (by omega) j2 j3 k hk (fun h => by have := (ext (by decide) j2 h).1; omega) (fun h => by have := (ext (by decide) j2 h).1; omega)).2 (fun h => hp.noNum hw _ h.2.1)
    exact ⟨_, _, e⟩
  rcases cut_begins.eq (s := s) (w := MI) (by decide) with ⟨b1, p1⟩ | ⟨b1, p1⟩
  · refine ⟨(-1, 0, 4), ?_, ?_, .inl ⟨rfl, p1⟩⟩
    · unfold cut_Read.f
      rw [show (⟨#[45, 105, 110, 102]⟩ : ByteArray) = MI from rfl, b1, Option.bind_some, if_pos rfl]; rfl
    · refine ref_read (stop := 4) (fun _ => ⟨fun k hk => ?_, rfl⟩) (fun h => by omega) p1.1 (by omega) (noP (.inl rfl) p1) k (by omega)
      rw [p1.2, parse_mi]
  · rcases cut_begins.eq (s := s) (w := PI) (by decide) with ⟨b2, p2⟩ | ⟨b2, p2⟩
    · refine ⟨(1, 0, 4), ?_, ?_, .inr (.inl ⟨rfl, p2⟩)⟩
      · unfold cut_Read.f
        rw [show (⟨#[45, 105, 110, 102]⟩ : ByteArray) = MI from rfl, b1, Option.bind_some, if_neg Bool.false_ne_true, show (⟨#[43, 105, 110, 102]⟩ : ByteArray) = PI from rfl, b2, Option.bind_some, if_pos rfl]; rfl
      · refine ref_read (stop := 4) (fun _ => ⟨fun k hk => ?_, rfl⟩) (fun h => by omega) p2.1 (by omega) (noP (.inr rfl) p2) k (by omega)
        rw [p2.2, parse_pi]
    · have hne : ∀ {j : Nat}, j ≤ s.size → s.extract 0 j ≠ MI ∧ s.extract 0 j ≠ PI := fun hj => ⟨fun h => p1 (ext (by decide) hj h).2, fun h => p2 (ext (by decide) hj h).2⟩
      obtain ⟨m, hl, hr⟩ := sat_Read.eq hs k (by omega)
      have hf := fromOf_le s
      have start : ∀ r, cut_Read.l0 k s (readOf s m).1 (readOf s m).2 = some r → cut_Read.f k s = some r := by
        intro r h
        unfold cut_Read.f
        rw [show (⟨#[45, 105, 110, 102]⟩ : ByteArray) = MI from rfl, b1, Option.bind_some, if_neg Bool.false_ne_true, show (⟨#[43, 105, 110, 102]⟩ : ByteArray) = PI from rfl, b2, Option.bind_some, if_neg Bool.false_ne_true, hr, Option.bind_some]
        exact h
      have noN : ∀ j, 1 ≤ j → j ≤ s.size → j ≤ 20 → ¬ NumAt s j → ∀ k, 100 ≤ k → ∃ x y, bocageref02_parse.f k (s.extract 0 j) = some (x, y, false) := by
        intro j j1 j2 j3 hn k hk
        obtain ⟨v, e⟩ := (parse_eq j1 j2 j3 k hk (hne j2).1 (hne j2).2).2 hn
        exact ⟨_, _, e⟩
      obtain ⟨k, rfl⟩ : ∃ j, k = j + 2 := ⟨k - 2, by omega⟩
      have hshort := hl.good.short (mostOf_le s).1
      by_cases hp : ParseOK s m
      · have hin := ParseOK.inside hp
        have hm1 := hp.1
        have ero := readOf_ok hl hp
        by_cases hv0 : sgnOf s (hv s (fromOf s) m) = -9223372036854775808
        · -- the least number of all: one sign less
          have hnn := hv_nonneg (s := s) (a := fromOf s) (n := m) hl.good.dg
          have hf1 : fromOf s = 1 := by
            by_cases h : 0 < fromOf s
            · omega
            · unfold sgnOf at hv0; rw [if_neg h] at hv0; omega
          have hval : hv s 1 m = 9223372036854775808 := by
            unfold sgnOf at hv0; rw [if_pos (by omega), hf1] at hv0; omega
          have g18 : ∀ n, n ≤ m → 1 ≤ n → ParseOK s n := fun n hn h1 => ⟨h1, hl.good.le_of hn, hp.2.2⟩
          have hm19 : m = 19 := by
            have : ∀ n, (∀ i, i < n → isD s (1 + i)) → hv s 1 n < p10 n := by
              intro n
              induction n with
              | zero => intro _; show (0 : Int) < 1; decide
              | succ n ih =>
                intro h
                have a := ih (fun i hi => h i (by omega))
                have b := (h n (by omega)).2
                simp only [hv, p10]; omega
            have h19 := this m (fun i hi => by have := hl.good.dg i hi; rwa [hf1] at this)
            rw [hval] at h19
            by_cases hlt : m ≤ 18
            · have := p10_le hlt
              rw [show p10 18 = 1000000000000000000 from by decide] at this
              omega
            · omega
          subst hm19
          have hsz : 20 ≤ s.size := by omega
          have hv18 : hv s 1 18 = 922337203685477580 := by
            have b := (hl.good.dg 18 (by omega)).2
            rw [hf1] at b
            have : hv s 1 19 = 10 * hv s 1 18 + (bt s ((1 + 18 : Nat) : Int) - 48) := rfl
            omega
          have p18 := g18 18 (by omega) (by omega)
          have e19 : (s.extract 0 19).size = 19 := extract_size (by omega)
          have ff : fromOf (s.extract 0 19) = 1 := by rw [fromOf_extract (by omega) (by omega), hf1]
          have p18' : ParseOK (s.extract 0 19) 18 := by
            have := (ParseOK.extract (s := s) (n := 19) (by omega) (by omega) (by omega)).2 (by rw [hf1]; exact p18)
            rwa [hf1] at this
          obtain ⟨q, ql, qr⟩ := sat_Read.eq (s := s.extract 0 19) (by omega) (k + 1) (by omega)
          have hq : q = 18 := by
            have h1 := ParseOK.longest ql p18'
            have h2 : ParseOK (s.extract 0 19) q := ⟨by omega, ql.good, p18'.2.2⟩
            have := ParseOK.inside h2
            rw [ff, e19] at this
            omega
          subst hq
          have eq18 := readOf_ok ql p18'
          have hs18 : sgnOf (s.extract 0 19) (hv (s.extract 0 19) (fromOf (s.extract 0 19)) 18) = -922337203685477580 := by
            unfold sgnOf
            rw [ff, if_pos (by omega), hv_extract (by omega) 18 (by omega), hv18]
          rw [hs18, ff] at eq18
          have hsv : sgnOf s (hv s 1 18) = -922337203685477580 := by unfold sgnOf; rw [if_pos (by omega), hv18]
          refine ⟨(0, -922337203685477580, 19), start _ ?_, ?_, .inr (.inr (.inl ⟨19, ?_, ⟨by omega, by rw [hf1]; exact p18, ?_⟩, by omega, p1, p2⟩))⟩
          rotate_left
          rotate_left
          · show ((0 : Int), (-922337203685477580 : Int), (19 : Int)) = (0, sgnOf s (hv s (fromOf s) (19 - fromOf s)), ((19 : Nat) : Int))
            rw [hf1, hsv]; rfl
          · rw [hf1, hsv]; decide
          · rw [ero, hv0, hf1]
            show cut_Read.l0 (k + 2) s (-9223372036854775808) 20 = _
            rw [cut_Read.l0, if_pos (by omega), if_pos rfl, wrap64_of (by unfold I64; omega), if_pos (by omega), if_pos (by omega)]
            show (sat_Read.f (k + 1) (s.extract 0 19)).bind _ = _
            rw [qr, eq18, Option.bind_some]
            show cut_Read.l0 (k + 1) s (-922337203685477580) 19 = _
            rw [cut_Read.l0, if_pos (by omega), if_neg (by omega), if_neg (by omega)]
          · refine ref_read (stop := 19) (fun _ => ⟨fun k hk => ?_, rfl⟩) (fun h => by omega) (by omega) (by omega) ?_ (k + 2) (by omega)
            · have hN : NumAt s 19 := ⟨by omega, by rw [hf1]; exact p18, by rw [hf1]; unfold sgnOf; rw [if_pos (by omega), hv18]; omega⟩
              have := (parse_eq (s := s) (j := 19) (by omega) (by omega) (by omega) k hk (hne (by omega)).1 (hne (by omega)).2).1 hN
              rw [this, hf1]
              unfold sgnOf
              rw [if_pos (by omega), hv18]
            · intro j j1 j2 j3
              obtain rfl : j = 20 := by omega
              refine noN 20 (by omega) j2 j3 (fun h => h.2.2 ?_)
              rw [hf1]
              unfold sgnOf
              rw [if_pos (by omega), hval]
        · refine ⟨(0, sgnOf s (hv s (fromOf s) m), ((fromOf s + m : Nat) : Int)), start _ ?_, ?_, .inr (.inr (.inl ⟨fromOf s + m, by rw [Nat.add_sub_cancel_left], ⟨by omega, by rw [Nat.add_sub_cancel_left]; exact hp, by rw [Nat.add_sub_cancel_left]; exact hv0⟩, hin, p1, p2⟩))⟩
          · rw [ero, cut_Read.l0, if_pos (by show ((fromOf s + m : Nat) : Int) > 0; omega), if_neg hv0, if_neg (by show ¬ ((fromOf s + m : Nat) : Int) = 0; omega)]
          · have hN : NumAt s (fromOf s + m) := ⟨by omega, by rw [Nat.add_sub_cancel_left]; exact hp, by rw [Nat.add_sub_cancel_left]; exact hv0⟩
            refine ref_read (stop := fromOf s + m) (fun _ => ⟨fun k hk => ?_, rfl⟩) (fun h => by omega) hin (by omega) ?_ (k + 2) (by omega)
            · have := (parse_eq (s := s) (j := fromOf s + m) (by omega) hin (by omega) k hk (hne hin).1 (hne hin).2).1 hN
              rw [this, Nat.add_sub_cancel_left]
            · intro j j1 j2 j3
              refine noN j (by omega) j2 j3 (fun h => ?_)
              have := ParseOK.longest hl h.2.1
              omega
      · obtain ⟨e0, hno⟩ := readOf_no hl hp
        refine ⟨(0, 0, 0), start _ ?_, ?_, .inr (.inr (.inr rfl))⟩
        · rw [e0, cut_Read.l0, if_neg (by decide), if_pos rfl]
        · refine ref_read (stop := 0) (fun h => by omega) (fun _ => rfl) (by omega) (by omega) ?_ (k + 2) (by omega)
          intro j j1 j2 j3
          exact noN j (by omega) j2 j3 (fun h => hno _ h.2.1)
/-- a right cut's text -/
def ctext (p : Int × Int) : ByteArray := if p.1 < 0 then MI else if p.1 > 0 then PI else textOf p.2
theorem cut_Text.eq (s : Int) {a : Int} (ha : I64 a) (k : Nat) (hk : 1 ≤ k) : cut_Text.f k s a = some (ctext (canon s a)) := by
  unfold cut_Text.f
  rw [cut_Canon.eq _ _ k hk, Option.bind_some]
  rcases canon_CC (s := s) ha with h | h | ⟨x, h, h1, h2⟩
  · rw [h]; rfl
  · rw [h]; rfl
  · rw [h]
    show (sat_Text.f x).bind (fun t129 => some t129) = some (textOf x)
    rw [sat_Text.eq (by unfold I64; omega)]; rfl
theorem bocageref02_Text.eq (s : Int) {a : Int} (ha : I64 a) (k : Nat) (hk : 30 ≤ k) : bocageref02_Text.f k s a = some (ctext (canon s a)) := by
  unfold bocageref02_Text.f
  rw [bocageref02_Canon.eq _ _ k (by omega), Option.bind_some]
  rcases canon_CC (s := s) ha with h | h | ⟨x, h, h1, h2⟩
  · rw [h]; rfl
  · rw [h]; rfl
  · rw [h]
    show (bocageref01_Text.f k x).bind (fun t247 => some t247) = some (textOf x)
    rw [bocageref01_Text.eq (by unfold I64; omega) k (by omega)]; rfl
theorem ctext_size {p : Int × Int} (h : CC p) : 1 ≤ (ctext p).size ∧ (ctext p).size ≤ 20 := by
  rcases h with rfl | rfl | ⟨x, rfl, h1, h2⟩
  · exact ⟨by decide, by decide⟩
  · exact ⟨by decide, by decide⟩
  · exact textOf_size (n := x) (by unfold I64; omega)
theorem read_back {p : Int × Int} (hp : CC p) (b : ByteArray) (hb : ¬ isD b 0) (hs : b.size ≤ 100000) (k : Nat) (hk : 500 ≤ k) : cut_Read.f k (ctext p ++ b) = some (p.1, p.2, ((ctext p).size : Int)) := by
  rcases hp with rfl | rfl | ⟨x, rfl, h1, h2⟩
  · have hP : Pre (ctext (-1, 0) ++ b) MI := ⟨by rw [ByteArray.size_append]; show 4 ≤ 4 + b.size; omega, ByteArray.extract_append_eq_left rfl⟩
    rcases cut_begins.eq (s := ctext (-1, 0) ++ b) (w := MI) (by decide) with ⟨b1, p1⟩ | ⟨b1, p1⟩
    · unfold cut_Read.f
      rw [show (⟨#[45, 105, 110, 102]⟩ : ByteArray) = MI from rfl, b1, Option.bind_some, if_pos rfl]; rfl
    · exact absurd hP p1
  · have hP : Pre (ctext (1, 0) ++ b) PI := ⟨by rw [ByteArray.size_append]; show 4 ≤ 4 + b.size; omega, ByteArray.extract_append_eq_left rfl⟩
    rcases cut_begins.eq (s := ctext (1, 0) ++ b) (w := MI) (by decide) with ⟨b1, p1⟩ | ⟨b1, p1⟩
    · exact absurd (p1.2.symm.trans hP.2) MI_ne
    · rcases cut_begins.eq (s := ctext (1, 0) ++ b) (w := PI) (by decide) with ⟨b2, p2⟩ | ⟨b2, p2⟩
      · unfold cut_Read.f
        rw [show (⟨#[45, 105, 110, 102]⟩ : ByteArray) = MI from rfl, b1, Option.bind_some, if_neg Bool.false_ne_true, show (⟨#[43, 105, 110, 102]⟩ : ByteArray) = PI from rfl, b2, Option.bind_some, if_pos rfl]; rfl
      · exact absurd hP p2
  · have hx : I64 x := by unfold I64; omega
    show cut_Read.f k (textOf x ++ b) = some (0, x, ((textOf x).size : Int))
    obtain ⟨m, l1, l2, l3, l4⟩ := textOf_read hx b hb
    have hts := textOf_size hx
    have hsz : (textOf x ++ b).size = (textOf x).size + b.size := ByteArray.size_append ..
    obtain ⟨q, q1, q2⟩ := sat_Read.eq (s := textOf x ++ b) (by omega) k (by omega)
    obtain rfl := longest_uniq l1 q1
    rw [readOf_ok l1 l2, l4, l3] at q2
    rcases cut_begins.eq (s := textOf x ++ b) (w := MI) (by decide) with ⟨b1, p1⟩ | ⟨b1, p1⟩
    · exact absurd l2 (p1.noNum (.inl rfl) _)
    · rcases cut_begins.eq (s := textOf x ++ b) (w := PI) (by decide) with ⟨b2, p2⟩ | ⟨b2, p2⟩
      · exact absurd l2 (p2.noNum (.inr rfl) _)
      · obtain ⟨k, rfl⟩ : ∃ j, k = j + 1 := ⟨k - 1, by omega⟩
        unfold cut_Read.f
        rw [show (⟨#[45, 105, 110, 102]⟩ : ByteArray) = MI from rfl, b1, Option.bind_some, if_neg Bool.false_ne_true, show (⟨#[43, 105, 110, 102]⟩ : ByteArray) = PI from rfl, b2, Option.bind_some, if_neg Bool.false_ne_true, q2, Option.bind_some, cut_Read.l0, if_pos (by show ((textOf x).size : Int) > 0; omega), if_neg (by show ¬ x = _; omega), if_neg (by show ¬ ((textOf x).size : Int) = 0; omega)]

end Go.Proofs.Ytpeidnkbliafkaa.Print
