/- What any text begins with, strictly and loosely, and where it is amiss, is what the document says (law04 BoundReads), for every text; no conditions. -/
import Derived.Test.YtpeidnkbliafkaaPrint15
import Derived.Test.YtpeidnkbliafkaaPrint4
import Derived.Test.YtpeidnkbliafkaaRBoundReads
import Derived.Test.YtpeidnkbliafkaaLBndV
import Derived.Test.YtpeidnkbliafkaaLBndXR
import Derived.Test.YtpeidnkbliafkaaLBndL
import Derived.Test.YtpeidnkbliafkaaLBndQ
import Derived.Test.YtpeidnkbliafkaaLAlive04
namespace Go.Proofs.Ytpeidnkbliafkaa.Pure
open Go.RowKit Go.Proofs.Ytpeidnkbliafkaa.Print Go.Proofs.YtpeidnkbliafkaaW.PrintWords Go.Proofs.YtpeidnkbliafkaaW.PrintLast
set_option linter.unusedVariables false
set_option linter.unusedSimpArgs false
theorem parse_same {s : ByteArray} (hs : s.size ≤ 5000) (k : Nat) (hk : 6000 ≤ k) : ∃ r, bound_Parse.f k s = some r ∧ bocageref04_Parse.f k s = some r := by
  unfold bound_Parse.f bocageref04_Parse.f
  rw [bound_Read.eq (by omega) k (by omega), bocageref04_read.eq (by omega) false k (by omega), Option.bind_some, Option.bind_some]
  by_cases e : (rdS false s).2.2.2.2.2 = 0
  · obtain ⟨p, q, n, hp, hq, hlt, hr, hn, ht⟩ := rd_text (by omega) e
    rw [if_pos e, if_pos e]
    have hI : I64 p.2 ∧ I64 q.2 := by
      have key : ∀ r : Int × Int, CC r → I64 r.2 := by
        intro r h
        rcases h with rfl | rfl | ⟨a, rfl, h1, h2⟩
        · exact ⟨by decide, by decide⟩
        · exact ⟨by decide, by decide⟩
        · show I64 a; unfold I64; omega
      exact ⟨key p hp, key q hq⟩
    have hT := bocageref04_Text.eq (s := p.1) (t := q.1) hI.1 hI.2 k (by omega)
    rw [if_pos (show RS (p.1, p.2) (q.1, q.2) from ⟨hp.canon, hq.canon, hlt⟩)] at hT
    rw [hr]
    show ∃ r, (if (n : Int) < (s.size : Int) then some ((0 : Int), (0 : Int), (0 : Int), (0 : Int), (40 : Int)) else some (p.1, p.2, q.1, q.2, (0 : Int))) = some r ∧ ((bocageref04_Text.f k p.1 p.2 q.1 q.2).bind fun t => if t.toList = s.toList then some (p.1, p.2, q.1, q.2, (0 : Int)) else some ((0 : Int), (0 : Int), (0 : Int), (0 : Int), (40 : Int))) = some r
    rw [hT, Option.bind_some]
    have hts : spanText (p.1, p.2) (q.1, q.2) = s.extract 0 n := ht.symm
    rw [hts]
    by_cases hlt2 : n < s.size
    · have hne : ¬ (s.extract 0 n).toList = s.toList := fun g => by
        have := congrArg ByteArray.size (toList_inj g)
        rw [extract_size hn] at this
        omega
      rw [if_pos (by omega), if_neg hne]
      exact ⟨_, rfl, rfl⟩
    · have hall : s.extract 0 n = s := by
        obtain rfl : n = s.size := by omega
        apply ext_eq
        rw [ByteArray.data_extract]
        exact ext_all s
      rw [if_neg (by omega), hall, if_pos rfl]
      exact ⟨_, rfl, rfl⟩
  · rw [if_neg e, if_neg e]
    exact ⟨_, rfl, rfl⟩
theorem BoundReads : bocagelaw04_BoundReads.Pure := by
  intro s hs
  refine ⟨8000, ?_⟩
  have hA := bocagelaw04_alive.ge 8000 (by omega)
  unfold bocagelaw04_BoundReads.f
  by_cases hz : (s.size : Int) > 5000
  · rw [if_pos hz, hA]; rfl
  obtain ⟨r, r1, r2⟩ := parse_same (s := s) (by omega) 8000 (by omega)
  have q1 : bocageref04_Read.f 8000 s = some (rdS false s) := by
    unfold bocageref04_Read.f
    rw [bocageref04_read.eq hs false 8000 (by omega)]; rfl
  have q2 : bocageref04_Loose.f 8000 s = some (rdS true s) := by
    unfold bocageref04_Loose.f
    rw [bocageref04_read.eq hs true 8000 (by omega)]; rfl
  rw [if_neg hz, bound_Read.eq hs 8000 (by omega), Option.bind_some, q1, Option.bind_some, bound_Loose.eq hs 8000 (by omega), Option.bind_some, q2, Option.bind_some, r1, Option.bind_some, r2, Option.bind_some, hA, Option.bind_some]
  generalize rdS false s = x
  generalize rdS true s = y
  simp

end Go.Proofs.Ytpeidnkbliafkaa.Pure
