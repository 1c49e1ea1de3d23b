-- The texts of this repo that the claim reaches, in one (wip/print/bundle.py): only what is reached; not trusted: Lean checks it.
import Derived.Test.YtbcpnejdbookkaaGreatZSums2
import Derived.RangeFuncSeq
import Derived.OrdersIn
import Derived.Shelf.SlicesQ.Reverse
import Derived.Lib.SlicesCompact
import Derived.Shelf.SlicesE.Kit
import Derived.Lib.Walk
import Derived.Sort.WalkB12
import Derived.Lib.SliceRun
import Derived.Lib.LazyBuf
import Derived.RangeFuncLeaves
import Derived.BigRegion
import Derived.Shelf.Spec.BitsCarry
import Derived.Shelf.SlIterI.Nil
import Derived.Shelf.SortM.Plain
import Derived.Shelf.SortM.SortNone
import Derived.Ground.GgzProg
import Derived.Ground.SlgmProg
import Derived.Maps.OwnSet
set_option maxHeartbeats 8000000
set_option maxRecDepth 100000
set_option linter.unusedVariables false
set_option linter.unusedSimpArgs false
namespace Go.Proofs.YtbcpnejdbookkaaGreat.Print
open Go.RowKit Go.Proofs.YtbcpnejdbookkaaGreatW.PrintWords Go.Proofs.YtbcpnejdbookkaaGreatW.PrintLast Go.Proofs.YtbcpnejdbookkaaGreatW.PrintMore
attribute [local go_sem] max2_int min2_int max_two min_two max_three min_three max_four min_four
theorem front_value.calls (l:List S37) (A:Option Addr) (cc i fr:Nat) (c1 c2:Int) (w0 w:World) (HBw:Below w0.heap.size w0 w) (hfr:w0.heap.size≤fr) (hb:w.heap[fr]? = some (.cells #[.slice A l.length cc,.int .i64 (i:Int)] 103 (0,0))) (hr:∀ W',KeepBut w W' fr none→Kd.C k37 W' A l.length l) (hl:l.length < 1000000) (hi:i≤l.length) :
 Calls Tryz.prog 74 #[.pointer (some ⟨fr,0,none⟩),.agg #[.int .i64 c1,.int .i64 c2]] w fun e w' =>
  e=.returned (.tuple #[.int .i64 (valV (c1,c2) l (advF hiP (c1,c2) l i)).1,.bool (valV (c1,c2) l (advF hiP (c1,c2) l i)).2]) ∧
  w'.heap[fr]? = some (.cells #[.slice A l.length cc,.int .i64 ((advF hiP (c1,c2) l i:Nat):Int)] 103 (0,0))∧KeepBut w w' fr none∧Below w0.heap.size w0 w':=by
 have hu103:=Tryz.underlying103;have hu37:=Tryz.underlying37;have hu35:=Tryz.underlying35;have hu33:=Tryz.underlying33;have HR:=am hr;have HL:=am hl;have HI:=am hi;have BF:=am hb;have HB:=am HBw;have GE:=am hfr
 have HK:=am (KeepBut.refl w fr none)
 obtain ⟨n,hn⟩:∃ n,l.length=n:=⟨_,rfl⟩
 have HN:=am hn
 rw [hn] at BF
 clear hr hl hi hb HBw hfr
 rw [hn]
 clear hn;go_enter Tryz.func74,Tryz.ntmps74
 go_upto_region 1 with (first | ((with_reducible refine gate_dst (N:=3) rfl ?_);refine bxe (N:=3) (cs:=#[.int .i64 c1,.int .i64 c2]) (t:=33) ?_;intro gb hgb w1 hbox hb;have BB:=am hbox;have BF1:=bkb BF hb;have HK1:=am (KeepBut.trans HK.out (KeepBut.of_below hb fr none) (.inl rfl));have HB1:=bst HB hb;have NFB:fr≠gb:=(by rw [hgb];exact Nat.ne_of_lt (blk_lt BF.out));clear hbox hb hgb HK BF HB))
 go_loopg [] (n+1) (fun kq w'=>∃ (j:Nat),Aside0 (advF hiP (c1,c2) l j=advF hiP (c1,c2) l i)∧Aside0 (j≤n)∧Aside0 (n+1≤kq+j)∧Aside0 (w'.heap[fr]? = some (.cells #[.slice A n cc,.int .i64 (j:Int)] 103 (0,0)))∧Aside0 (w'.heap[gb]? = some (.cells #[.int .i64 c1,.int .i64 c2] 33 (0,0)))∧Aside0 (KeepBut w w' fr none)∧Aside0 (Below w0.heap.size w0 w'))
 case atStart=>exact ⟨i,⟨rfl⟩,⟨by have:=HI.out;have:=HN.out;omega⟩,⟨by omega⟩,BF1,BB,HK1,HB1⟩
 case round =>
  clear BF1 BB HK1 HB1
  obtain ⟨j,HE,HJ,HQ,BF,BB,HK,HB⟩:=hrel
  by_cases hj:j < n
  ·have p1:0≤(j:Int):=Int.natCast_nonneg j
   have q1:(j:Int) < (l.length:Int):=by rw [HN.out];omega
   have q2:(j:Int) < (n:Int):=by omega
   have q4:decide ((j:Int)=(n:Int))=false:=decide_eq_false (by omega)
   have q5:((j:Int) == (n:Int))=false:=by rw [beq_eq_false_iff_ne];omega
   have hjl:j < l.length:=by rw [HN.out];exact hj
   obtain ⟨ad,ea,hx0,hx1,hx2,hx3,hx4⟩:=at_T37 (HR.out wr HK.out) (j:Int) p1 q1;cases ea
   obtain ⟨⟨⟨⟨x1,x2⟩,⟨x3,x4⟩⟩,x5⟩,hs⟩:∃ s:S37,rd_T37 l (j:Int)=s:=⟨_,rfl⟩
   have hlj:l[j]=(⟨⟨⟨x1,x2⟩,⟨x3,x4⟩⟩,x5⟩:S37):=by rw [← hs];simp [rd_T37,hjl]
   rw [hs] at hx0 hx1 hx2 hx3 hx4
   simp only [Int.toNat_natCast] at hx0 hx1 hx2 hx3 hx4
   clear hs
   have S0:wr.cell? ⟨fr,0,none⟩=some (.slice (some ad) n cc)∧wr.cell? ⟨fr,1,none⟩=some (.int .i64 (j:Int))∧wr.cell? (ad.add (j * 5))=some (.int .i64 x1)∧wr.cell? ⟨(ad.add (j * 5)).block,(ad.add (j * 5)).off+1,none⟩=some (.int .i64 x2)∧wr.cell? ⟨(ad.add (j * 5)).block,(ad.add (j * 5)).off+2,none⟩=some (.int .i64 x3)∧wr.cell? ⟨(ad.add (j * 5)).block,(ad.add (j * 5)).off+3,none⟩=some (.int .i64 x4)∧wr.cell? ⟨(ad.add (j * 5)).block,(ad.add (j * 5)).off+4,none⟩=some (.int .i64 x5)∧wr.cell? ⟨gb,0,none⟩=some (.int .i64 c1)∧wr.cell? ⟨gb,1,none⟩=some (.int .i64 c2):=⟨(blk_cell BF.out 0).trans rfl,(blk_cell BF.out 1).trans rfl,hx0,hx1,hx2,hx3,hx4,(blk_cell BB.out 0).trans rfl,(blk_cell BB.out 1).trans rfl⟩
   have KS:∀ W,Below wr.heap.size wr W→W.cell? ⟨fr,0,none⟩=some (.slice (some ad) n cc)∧W.cell? ⟨fr,1,none⟩=some (.int .i64 (j:Int))∧W.cell? (ad.add (j * 5))=some (.int .i64 x1)∧W.cell? ⟨(ad.add (j * 5)).block,(ad.add (j * 5)).off+1,none⟩=some (.int .i64 x2)∧W.cell? ⟨(ad.add (j * 5)).block,(ad.add (j * 5)).off+2,none⟩=some (.int .i64 x3)∧W.cell? ⟨(ad.add (j * 5)).block,(ad.add (j * 5)).off+3,none⟩=some (.int .i64 x4)∧W.cell? ⟨(ad.add (j * 5)).block,(ad.add (j * 5)).off+4,none⟩=some (.int .i64 x5)∧W.cell? ⟨gb,0,none⟩=some (.int .i64 c1)∧W.cell? ⟨gb,1,none⟩=some (.int .i64 c2):=fun W hW=>⟨(hW.cell (World.block_lt_of_cell? wr _ S0.1)).trans S0.1,(hW.cell (World.block_lt_of_cell? wr _ S0.2.1)).trans S0.2.1,(hW.cell (World.block_lt_of_cell? wr _ S0.2.2.1)).trans S0.2.2.1,(hW.cell (World.block_lt_of_cell? wr _ S0.2.2.2.1)).trans S0.2.2.2.1,(hW.cell (World.block_lt_of_cell? wr _ S0.2.2.2.2.1)).trans S0.2.2.2.2.1,(hW.cell (World.block_lt_of_cell? wr _ S0.2.2.2.2.2.1)).trans S0.2.2.2.2.2.1,(hW.cell (World.block_lt_of_cell? wr _ S0.2.2.2.2.2.2.1)).trans S0.2.2.2.2.2.2.1,(hW.cell (World.block_lt_of_cell? wr _ S0.2.2.2.2.2.2.2.1)).trans S0.2.2.2.2.2.2.2.1,(hW.cell (World.block_lt_of_cell? wr _ S0.2.2.2.2.2.2.2.2)).trans S0.2.2.2.2.2.2.2.2⟩
   have KS':=am KS
   obtain ⟨hx0,hx1,hx2,hx3,hx4,hx5,hx6,hx7,hx8⟩:=S0
   have EC:=am (cut_Compare.eq x3 x4 c1 c2 10 (by omega))
   obtain ⟨r,hr⟩:∃ r,cmpC (x3,x4) (c1,c2)=r:=⟨_,rfl⟩
   have hr':cmp2 (canon x3 x4) (canon c1 c2)=r:=hr
   rw [hr'] at EC
   have HR2:=am hr;have HLJ:=am hlj
   clear hr hr' KS hlj
   go_wp2_with fail
   go_region_held3 (fun w'=>w'.cell? ⟨fr,0,none⟩=some (.slice (some ad) n cc)∧w'.cell? ⟨fr,1,none⟩=some (.int .i64 (j:Int))∧w'.cell? (ad.add (j * 5))=some (.int .i64 x1)∧w'.cell? ⟨(ad.add (j * 5)).block,(ad.add (j * 5)).off+1,none⟩=some (.int .i64 x2)∧w'.cell? ⟨(ad.add (j * 5)).block,(ad.add (j * 5)).off+2,none⟩=some (.int .i64 x3)∧w'.cell? ⟨(ad.add (j * 5)).block,(ad.add (j * 5)).off+3,none⟩=some (.int .i64 x4)∧w'.cell? ⟨(ad.add (j * 5)).block,(ad.add (j * 5)).off+4,none⟩=some (.int .i64 x5)∧w'.cell? ⟨gb,0,none⟩=some (.int .i64 c1)∧w'.cell? ⟨gb,1,none⟩=some (.int .i64 c2)) (first | exact KS'.out _ (by repeat (first | assumption | (with_reducible first | exact Below.refl _ _ | apply below_alloc | apply pw_below_drewN | apply below_drew1) | exact Below.refl _ _)))
    ((first | (go_at_call 109;(with_reducible refine (cut_Compare.calls 10 x3 x4 c1 c2 r _ EC.out).mono ?_);rintro e w6 ⟨rfl,hb6⟩;have Y6:=below_step (w:=wr) (by repeat (first | assumption | (with_reducible first | exact Below.refl _ _ | apply below_alloc | apply pw_below_drewN | apply below_drew1) | exact Below.refl _ _)) hb6)))
   have S0:=KS'.out _ Y6
   have KS6:∀ W,Below w6.heap.size w6 W→W.cell? ⟨fr,0,none⟩=some (.slice (some ad) n cc)∧W.cell? ⟨fr,1,none⟩=some (.int .i64 (j:Int))∧W.cell? (ad.add (j * 5))=some (.int .i64 x1)∧W.cell? ⟨(ad.add (j * 5)).block,(ad.add (j * 5)).off+1,none⟩=some (.int .i64 x2)∧W.cell? ⟨(ad.add (j * 5)).block,(ad.add (j * 5)).off+2,none⟩=some (.int .i64 x3)∧W.cell? ⟨(ad.add (j * 5)).block,(ad.add (j * 5)).off+3,none⟩=some (.int .i64 x4)∧W.cell? ⟨(ad.add (j * 5)).block,(ad.add (j * 5)).off+4,none⟩=some (.int .i64 x5)∧W.cell? ⟨gb,0,none⟩=some (.int .i64 c1)∧W.cell? ⟨gb,1,none⟩=some (.int .i64 c2):=fun W hW=>⟨(hW.cell (World.block_lt_of_cell? w6 _ S0.1)).trans S0.1,(hW.cell (World.block_lt_of_cell? w6 _ S0.2.1)).trans S0.2.1,(hW.cell (World.block_lt_of_cell? w6 _ S0.2.2.1)).trans S0.2.2.1,(hW.cell (World.block_lt_of_cell? w6 _ S0.2.2.2.1)).trans S0.2.2.2.1,(hW.cell (World.block_lt_of_cell? w6 _ S0.2.2.2.2.1)).trans S0.2.2.2.2.1,(hW.cell (World.block_lt_of_cell? w6 _ S0.2.2.2.2.2.1)).trans S0.2.2.2.2.2.1,(hW.cell (World.block_lt_of_cell? w6 _ S0.2.2.2.2.2.2.1)).trans S0.2.2.2.2.2.2.1,(hW.cell (World.block_lt_of_cell? w6 _ S0.2.2.2.2.2.2.2.1)).trans S0.2.2.2.2.2.2.2.1,(hW.cell (World.block_lt_of_cell? w6 _ S0.2.2.2.2.2.2.2.2)).trans S0.2.2.2.2.2.2.2.2⟩
   have KS':=am KS6
   clear KS6
   have BF6:=am (blk_below BF.out Y6)
   have BB6:=am (blk_below BB.out Y6)
   have HK6:=am (KeepBut.trans HK.out (KeepBut.of_below Y6 fr none) (.inl rfl))
   have HB6:=am (below_step HB.out Y6)
   have f0:=blk_frozen BF6.out 1
   clear BF BB HK HB hx0 hx1 hx2 hx3 hx4 hx5 hx6 hx7 hx8 hb6 Y6
   obtain ⟨hx0,hx1,hx2,hx3,hx4,hx5,hx6,hx7,hx8⟩:=S0
   by_cases hc:r≤0
   ·have cb:decide (r≤0)=true:=decide_eq_true hc
    obtain ⟨k1,rfl⟩:∃ k1,gk=k1+1:=⟨gk - 1,by have:=HQ.out;omega⟩
    have hw:wrap64 ((j:Int)+1)=((j+1:Nat):Int):=by
     have:=HN.out;have:=HL.out
     unfold wrap64;push_cast;omega
    (try simp only [Exit.then])
    go_wp2
    go_roundg k1
    case measure=>omega
    case rel=>exact ⟨j+1,⟨(advF_step hiP (c1,c2) l j hjl (by rw [HLJ.out];exact HR2.out.symm ▸ hc)).symm.trans HE.out⟩,⟨by omega⟩,⟨by have:=HQ.out;omega⟩,⟨blk_put BF6.out 1 _ (by first | rfl | (rw [← hw];rfl) | (simp [hw];done))⟩,⟨blk_far BB6.out (Ne.symm NFB) _⟩,⟨KeepBut.set_ HK6.out _ _⟩,⟨below_set HB6.out GE.out⟩⟩
   ·have cb:decide (r≤0)=false:=decide_eq_false hc
    have EC:=am (cut_Compare.eq x1 x2 c1 c2 10 (by omega))
    obtain ⟨r2,hr⟩:∃ r2,cmpC (x1,x2) (c1,c2)=r2:=⟨_,rfl⟩
    have hr':cmp2 (canon x1 x2) (canon c1 c2)=r2:=hr
    rw [hr'] at EC
    have HR3:=am hr;have HC:=am hc
    clear hr hr'
    (try simp only [Exit.then])
    go_wp2
    go_region_held3 (fun w'=>w'.cell? ⟨fr,0,none⟩=some (.slice (some ad) n cc)∧w'.cell? ⟨fr,1,none⟩=some (.int .i64 (j:Int))∧w'.cell? (ad.add (j * 5))=some (.int .i64 x1)∧w'.cell? ⟨(ad.add (j * 5)).block,(ad.add (j * 5)).off+1,none⟩=some (.int .i64 x2)∧w'.cell? ⟨(ad.add (j * 5)).block,(ad.add (j * 5)).off+2,none⟩=some (.int .i64 x3)∧w'.cell? ⟨(ad.add (j * 5)).block,(ad.add (j * 5)).off+3,none⟩=some (.int .i64 x4)∧w'.cell? ⟨(ad.add (j * 5)).block,(ad.add (j * 5)).off+4,none⟩=some (.int .i64 x5)∧w'.cell? ⟨gb,0,none⟩=some (.int .i64 c1)∧w'.cell? ⟨gb,1,none⟩=some (.int .i64 c2)) (first | exact KS'.out _ (by repeat (first | assumption | (with_reducible first | exact Below.refl _ _ | apply below_alloc | apply pw_below_drewN | apply below_drew1) | exact Below.refl _ _)))
     ((first | (go_at_call 109;(with_reducible refine (cut_Compare.calls 10 x1 x2 c1 c2 r2 _ EC.out).mono ?_);rintro e w7 ⟨rfl,hb6⟩;have Y7:=below_step (w:=w6) (by repeat (first | assumption | (with_reducible first | exact Below.refl _ _ | apply below_alloc | apply pw_below_drewN | apply below_drew1) | exact Below.refl _ _)) hb6)))
    (try simp only [Exit.then])
    have ea:advF hiP (c1,c2) l i=j:=HE.out.symm.trans (advF_stop hiP (c1,c2) l j hjl (by rw [HLJ.out];have h3:cmpC (x3,x4) (c1,c2)=r:=HR2.out;have h4:=HC.out;show ¬ cmpC (x3,x4) (c1,c2)≤0;omega))
    have e2:valV (c1,c2) l j=if 0 < r2 then (0,false) else (x5,true):=by
     unfold valV
     rw [List.getElem?_eq_getElem hjl,HLJ.out]
     show (if 0 < cmpC (x1,x2) (c1,c2) then ((0:Int),false) else (x5,true))=_
     rw [HR3.out]
    have EA:=am ea;have E2:=am e2;clear ea e2
    by_cases hd:0 < r2
    ·have cd:decide (0 < r2)=true:=decide_eq_true hd
     have HD:=am hd;go_wp2
     go_ret2
     refine ⟨?_,?_,KeepBut.trans HK6.out (KeepBut.of_below Y7 fr none) (.inl rfl),below_step HB6.out Y7⟩
     ·rw [EA.out,E2.out,if_pos HD.out]
      rfl
     ·rw [EA.out]
      exact blk_below BF6.out Y7
    ·have cd:decide (0 < r2)=false:=decide_eq_false hd
     have HD:=am hd
     have S7:=KS'.out _ Y7
     clear hx0 hx1 hx2 hx3 hx4 hx5 hx6 hx7 hx8
     obtain ⟨hx0,hx1,hx2,hx3,hx4,hx5,hx6,hx7,hx8⟩:=S7
     go_wp2
     go_quiet (fail)
     (try simp only [Exit.then])
     go_wp2
     go_ret2
     refine ⟨?_,?_,KeepBut.trans HK6.out (KeepBut.of_below (pw_below_drewN Y7 _) fr none) (.inl rfl),below_step HB6.out (pw_below_drewN Y7 _)⟩
     ·rw [EA.out,E2.out,if_neg (by have:=HD.out;omega)]
      rfl
     ·rw [EA.out]
      exact blk_below BF6.out (pw_below_drewN Y7 _)
  ·have q2:¬ (j:Int) < (n:Int):=by omega
   have q3:decide ((j:Int) < (n:Int))=false:=decide_eq_false q2
   have hjn:j=n:=by have:=HJ.out;omega
   obtain ⟨hx0,hx1⟩:=e2 BF;go_wp2
   go_quiet (fail)
   have BFq:Aside0 ((wr.drewN nq).heap[fr]? = some (.cells #[.slice A n cc,.int .i64 (j:Int)] 103 (0,0))):=⟨BF.out⟩
   have HKq:=am (KeepBut.trans HK.out (KeepBut.of_below (pw_below_drewN (Below.refl _ wr) nq) fr none) (.inl rfl))
   have HBq:=am (pw_below_drewN HB.out nq)
   clear BF HK HB hx0 hx1;generalize wr.drewN nq=w5 at *;obtain ⟨hx0,hx1⟩:=e2 BFq
   have q4:decide ((j:Int)=(n:Int))=true:=decide_eq_true (by omega)
   have q5:((j:Int) == (n:Int))=true:=by rw [beq_iff_eq];omega
   have HJN:=am hjn;go_wp2
   go_quiet (fail)
   (try simp only [Exit.then])
   go_wp2
   go_ret2
   have hnl:l.length≤j:=by rw [HN.out,HJN.out];exact Nat.le_refl _
   have ea:advF hiP (c1,c2) l i=j:=HE.out.symm.trans (advF_end hiP (c1,c2) l j hnl)
   have e2:valV (c1,c2) l j=(0,false):=by
    unfold valV
    rw [List.getElem?_eq_none hnl]
   refine ⟨?_,?_,KeepBut.trans HKq.out (KeepBut.of_below (pw_below_drewN (Below.refl _ w5) _) fr none) (.inl rfl),pw_below_drewN HBq.out _⟩
   ·rw [ea,e2]
    rfl
   ·rw [ea]
    exact BFq.out
end Go.Proofs.YtbcpnejdbookkaaGreat.Print
namespace Go.Proofs.YtbcpnejdbookkaaGreat.Print
open Go.RowKit Go.Proofs.YtbcpnejdbookkaaGreatW.PrintWords Go.Proofs.YtbcpnejdbookkaaGreatW.PrintLast Go.Proofs.YtbcpnejdbookkaaGreatW.PrintMore
abbrev WR (r:Option Nat):Fence:={ Fence.wide with round:=r }
section
variable {r : Option Nat} {n : Nat} {P : Program} {ops : Array Oper} {Q : Exit → Act → World → Prop} {md : Region.Mode} {S : World → Prop} {K K' : Act → World → Prop} {o : Oper} {a : Act} {w : World}
theorem operIn_of (hd:∀ c,o.op≠.defer c) (hn:∀ a w,K a w→K' a w) (h:o.wp P a w K Q):o.wpIn (WR r) n P a w K' Q:=by
 refine ⟨fun _ _=>trivial,?_⟩
 rw [Oper.semAt_eq (WR r).round a.eval o hd]
 unfold Oper.wp at h
 generalize (execOp a.eval o).run P w=res at h ⊢
 cases res with
 | ok x w' =>
  cases x <;> simp only [Oper.upon,Oper.uponIn] at h ⊢
  case value=>exact hn _ _ h
  case skip=>exact hn _ _ h
  case defer=>exact hn _ _ h
  case enter f args=>exact ⟨by simp [Fence.wide],(callsIn_wide (n:=n - 1)).2 (Calls.mono h fun e w'' he=>by cases e <;> first | exact hn _ _ he | exact he)⟩
  case row row args=>exact ⟨by simp [Fence.wide],fun c cs _=>let ⟨v,w',q,s⟩:=h c cs;⟨v,w',hn _ _ q,stepsIn_wide.2 s⟩⟩
 | halt x w'=>cases x <;> simp only [Oper.upon,Oper.uponIn] at h ⊢ <;> exact h
def noDefer (o:Oper):Bool:=match o.op with | .defer _=>false | _=>true
theorem noDefer.ne (h:noDefer o=true):∀ c,o.op≠.defer c:=fun c e=>by simp [noDefer,e] at h
theorem listIn_of (hq:¬ LetsOut Q):∀ (l:List Oper) (a:Act) (w:World),l.all noDefer=true→wpList P ops Q l a w→wpListIn (WR r) n P ops Q l a w
 | [],_,_,_,h=>h
 | o :: l,a,w,hd,h=>by
  rw [List.all_cons,Bool.and_eq_true] at hd
  simp only [wpList,wpListIn] at h ⊢
  split
  ·rename_i hw
   rw [if_pos hw] at h
   exact operIn_of (noDefer.ne hd.1) (fun a w=>listIn_of hq l a w hd.2) (h.resolve_right fun x=>hq x.2)
  ·rename_i hw
   rw [if_neg hw] at h
   exact ⟨fun _ _=>trivial,listIn_of hq l _ _ hd.2 h⟩
theorem regionIn_of {id:Nat} {l:List Oper} (hq:¬ LetsOut Q) (hd:l.all noDefer=true) (h:wpList P l.toArray Q l a w):(Code.region id l.toArray false).wpIn (WR r) n P Q a w :=
 wpIn_region_lit (listIn_of hq l a w hd h)
theorem opIn_of {i:Nat} (ho:ops[i]? = some o) (hd:∀ c,o.op≠.defer c) (hq:¬ LetsOut Q) (h:∀ K':Act→World→Prop,(∀ a w,K a w→K' a w)→if Region.wanted o (yielded ops a.tmps)=true then o.wp P a w K' Q else K' (a.put o.dst undef) w):wpOpIn Fence.wide n P ops Q i K a w:=by
 unfold wpOpIn
 simp only [ho]
 have h:=h K (fun _ _ h=>h)
 split
 ·rename_i hw
  rw [if_pos hw] at h
  exact operIn_of (r:=none) hd (fun _ _ h=>h) h
 ·rename_i hw
  rw [if_neg hw] at h
  exact ⟨fun _ _=>trivial,h⟩
theorem yieldsIf_opIn {i:Nat} {v:Value} (hi:ops[i]? = some o) (hy:YieldsIf P ops S o v a) (hS:S w) (h:K (a.put o.dst v) w):wpOpIn Fence.wide n P ops Q i K a w:=by
 unfold Go.wpOpIn
 simp only [hi]
 rcases hy with ⟨hw,hv⟩ | ⟨hw,rfl⟩
 ·rw [if_pos hw]
  refine ⟨fun _ _=>trivial,?_⟩
  show Oper.uponIn _ _ _ _ _ _ _ ((execOp a.eval o).run P w)
  rw [hv w hS];exact h
 ·rw [if_neg (by simp [hw])]
  exact ⟨fun _ _=>trivial,h⟩
theorem opIn_putIf {j:Nat} {oi oj:Oper} {v:Value} (hj:ops[j]? = some oj) (hap:oi.apart ops oj=true)
 (hsi:∀ cs b,oi.op≠.select cs b) (hsj:∀ cs b,oj.op≠.select cs b) (hQ:∀ c a w,Q (.panic c) (a.put oi.dst v) w→Q (.panic c) a w)
 (hy:YieldsIf P ops S oi v a) (h:wpOpIn Fence.wide n P ops Q j K (a.put oi.dst v) w) :
 wpOpIn Fence.wide n P ops Q j (fun a' w'=>YieldsIf P ops S oi v a'∧K (a'.put oi.dst v) w') a w:=by
 obtain ⟨h1,h2,h3⟩:=Oper.apart_spec hap
 have keep:∀ (a:Act),YieldsIf P ops S oi v a→∀ u,YieldsIf P ops S oi v (a.put oj.dst u):=fun a hy u =>
  hy.of_same (execOp_put oi hsi a oj.dst u h3) (wanted_put oi a oj.dst u h3)
 have keepD:∀ d,YieldsIf P ops S oi v { a with defers:=d :: a.defers }:=fun d=>hy.of_same rfl rfl
 unfold wpOpIn at *
 simp only [hj] at *
 rw [wanted_put oj a oi.dst v h1] at h
 split
 ·rename_i hw
  rw [if_pos hw] at h
  refine ⟨fun _ _=>trivial,?_⟩
  have h:=h.2
  change Oper.uponIn _ _ _ _ _ _ _ ((execOp _ oj).run P w) at h
  show Oper.uponIn _ _ _ _ _ _ _ ((execOp _ oj).run P w)
  rw [execOp_put oj hsj a oi.dst v h1] at h
  generalize (execOp a.eval oj).run P w=r at *
  cases r with
  | ok x w' =>
   cases x <;> simp only [Oper.uponIn] at h ⊢
   case value u=>exact ⟨keep a hy u,by rw [← Act.put_comm a v u h2];exact h⟩
   case skip=>exact ⟨keep a hy _,by rw [← Act.put_comm a v undef h2];exact h⟩
   case defer d =>
    refine ⟨keep _ (keepD d) _,?_⟩
    rw [← Act.put_comm _ v undef h2,← Act.put_defers]
    exact h
   case enter f args =>
    refine ⟨h.1,CallsIn.mono h.2 fun e w'' he=>?_⟩
    cases e with
    | returned u=>exact ⟨keep a hy u,by rw [← Act.put_comm a v u h2];exact he⟩
    | panicked c=>exact hQ _ _ _ he
    | outgrown=>exact he
   case row row args=>exact ⟨h.1,RowsIn.mono h.2 fun u w'' he=>⟨keep a hy u,by rw [← Act.put_comm a v u h2];exact he⟩⟩
   case round l f tmps assign body =>
    refine ⟨h.1,RoundIn.mono h.2 fun e w'' he=>?_⟩
    cases e with
    | returned u=>exact ⟨keep a hy u,by rw [← Act.put_comm a v u h2];exact he⟩
    | panicked c=>exact hQ _ _ _ he
    | outgrown=>exact he
  | halt x w' =>
   cases x <;> simp only [Oper.uponIn] at h ⊢
   case panic u=>exact hQ _ _ _ h
 ·rename_i hw
  rw [if_neg hw] at h
  exact ⟨fun _ _=>trivial,keep a hy _,by rw [← Act.put_comm a v undef h2];exact h.2⟩
def anyHI (n:Nat) (P:Program) (md:Region.Mode) (ops:Array Oper) (Q:Exit→Act→World→Prop) (S:World→Prop):Nat→Array Bool→Act→World→Prop
  | 0,listed,a,w=>Region.ready md ops listed=[]∧Q .normal a w
  | fuel+1,listed,a,w =>
    (Region.ready md ops listed=[]→Q .normal a w) ∧
    ∀ i∈Region.ready md ops listed,wpOpIn Fence.wide n P ops Q i (fun a' w'=>S w'∧anyHI n P md ops Q S fuel (listed.setIfInBounds i true) a' w') a w
theorem anyIn_of_held:∀ (fuel:Nat) (listed:Array Bool) (a:Act) (w:World),anyHI n P md ops Q S fuel listed a w→wpAnyIn Fence.wide n P md ops Q fuel listed a w
 | 0,_,_,_,h=>h
 | fuel+1,_,_,_,h=>⟨h.1,fun i hi=>wpOpIn_mono (fun a' w' h'=>anyIn_of_held fuel _ a' w' h'.2) (h.2 i hi)⟩
theorem anyHI_first {i:Nat} {oi:Oper} {v:Value} (hi:ops[i]? = some oi) (hsel:∀ (j:Nat) (o:Oper) cs b,ops[j]? = some o→o.op≠.select cs b)
 (hQ:∀ c a w,Q (.panic c) (a.put oi.dst v) w→Q (.panic c) a w) :
 ∀ (fuel:Nat) (listed:Array Bool) (a:Act) (w:World),
  (∀ j oj,ops[j]? = some oj→j≠i→listed.getD j true=false→(∀ e∈oj.after,Region.binds md e=true→e.on≠i)→oi.apart ops oj=true) →
  i∈Region.ready md ops listed→YieldsIf P ops S oi v a→S w →
  anyHI n P md ops Q S fuel (listed.setIfInBounds i true) (a.put oi.dst v) w→anyHI n P md ops Q S (fuel+1) listed a w:=by
 intro fuel
 induction fuel with
 | zero =>
  intro listed a w _ hr hy hS H
  refine ⟨fun h=>(by rw [h] at hr;cases hr),fun j hj=>?_⟩
  by_cases hji:j=i
  ·subst hji;exact yieldsIf_opIn hi hy hS ⟨hS,H⟩
  ·have:=ready_mono hj hji
   rw [H.1] at this
   cases this
 | succ fuel ih =>
  intro listed a w hfree hr hy hS H
  refine ⟨fun h=>(by rw [h] at hr;cases hr),fun j hj=>?_⟩
  by_cases hji:j=i
  ·subst hji;exact yieldsIf_opIn hi hy hS ⟨hS,H⟩
  ·have h1:=H.2 j (ready_mono hj hji)
   obtain ⟨hjun,oj,hoj,hall⟩:=mem_ready.1 hj
   have hnot:∀ e∈oj.after,Region.binds md e=true→e.on≠i:=fun e he hb heq=>by
    have h1:=hall e he hb
    have h0:=(mem_ready.1 hr).1
    rw [heq] at h1
    rcases Nat.lt_or_ge i listed.size with h' | h'
    ·simp [h'] at h0 h1;rw [h0] at h1;cases h1
    ·simp [Array.getElem?_eq_none h'] at h1
   have h2:=opIn_putIf hoj (hfree j oj hoj hji hjun hnot) (fun cs b=>hsel i oi cs b hi) (fun cs b=>hsel j oj cs b hoj) hQ hy h1
   have hfree':∀ k ok,ops[k]? = some ok→k≠i→(listed.setIfInBounds j true).getD k true=false →
    (∀ e∈ok.after,Region.binds md e=true→e.on≠i)→oi.apart ops ok=true:=fun k ok hk hki hun hno=>by
    refine hfree k ok hk hki ?_ hno
    by_cases hjk:j=k
    ·subst hjk;exact hjun
    ·rw [getD_set_ne true hjk] at hun;exact hun
   refine wpOpIn_mono (fun a' w' h3=>⟨h3.2.1,ih (listed.setIfInBounds j true) a' w' hfree' (ready_mono hr (Ne.symm hji)) h3.1 h3.2.1 ?_⟩) h2
   rw [Array.setIfInBounds_comm _ _ hji]
   exact h3.2.2
theorem anyHI_take {i:Nat} {oi:Oper} {v:Value} {fuel:Nat} {listed:Array Bool} (hi:ops[i]? = some oi)
 (hs:Region.noSelect ops=true) (hf:Region.free md ops listed i=true) (hr:(Region.ready md ops listed).contains i=true)
 (hQ:∀ c a w,Q (.panic c) (a.put oi.dst v) w→Q (.panic c) a w) (hy:YieldsIf P ops S oi v a) (hS:S w)
 (h:anyHI n P md ops Q S fuel (listed.setIfInBounds i true) (a.put oi.dst v) w):anyHI n P md ops Q S (fuel+1) listed a w :=
 anyHI_first hi (Region.noSelect_spec hs) hQ fuel listed a w (Region.free_spec hi hf) (by simpa using hr) hy hS h
theorem anyHI_all {rs:List Nat} {fuel:Nat} {listed:Array Bool} (hr:Region.ready md ops listed=rs) (hne:rs≠[])
 (h:∀ i∈rs,wpOpIn Fence.wide n P ops Q i (fun a' w'=>S w'∧anyHI n P md ops Q S fuel (listed.setIfInBounds i true) a' w') a w):anyHI n P md ops Q S (fuel+1) listed a w :=
 ⟨fun h0=>absurd (hr ▸ h0) hne,hr ▸ h⟩
theorem anyHI_one {i:Nat} {fuel:Nat} {listed:Array Bool} (hr:Region.ready md ops listed=[i])
 (h:wpOpIn Fence.wide n P ops Q i (fun a' w'=>S w'∧anyHI n P md ops Q S fuel (listed.setIfInBounds i true) a' w') a w):anyHI n P md ops Q S (fuel+1) listed a w :=
 anyHI_all hr (by simp) (fun j hj=>by rw [List.mem_singleton] at hj;subst hj;exact h)
theorem anyHI_tk (i N:Nat) (v:Value) {oi:Oper} {fuel:Nat} {listed:Array Bool} {a':Act} (hi:ops[i]? = some oi) (hN:oi.dst=some N)
 (hs:Region.noSelect ops=true) (hf:Region.free md ops listed i=true) (hr:(Region.ready md ops listed).contains i=true)
 (hQ:∀ c a w,Q (.panic c) (a.put oi.dst v) w→Q (.panic c) a w) (hy:YieldsIf P ops S oi v a) (hS:S w) (ha:a.put (some N) v=a')
 (h:anyHI n P md ops Q S fuel (listed.setIfInBounds i true) a' w):anyHI n P md ops Q S (fuel+1) listed a w :=
 anyHI_take hi hs hf hr hQ hy hS (by rw [hN,ha];exact h)
theorem anyHI_goes (i N : Nat) {oi : Oper} {fuel : Nat} {l : Array Bool} {f : FuncId} {fn : Func} {us : Array Operand} {ts : Array TypeId} (hi : ops[i]? = some oi) (hN : oi.dst = some N) (hr : Region.ready md ops l = [i]) (hq : ¬ LetsOut Q) (hf : P.funcs[f]? = some fn) (hname : (fn.name == "runtime.NumGoroutine") = false) (hb : fn.body.isSome = true) (args : Array Value)
 (hw:Region.wanted oi (yielded ops a.tmps)=true) (hop:oi.op=.call { callee:=.value (.func f),args:=us,argTypes:=ts }) (hargs:us.map a.eval=args)
 (h:Calls P f args w fun e w'=>∃ v,e=.returned v∧S w'∧anyHI n P md ops Q S fuel (l.setIfInBounds i true) (a.put (some N) v) w'):anyHI n P md ops Q S (fuel+1) l a w :=
 anyHI_one hr (opIn_of hi (by rw [hop];intro c e;cases e) hq (fun K' hK=>by rw [hN];exact goes_ hf hname hb args hw hN hop hargs (h.mono fun e w' ⟨v,he,hS,ha⟩=>⟨v,he,hK _ _ ⟨hS,ha⟩⟩)))
theorem anyHI_done {listed:Array Bool} (hr:Region.ready md ops listed=[]) (h:Q .normal a w):∀ fuel,anyHI n P md ops Q S fuel listed a w
 | 0=>⟨hr,h⟩
 | _+1=>⟨fun _=>h,by rw [hr];simp⟩
theorem region_yields {id:Nat} (hm:P.follows .mixedOrders=true) (hS:S w.drew) (h:S w.drew→anyHI 1 P .any ops Q S ops.size (Array.replicate ops.size false) a w.drew):(Code.region id ops true).wp P Q a w :=
 (wpIn_wide (n:=1)).1 (wpIn_region_any hm (anyIn_of_held _ _ _ _ (h hS)))
theorem yield_opIn {i l:Nat} {c:Call} {args:Array Value} (ho:ops[i]? = some o) (hop:o.op=.call c) (hw:Region.wanted o (yielded ops a.tmps)=true) (hx:(execOp a.eval o).run P w=(Instr.yield l args).run P w)
 {R:Ending→World→Prop} (hy:YieldAt Fence.wide 0 P l args w R) (h:∀ e w',R e w'→∃ v,e=.returned v∧K (a.put o.dst v) w'):wpOpIn Fence.wide 1 P ops Q i K a w:=by
 unfold wpOpIn
 simp only [ho]
 rw [if_pos hw]
 refine ⟨fun _ _=>trivial,?_⟩
 show Oper.uponIn _ _ _ _ _ _ _ ((execOp a.eval o).run P w)
 obtain ⟨fn,tmps,assign,body,hr,hR⟩:=hy
 rw [hx,hr]
 exact ⟨fun _=>Nat.le_refl _,hR.mono fun e w' he=>by obtain ⟨v,rfl,hk⟩:=h e w' he;exact hk⟩
theorem anyHI_yield (i N:Nat) {l:Nat} {fuel:Nat} {ls:Array Bool} {c:Call} {args:Array Value} (ho:ops[i]? = some o) (hN:o.dst=some N) (hr:Region.ready md ops ls=[i]) (hop:o.op=.call c) (hw:Region.wanted o (yielded ops a.tmps)=true) (hx:(execOp a.eval o).run P w=(Instr.yield l args).run P w)
 {R:Ending→World→Prop} (hy:YieldAt Fence.wide 0 P l args w R) (h:∀ e w',R e w'→∃ v,e=.returned v∧S w'∧anyHI 1 P md ops Q S fuel (ls.setIfInBounds i true) (a.put (some N) v) w'):anyHI 1 P md ops Q S (fuel+1) ls a w :=
 anyHI_one hr (yield_opIn ho hop hw hx hy (fun e w' he=>by rw [hN];exact h e w' he))
theorem yield_at {L:Nat} {rc:Loop} {args:Array Value} {R:Ending→World→Prop} (h:w.heap[L]? = some (.loop rc)) (hr:rc.state=.ready) (hp:rc.pending=none) (hs:args.size=rc.params.size)
 (hb:∀ rb:Loop,rb={ rc with state:=.busy }→rc.assign.wpIn (WR (some L)) 0 P (Exit.then (fun a₁ w₁=>w₁.heap[L]? = some (.loop rc)∧rc.body.wpIn (WR (some L)) 0 P (fun e _ W3=>e=.normal∧W3.heap[L]? = some (.loop rb)∧R (.returned (.bool true)) (W3.putObj L (.loop rc))) a₁ (w₁.putObj L (.loop rb))) (fun _ _ _=>False))
  { tmps:=(rc.params.zip args).foldl (fun t (p,v)=>t.setIfInBounds p v) rc.tmps,defers:=[] } w):YieldAt Fence.wide 0 P L args w R:=by
 refine ⟨_,_,_,_,run_yield h hs,roundIn_of_wpIn trivial (wpIn_mono (n:=0) (hb _ rfl) fun e a₁ w₁ hq=>?_)⟩
 cases e with
 | normal =>
  obtain ⟨hl,hbody⟩:=hq
  refine ⟨_,run_beginRound hl hr,wpIn_mono (n:=0) hbody fun e a₂ W3 hq=>?_⟩
  obtain ⟨rfl,hl3,hR⟩:=hq
  refine ⟨_,_,run_endRound none hl3,?_⟩
  have e:({ ({ rc with state:=.busy }:Loop) with state:=if (none:Option Code).isNone then .ready else .done,pending:=none }:Loop)=rc:=by cases rc;simp_all
  rw [e];exact hR
 | exit id=>exact hq.elim
 | goto t=>exact hq.elim
 | ret=>exact hq.elim
 | panic c=>exact hq.elim
 | outgrown=>exact hq.elim
theorem wp_range {g:Operand} {ps:Array Tmp} {assign body:Code} {gf:Nat} {lb:Array Value} (hg:a.eval g=.func (.func gf) #[] lb) (eg:∀ args w,(callFunc gf args).run P w=.ok (.enter gf args) w)
 (hit:∀ (rc:Loop) (W1:World),rc.state=.ready→rc.pending=none→rc.tmps=a.tmps→rc.params=ps→rc.assign=assign→rc.body=body→W1=(w.alloc (.deferred (some []))).alloc (.loop rc) →
  Calls P gf (#[.func (.yield (w.heap.size+1)) #[] #[]] ++ lb) W1 fun e W2=>(∃ v,e=.returned v)∧W2.heap[w.heap.size+1]? = some (.loop rc) ∧
   ∀ rc',Q .normal { a with defers:={ target:=.collected w.heap.size,args:=#[] } :: a.defers } (W2.putObj (w.heap.size+1) (.loop rc'))) :
 (Code.rangeFunc g ps assign body).wp P Q a w:=by
 refine (wpIn_wide (n:=1)).1 (wpIn_rangeFunc ?_)
 intro fn _
 obtain ⟨rc,hrc⟩:∃ rc:Loop,rc={ state:=.ready,pending:=none,fn,tmps:=a.tmps,params:=ps,assign,body,defers:=w.heap.size }:=⟨_,rfl⟩
 obtain ⟨W1,hW1⟩:∃ W1,W1=(w.alloc (.deferred (some []))).alloc (.loop rc):=⟨_,rfl⟩
 refine ⟨w.heap.size+1,[{ target:=.collected w.heap.size,args:=#[] }],W1,{ target:=.fn (.func gf) lb,args:=#[.func (.yield (w.heap.size+1)) #[] #[]] },W1,gf,#[.func (.yield (w.heap.size+1)) #[] #[]] ++ lb,W1,?_,?_,fun _ _=>trivial,?_,fun _=>Nat.le_refl _,?_⟩
 ·rw [hW1,hrc];exact run_enterLoop_outer _ _ _ _ _
 ·simp only [resolve,hg]
  simp [go_sem]
 ·simp [invoke,go_sem,eg]
 ·have H:=hit rc W1 (by rw [hrc]) (by rw [hrc]) (by rw [hrc]) (by rw [hrc]) (by rw [hrc]) (by rw [hrc]) hW1
  have hp:rc.pending=none:=by rw [hrc]
  have hb:rc.state≠.busy:=by rw [hrc];simp
  clear hit hrc hW1
  refine (callsIn_wide (n:=1 - 1)).2 (Calls.mono H ?_)
  rintro e W2 ⟨⟨v,rfl⟩,hl,hQ⟩
  have hr:=run_endLoop (P:=P) hl hb
  rw [hp] at hr
  exact ⟨none,_,hr,hQ _⟩
end
theorem kept_putObj {w W:World} {S:Nat→Prop} (h:Kept w W S) {l:Nat} (hl:S l∨w.heap.size≤l) (o:Obj):Kept w (W.putObj l o) S :=
 h.then_ (S2:=fun k=>k=l) ⟨by simp,fun i _ hn=>World.putObj_heap_other hn⟩ (fun k hk=>by rw [hk];exact hl)
theorem below_putObj {w W:World} (h:Below w.heap.size w W) {l:Nat} (hl:w.heap.size≤l) (o:Obj):Below w.heap.size w (W.putObj l o) :=
 ⟨h.os,h.tape,h.output,by simpa using h.size,fun k hk=>(World.putObj_heap_other (by omega)).trans (h.block k hk)⟩
theorem blk_putObj {W:World} {g:Nat} {o:Obj} (h:W.heap[g]? = some o) {l:Nat} (hne:g≠l) (o':Obj):(W.putObj l o').heap[g]? = some o:=(World.putObj_heap_other hne).trans h
theorem R_putObj {α:Type} {d:Kd α} {e base:Nat} {ok:Nat→Prop} {W:World} {v:Value} {xs:List α} (h:d.R e W base ok v xs) {l:Nat} (hl:¬ ok l) (o:Obj):d.R e (W.putObj l o) base ok v xs :=
 Kd.R_step h (fun k ho _=>World.putObj_heap_other (fun e=>hl (e ▸ ho)))
end Go.Proofs.YtbcpnejdbookkaaGreat.Print
namespace Go.Proofs.YtbcpnejdbookkaaGreat.PrintG
open Go.Shelf Go.RowKit Go.Lib Go.Sort Go.Proofs Go.Proofs.YtbcpnejdbookkaaGreatW.PrintWords
def encP (x:Int×Int):List Value:=[.int .i64 x.1,.int .i64 x.2]
theorem eqP (d:Nat) (w:World) (x0 y0:Int) (x1 y1:Int) :
 (Op.equalIn (d+2) 33 (.agg #[.int .i64 x0,.int .i64 x1]) (.agg #[.int .i64 y0,.int .i64 y1])).run Tryz.prog w=.ok (x0 == y0 && (x1 == y1)) w:=by
 refine eqA_of Tryz.underlying33 (by kernel_rfl) ?_
 refine eqf_cons (by rfl) (by go_simp;rfl) (by go_simp;rfl) (by go_simp) ?_
 exact eqf_last (by rfl) (by go_simp;rfl) (by go_simp;rfl) (by go_simp)
attribute [local go_sem high] eqP
theorem cellP {w:World} {blk off:Nat} {d:Array (Int×Int)} (h:HoldsK encP 2 w blk off d) {i:Nat} (hi:i < d.size) :
 (w.cell? ⟨blk,off+i * 2,none⟩=some (.int .i64 d[i]!.1)∧w.cell? ⟨blk,off+i * 2+1,none⟩=some (.int .i64 d[i]!.2))∧w.frozen? ⟨blk,off+i * 2,none⟩=false∧w.frozen? ⟨blk,off+i * 2+1,none⟩=false :=
 ⟨⟨(h.cell hi (show 0 < 2 by decide)).1,(h.cell hi (show 1 < 2 by decide)).1⟩,(h.cell hi (show 0 < 2 by decide)).2,(h.cell hi (show 1 < 2 by decide)).2⟩
theorem zcells (n:Nat):(Builtin.zeroCells #[(.int .i64 0:Value),.int .i64 0] n).toList=List.replicate (n * 2) (.int .i64 0):=by
 apply List.ext_getElem
 ·simp [Builtin.zeroCells]
 ·intro i h1 h2
  rcases (by omega:i % 2=0∨i % 2=1) with h | h <;> simp [Builtin.zeroCells,h]
theorem clearP {w:World} {blk off:Nat} {F:Array Value} (h:Holds id w blk off F) (s n c:Nat) (hs:s+n * 2≤F.size) (hn:0 < n) (ty:TypeId) :
 (Builtin.clear_ #[71] ty #[.slice (some ⟨blk,off+s,none⟩) n c]).run Tryz.prog w=.ok (.tuple #[]) (w.setCells blk (off+s) (List.replicate (n * 2) (.int .i64 0))):=by
 have hst:=stores_of_holds Tryz.prog h s (List.replicate (n * 2) (.int .i64 0)) (by simpa using hs) (fun v hv=>by rw [List.eq_of_mem_replicate hv];rfl)
 have hz:=Tryz.zeroValue33
 obtain ⟨m,rfl⟩:∃ m,n=m+1:=⟨n - 1,by omega⟩
 have hc:(Value.agg #[(.int .i64 0:Value),.int .i64 0]).cells=#[.int .i64 0,.int .i64 0]:=rfl
 simp [Builtin.clear_,run_underlying Tryz.underlying71,hz]
 rw [hc,zcells,hst]
 rfl
theorem storeP {w wr:World} {n blk off:Nat} {dk:Array (Int×Int)} {i:Nat} (hi:i < dk.size) (hwr:wr=putRowK encP 2 (Sort.ahead w n) blk off dk) (a b:Int) :
 ((wr.setCell ⟨blk,off+i * 2,none⟩ (.int .i64 a)).setCell ⟨blk,off+i * 2+1,none⟩ (.int .i64 b)).drew=putRowK encP 2 (Sort.ahead w (n+1)) blk off (dk.setIfInBounds i (a,b)):=by
 have h1:(wr.drew.setCells blk (off+i * 2) (encP (a,b)))=putRowK encP 2 (Sort.ahead w (n+1)) blk off (dk.setIfInBounds i (a,b)):=by
  subst hwr
  unfold putRowK
  rw [show (putRow id (Sort.ahead w n) blk off (flatK encP 2 dk)).drew=(putRow id (Sort.ahead w n) blk off (flatK encP 2 dk)).drewN 1 from rfl,Go.Proofs.putRow_drewN,setCells_putRow _ _ _ _ _ _ (by rw [size_flatK];show i * 2+2≤_;omega)]
  congr 1
  apply Array.ext
  ·simp
  ·intro t ht1 ht2
   have ht:t < dk.size * 2:=by simpa using ht1
   have e1:=get_setMany (encP (a,b)) (i * 2) (flatK encP 2 dk) t (by simpa using ht)
   have e2:=get_flatK encP 2 (dk.setIfInBounds i (a,b)) t (by simpa using ht)
   rw [getElem!_pos _ t (by simpa using ht)] at e1 e2
   rw [e1,e2,get_flatK encP 2 dk t ht]
   by_cases hti:t / 2=i
   ·rw [if_pos (by show i * 2≤t∧t < i * 2+2;omega)]
    rw [hti,Go.Sort.getElem!_set_same dk i _ hi,show t - i * 2=t % 2 by omega]
   ·rw [if_neg (by show ¬ (i * 2≤t∧t < i * 2+2);omega),Go.Sort.getElem!_set_other dk i (t / 2) _ hti]
 rw [← h1]
 rfl
theorem neqP {a b c d:Int} (h:¬ (a=c∧b=d)):(a == c && b == d)=false∧(!(a == c) || !(b == d))=true:=by
 have e:(a == c && b == d)=false:=by
  rw [Bool.eq_false_iff];intro g;rw [Bool.and_eq_true,beq_iff_eq,beq_iff_eq] at g;exact h g
 exact ⟨e,by rw [← Bool.not_and,e];rfl⟩
theorem compactP (blk off cap:Nat) (d:Array (Int×Int)) (w:World) (hH:HoldsK encP 2 w blk off d) (hsz:d.size≤1000000) (hcap:d.size≤cap) :
 Calls Tryz.prog 174 #[.slice (some ⟨blk,off,none⟩) d.size cap] w fun e w'=>e=.returned (.slice (some ⟨blk,off,none⟩) (compactUpTo d d.size).length cap) ∧
  ∃ q F,F.size=d.size * 2∧(∀ t,t < (compactUpTo d d.size).length * 2→F[t]! = (encP (compactUpTo d d.size)[t / 2]!)[t % 2]!)∧w'=putRow id (Sort.ahead w q) blk off F:=by
 have h0:=Tryz.underlying71
 have h1:=Tryz.underlying33
 have mixed:Tryz.prog.follows Departure.mixedOrders=true:=by kernel_rfl
 have same:∀ q,(∀ j,j < d.size→keeps d j=true)→(compactUpTo d d.size).length=d.size∧∃ F:Array Value,F.size=d.size * 2∧(∀ t,t < (compactUpTo d d.size).length * 2→F[t]! = (encP (compactUpTo d d.size)[t / 2]!)[t % 2]!)∧w.drewN q=putRow id (Sort.ahead w q) blk off F:=by
  intro q hall
  have e:compactUpTo d d.size=d.toList:=by rw [compactUpTo_all d _ hall,range_map_get]
  rw [e]
  refine ⟨by simp,flatK encP 2 d,by simp,fun t ht=>?_,(putRowK_self encP 2 (Sort.ahead w q) blk off d (holdsK_ahead encP 2 w q blk off d hH)).symm⟩
  have ht':t < d.size * 2:=by simpa using ht
  rw [get_flatK encP 2 d t ht',getElem!_pos d (t / 2) (by omega),getElem!_pos d.toList (t / 2) (by simp;omega)]
  simp
 have HS:Aside _:=same
 clear same
 by_cases h2:d.size < 2
 ·have HH:Aside _:=hH
  clear hH;go_enter Tryz.func174,Tryz.ntmps174;go_wp2;go_ret
  obtain ⟨e1,e2⟩:=HS.out 0 (fun j hj=>keeps_lt_one d j (by omega))
  exact ⟨by rw [e1];rfl,0,e2⟩
 ·go_enter Tryz.func174,Tryz.ntmps174;go_wp2
  go_loopg [3] d.size (fun g s3 wr=>∃ k q:Nat,1≤k∧k≤d.size∧d.size - k≤g∧s3=.int .i64 k∧wr=w.drewN q∧∀ j,j < k→keeps d j=true)
  case atStart=>exact ⟨1,0,Nat.le_refl _,by omega,by omega,rfl,rfl,keeps_lt_one d⟩
  case round =>
   obtain ⟨k,q,hk1,hk,hg,rfl,rfl,hall⟩:=hrel
   by_cases hlt:k < d.size
   ·obtain ⟨⟨c1,c1'⟩,f1,f1'⟩:=cellP hH hlt
    obtain ⟨⟨c0,c0'⟩,f0,f0'⟩:=cellP hH (show k - 1 < d.size by omega)
    have A:Aside _:=hall
    have HH:Aside _:=hH
    clear hall hH;generalize hx1:d[k]!.1=x1 at c1;generalize hx2:d[k]!.2=x2 at c1';generalize hy1:d[k - 1]!.1=y1 at c0;generalize hy2:d[k - 1]!.2=y2 at c0'
    have B:Aside (d[k]! = (x1,x2)∧d[k - 1]! = (y1,y2)):=⟨by rw [← hx1,← hx2],by rw [← hy1,← hy2]⟩
    clear hx1 hx2 hy1 hy2
    by_cases hdup:x1=y1∧x2=y2
    ·obtain ⟨rfl,rfl⟩:=hdup
     go_wp2_with fail
     go_region_o
     go_wp2
     clear c0 c1 f0 f1 c0' c1' f0' f1'
     go_loopg [3,5] d.size (fun g s3 s5 wr=>∃ (kk k2 q2:Nat) (dk:Array (Int×Int)),s3=.int .i64 kk∧s5=.int .i64 k2∧1≤k2∧k+k2≤d.size∧d.size - (k+k2)≤g∧wr=putRowK encP 2 (Sort.ahead w q2) blk off dk∧CompInv d (k+k2) kk dk)
     case atStart=>exact ⟨k,1,q+1,d,rfl,rfl,Nat.le_refl _,by omega,by omega,(putRowK_self encP 2 (Sort.ahead w (q+1)) blk off d (holdsK_ahead encP 2 w (q+1) blk off d HH.out)).symm,CompInv.start A.out (keeps_neg (by omega) (by rw [B.out.1,B.out.2]))⟩
     case round =>
      obtain ⟨kk,k2,q2,dk,rfl,rfl,h1',hle,hg2,hwr,hI⟩:=hrel
      have hkk:=hI.lt
      have hds:=hI.size
      have hHk:HoldsK encP 2 wr blk off dk:=by rw [hwr];exact holdsK_putRowK encP 2 _ blk off d dk (holdsK_ahead encP 2 w q2 blk off d HH.out) hds
      have W2:Aside (wr=putRowK encP 2 (Sort.ahead w q2) blk off dk):=hwr
      have I2:Aside (CompInv d (k+k2) kk dk):=hI
      clear hwr
      by_cases hlt2:k+k2 < d.size
      ·obtain ⟨⟨cm,cm'⟩,_⟩:=cellP hHk (show k+k2 < dk.size by omega)
       obtain ⟨⟨cp,cp'⟩,_⟩:=cellP hHk (show k+k2 - 1 < dk.size by omega)
       obtain ⟨⟨ck,ck'⟩,fk,fk'⟩:=cellP hHk (show kk < dk.size by omega)
       rw [hI.high (k+k2) (by omega),show off+(k+k2) * 2=off+k * 2+k2 * 2 by omega] at cm cm'
       rw [hI.high (k+k2 - 1) (by omega),show off+(k+k2 - 1) * 2=off+k * 2+(k2 - 1) * 2 by omega] at cp cp'
       have HHK:Aside _:=hHk
       clear hHk hI;generalize hu1:d[k+k2]!.1=u1 at cm;generalize hu2:d[k+k2]!.2=u2 at cm';generalize hv1:d[k+k2 - 1]!.1=v1 at cp;generalize hv2:d[k+k2 - 1]!.2=v2 at cp';generalize dk[kk]!.1=old1 at ck;generalize dk[kk]!.2=old2 at ck'
       have C:Aside (d[k+k2]! = (u1,u2)∧d[k+k2 - 1]! = (v1,v2)):=⟨by rw [← hu1,← hu2],by rw [← hv1,← hv2]⟩
       clear hu1 hu2 hv1 hv2
       by_cases huv:u1=v1∧u2=v2
       ·obtain ⟨rfl,rfl⟩:=huv
        go_wp2_with fail
        go_region_o
        go_wp2
        go_roundg (d.size - (k+(k2+1)))
        case measure=>omega
        case rel=>exact ⟨kk,k2+1,q2+1,dk,rfl,by go_num,by omega,by omega,Nat.le_refl _,by rw [W2.out];rfl,I2.out.skip (keeps_neg (by omega) (by rw [C.out.1,C.out.2]))⟩
       ·obtain ⟨b1,b2⟩:=neqP huv
        have UV:Aside _:=huv
        clear huv
        go_wp2_with fail
        go_region_o
        go_wp2
        go_roundg (d.size - (k+(k2+1)))
        case measure=>omega
        case rel =>
         have K:=I2.out.keep hlt2 (keeps_pos (by rw [C.out.1,C.out.2];exact fun h=>UV.out ⟨congrArg Prod.fst h,congrArg Prod.snd h⟩))
         rw [C.out.1] at K
         exact ⟨kk+1,k2+1,q2+1,dk.setIfInBounds kk (u1,u2),by go_num,by go_num,by omega,by omega,Nat.le_refl _,storeP (by omega) W2.out u1 u2,K⟩
      ·have hend:k+k2=d.size:=by omega
       have hn0:0 < d.size - kk:=by omega
       have hcl:=clearP hHk (kk * 2) (d.size - kk) (cap - kk) (by rw [size_flatK];omega) hn0
       clear hHk;go_wp2;go_ret;have hI:=I2.out
       rw [hend] at hI
       refine ⟨by rw [hI.len];rfl,q2,setMany (flatK encP 2 dk) (kk * 2) (List.replicate ((d.size - kk) * 2) (.int .i64 0)),by simp [hds],fun t ht=>?_,?_⟩
       ·rw [hI.len] at ht
        rw [get_setMany _ _ _ t (by simp;omega),if_neg (by omega),get_flatK encP 2 dk t (by omega)]
        have e:=hI.low (t / 2) (by omega)
        rw [getElem!_pos (compactUpTo d d.size) (t / 2) (by rw [hI.len];omega)]
        rw [List.getElem?_eq_getElem (by rw [hI.len];omega)] at e
        rw [Option.some.inj e]
       ·rw [W2.out]
        exact setCells_putRow _ _ _ _ _ _ (by simp;omega)
    ·obtain ⟨b1,b2⟩:=neqP hdup
     have DU:Aside _:=hdup
     clear hdup
     go_wp2_with fail
     go_region_o
     go_wp2
     go_roundg (d.size - (k+1))
     case measure=>omega
     case rel =>
      refine ⟨k+1,q+1,by omega,by omega,Nat.le_refl _,by go_num,rfl,fun j hj=>?_⟩
      by_cases e:j=k
      ·subst e
       exact keeps_pos (by rw [B.out.1,B.out.2];exact fun h=>DU.out ⟨congrArg Prod.fst h,congrArg Prod.snd h⟩)
      ·exact A.out j (by omega)
   ·have:k=d.size:=by omega
    subst this
    have HH:Aside _:=hH
    clear hH;go_wp2;go_ret
    obtain ⟨e1,e2⟩:=HS.out q hall
    exact ⟨by rw [e1];rfl,q,e2⟩
end Go.Proofs.YtbcpnejdbookkaaGreat.PrintG
namespace Go.Proofs.YtbcpnejdbookkaaGreat.PrintG
open Go.Shelf Go.Lib Go.Sort Go.Proofs Go.Proofs.YtbcpnejdbookkaaGreatW.PrintWords
def OwnP (W:World) (g cap:Nat) (l:List (Int×Int)):Prop :=
 ∃ cur,W.heap[g]? = some (.cells cur 33 (0,0))∧l.length≤cap∧cur.size=cap * 2∧cur.toList.take (l.length * 2)=l.flatMap encP
theorem flatP_get (l:List (Int×Int)):∀ j,j < l.length * 2→(l.flatMap encP)[j]? = some ((encP (l.toArray[j / 2]!))[j % 2]!):=by
 induction l with
 | nil=>intro j hj;simp at hj
 | cons x l ih =>
  intro j hj
  rw [List.flatMap_cons]
  by_cases h:j < 2
  ·rw [List.getElem?_append_left (by simpa [encP] using h)]
   have:j / 2=0:=by omega
   rw [this]
   obtain rfl | rfl:j=0∨j=1:=by omega
   all_goals rfl
  ·rw [List.getElem?_append_right (by simp [encP];omega)]
   have hl:(encP x).length=2:=rfl
   rw [hl,ih (j - 2) (by simp at hj;omega)]
   have e1:j / 2=(j - 2) / 2+1:=by omega
   have e2:(j - 2) % 2=j % 2:=by omega
   rw [e1,e2]
   have hj4:(j - 2) / 2 < l.length:=by simp at hj;omega
   rw [getElem!_pos (x :: l).toArray _ (by simpa using hj4),getElem!_pos l.toArray _ (by simpa using hj4)]
   simp
theorem flatP_length (l:List (Int×Int)):(l.flatMap encP).length=l.length * 2:=by
 induction l with
 | nil=>rfl
 | cons x l ih=>rw [List.flatMap_cons,List.length_append,ih,List.length_cons];show 2+_=_;omega
theorem OwnP.lt {W:World} {g cap:Nat} {l:List (Int×Int)} (h:OwnP W g cap l):g < W.heap.size:=by
 obtain ⟨cur,h1,_⟩:=h
 exact (Array.getElem?_eq_some_iff.1 h1).1
theorem OwnP.holds {W:World} {g cap:Nat} {l:List (Int×Int)} (h:OwnP W g cap l):HoldsK encP 2 W g 0 l.toArray:=by
 obtain ⟨cur,hb,hc,hs,ht⟩:=h
 intro j hj
 have hj':j < l.length * 2:=by simpa using hj
 rw [Nat.zero_add]
 refine ⟨(blk_cell hb j).trans ?_,blk_frozen hb j⟩
 rw [get_flatK encP 2 l.toArray j (by simpa using hj')]
 have h0:=flatP_get l j hj'
 rw [← ht,List.getElem?_take,if_pos hj'] at h0
 simpa using h0
theorem OwnP.put {W W':World} {g cap q:Nat} {os:Array Obj} {l m:List (Int×Int)} (h:OwnP W g cap l) {F:Array Value} (hF:F.size=l.length * 2) (hm:m.length≤l.length)
 (hFm:F.toList.take (m.length * 2)=m.flatMap encP) (hW:W'=grow (putRow id (Sort.ahead W q) g 0 F) os):OwnP W' g cap m:=by
 obtain ⟨cur,hb,hc,hs,ht⟩:=h
 have hg:g < W.heap.size:=(Array.getElem?_eq_some_iff.1 hb).1
 refine ⟨putCells id 0 F cur,?_,by omega,by simp [putCells,hs],?_⟩
 ·rw [hW]
  show ((Sort.ahead W q).heap.modify g _ ++ os)[g]? = _
  rw [Array.getElem?_append_left (by simpa [Sort.ahead] using hg)]
  show (W.heap.modify g _)[g]? = _
  rw [Array.getElem?_modify,if_pos rfl,hb]
  rfl
 ·rw [← hFm]
  apply List.ext_getElem?
  intro j
  rw [List.getElem?_take,List.getElem?_take]
  by_cases hj:j < m.length * 2
  ·rw [if_pos hj,if_pos hj]
   have h1:j < F.size:=by omega
   have h2:j < cur.size:=by rw [hs];omega
   simp [putCells,h1,h2]
  ·rw [if_neg hj,if_neg hj]
theorem below_put {W W':World} {g q:Nat} {os:Array Obj} {F:Array Value} (hg:g < W.heap.size) (hW:W'=grow (putRow id (Sort.ahead W q) g 0 F) os):Go.RowKit.Below g W W':=by
 subst hW
 refine ⟨rfl,rfl,rfl,?_,fun k hk=>?_⟩
 ·simp [grow,putRow,mapBlock,Sort.ahead]
 ·have hkl:k < W.heap.size:=Nat.lt_trans hk hg
  simp only [grow,putRow,mapBlock,Sort.ahead]
  rw [Array.getElem?_append_left (by simpa using hkl),Array.getElem?_modify,if_neg (by omega)]
end Go.Proofs.YtbcpnejdbookkaaGreat.PrintG
namespace Go.Proofs.YtbcpnejdbookkaaGreat.PrintG
open Go.RowKit hiding Below
open Go.Shelf Go.Lib Go.Sort Go.Proofs.YtbcpnejdbookkaaGreat.Print Go.Proofs.YtbcpnejdbookkaaGreatW.PrintWords
def cfP (x y:Int×Int):Int:=cmp2 (canon x.1 x.2) (canon y.1 y.2)
theorem cmpLaysP (blk off size:Nat) (w:World):CmpLays Tryz.prog 109 #[] encP 2 cfP blk off size w :=
 fun m os dk _ x y=>(cut_Compare.calls 10 x.1 x.2 y.1 y.2 (cfP x y) _ (cut_Compare.eq x.1 x.2 y.1 y.2 10 (by omega))).mono fun _ _ ⟨he,hb⟩=>⟨he,below_grow hb⟩
theorem cfP_lt (x y:Int×Int):ltOf cfP x y=true ↔ (canon x.1 x.2).1 < (canon y.1 y.2).1∨((canon x.1 x.2).1=(canon y.1 y.2).1∧(canon x.1 x.2).2 < (canon y.1 y.2).2):=by
 unfold ltOf cfP
 rw [decide_eq_true_eq]
 rcases cmp2_cases (canon x.1 x.2) (canon y.1 y.2) with ⟨h,g⟩ | ⟨h,g⟩ | ⟨h,g⟩
 ·rw [h];exact ⟨fun _=>g,fun _=>by decide⟩
 ·rw [h];exact ⟨fun hh=>absurd hh (by decide),fun hh=>by omega⟩
 ·rw [h,g];exact ⟨fun hh=>absurd hh (by decide),fun hh=>by omega⟩
theorem swoP:SWO (ltOf cfP) where
 irrefl x:=by
  rw [Bool.eq_false_iff];intro h;rw [cfP_lt] at h;omega
 trans x y z h1 h2:=by rw [cfP_lt] at h1 h2 ⊢;omega
 ntrans x y z h1 h2:=by
  rw [Bool.eq_false_iff,Ne,cfP_lt] at h1 h2 ⊢;omega
theorem sortP (g cap:Nat) (l:List (Int×Int)) (W:World) (h:OwnP W g cap l) (hn:l.length≤1000000) :
 Calls Tryz.prog 173 #[.slice (some ⟨g,0,none⟩) l.length cap,.func (.func 109) #[] #[]] W fun e w'=>e=.returned (.tuple #[])∧∃ d:List (Int×Int),d.Perm l∧d.Pairwise (fun x y=>ltOf cfP y x=false)∧OwnP w' g cap d∧Go.RowKit.Below g W w':=by
 have eg:∀ args w,(callFunc 109 args).run Tryz.prog w=.ok (.enter 109 args) w:=enters_of Tryz.func109 (by kernel_rfl) rfl
 have hcon:=AnyQ.slices_SortFunc Tryz.sortCut 2 Tryz.isAgg33 Tryz.sizeOf33 encP (fun _=>rfl) (fun x v hv=>by simp [encP] at hv;rcases hv with rfl | rfl <;> rfl) cfP swoP 109 #[] g 0 cap l.toArray W eg (cmpLaysP g 0 l.toArray.size W) h.holds h.lt (by simp;omega)
 change Calls Tryz.prog 173 _ _ _ at hcon
 refine hcon.mono ?_
 rintro e w' ⟨he,d,n,os,hp,hs,rfl⟩
 have h4:d.size=l.length:=by have:=hp.1;simpa using this
 refine ⟨he,d.toList,?_,?_,?_,?_⟩
 ·have h3:=hp.2.2
  simp only [List.size_toArray] at h3
  rw [← h4] at h3
  simp only [Array.extract_size] at h3
  refine h3.trans ?_
  simp [h4]
 ·rw [List.pairwise_iff_getElem]
  intro i j hi hj hij
  have h5:=hs i j (Nat.zero_le _) hij (by simp at hj;simp;omega)
  rw [getElem!_pos d j (by simpa using hj),getElem!_pos d i (by simpa using hi)] at h5
  simpa using h5
 ·refine h.put (F:=flatK encP 2 d) (q:=n) (os:=os) (by simp [h4]) (by simp [h4]) ?_ rfl
  apply List.ext_getElem?
  intro j
  rw [List.getElem?_take]
  by_cases hj:j < d.toList.length * 2
  ·rw [if_pos hj,flatP_get d.toList j hj]
   have hj':j < d.size * 2:=by simpa using hj
   have e:=get_flatK encP 2 d j hj'
   rw [getElem!_pos _ j (by simpa using hj')] at e
   rw [Array.getElem?_toList,Array.getElem?_eq_getElem (by simpa using hj'),e]
  ·rw [if_neg hj,List.getElem?_eq_none (by rw [flatP_length];omega)]
 ·exact below_put h.lt rfl
theorem uniqP (g cap:Nat) (l:List (Int×Int)) (W:World) (h:OwnP W g cap l) (hn:l.length≤1000000) (hc:l.length≤cap) :
 Calls Tryz.prog 174 #[.slice (some ⟨g,0,none⟩) l.length cap] W fun e w'=>e=.returned (.slice (some ⟨g,0,none⟩) (compactUpTo l.toArray l.length).length cap)∧OwnP w' g cap (compactUpTo l.toArray l.length)∧Go.RowKit.Below g W w':=by
 have hle:∀ m,(compactUpTo l.toArray m).length≤m:=fun m=>by
  unfold compactUpTo
  rw [List.length_map]
  exact Nat.le_trans (List.length_filter_le _ _) (by simp)
 have hcon:=compactP g 0 cap l.toArray W h.holds (by simpa using hn) (by simpa using hc)
 simp only [List.size_toArray] at hcon
 refine hcon.mono ?_
 rintro e w' ⟨he,q,F,hF,hv,hw⟩
 have hm:=hle l.length
 generalize compactUpTo l.toArray l.length=m at *
 refine ⟨he,?_,below_put (os:=#[]) h.lt (by rw [grow_empty];exact hw)⟩
 refine h.put (F:=F) (q:=q) (os:=#[]) hF hm ?_ (by rw [grow_empty];exact hw)
 apply List.ext_getElem?
 intro j
 rw [List.getElem?_take]
 by_cases hj:j < m.length * 2
 ·have hj':j < F.size:=by omega
  have e:=hv j hj
  rw [if_pos hj,flatP_get m j hj,Array.getElem?_toList,Array.getElem?_eq_getElem hj']
  rw [getElem!_pos F j hj',getElem!_pos m (j / 2) (by omega)] at e
  rw [e,getElem!_pos m.toArray (j / 2) (by simp;omega)]
  simp
 ·rw [if_neg hj,List.getElem?_eq_none (by rw [flatP_length];omega)]
theorem insNone (fv:Value) (w:World):Calls Tryz.prog 176 #[.slice none 0 0,.int .i64 0,.int .i64 0,fv] w fun e w'=>e=.returned (.tuple #[])∧w'=w:=by
 have mixed:Tryz.prog.follows Departure.mixedOrders=true:=by kernel_rfl
 go_enter Tryz.func176,Tryz.ntmps176;go_wp2
 refine wp_loop_rounds 1 ?_
 rw [rounds_succ]
 go_wp2
 go_end0
 exact ⟨rfl,rfl⟩
theorem pdqNone (lim:Int) (fv:Value) (w:World):Calls Tryz.prog 175 #[.slice none 0 0,.int .i64 0,.int .i64 0,.int .i64 lim,fv] w fun e w'=>e=.returned (.tuple #[])∧w'=w:=by
 have mixed:Tryz.prog.follows Departure.mixedOrders=true:=by kernel_rfl
 have hi:=insNone fv
 go_enter Tryz.func175,Tryz.ntmps175;go_wp2
 refine wp_loop_rounds 1 ?_
 rw [rounds_succ]
 go_wp2_with (go_at_call 176;refine (hi _).mono ?_;rintro e w' ⟨rfl,rfl⟩)
 (try simp only [Exit.inBlock,Exit.then]);refine bodyPost_ret (results_none rfl _ _ _) rfl ?_
 exact ⟨rfl,rfl⟩
theorem sortNone (fv:Value) (w:World):Calls Tryz.prog 173 #[.slice none 0 0,fv] w fun e w'=>e=.returned (.tuple #[])∧w'=w:=by
 have mixed:Tryz.prog.follows Departure.mixedOrders=true:=by kernel_rfl
 have hp:=fun lim W=>pdqNone lim fv W
 have hl:∀ W,Calls Tryz.prog 122 #[.int .u64 0] W fun e w'=>e=.returned (.int .i64 (Lib.bitLen 0:Nat))∧w'=W:=fun W=>by
  have h:=Any.bits_Len (SlLaysF0.n15.bits (P:=Tryz.prog) (ρ:=Tryz.sortCut_ren) { Tryz.sortCut with }) 0 W (by omega) (by omega)
  exact h
 go_enter Tryz.func173,Tryz.ntmps173
 go_wp2_with (first | (go_at_call 122;refine (hl _).mono ?_;rintro e w' ⟨rfl,rfl⟩) | (go_at_call 175;refine (hp _ _).mono ?_;rintro e w' ⟨rfl,rfl⟩))
 go_end0
 exact ⟨rfl,rfl⟩
theorem uniqNone (w:World):Calls Tryz.prog 174 #[.slice none 0 0] w fun e w'=>e=.returned (.slice none 0 0)∧w'=w:=by
 have mixed:Tryz.prog.follows Departure.mixedOrders=true:=by kernel_rfl
 go_enter Tryz.func174,Tryz.ntmps174;go_wp2;go_ret
 exact ⟨rfl,rfl⟩
end Go.Proofs.YtbcpnejdbookkaaGreat.PrintG
namespace Go.Proofs.YtbcpnejdbookkaaGreat.Print
open Go.RowKit Go.Proofs.YtbcpnejdbookkaaGreatW.PrintWords Go.Proofs.YtbcpnejdbookkaaGreatW.PrintLast
def ct (c:Ct):Int×Int:=(c.f0,c.f1)
def cn (c:Ct):Int×Int:=canon c.f0 c.f1
def WC (c:Ct):Prop:=I64 c.f1
theorem WC.cc {c:Ct} (h:WC c):CC (cn c):=canon_CC h
def tc (p:Int×Int):Ct:=⟨p.1,p.2⟩
theorem ct_tc (p:Int×Int):ct (tc p)=p:=rfl
def cnC (c:Ct):Ct:=tc (cn c)
def ltC (x y:Ct):Bool:=decide (x.f0 < y.f0∨(x.f0=y.f0∧x.f1 < y.f1))
def insC (x:Ct):List Ct→List Ct
 | []=>[x]
 | y :: l=>if ltC x y=true then x :: y :: l else if ltC y x=true then y :: insC x l else y :: l
def sortC (l:List Ct):List Ct:=l.foldr insC []
def cut_Sort.f (k:Nat) (l0:List Ct):Option (List Ct):=if l0.length < 1000000 then some (sortC (l0.map cnC)) else none
theorem cut_Sort.mono:∀ a0 k,LeO (cut_Sort.f k a0) (cut_Sort.f (k+1) a0):=fun _ _=>LeO.refl _
theorem ltC_iff {x y:Ct}:ltC x y=true ↔ x.f0 < y.f0∨(x.f0=y.f0∧x.f1 < y.f1):=by unfold ltC;rw [decide_eq_true_eq]
theorem ct_ext {x y:Ct} (h:x.f0=y.f0) (g:x.f1=y.f1):x=y:=by cases x;cases y;simp only at h g;rw [h,g]
theorem ltC_tri {x y:Ct} (h:¬ ltC x y=true) (g:¬ ltC y x=true):x=y:=by
 rw [ltC_iff] at h g;exact ct_ext (by omega) (by omega)
theorem insC_mem {x z:Ct}:∀ {l:List Ct},z∈insC x l ↔ z=x∨z∈l
  | []=>by simp [insC]
  | y :: l=>by
    unfold insC
    by_cases h:ltC x y=true
    · rw [if_pos h];simp
    · rw [if_neg h]
      by_cases g:ltC y x=true
      · rw [if_pos g,List.mem_cons,insC_mem,List.mem_cons]
        exact ⟨fun e=>e.elim (fun e=>.inr (.inl e)) (fun e=>e.elim .inl (fun e=>.inr (.inr e))),fun e=>e.elim (fun e=>.inr (.inl e)) (fun e=>e.elim .inl (fun e=>.inr (.inr e)))⟩
      · rw [if_neg g,ltC_tri h g];simp
theorem insC_up {x:Ct}:∀ {l:List Ct},l.Pairwise (fun a b=>ltC a b=true)→(insC x l).Pairwise (fun a b=>ltC a b=true)
  | [],_=>List.pairwise_singleton _ _
  | y :: l,h=>by
    obtain ⟨h1,h2⟩:=List.pairwise_cons.1 h
    unfold insC
    by_cases c:ltC x y=true
    · rw [if_pos c]
      refine List.pairwise_cons.2 ⟨fun z hz=>?_,h⟩
      rcases List.mem_cons.1 hz with rfl | hz
      · exact c
      · have:=h1 z hz;rw [ltC_iff] at *;omega
    · rw [if_neg c]
      by_cases g:ltC y x=true
      · rw [if_pos g]
        refine List.pairwise_cons.2 ⟨fun z hz=>?_,insC_up h2⟩
        rcases insC_mem.1 hz with rfl | hz
        · exact g
        · exact h1 z hz
      · rw [if_neg g];exact h
theorem sortC_up:∀ (l:List Ct),(sortC l).Pairwise (fun a b=>ltC a b=true)
 | []=>List.Pairwise.nil
 | _ :: l=>insC_up (sortC_up l)
theorem sortC_mem {z:Ct}:∀ {l:List Ct},z∈sortC l ↔ z∈l
  | []=>Iff.rfl
  | x :: l=>by
    show z∈insC x (sortC l) ↔ _
    rw [insC_mem,sortC_mem,List.mem_cons]
theorem up_unique:∀ {l m:List Ct},l.Pairwise (fun a b=>ltC a b=true)→m.Pairwise (fun a b=>ltC a b=true)→(∀ z,z∈l ↔ z∈m)→l=m
  | [],[],_,_,_=>rfl
  | [],y :: m,_,_,h=>absurd ((h y).2 List.mem_cons_self) List.not_mem_nil
  | x :: l,[],_,_,h=>absurd ((h x).1 List.mem_cons_self) List.not_mem_nil
  | x :: l,y :: m,hl,hm,h=>by
    obtain ⟨l1,l2⟩:=List.pairwise_cons.1 hl
    obtain ⟨m1,m2⟩:=List.pairwise_cons.1 hm
    have irr:∀ c:Ct,¬ ltC c c=true:=fun c g=>by rw [ltC_iff] at g;omega
    have asy:∀ a b:Ct,ltC a b=true→ltC b a=true→False:=fun a b g g'=>by rw [ltC_iff] at g g';omega
    have e:x=y:=by
      rcases List.mem_cons.1 ((h x).1 List.mem_cons_self) with e | e
      · exact e
      · rcases List.mem_cons.1 ((h y).2 List.mem_cons_self) with e' | e'
        · exact e'.symm
        · exact (asy _ _ (m1 x e) (l1 y e')).elim
    subst e
    rw [up_unique l2 m2 (fun z=>⟨fun hz=>?_,fun hz=>?_⟩)]
    · rcases List.mem_cons.1 ((h z).1 (List.mem_cons_of_mem _ hz)) with e | e
      · subst e;exact absurd (l1 z hz) (irr z)
      · exact e
    · rcases List.mem_cons.1 ((h z).2 (List.mem_cons_of_mem _ hz)) with e | e
      · subst e;exact absurd (m1 z hz) (irr z)
      · exact e
end Go.Proofs.YtbcpnejdbookkaaGreat.Print
namespace Go.Proofs.YtbcpnejdbookkaaGreat.PrintG
open Go.RowKit hiding Below
open Go.Shelf Go.Lib Go.Sort Go.Proofs.YtbcpnejdbookkaaGreat.Print Go.Proofs.YtbcpnejdbookkaaGreatW.PrintWords
theorem comp_of {α:Type} [Inhabited α] [DecidableEq α] (a:Array α):∀ m z,z∈compactUpTo a m→∃ j,j < m∧z=a[j]! := by
 intro m z h
 unfold compactUpTo at h
 obtain ⟨j,hj,rfl⟩:=List.mem_map.1 h
 exact ⟨j,List.mem_range.1 (List.mem_filter.1 hj).1,rfl⟩
theorem comp_mem {α:Type} [Inhabited α] [DecidableEq α] (a:Array α):∀ m j,j < m→a[j]! ∈ compactUpTo a m:=by
 intro m
 induction m with
 | zero=>intro j hj;omega
 | succ m ih =>
  intro j hj
  rw [compactUpTo_succ]
  by_cases h:j < m
  ·exact List.mem_append_left _ (ih j h)
  ·obtain rfl:j=m:=by omega
   by_cases k:keeps a j=true
   ·rw [if_pos k];exact List.mem_append_right _ List.mem_cons_self
   ·have hn:¬ (j=0∨a[j]! ≠ a[j - 1]!):=fun g=>k (decide_eq_true g)
    have h0:j≠0:=fun g=>hn (.inl g)
    have h1:a[j]! = a[j - 1]! := Classical.byContradiction fun g=>hn (.inr g)
    rw [h1]
    exact List.mem_append_left _ (ih (j - 1) (by omega))
theorem comp_up {α:Type} [Inhabited α] [DecidableEq α] (R:α→α→Prop) (a:Array α) (hR:∀ j m,j < m→m < a.size→a[m]! ≠ a[m - 1]! → R a[j]! a[m]!):∀ m,m≤a.size→(compactUpTo a m).Pairwise R:=by
 intro m
 induction m with
 | zero=>intro _;exact List.Pairwise.nil
 | succ m ih =>
  intro hm
  rw [compactUpTo_succ]
  by_cases k:keeps a m=true
  ·rw [if_pos k]
   refine List.pairwise_append.2 ⟨ih (by omega),List.pairwise_singleton _ _,fun z hz y hy=>?_⟩
   rcases List.mem_singleton.1 hy with rfl
   obtain ⟨j,hj,rfl⟩:=comp_of a m z hz
   have hk:=of_decide_eq_true k
   exact hR j m hj (by omega) (hk.resolve_left (by omega))
  ·rw [if_neg k,List.append_nil];exact ih (by omega)
theorem sorted_uniq (L:List Ct) (hL:∀ c∈L,canon c.f0 c.f1=(c.f0,c.f1)) (d:List (Int×Int)) (hp:d.Perm (L.map ct)) (hs:d.Pairwise (fun x y=>ltOf cfP y x=false)) :
 (compactUpTo d.toArray d.length).map tc=sortC L:=by
 have hcan:∀ p∈d,canon p.1 p.2=p:=fun p hpd=>by
  obtain ⟨c,hc,rfl⟩:=List.mem_map.1 (hp.mem_iff.1 hpd)
  exact hL c hc
 have hget:∀ j,j < d.length→d.toArray[j]! ∈ d:=fun j hj=>by
  rw [getElem!_pos d.toArray j (by simpa using hj)];simp
 have hle:∀ i j,i < j→j < d.length→¬ (d.toArray[j]!.1 < d.toArray[i]!.1∨(d.toArray[j]!.1=d.toArray[i]!.1∧d.toArray[j]!.2 < d.toArray[i]!.2)):=fun i j hij hj=>by
  have h:=List.pairwise_iff_getElem.1 hs i j (by omega) hj hij
  rw [Bool.eq_false_iff,Ne,cfP_lt] at h
  have e1:=hcan _ (hget j hj)
  have e2:=hcan _ (hget i (by omega))
  rw [getElem!_pos d.toArray j (by simpa using hj),getElem!_pos d.toArray i (by simp;omega)] at *
  simp only [List.getElem_toArray] at *
  rw [e1,e2] at h
  exact h
 refine up_unique ?_ (sortC_up L) (fun z=>?_)
 ·rw [List.pairwise_map]
  refine comp_up (fun x y=>ltC (tc x) (tc y)=true) d.toArray (fun j m hjm hm hne=>?_) d.length (by simp)
  have hm':m < d.length:=by simpa using hm
  rw [ltC_iff]
  show d.toArray[j]!.1 < d.toArray[m]!.1∨(d.toArray[j]!.1=d.toArray[m]!.1∧d.toArray[j]!.2 < d.toArray[m]!.2)
  have h1:=hle (m - 1) m (by omega) hm'
  have h2:d.toArray[m]!.1≠d.toArray[m - 1]!.1∨d.toArray[m]!.2≠d.toArray[m - 1]!.2:=by
   by_cases a:d.toArray[m]!.1=d.toArray[m - 1]!.1
   ·exact .inr fun b=>hne (Prod.ext a b)
   ·exact .inl a
  by_cases hj:j=m - 1
  ·subst hj;omega
  ·have h3:=hle j (m - 1) (by omega) (by omega)
   omega
 ·rw [sortC_mem,List.mem_map]
  constructor
  ·rintro ⟨p,hpm,rfl⟩
   obtain ⟨j,hj,rfl⟩:=comp_of _ _ _ hpm
   obtain ⟨c,hc,e⟩:=List.mem_map.1 (hp.mem_iff.1 (hget j hj))
   rw [← e];exact hc
  ·intro hz
   have:ct z∈d:=hp.mem_iff.2 (List.mem_map.2 ⟨z,hz,rfl⟩)
   obtain ⟨j,hj,e⟩:=List.getElem_of_mem this
   refine ⟨ct z,?_,rfl⟩
   have h:=comp_mem d.toArray d.length j hj
   rw [getElem!_pos d.toArray j (by simpa using hj)] at h
   simp only [List.getElem_toArray] at h
   rwa [e] at h
theorem own_of_R {w:World} {base:Nat} {ok:Nat→Prop} {v:Value} {xs:List Ct} (h:Kd.R k33 33 w base ok v xs) :
 (v=.slice none 0 0∧xs=[])∨∃ g cap,v=.slice (some ⟨g,0,none⟩) xs.length cap∧base≤g∧xs.length≤cap∧cap≤maxLen∧OwnP w g cap (xs.map ct):=by
 obtain ⟨_,inner,⟨hl,ho⟩,hlen,hr⟩:=h
 rcases ho with ⟨h1,h2⟩ | ⟨g,cap,cur,h1,h2,h3,h4,h5,h6,h7⟩
 ·exact .inl ⟨h1,List.eq_nil_of_length_eq_zero h2⟩
 ·refine .inr ⟨g,cap,h1,h2,h4,h5,cur,h3,by simpa using h4,h6,?_⟩
  rw [List.length_map]
  refine h7.trans ?_
  apply List.ext_getElem?
  intro j
  have hsz:k33.sz=2:=rfl
  rw [hsz] at hl hr
  by_cases hj:j < xs.length * 2
  ·rw [flatP_get _ j (by simpa using hj)]
   have hj2:j / 2 < xs.length:=by omega
   have e:=k33_openM (hr (j / 2) xs[j / 2] (List.getElem?_eq_getElem hj2))
   have e2:((inner.drop (j / 2 * 2)).take 2)[j % 2]? = inner[j]? := by
    rw [List.getElem?_take,if_pos (by omega),List.getElem?_drop,show j / 2 * 2+j % 2=j by omega]
   rw [e] at e2
   rw [← e2,getElem!_pos _ (j / 2) (by simpa using hj2)]
   simp only [List.getElem_toArray,List.getElem_map]
   have h2:j % 2 < 2:=by omega
   obtain h0 | h0:j % 2=0∨j % 2=1:=by omega
   ·rw [h0];rfl
   ·rw [h0];rfl
  ·rw [List.getElem?_eq_none (by omega),List.getElem?_eq_none (by rw [flatP_length];simp;omega)]
theorem R_of_own {w:World} {base g cap:Nat} {l:List (Int×Int)} (h:OwnP w g cap l) (hg:base≤g) (hc:cap≤maxLen):Kd.R k33 33 w base (fun _=>True) (.slice (some ⟨g,0,none⟩) l.length cap) (l.map tc):=by
 obtain ⟨cur,h1,h2,h3,h4⟩:=h
 refine ⟨fun _ _=>trivial,l.flatMap encP,⟨by rw [flatP_length,List.length_map];rfl,.inr ⟨g,cap,cur,by rw [List.length_map],hg,h1,by simpa using h2,hc,h3,by rw [List.length_map];exact h4⟩⟩,by rw [flatP_length,List.length_map];rfl,fun j p hp=>?_⟩
 rw [List.getElem?_map] at hp
 obtain ⟨q,hq,rfl⟩:=Option.map_eq_some_iff.1 hp
 obtain ⟨hj,e⟩:=List.getElem?_eq_some_iff.1 hq
 have e2:((l.flatMap encP).drop (j * k33.sz)).take k33.sz=[.int .i64 q.1,.int .i64 q.2]:=by
  show ((l.flatMap encP).drop (j * 2)).take 2=_
  apply List.ext_getElem?
  intro i
  rw [List.getElem?_take]
  by_cases hi:i < 2
  ·rw [if_pos hi,List.getElem?_drop,flatP_get l _ (by omega),show (j * 2+i) / 2=j by omega,show (j * 2+i) % 2=i by omega,getElem!_pos l.toArray j (by simpa using hj)]
   simp only [List.getElem_toArray,e]
   obtain rfl | rfl:i=0∨i=1:=by omega
   ·rfl
   ·rfl
  ·rw [if_neg hi,List.getElem?_eq_none (by simp;omega)]
 rw [e2]
 exact k33_mkM _ _ _ (tc q)
end Go.Proofs.YtbcpnejdbookkaaGreat.PrintG
namespace Go.Proofs.YtbcpnejdbookkaaGreat.Print
open Go.RowKit Go.Proofs.YtbcpnejdbookkaaGreatW.PrintWords Go.Proofs.YtbcpnejdbookkaaGreatW.PrintLast Go.Proofs.YtbcpnejdbookkaaGreatW.PrintMore
def cut_Sort.l0:Nat→List (S33)→List (S33)→Int→Int→Option ((List (S33)))
 | 0,_,_,_,_=>none
 | k+1,x3,x6,x7,x8=>if x8 < x7 then (if 0≤x8 then (if x8 < (x6.length:Int) then ((cut_Canon.f k ((rd_T33 x6 x8).f0) ((rd_T33 x6 x8).f1)).bind fun bt208=>(if x3.length < 8796093022208 then (cut_Sort.l0 k (x3 ++ [(⟨bt208.1,bt208.2⟩:S33)]) x6 x7 (wrap64 (x8+1))) else (none))) else (none)) else (none)) else (some x3)
theorem cn_canon (q:Ct):canon (cnC q).f0 (cnC q).f1=((cnC q).f0,(cnC q).f1):=by
 show canon (canon q.f0 q.f1).1 (canon q.f0 q.f1).2=canon q.f0 q.f1
 unfold canon
 by_cases h1:q.f0 < 0∨(q.f0=0∧q.f1=-9223372036854775808)
 ·rw [if_pos h1];rfl
 ·rw [if_neg h1]
  by_cases h2:q.f0 > 0
  ·rw [if_pos h2];rfl
  ·rw [if_neg h2,if_neg h1,if_neg h2]
theorem cut_Sort.l0_eq (l:List S33) (hl:l.length≤1000000):∀ (n i:Nat) (x:List S33) (k:Nat),i+n=l.length→x.length≤i→n+12≤k→cut_Sort.l0 k x l (l.length:Int) (i:Int)=some (x ++ (l.drop i).map cnC):=by
 intro n
 induction n with
 | zero =>
  intro i x k hin hx hk
  obtain ⟨k,rfl⟩:∃ m,k=m+1:=⟨k - 1,by omega⟩
  rw [cut_Sort.l0,if_neg (by omega),List.drop_of_length_le (by omega),List.map_nil,List.append_nil]
 | succ n ih =>
  intro i x k hin hx hk
  obtain ⟨k,rfl⟩:∃ m,k=m+1:=⟨k - 1,by omega⟩
  have hlt:i < l.length:=by omega
  have hw:wrap64 ((i:Int)+1)=((i+1:Nat):Int):=by unfold wrap64;omega
  have hrd:rd_T33 l (i:Int)=l[i]:=by simp [rd_T33,List.getD,hlt]
  have hdrop:l.drop i=l[i] :: l.drop (i+1):=List.drop_eq_getElem_cons hlt
  rw [cut_Sort.l0,if_pos (by omega),if_pos (by omega),if_pos (by omega),hrd,cut_Canon.eq _ _ k (by omega),Option.bind_some,if_pos (by omega),hw,ih (i+1) _ k (by omega) (by rw [List.length_append];show x.length+1≤_;omega) (by omega),hdrop,List.map_cons,List.append_assoc]
  rfl
theorem cut_Sort.calls (k:Nat) (A0:Option Addr) (c0:Nat) (l0:List (S33)) (r:List (S33)) (w:World) (hr0:Kd.C k33 w A0 l0.length l0) (hc0:l0.length≤c0) (h:cut_Sort.f k l0=some r) :
 Calls Tryz.prog 170 #[.slice A0 l0.length c0] w fun e w'=>∃ v0_:Value,e=.returned (v0_)∧Kd.R k33 33 w' w.heap.size (fun _=>True) v0_ r∧Below w.heap.size w w':=by
 have hu33:=Tryz.underlying33
 unfold cut_Sort.f at h
 by_cases hlen:l0.length < 1000000
 case neg=>rw [if_neg hlen] at h;exact absurd h (by simp)
 rw [if_pos hlen] at h
 have hl0:=cut_Sort.l0_eq l0 (by omega) l0.length 0 [] (l0.length+12) (by omega) (by simp) (Nat.le_refl _)
 rw [List.drop_zero,List.nil_append] at hl0
 have HRR:=am (Option.some.inj h)
 have HLEN:=am hlen;clear h hlen;generalize hk0:l0.length+12=k' at hl0;clear hk0
 obtain ⟨r',hr'⟩:∃ r',r'=l0.map cnC:=⟨_,rfl⟩
 rw [← hr'] at hl0
 have HR':=am hr'
 clear hr'
 have HR0:=am hr0;have HC0:=am hc0;clear hr0 hc0
 have HB:=am (Below.refl w.heap.size w)
 have H:(cut_Sort.l0 k' ([]:List (S33)) l0 (l0.length:Int) 0)=some r':=hl0
 clear hl0;have H':=am H;clear H;go_enter Tryz.func170,Tryz.ntmps170;go_wp2
 go_loopg [3,8] k' (fun kq v3 v8 w'=>∃ (x3_1:List (S33)) (x8_1:Int),v8=.int .i64 x8_1∧Aside0 (cut_Sort.l0 kq x3_1 l0 (l0.length:Int) x8_1=some r')∧Aside0 (kq≤k')∧Aside0 (Kd.R k33 33 w' w.heap.size (fun _=>True) v3 x3_1)∧Aside0 (Below w.heap.size w w'))
 case atStart=>exact ⟨_,_,rs,H',⟨Nat.le_refl _⟩,kn,⟨bl HB⟩⟩
 case round =>
  clear H'
  obtain ⟨x3_1,x8_1,rfl,HA,HK1,HO_3,HB⟩:=hrel
  cases gk with
  | zero=>exact absurd HA.out (by simp [cut_Sort.l0])
  | succ k1 =>
   have H:=HA.out;clear HA
   simp only [cut_Sort.l0] at H
   revert H;refine itc (fun c2b0 H=>?_) fun c2b0 H=>?_
   ·revert H;refine its fun c3b0 H=>?_
    revert H;refine its fun c4b0 H=>?_
    revert H;refine bnd2 fun t208 t209 A5 H=>?_;dsimp only at H
    revert H;refine itl fun LMc6 H=>?_
    generalize hy210:x3_1 ++ [(⟨t208,t209⟩:S33)]=y210 at H;have Ny210:=am hy210.symm;clear hy210;have H':=am H;clear H
    obtain ⟨ad206,e206,hx206_0,hx206_1,p206,q206⟩:=ax33 HR0 HB x8_1
    cases e206
    go_wp2_with (first | ((with_reducible refine gate_dst (N:=5) rfl ?_);refine bxf #[.int .i64 0,.int .i64 0] 33 HB fun gb207 w7 BK207 GW207 HB hg hb=>?_;replace HO_3:=am (Kd.R_below (Kd.R_elderB (kr HO_3) gb207 (Nat.le_of_eq hg.symm)) hb);clear hb hg;obtain ⟨_,_,_,_⟩:=s2 BK207) | ((with_reducible refine gate_callee (f:=130) rfl ?_);refine gob Tryz.func130 (cut_Canon.calls _ _ _ _ _ _ A5.out) fun w9 hb=>?_;replace HO_3:=am (Kd.R_below (by (with_reducible repeat (first | apply Kd.R_alloc | apply Kd.R_drewN | apply Kd.R_drew));exact (Kd.R_mono (Kd.R_far (p:=⟨gb207,1,none⟩) (Kd.R_far (p:=⟨gb207,0,none⟩) (Kd.R_mono HO_3.out (fun k_ hk=>(⟨hk,hk.2⟩:_∧k_≠gb207))) (fun _ hk=>hk.2) (.int .i64 ((rd_T33 l0 x8_1).f0))) (fun _ hk=>hk.2) (.int .i64 ((rd_T33 l0 x8_1).f1))) (fun _ h_=>h_.1))) hb);replace BK207:=am (blk_below (g:=gb207) (o:=.cells #[.int .i64 ((rd_T33 l0 x8_1).f0),.int .i64 ((rd_T33 l0 x8_1).f1)] 33 (0,0)) (bkp BK207) hb);replace HB:=bst HB hb;(try clear hb);(try clear hb2);(try clear hk);(try clear hi)) | ((with_reducible refine gate_builtin (b:=.append) (xs:=#[.tmp 12,.tmp 15]) rfl ?_);at_builtin;refine Kd.R_append k33 (w0:=w) w.heap.size rfl (.tmp 12) (.tmp 15) 71 33 (.agg #[(.int .i64 0),(.int .i64 0)]) 16 rfl Tryz.underlying71 info33 rfl (by decide) (by omega) u3 x3_1 (⟨t208,t209⟩:S33) [.int .i64 t208,.int .i64 t209] (fun k_=>k_≠gb207) (fun _=>False) rfl rfl ?aP (fun _ hk=>hk.elim) ?aF ?aO ?aB ?aS ?aL ?_;(case aP=>exact k33_mkM _ _ _ (⟨t208,t209⟩:S33));(case aB=>exact (bl HB));(case aF=>exact (fun k_ hk=>Kd.freshB (bk BK207) k_ hk));(case aO=>exact (by (with_reducible repeat (first | apply Kd.R_alloc | apply Kd.R_drewN | apply Kd.R_drew));exact Kd.R_mono HO_3.out (fun _ hk=>hk.2)));(case aS=>exact (below_size (bl HB)));(case aL=>have:=LMc6.out;omega);intro v211 w10 ho hb hg hat;rw [← Ny210.out] at ho;replace BK207:=am (blk_grown (bk BK207) hg (Kd.R_away HO_3.out (fun _ hk=>hk.2)));replace HB:=am hb;have HO212:=am ho;clear HO_3;clear ho hb hg hat))
    go_roundg k1
    case measure=>have:=HK1.out;omega
    case rel=>exact ⟨_,_,rs,H',kl HK1,⟨by (with_reducible repeat (first | apply Kd.R_alloc | apply Kd.R_drewN | apply Kd.R_drew));exact Kd.R_mono HO212.out (fun _ hk=>trivial)⟩,⟨bl HB⟩⟩
   ·have hx:=Option.some.inj H
    clear H
    rw [HR'.out] at hx
    rcases PrintG.own_of_R HO_3.out with ⟨rfl,hnil⟩ | ⟨g,cap,rfl,hg,hcap,hmax,hown⟩
    ·have hsn:=PrintG.sortNone (.func (.func 109) #[] #[])
     have hun:=PrintG.uniqNone
     rw [hnil] at hx
     have hx':=am hx
     clear hx hnil
     go_wp2_with (first | (go_at_call 173;refine (hsn _).mono ?_;rintro e w' ⟨rfl,rfl⟩) | (go_at_call 174;refine (hun _).mono ?_;rintro e w' ⟨rfl,rfl⟩));go_ret
     refine ⟨_,rfl,?_,HB.out⟩
     rw [← HRR.out,← hx'.out]
     exact Kd.R_nil _ _ _ _ _
    ·have hlx:x3_1.length≤1000000:=by rw [hx,List.length_map];have:=HLEN.out;omega
     have SO:∀ W,PrintG.OwnP W g cap (x3_1.map ct)→Calls Tryz.prog 173 #[.slice (some ⟨g,0,none⟩) x3_1.length cap,.func (.func 109) #[] #[]] W fun e w'=>e=.returned (.tuple #[])∧∃ d:List (Int×Int),d.Perm (x3_1.map ct)∧d.Pairwise (fun x y=>Go.Proofs.ltOf PrintG.cfP y x=false)∧PrintG.OwnP w' g cap d∧Go.RowKit.Below g W w':=fun W hW=>by
      have h:=PrintG.sortP g cap (x3_1.map ct) W hW (by rw [List.length_map];exact hlx)
      rw [List.length_map] at h
      exact h
     have UN:∀ W (d:List (Int×Int)),d.length=x3_1.length→PrintG.OwnP W g cap d→Calls Tryz.prog 174 #[.slice (some ⟨g,0,none⟩) x3_1.length cap] W fun e w'=>e=.returned (.slice (some ⟨g,0,none⟩) (Go.Lib.compactUpTo d.toArray d.length).length cap)∧PrintG.OwnP w' g cap (Go.Lib.compactUpTo d.toArray d.length)∧Go.RowKit.Below g W w':=fun W d hd hW=>by
      have h:=PrintG.uniqP g cap d W hW (by omega) (by omega)
      rw [hd] at h ⊢
      exact h
     have SO_:=am SO;have UN_:=am UN;have HOWN:=am hown;have HX:=am hx;have HG:=am hg;have HMAX:=am hmax;clear SO UN hown hx hg hmax hlx hcap HO_3
     go_wp2_with (first
      | (go_at_call 173;refine (SO_.out _ HOWN.out).mono ?_;rintro e w1 ⟨rfl,d,hp,hs,ho,hb⟩;have HP:=am hp;have HS:=am hs;have HO:=am ho;have HB1:=am hb;clear hp hs ho hb)
      | (go_at_call 174;refine (UN_.out _ d (HP.out.length_eq.trans (List.length_map ..)) HO.out).mono ?_;rintro e w2 ⟨rfl,ho,hb⟩;have HO2:=am ho;have HB2:=am hb;clear ho hb))
     go_ret;have hsu:=PrintG.sorted_uniq x3_1 (by rw [HX.out];intro c hc;obtain ⟨q,_,rfl⟩:=List.mem_map.1 hc;exact cn_canon q) d HP.out HS.out
     have e1:r=(Go.Lib.compactUpTo d.toArray d.length).map tc:=by rw [hsu,HX.out];exact HRR.out.symm
     refine ⟨_,rfl,?_,(HB.out.trans (HB1.out.mono HG.out)).trans (HB2.out.mono HG.out)⟩
     rw [e1]
     exact PrintG.R_of_own HO2.out HG.out HMAX.out
end Go.Proofs.YtbcpnejdbookkaaGreat.Print
namespace Go.Proofs.YtbcpnejdbookkaaGreat.Print
open Go.RowKit Go.Proofs.YtbcpnejdbookkaaGreatW.PrintWords Go.Proofs.YtbcpnejdbookkaaGreatW.PrintLast Go.Proofs.YtbcpnejdbookkaaGreatW.PrintMore
attribute [local go_sem] max2_int min2_int max_two min_two max_three min_three max_four min_four
def algebra_Cuts.l0:Nat→List (S33)→List (S35)→Int→Int→Option ((List (S33)))
 | 0,_,_,_,_=>none
 | k+1,x3,x6,x7,x8=>if x8 < x7 then (if 0≤x8 then (if x8 < (x6.length:Int) then ((span_Right.f k ((rd_T35 x6 x8).f0.f0) ((rd_T35 x6 x8).f0.f1) ((rd_T35 x6 x8).f1.f0) ((rd_T35 x6 x8).f1.f1)).bind fun t552=>(if t552=true then ((some (([(⟨(rd_T35 x6 x8).f0.f0,(rd_T35 x6 x8).f0.f1⟩:S33),(⟨(rd_T35 x6 x8).f1.f0,(rd_T35 x6 x8).f1.f1⟩:S33)]:List (S33)):List (S33))).bind fun y553=>(if x3.length+y553.length < 8796093022208 then (algebra_Cuts.l0 k (x3 ++ y553) x6 x7 (wrap64 (x8+1))) else (none))) else (algebra_Cuts.l0 k x3 x6 x7 (wrap64 (x8+1))))) else (none)) else (none)) else ((cut_Sort.f k x3).bind fun t559=>(some t559))
def algebra_Cuts.f (k:Nat) (l0:List (S35)):Option ((List (S33))):=algebra_Cuts.l0 k ([]:List (S33)) l0 (l0.length:Int) 0
theorem algebra_Cuts.mono_l:∀ k,(∀ y0 y1 y2 y3,LeO (algebra_Cuts.l0 k y0 y1 y2 y3) (algebra_Cuts.l0 (k+1) y0 y1 y2 y3))
 | 0=>fun _ _ _ _ r h=>by simp [algebra_Cuts.l0] at h
 | k+1=>by
  have ih0:=algebra_Cuts.mono_l k
  ·intro y0 y1 y2 y3
   unfold algebra_Cuts.l0
   repeat' with_reducible first | apply ih0 | apply cut_Sort.mono | apply span_Right.mono | apply lr | apply ln | apply li | refine lb ?_ fun _=>?_
theorem algebra_Cuts.mono:∀ a0 k,LeO (algebra_Cuts.f k a0) (algebra_Cuts.f (k+1) a0):=by
 intro a0 k
 have ih0:=algebra_Cuts.mono_l k
 unfold algebra_Cuts.f
 repeat' with_reducible first | apply ih0 | apply cut_Sort.mono | apply span_Right.mono | apply lr | apply ln | apply li | refine lb ?_ fun _=>?_
theorem algebra_Cuts.calls (k:Nat) (A0:Option Addr) (c0:Nat) (l0:List (S35)) (r:List (S33)) (w:World) (hr0:Kd.C k35 w A0 l0.length l0) (hc0:l0.length≤c0) (h:algebra_Cuts.f k l0=some r) :
 Calls Tryz.prog 157 #[.slice A0 l0.length c0] w fun e w'=>∃ v0_:Value,e=.returned (v0_)∧Kd.R k33 33 w' w.heap.size (fun _=>True) v0_ r∧Below w.heap.size w w':=by
 have hu35:=Tryz.underlying35;have hu33:=Tryz.underlying33;have HR0:=am hr0;have HC0:=am hc0;clear hr0 hc0
 have HB:=am (Below.refl w.heap.size w)
 have H:(algebra_Cuts.l0 k ([]:List (S33)) l0 (l0.length:Int) 0)=some r:=h
 clear h;have H':=am H;clear H;go_enter Tryz.func157,Tryz.ntmps157;go_wp2
 go_loopg [3,8] k (fun kq v3 v8 w'=>∃ (x3_1:List (S33)) (x8_1:Int),v8=.int .i64 x8_1∧Aside0 (algebra_Cuts.l0 kq x3_1 l0 (l0.length:Int) x8_1=some r)∧Aside0 (kq≤k)∧Aside0 (Kd.R k33 33 w' w.heap.size (fun _=>True) v3 x3_1)∧Aside0 (Below w.heap.size w w'))
 case atStart=>exact ⟨_,_,rs,H',⟨Nat.le_refl _⟩,kn,⟨bl HB⟩⟩
 case round =>
  clear H'
  try clear c1
  obtain ⟨x3_1,x8_1,rfl,HA,HK1,HO_3,HB⟩:=hrel
  cases gk with
  | zero=>exact absurd HA.out (by simp [algebra_Cuts.l0])
  | succ k1 =>
   have H:=HA.out;clear HA
   simp only [algebra_Cuts.l0] at H
   revert H;refine itc (fun c2b0 H=>?_) fun c2b0 H=>?_
   ·revert H;refine its fun c3b0 H=>?_
    revert H;refine its fun c4b0 H=>?_
    revert H;refine bnd fun t552 A5 H=>?_
    cases t552;rotate_left
    ·replace H:=itt H;generalize hy553:([(⟨(rd_T35 l0 x8_1).f0.f0,(rd_T35 l0 x8_1).f0.f1⟩:S33),(⟨(rd_T35 l0 x8_1).f1.f0,(rd_T35 l0 x8_1).f1.f1⟩:S33)]:List (S33))=y553 at H;have Ny553:=am hy553.symm;clear hy553;revert H;refine itl fun LMc7 H=>?_
     generalize hy556:x3_1 ++ y553=y556 at H;have Ny556:=am hy556.symm;clear hy556;have H':=am H;clear H
     obtain ⟨ad550,e550,hx550_0,hx550_1,hx550_2,hx550_3,p550,q550⟩:=ax35 HR0 HB x8_1
     cases e550
     go_wp2_with (first | ((with_reducible refine gate_dst (N:=5) rfl ?_);refine bxf #[.int .i64 0,.int .i64 0,.int .i64 0,.int .i64 0] 35 HB fun gb551 w8 BK551 GW551 HB hg hb=>?_;replace HO_3:=krb HO_3 hb;have GE551:=GW551;clear hb hg;obtain ⟨_,_,_,_,_,_,_,_⟩:=s4 BK551) | ((with_reducible refine gate_callee (f:=88) rfl ?_);refine gob Tryz.func88 (span_Right.calls _ _ _ _ _ _ _ A5.out) fun w10 hb=>?_;replace HO_3:=am (Kd.R_below (by (with_reducible repeat (first | apply Kd.R_alloc | apply Kd.R_drewN | apply Kd.R_drew));exact (Kd.R_mono (Kd.R_far (p:=⟨gb551,3,none⟩) (Kd.R_far (p:=⟨gb551,2,none⟩) (Kd.R_far (p:=⟨gb551,1,none⟩) (Kd.R_far (p:=⟨gb551,0,none⟩) (Kd.R_types HO_3.out BK551.out (by decide)) (fun _ hk=>hk.2) (.int .i64 ((rd_T35 l0 x8_1).f0.f0))) (fun _ hk=>hk.2) (.int .i64 ((rd_T35 l0 x8_1).f0.f1))) (fun _ hk=>hk.2) (.int .i64 ((rd_T35 l0 x8_1).f1.f0))) (fun _ hk=>hk.2) (.int .i64 ((rd_T35 l0 x8_1).f1.f1))) (fun _ h_=>h_.1))) hb);replace BK551:=am (blk_below (g:=gb551) (o:=.cells #[.int .i64 ((rd_T35 l0 x8_1).f0.f0),.int .i64 ((rd_T35 l0 x8_1).f0.f1),.int .i64 ((rd_T35 l0 x8_1).f1.f0),.int .i64 ((rd_T35 l0 x8_1).f1.f1)] 35 (0,0)) (bkp BK551) hb);replace HB:=bst HB hb;(try clear hb);(try clear hb2);(try clear hk);(try clear hi);obtain ⟨_,_,_,_,_,_,_,_⟩:=s4 BK551) | ((with_reducible refine gate_dst (N:=19) rfl ?_);refine Kd.R_lit k33 _ 33 ?hg (N:=19) ?hd (xs:=([(⟨(rd_T35 l0 x8_1).f0.f0,(rd_T35 l0 x8_1).f0.f1⟩:S33),(⟨(rd_T35 l0 x8_1).f1.f0,(rd_T35 l0 x8_1).f1.f1⟩:S33)]:List (S33))) (inner:=[.int .i64 ((rd_T35 l0 x8_1).f0.f0),.int .i64 ((rd_T35 l0 x8_1).f0.f1),.int .i64 ((rd_T35 l0 x8_1).f1.f0),.int .i64 ((rd_T35 l0 x8_1).f1.f1)]) (ok:=fun _=>True) (okp:=fun _=>True) ?hr ?hp (fun _ hk=>hk) trivial (Below.refl _ _) (Nat.le_refl _) (by simp) ?_;(case hd=>rfl);(case hg=>rfl);(case hr=>first | (go_simp;done) | (go_simp;rfl));(case hp=>exact (Reps.c2 (show Kd.M k33 _ _ _ (⟨(rd_T35 l0 x8_1).f0.f0,(rd_T35 l0 x8_1).f0.f1⟩:S33) [.int .i64 ((rd_T35 l0 x8_1).f0.f0),.int .i64 ((rd_T35 l0 x8_1).f0.f1)] from (k33_mkM _ _ _ (⟨(rd_T35 l0 x8_1).f0.f0,(rd_T35 l0 x8_1).f0.f1⟩:S33) )) (Reps.c2 (show Kd.M k33 _ _ _ (⟨(rd_T35 l0 x8_1).f1.f0,(rd_T35 l0 x8_1).f1.f1⟩:S33) [.int .i64 ((rd_T35 l0 x8_1).f1.f0),.int .i64 ((rd_T35 l0 x8_1).f1.f1)] from (k33_mkM _ _ _ (⟨(rd_T35 l0 x8_1).f1.f0,(rd_T35 l0 x8_1).f1.f1⟩:S33) )) (Reps.none _ _))));intro v554 w12 ho13 hb hg_ hnew_;clear hg_ hnew_;(first | rw [← Ny553.out] at ho13 | (simp only [Int.reduceToNat] at ho13;rw [← Ny553.out] at ho13));have HO555:=kw (kz ho13 HO_3) HB;replace HO_3:=ke HO_3 ho13 hb;replace BK551:=bkb BK551 hb;replace HB:=bst HB hb;clear hb ho13;obtain ⟨Ao15,co15,rfl⟩:=Kd.R_slice HO555.out) | ((with_reducible refine gate_builtin (b:=.append) (xs:=#[.tmp 14,.tmp 19]) rfl ?_);at_builtin;refine Kd.R_append_rows k33 (w0:=w) w.heap.size rfl (.tmp 14) (.tmp 19) 71 33 (.agg #[(.int .i64 0),(.int .i64 0)]) 16 rfl Tryz.underlying71 info33 rfl (by decide) (by omega) u3 x3_1 y553 _ _ _ (fun k_=>some k_≠(.slice Ao15 y553.length co15:Value).ownBlock) (fun _=>False) rfl rfl ?aO ?aR (fun _ _ h=>h) (fun _ h=>h.elim) ?aF ?aB ?aS ?aL ?_;(case aR=>repeat (first | exact (Kd.R_reads' HO555.out).2.2 | (with_reducible refine Kd.C_alloc ?_ _) | (with_reducible refine Kd.C_drewN ?_ _) | (with_reducible refine Kd.C_drew ?_)));(case aB=>exact (bl HB));(case aF=>exact (fun k_ hk=>Kd.fresh' (Kd.R_lt (kr HO555)) k_ hk));(case aO=>exact (by (with_reducible repeat (first | apply Kd.R_alloc | apply Kd.R_drewN | apply Kd.R_drew));exact Kd.R_mono HO_3.out (fun _ hk=>hk.2)));(case aS=>exact (below_size (bl HB)));(case aL=>have:=LMc7.out;omega);intro v557 w14 ho hb hg hat;rw [← Ny556.out] at ho;replace BK551:=am (blk_grown (bk BK551) hg (Kd.R_ne HO_3.out BK551.out (by decide)));replace HO555:=am (Kd.R_after (ok:=(fun _=>True)) (kr HO555) hg hat);replace HB:=am hb;have HO558:=am ho;clear HO_3;clear ho hb hg hat))
     go_roundg k1
     case measure=>have:=HK1.out;omega
     case rel=>exact ⟨_,_,rs,H',kl HK1,⟨by (with_reducible repeat (first | apply Kd.R_alloc | apply Kd.R_drewN | apply Kd.R_drew));exact Kd.R_mono HO558.out (fun _ hk=>trivial)⟩,⟨bl HB⟩⟩
    ·replace H:=itf H;have H':=am H;clear H
     obtain ⟨ad550,e550,hx550_0,hx550_1,hx550_2,hx550_3,p550,q550⟩:=ax35 HR0 HB x8_1
     cases e550
     go_wp2_with (first | ((with_reducible refine gate_dst (N:=5) rfl ?_);refine bxf #[.int .i64 0,.int .i64 0,.int .i64 0,.int .i64 0] 35 HB fun gb551 w16 BK551 GW551 HB hg hb=>?_;replace HO_3:=krb HO_3 hb;have GE551:=GW551;clear hb hg;obtain ⟨_,_,_,_,_,_,_,_⟩:=s4 BK551) | ((with_reducible refine gate_callee (f:=88) rfl ?_);refine gob Tryz.func88 (span_Right.calls _ _ _ _ _ _ _ A5.out) fun w18 hb=>?_;replace HO_3:=am (Kd.R_below (by (with_reducible repeat (first | apply Kd.R_alloc | apply Kd.R_drewN | apply Kd.R_drew));exact (Kd.R_mono (Kd.R_far (p:=⟨gb551,3,none⟩) (Kd.R_far (p:=⟨gb551,2,none⟩) (Kd.R_far (p:=⟨gb551,1,none⟩) (Kd.R_far (p:=⟨gb551,0,none⟩) (Kd.R_types HO_3.out BK551.out (by decide)) (fun _ hk=>hk.2) (.int .i64 ((rd_T35 l0 x8_1).f0.f0))) (fun _ hk=>hk.2) (.int .i64 ((rd_T35 l0 x8_1).f0.f1))) (fun _ hk=>hk.2) (.int .i64 ((rd_T35 l0 x8_1).f1.f0))) (fun _ hk=>hk.2) (.int .i64 ((rd_T35 l0 x8_1).f1.f1))) (fun _ h_=>h_.1))) hb);replace BK551:=am (blk_below (g:=gb551) (o:=.cells #[.int .i64 ((rd_T35 l0 x8_1).f0.f0),.int .i64 ((rd_T35 l0 x8_1).f0.f1),.int .i64 ((rd_T35 l0 x8_1).f1.f0),.int .i64 ((rd_T35 l0 x8_1).f1.f1)] 35 (0,0)) (bkp BK551) hb);replace HB:=bst HB hb;(try clear hb);(try clear hb2);(try clear hk);(try clear hi)))
     go_roundg k1
     case measure=>have:=HK1.out;omega
     case rel=>exact ⟨_,_,rs,H',kl HK1,⟨kr HO_3⟩,⟨bl HB⟩⟩
   ·revert H;refine bnd fun t559 A19 H=>?_
    obtain rfl:=Option.some.inj H
    obtain ⟨Ao20,co20,eo20⟩:=Kd.R_slice HO_3.out
    subst eo20
    go_wp2_with (first | ((with_reducible refine gate_callee (f:=170) rfl ?_);refine gol (some 23) Tryz.func170 #[.slice Ao20 x3_1.length co20] ?_;(with_reducible refine (cut_Sort.calls _ _ _ _ _ _ (cr HO_3) (cv HO_3) A19.out).mono ?_);rintro e w21 ⟨v560,rfl,ho0,hb⟩;refine ⟨_,rfl,?_⟩;have HO561:=kw (kz ho0 HO_3) HB;replace HO_3:=ke HO_3 ho0 hb;replace HB:=bst HB hb;clear hb ho0))
    go_ret
    exact ⟨_,by first | rfl | (simp [errW_none,errW_some] <;> rfl) | (simp [*,errW_none,errW_some] <;> rfl),by (with_reducible repeat (first | apply Kd.R_alloc | apply Kd.R_drewN | apply Kd.R_drew));exact Kd.R_mono HO561.out (fun _ hk=>trivial),by repeat (first | (with_reducible first | exact HB.out | apply below_alloc | apply pw_below_drewN | apply below_drew1) | exact HB.out)⟩
theorem slices_Clone.calls (l:List S35) (A:Option Addr) (c:Nat) (w:World) (hr:Kd.C k35 w A l.length l) (hc:l.length≤c) (hl:l.length < 2000000) :
 Calls Tryz.prog 158 #[.slice A l.length c] w fun e w'=>∃ v0_:Value,e=.returned v0_∧Kd.R k35 35 w' w.heap.size (fun _=>True) v0_ l∧Below w.heap.size w w':=by
 have hq:=run_eql_slice_nil (P:=Tryz.prog) w 29 35 A l.length c Tryz.underlying29
 rcases A with _ | ad
 ·obtain rfl:l=[]:=by
   rcases l with _ | ⟨x,l⟩
   ·rfl
   ·obtain ⟨ad,h,_⟩:=hr.2.2 (by simp)
    cases h
  simp only [List.length_nil] at hq ⊢
  go_enter Tryz.func158,Tryz.ntmps158;go_wp2;go_ret
  exact ⟨_,rfl,Kd.R_nil _ _ _ _ _,Below.refl _ _⟩
 ·have HR:=am hr;have HL:=am hl;clear hr hl;go_enter Tryz.func158,Tryz.ntmps158
  go_wp2_with (first | ((with_reducible refine gate_dst (N:=5) rfl ?_);refine Kd.R_lit k35 (w0:=w) w.heap.size 35 ?hg (N:=5) ?hd (xs:=([]:List S35)) (inner:=[]) (ok:=fun _=>True) (okp:=fun _=>True) ?hr (Reps.none _ _) (fun _ hk=>hk) trivial (Below.refl _ _) (Nat.le_refl _) (by simp) ?_;(case hg=>rfl);(case hd=>rfl);(case hr=>first | (go_simp;done) | (go_simp;rfl));intro v5 w5 ho hb hg hat;obtain ⟨A5,c5,rfl⟩:=Kd.R_slice ho;have HO:=am ho;have HB:=am hb;clear ho hb hg hat) | ((with_reducible refine gate_builtin (b:=.append) (xs:=#[.tmp 5,.tmp 6]) rfl ?_);at_builtin;refine Kd.R_append_rows k35 (w0:=w) w.heap.size rfl (.tmp 5) (.tmp 6) 29 35 (.agg #[(.int .i64 0),(.int .i64 0),(.int .i64 0),(.int .i64 0)]) 32 rfl Tryz.underlying29 info35 rfl (by decide) (by omega) (.slice A5 ([]:List S35).length c5) ([]:List S35) l _ _ _ (fun _=>True) (fun _=>False) rfl rfl ?aO ?aR (fun _ _ h=>h) (fun _ h=>h.elim) ?aF ?aB ?aS ?aL ?_;(case aO=>exact HO.out);(case aR=>exact Kd.C_below HR.out HB.out);(case aF=>exact (fun _ _=>trivial));(case aB=>exact HB.out);(case aS=>exact HB.out.size);(case aL=>have:=HL.out;rw [List.length_nil];omega);intro v7 w7 ho hb hg hat;rw [List.nil_append] at ho;have HO7:=am ho;have HB7:=am hb;clear ho hb hg hat))
  go_ret
  exact ⟨_,rfl,HO7.out,HB7.out⟩
theorem algebra_pieces.calls (A0 A1:Option Addr) (n0 c0 n1 c1:Nat) (w:World) :
 Calls Tryz.prog 129 #[.slice A0 n0 c0,.slice A1 n1 c1] w fun e w'=>∃ g0 g1:Nat,e=.returned (.func (.func 156) #[] #[.pointer (some ⟨g0,0,none⟩),.pointer (some ⟨g1,0,none⟩)])∧w.heap.size≤g0∧w.heap.size≤g1∧w'.heap[g0]? = some (.cells #[.slice A0 n0 c0] 29 (0,0))∧w'.heap[g1]? = some (.cells #[.slice A1 n1 c1] 29 (0,0))∧Below w.heap.size w w':=by
 go_enter Tryz.func129,Tryz.ntmps129
 go_wp2_with (first | ((with_reducible refine gate_dst (N:=2) rfl ?_);refine bxe (N:=2) (cs:=#[.slice A0 n0 c0]) (t:=29) ?_;intro g0 hgb w1 hbox hb;have BA:=am hbox;have G0:=am hgb;have HB1:=am hb;clear hbox hb hgb) | ((with_reducible refine gate_dst (N:=3) rfl ?_);refine bxe (N:=3) (cs:=#[.slice A1 n1 c1]) (t:=29) ?_;intro g1 hgb w2 hbox hb;have BB:=am hbox;have BA2:=bkb BA hb;have G1:=am (show w.heap.size≤g1 by rw [hgb];exact HB1.out.size);have HB2:=bst HB1 hb;clear hbox hb hgb))
 go_ret
 exact ⟨g0,g1,rfl,Nat.le_of_eq G0.out.symm,G1.out,BA2.out,BB.out,HB2.out⟩
theorem algebra_Refine1.calls (x y:Bool) (w:World):Calls Tryz.prog 108 #[.bool x,.bool y] w fun e w'=>e=.returned (.bool x)∧w'=w:=by
 go_enter Tryz.func108,Tryz.ntmps108;go_wp2;go_ret
 exact ⟨rfl,rfl⟩
def refineL (x:List S35):S33→List S33→Nat→List (S35×Bool)
 | _,[],_=>[]
 | p,q :: rs,i=>(⟨p,q⟩,hasV (p.f0,p.f1) x (advF hiS (p.f0,p.f1) x i)) :: refineL x q rs (advF hiS (p.f0,p.f1) x i)
def piecesR (x:List S35) (c:List S33):List (S35×Bool):=refineL x (rd_T33 c 0) (c.drop 1) 0
theorem pieces1.walk (k:Nat) (l x:List S35) (c:List S33) (A0:Option Addr) (c0:Nat) (w W1:World) (hB1:Below w.heap.size w W1) (hl0:Kd.C k35 w A0 l.length l) (hc0:l.length≤c0)
 (gA gB L gO:Nat) (hA:W1.heap[gA]? = some (.cells #[.slice A0 l.length c0] 29 (0,0))) (hBn:W1.heap[gB]? = some (.cells #[.slice none 0 0] 29 (0,0)))
 (hLw:w.heap.size≤L) (hOw:w.heap.size≤gO) (hL1:L < W1.heap.size) (hO1:gO < W1.heap.size)
 (e1:algebra_Cuts.f k l=some c) (e2:span_List.f k l=some x) (hll:l.length < 1000000) (hlc:c.length < 1000000) (hlx:x.length < 1000000)
 (J:(Nat→Prop)→List (S35×Bool)→World→Prop) (hJ0:∀ W ok,Below W1.heap.size W1 W→J ok [] W)
 (hJm:∀ (ok ok':Nat→Prop) pre W,J ok pre W→(∀ q,ok q→q < W.heap.size→ok' q)→J ok' pre W)
 (hJs:∀ (ok S:Nat→Prop) pre W W',J ok pre W→Kept W W' S→(∀ q,S q→¬ ok q∧q≠L∧q≠gO∧W1.heap.size≤q)→J ok pre W')
 (hY:∀ (ok:Nat→Prop) pre s1 s2 s3 s4 b W,(∀ q,W.heap.size≤q→ok q)→Below w.heap.size w W→J ok pre W→pre.length < 1000000 →
  YieldAt Fence.wide 0 Tryz.prog L #[.agg #[.int .i64 s1,.int .i64 s2,.int .i64 s3,.int .i64 s4],.agg #[.bool b,.bool false]] W fun e W'=>e=.returned (.bool true)∧J ok (pre ++ [((⟨⟨s1,s2⟩,⟨s3,s4⟩⟩:S35),b)]) W'∧Kept W W' (fun q=>q=L∨q=gO∨ok q)∧Below w.heap.size w W') :
 Calls Tryz.prog 156 #[.func (.yield L) #[] #[],.pointer (some ⟨gA,0,none⟩),.pointer (some ⟨gB,0,none⟩)] W1 fun e W2=>(∃ v,e=.returned v)∧J (fun _=>True) (piecesR x c) W2∧Below w.heap.size w W2:=by
 have hu175:=Tryz.underlying175;have hu35:=Tryz.underlying35;have hu33:=Tryz.underlying33;have HB1:=am hB1
 have CL:Aside0 (∀ W,Below W1.heap.size W1 W→Kd.C k35 W A0 l.length l):=⟨fun W hW=>Kd.C_below hl0 (below_step hB1 hW)⟩
 have C0:=am hc0;have E1:=am e1;have E2:=am e2;have HL:=am hll;have HLC:=am hlc;have HLX:=am hlx;have J0:=am hJ0;have JM:=am hJm;have JS:=am hJs;have HY:=am hY;have LW:=am hLw;have OW:=am hOw;have L1:=am hL1;have O1:=am hO1
 have SAB:(W1.cell? ⟨gA,0,none⟩=some (.slice A0 l.length c0)∧W1.cell? ⟨gB,0,none⟩=some (.slice none 0 0)):=⟨(blk_cell hA 0).trans rfl,(blk_cell hBn 0).trans rfl⟩
 have KS:∀ w',Below W1.heap.size W1 w'→w'.cell? ⟨gA,0,none⟩=some (.slice A0 l.length c0)∧w'.cell? ⟨gB,0,none⟩=some (.slice none 0 0):=fun w' hW=>⟨(hW.cell (World.block_lt_of_cell? W1 _ SAB.1)).trans SAB.1,(hW.cell (World.block_lt_of_cell? W1 _ SAB.2)).trans SAB.2⟩
 have KS':=am KS
 have Z1:Aside0 (0 < k35.sz):=⟨by decide⟩
 have Z2:Aside0 (0 < 32):=⟨by decide⟩
 have Z3:Aside0 ((l.length+0) * 32≤140737488355328):=⟨by omega⟩
 have Z4:Aside0 ((Value.agg #[(.int .i64 0),(.int .i64 0),(.int .i64 0),(.int .i64 0)]).cells.size=k35.sz):=⟨by decide⟩
 have Z5:Aside0 (l.length < 2000000):=⟨by omega⟩
 clear hB1 hl0 hc0 e1 e2 hll hlc hlx hJ0 hJm hJs hY hLw hOw hL1 hO1 hA hBn SAB KS;go_enter Tryz.func156,Tryz.ntmps156
 refine wp_seq_k fun K1 hK1=>?_
 go_region_held3 (fun w'=>w'.cell? ⟨gA,0,none⟩=some (.slice A0 l.length c0)∧w'.cell? ⟨gB,0,none⟩=some (.slice none 0 0)) (first | exact KS'.out _ (by repeat (first | assumption | (with_reducible first | exact Below.refl _ _ | apply below_alloc | apply pw_below_drewN | apply below_drew1) | exact Below.refl _ _)))
  ((first | (go_at_call 158;(refine Calls.mono (slices_Clone.calls l A0 c0 _ ?hc C0.out Z5.out) ?hm);(case hc=>refine CL.out _ ?_;repeat (first | assumption | (with_reducible first | exact Below.refl _ _ | apply below_alloc | apply pw_below_drewN | apply below_drew1) | exact Below.refl _ _));rintro e w5 ⟨v5,rfl,ho,hb⟩;obtain ⟨A5,c5,rfl⟩:=Kd.R_slice ho;have HO5:=am ho;have Y5:=below_step (w:=W1) (by repeat (first | assumption | (with_reducible first | exact Below.refl _ _ | apply below_alloc | apply pw_below_drewN | apply below_drew1) | exact Below.refl _ _)) hb;clear ho hb) | (refine Kd.R_append_rows_step k35 (w0:=W1) W1.heap.size ?hw (.tmp 10) (.tmp 11) 29 35 (.agg #[(.int .i64 0),(.int .i64 0),(.int .i64 0),(.int .i64 0)]) 32 ?ho Tryz.underlying29 info35 Z4.out Z1.out Z2.out (.slice A5 l.length c5) l ([]:List S35) none 0 0 (fun _=>True) (fun _=>False) ?e1 ?e2 ?aO (Kd.C_nil k35 _) (fun _ _ h=>h) (fun _ h=>h.elim) (fun _ _=>trivial) ?aB ?aS Z3.out ?_;(case hw=>rfl);(case ho=>rfl);(case e1=>rfl);(case e2=>rfl);(case aO=>exact Kd.R_lower HO5.out (Nat.le_refl _));(case aB=>exact Y5);(case aS=>exact Y5.size);intro v7 w7 ho Y7 hg hat;rw [List.append_nil] at ho;obtain ⟨A7,c7,rfl⟩:=Kd.R_slice ho;have HO7:=am ho;clear ho hg hat HO5 Y5) | (go_at_call 157;(with_reducible refine (algebra_Cuts.calls k A7 c7 l c _ (Kd.R_reads' HO7.out).2.2 (Kd.R_reads' HO7.out).2.1 E1.out).mono ?_);rintro e w8 ⟨v8,rfl,ho,hb⟩;obtain ⟨A8,c8,rfl⟩:=Kd.R_slice ho;have HC8:=am (Kd.R_lower ho Y7.size);have Y8:=below_step (w:=W1) Y7 hb;clear ho hb Y7 HO7)))
 refine hK1 _ _ ?_
 clear hK1 K1
 have KS8:∀ w',Below w8.heap.size w8 w'→w'.cell? ⟨gA,0,none⟩=some (.slice A0 l.length c0)∧w'.cell? ⟨gB,0,none⟩=some (.slice none 0 0):=fun w' hW=>KS'.out w' (below_step Y8 hW)
 have KS'8:=am KS8
 have CL8:Aside0 (∀ W,Below w8.heap.size w8 W→Kd.C k35 W A0 l.length l):=⟨fun W hW=>CL.out W (below_step Y8 hW)⟩
 have Y8':=am Y8
 have CLD:Aside0 (Kd.C k35 w8.drew A0 l.length l):=⟨CL8.out _ (below_drew1 (Below.refl _ _))⟩
 have E3:Aside0 (span_List.f k []=some []):=⟨rfl⟩
 have LN:Aside0 (∀ W,Calls Tryz.prog 69 #[.slice none 0 0] W fun e w'=>∃ (Ay:Option Addr) (cy:Nat),e=.returned (.slice Ay 0 cy)∧Kd.R k35 35 w' W.heap.size (fun _=>True) (.slice Ay 0 cy) []∧Below W.heap.size W w'):=⟨fun W=>(span_List.calls k none 0 [] [] W (Kd.C_nil k35 _) (Nat.le_refl _) E3.out).mono fun e w' ⟨v,he,ho,hb⟩=>by obtain ⟨Ay,cy,rfl⟩:=Kd.R_slice ho;exact ⟨Ay,cy,he,ho,hb⟩⟩
 have SAB:=KS8 w8 (Below.refl _ _)
 obtain ⟨q1,q2⟩:=SAB
 clear KS8 KS' CL Y8
 refine wp_seq_k fun K2 hK2=>?_
 refine Code.wp_mono (Q:=fun e a' w'=>e=.normal∧∃ (g1 g2:Nat) (Ax Ay:Option Addr) (cx cy:Nat),a'={ tmps:=#[.func (.yield L) #[] #[],.pointer (some ⟨gA,0,none⟩),.pointer (some ⟨gB,0,none⟩),undef,.slice A8 c.length c8,.pointer (some ⟨g1,0,none⟩),.pointer (some ⟨g2,0,none⟩),undef,undef,.slice A0 l.length c0,.slice A5 l.length c5,.slice none 0 0,.slice A7 l.length c7,.slice A8 c.length c8,.slice A0 l.length c0,.slice Ax x.length cx,.agg #[.slice Ax x.length cx,.int .i64 0],.pointer (some ⟨g1,0,none⟩),.slice none 0 0,.slice Ay 0 cy,.agg #[.slice Ay 0 cy,.int .i64 0],.pointer (some ⟨g2,0,none⟩),undef,undef,undef,undef,undef,undef,undef,undef,undef,undef,undef,undef,undef,undef,undef,undef,undef,undef,undef,undef,undef,undef,undef,undef,undef,undef,undef,undef,undef],defers:=[] }∧w8.heap.size≤g1∧w8.heap.size≤g2∧g1≠g2∧w'.heap[g1]? = some (.cells #[.slice Ax x.length cx,.int .i64 0] 175 (0,0))∧w'.heap[g2]? = some (.cells #[.slice Ay 0 cy,.int .i64 0] 175 (0,0))∧Kd.R k35 35 w' w8.heap.size (fun _=>True) (.slice Ax x.length cx) x∧Kd.R k35 35 w' w8.heap.size (fun _=>True) (.slice Ay 0 cy) []∧Below w8.heap.size w8 w') ?cont ?reg
 case reg =>
  clear hK2
  go_region_held3 (fun w'=>w'.cell? ⟨gA,0,none⟩=some (.slice A0 l.length c0)∧w'.cell? ⟨gB,0,none⟩=some (.slice none 0 0)) (first | exact KS'8.out _ (by repeat (first | assumption | (with_reducible first | exact Below.refl _ _ | apply below_alloc | apply pw_below_drewN | apply below_drew1) | exact Below.refl _ _)))
   ((first | (go_at_call 69;(with_reducible refine (span_List.calls k A0 c0 l x _ CLD.out C0.out E2.out).mono ?_);rintro e w9 ⟨v9,rfl,ho,hb9⟩;obtain ⟨Ax,cx,rfl⟩:=Kd.R_slice ho;have HX9:=am ho;have Y9:=below_step (w:=w8) (by repeat (first | assumption | (with_reducible first | exact Below.refl _ _ | apply below_alloc | apply pw_below_drewN | apply below_drew1) | exact Below.refl _ _)) hb9;clear ho) | (go_at_call 69;(with_reducible refine (LN.out _).mono ?_);rintro e w10 ⟨Ay,cy,rfl,ho,hb10⟩;have HY10:=am ho;have Y10:=below_step (w:=w8) (by repeat (first | assumption | (with_reducible first | exact Below.refl _ _ | apply below_alloc | apply pw_below_drewN | apply below_drew1) | exact Below.refl _ _)) hb10;clear ho)))
  all_goals
   refine ⟨rfl,_,_,Ax,Ay,cx,cy,rfl,?_,?_,?_,?_,?_,?_,?_,?_⟩
   ·first | exact Y9.size | exact Y10.size | exact Nat.le_succ_of_le Y10.size
   ·first | exact Y10.size | exact Nat.le_succ_of_le Y10.size
   ·have h10:=hb10.size
    (try simp only [World.size_alloc] at h10)
    omega
   ·first | exact blk_alloc (blk_below (World.alloc_heap_new w9 _) hb10) _ | exact blk_alloc (World.alloc_heap_new w10 _) _ | exact World.alloc_heap_new (w10.alloc _) _ | (have h11:=World.alloc_heap_new (w10.alloc (.cells #[.slice Ay 0 cy,.int .i64 0] 175)) (.cells #[.slice Ax x.length cx,.int .i64 0] 175);rwa [World.size_alloc] at h11)
   ·first | exact World.alloc_heap_new w10 _ | exact blk_alloc (World.alloc_heap_new w10 _) _ | (have h11:=World.alloc_heap_new (w10.alloc (.cells #[.slice Ax x.length cx,.int .i64 0] 175)) (.cells #[.slice Ay 0 cy,.int .i64 0] 175);rwa [World.size_alloc] at h11)
   ·first | exact Kd.R_alloc (Kd.R_below (Kd.R_alloc (Kd.R_lower HX9.out (Nat.le_refl _)) _) hb10) _ | exact Kd.R_alloc (Kd.R_alloc (Kd.R_below (Kd.R_lower HX9.out (Nat.le_refl _)) hb10) _) _
   ·first | exact Kd.R_alloc (Kd.R_lower HY10.out (Nat.le_succ_of_le Y9.size)) _ | exact Kd.R_alloc (Kd.R_alloc (Kd.R_lower HY10.out Y9.size) _) _ | exact Kd.R_alloc (Kd.R_lower HY10.out (by simp only [World.size_alloc];exact Nat.le_succ_of_le Y9.size)) _
   ·repeat (first | assumption | (with_reducible first | exact Below.refl _ _ | apply below_alloc | apply pw_below_drewN | apply below_drew1) | exact Below.refl _ _)
 case cont =>
  rintro e a' wz ⟨rfl,g1,g2,Ax,Ay,cx,cy,rfl,G1,G2,NE,B1,B2,HX,HY2,HBz⟩
  refine hK2 _ _ ?_
  obtain ⟨SS,hSS⟩:∃ SS:Nat→Prop,SS=fun q=>q=g1∨q=g2∨q=L∨q=gO:=⟨_,rfl⟩
  have S1:Aside0 (SS g1):=⟨by rw [hSS];exact .inl rfl⟩
  have S2:Aside0 (SS g2):=⟨by rw [hSS];exact .inr (.inl rfl)⟩
  have SN:Aside0 (∀ q,W1.heap.size≤q→q≠g1→q≠g2→¬ SS q):=⟨fun q h0 h1 h2 h=>by rw [hSS] at h;have:=L1.out;have:=O1.out;rcases h with h | h | h | h;exact h1 h;exact h2 h;omega;omega⟩
  have SR:Aside0 (∀ (ok:Nat→Prop) (q:Nat),(q=L∨q=gO∨ok q)→SS q∨ok q):=⟨fun ok q h=>by rw [hSS];rcases h with h | h | h;exact .inl (.inr (.inr (.inl h)));exact .inl (.inr (.inr (.inr h)));exact .inr h⟩
  clear hSS
  have W18:Aside0 (W1.heap.size≤w8.heap.size):=⟨Y8'.out.size⟩
  have WZ:Aside0 (W1.heap.size≤wz.heap.size):=⟨(below_step Y8'.out HBz).size⟩
  have XK:=am (Kd.C_kept_own (S:=SS) (Kd.R_bound (Kd.R_types (Kd.R_types HX B1 (by decide)) B2 (by decide))) (fun q hq=>SN.out q (Nat.le_trans W18.out hq.2.1) hq.1.1.2 hq.1.2))
  have YK:=am (Kd.C_kept_own (S:=SS) (Kd.R_bound (Kd.R_types (Kd.R_types HY2 B1 (by decide)) B2 (by decide))) (fun q hq=>SN.out q (Nat.le_trans W18.out hq.2.1) hq.1.1.2 hq.1.2))
  have CK:=am (Kd.C_kept_own (S:=SS) (Kd.R_bound (Kd.R_types (Kd.R_types (Kd.R_below HC8.out HBz) B1 (by decide)) B2 (by decide))) (fun q hq=>SN.out q hq.2.1 hq.1.1.2 hq.1.2))
  have BP:=am B1;have BQ:=am B2;have NPQ:=am NE
  have GP:Aside0 (W1.heap.size≤g1):=⟨Nat.le_trans W18.out G1⟩
  have GQ:Aside0 (W1.heap.size≤g2):=⟨Nat.le_trans W18.out G2⟩
  have LP:=am (blk_lt B1)
  have LQ:=am (blk_lt B2)
  have HB:=am (HB1.out.trans ((below_step Y8'.out HBz).mono HB1.out.size))
  have JZ:=am (J0.out wz (fun q=>wz.heap.size≤q) (below_step Y8'.out HBz))
  clear G1 G2 NE B1 B2 HX HY2 HBz hK2 K2 KS'8 CL8 CLD E3 LN q1 q2 Z1 Z2 Z3 Z4 Z5 C0 E1 E2
  obtain ⟨n,hn⟩:∃ n,c.length=n:=⟨_,rfl⟩
  have HN:=am hn
  rw [hn]
  clear hn;go_wp2
  go_loopg [7] (n+2) (fun kq v7 w'=>∃ (j i1:Nat) (pre:List (S35×Bool)),v7=.int .i64 ((j:Int)+1)∧Aside0 (j≤n)∧Aside0 (n+2≤kq+j)∧Aside0 (pre.length≤j)∧Aside0 (pre ++ refineL x (rd_T33 c (j:Int)) (c.drop (j+1)) i1=piecesR x c)∧Aside0 (i1≤x.length)∧Aside0 (w'.heap[g1]? = some (.cells #[.slice Ax x.length cx,.int .i64 (i1:Int)] 175 (0,0)))∧Aside0 (w'.heap[g2]? = some (.cells #[.slice Ay 0 cy,.int .i64 0] 175 (0,0)))∧Aside0 (Kept wz w' SS)∧Aside0 (J (fun q=>wz.heap.size≤q) pre w')∧Aside0 (Below w.heap.size w w'))
  case atStart=>exact ⟨0,0,[],rfl,⟨Nat.zero_le _⟩,⟨by omega⟩,⟨Nat.le_refl _⟩,⟨rfl⟩,⟨Nat.zero_le _⟩,BP,BQ,⟨Kept.refl _ _⟩,JZ,HB⟩
  case round =>
   clear BP BQ JZ HB
   obtain ⟨j,i1,pre,rfl,HJ,HQ,HP,HE,HI,B_p,B_q,K8,JJ,HB⟩:=hrel
   by_cases hj:j+1 < n
   ·have bj:decide ((j:Int)+1 < (n:Int))=true:=decide_eq_true (by omega)
    have p1:0≤(j:Int):=Int.natCast_nonneg j
    have q1:(j:Int) < (n:Int):=by omega
    have q3:(j:Int) < (c.length:Int):=by have:=HN.out;omega
    have q4:(j:Int)+1 < (c.length:Int):=by have:=HN.out;omega
    have p2:0≤(j:Int)+1:=by omega
    have q2:(j:Int)+1 < (n:Int):=by omega
    have et:((j:Int)+1).toNat=j+1:=by omega
    obtain ⟨ad,ea,hx0,hx1⟩:=at_T33 (CK.out wr K8.out) (j:Int) p1 q3;cases ea;obtain ⟨ad2,ea,hx2,hx3⟩:=at_T33 (CK.out wr K8.out) ((j:Int)+1) p2 q4
    obtain rfl:ad=ad2:=(by injection ea)
    clear ea
    obtain ⟨⟨s1,s2⟩,hs1⟩:∃ s:S33,rd_T33 c (j:Int)=s:=⟨_,rfl⟩
    obtain ⟨⟨s3,s4⟩,hs2⟩:∃ s:S33,rd_T33 c ((j:Int)+1)=s:=⟨_,rfl⟩
    rw [hs1] at hx0 hx1
    rw [hs2,et] at hx2 hx3
    simp only [Int.toNat_natCast] at hx0 hx1
    have ES1:=am hs1;have ES2:=am hs2
    have hw0:IntKind.i64.wrap (j:Int)=(j:Int):=(i64_w _).trans (by have:=HLC.out;have:=HN.out;unfold wrap64;omega)
    clear hs1 hs2
    have S0:wr.cell? (ad.add (j * 2))=some (.int .i64 s1)∧wr.cell? ⟨(ad.add (j * 2)).block,(ad.add (j * 2)).off+1,none⟩=some (.int .i64 s2)∧wr.cell? (ad.add ((j+1) * 2))=some (.int .i64 s3)∧wr.cell? ⟨(ad.add ((j+1) * 2)).block,(ad.add ((j+1) * 2)).off+1,none⟩=some (.int .i64 s4):=⟨hx0,hx1,hx2,hx3⟩
    have KS5:∀ w',Below wr.heap.size wr w'→w'.cell? (ad.add (j * 2))=some (.int .i64 s1)∧w'.cell? ⟨(ad.add (j * 2)).block,(ad.add (j * 2)).off+1,none⟩=some (.int .i64 s2)∧w'.cell? (ad.add ((j+1) * 2))=some (.int .i64 s3)∧w'.cell? ⟨(ad.add ((j+1) * 2)).block,(ad.add ((j+1) * 2)).off+1,none⟩=some (.int .i64 s4):=fun w' hW=>⟨(hW.cell (World.block_lt_of_cell? wr _ hx0)).trans hx0,(hW.cell (World.block_lt_of_cell? wr _ hx1)).trans hx1,(hW.cell (World.block_lt_of_cell? wr _ hx2)).trans hx2,(hW.cell (World.block_lt_of_cell? wr _ hx3)).trans hx3⟩
    have KS5':=am KS5
    clear S0 KS5;go_wp2
    go_region_held3 (fun w'=>w'.cell? (ad.add (j * 2))=some (.int .i64 s1)∧w'.cell? ⟨(ad.add (j * 2)).block,(ad.add (j * 2)).off+1,none⟩=some (.int .i64 s2)∧w'.cell? (ad.add ((j+1) * 2))=some (.int .i64 s3)∧w'.cell? ⟨(ad.add ((j+1) * 2)).block,(ad.add ((j+1) * 2)).off+1,none⟩=some (.int .i64 s4)) (first | exact KS5'.out _ (by repeat (first | assumption | (with_reducible first | exact Below.refl _ _ | apply below_alloc | apply pw_below_drewN | apply below_drew1) | exact Below.refl _ _ | refine below_set ?_ (Nat.le_refl _)))) (fail)
    have GS:Aside0 (wz.heap.size≤wr.heap.size):=⟨K8.out.1⟩
    have YS:Below wr.heap.size wr (wr.alloc (.cells #[.int .i64 s1,.int .i64 s2,.int .i64 s3,.int .i64 s4] 35)).drew:=below_drew1 (below_alloc (Below.refl _ _) _)
    have BS:Aside0 ((wr.alloc (.cells #[.int .i64 s1,.int .i64 s2,.int .i64 s3,.int .i64 s4] 35)).drew.heap[wr.heap.size]? = some (.cells #[.int .i64 s1,.int .i64 s2,.int .i64 s3,.int .i64 s4] 35 (0,0))):=⟨World.alloc_heap_new wr _⟩
    have JJ5:=am (JS.out _ (fun _=>False) pre _ _ (JM.out _ (fun q=>wz.heap.size≤q∧q≠wr.heap.size) pre wr JJ.out (fun q h hlt=>⟨h,by omega⟩)) (Kept.of_below YS _) (fun _ h=>h.elim))
    have FR5:Aside0 (∀ q,(wr.alloc (.cells #[.int .i64 s1,.int .i64 s2,.int .i64 s3,.int .i64 s4] 35)).drew.heap.size≤q→wz.heap.size≤q∧q≠wr.heap.size):=by
     refine ⟨fun q hq=>?_⟩
     have h1:wr.heap.size+1≤q:=by simpa using hq
     have h2:=GS.out
     exact ⟨by omega,by omega⟩
    replace B_p:=am (blk_below B_p.out YS);replace B_q:=am (blk_below B_q.out YS);replace K8:=am (Kept.below K8.out YS);replace HB:=am (below_step HB.out YS)
    clear YS JJ hx0 hx1 hx2 hx3 KS5' hw0 p1 q1 q3 q4 p2 q2 et
    go_wp2;generalize (wr.alloc (.cells #[.int .i64 s1,.int .i64 s2,.int .i64 s3,.int .i64 s4] 35)).drew=ws at *;generalize wr.heap.size=gs at *
    refine wp_region_noPanic ?_
    have B0:=blk_cell BS.out
    refine region_yields (S:=fun w'=>w'.cell? ⟨gs,0,none⟩=some (.int .i64 s1)∧w'.cell? ⟨gs,1,none⟩=some (.int .i64 s2)∧w'.cell? ⟨gs,2,none⟩=some (.int .i64 s3)∧w'.cell? ⟨gs,3,none⟩=some (.int .i64 s4)) (by kernel_rfl) ⟨(B0 0).trans rfl,(B0 1).trans rfl,(B0 2).trans rfl,(B0 3).trans rfl⟩ (fun hHeld=>?_)
    clear B0
    have NGS1:Aside0 (gs≠g1):=⟨by have:=LP.out;have:=GS.out;omega⟩
    have NGS2:Aside0 (gs≠g2):=⟨by have:=LQ.out;have:=GS.out;omega⟩
    have VX:Calls Tryz.prog 159 #[.pointer (some ⟨g1,0,none⟩),.agg #[.int .i64 s1,.int .i64 s2]] ws.drew fun e w'=>e=.returned (.bool (hasV (s1,s2) x (advF hiS (s1,s2) x i1)))∧w'.heap[g1]? = some (.cells #[.slice Ax x.length cx,.int .i64 ((advF hiS (s1,s2) x i1:Nat):Int)] 175 (0,0))∧KeepBut ws.drew w' g1 none∧Below w.heap.size w w':=algebra_has.calls x Ax cx i1 g1 s1 s2 w ws.drew (below_drew1 HB.out) (Nat.le_trans HB1.out.size GP.out) B_p.out (fun W' hk=>XK.out W' (Kept.of_keep (W:=ws.drew) K8.out hk (.inl S1.out))) HLX.out HI.out
    have VY:∀ (W:World),Below w.heap.size w W→W.heap[g2]? = some (.cells #[.slice Ay 0 cy,.int .i64 0] 175 (0,0))→(∀ W',KeepBut W W' g2 none→Kd.C k35 W' Ay 0 [])→Calls Tryz.prog 159 #[.pointer (some ⟨g2,0,none⟩),.agg #[.int .i64 s1,.int .i64 s2]] W fun e w'=>e=.returned (.bool false)∧w'.heap[g2]? = some (.cells #[.slice Ay 0 cy,.int .i64 0] 175 (0,0))∧KeepBut W w' g2 none∧Below w.heap.size w w':=fun W h1 h2 h3=>algebra_has.calls [] Ay cy 0 g2 s1 s2 w W h1 (Nat.le_trans HB1.out.size GQ.out) h2 h3 (by decide) (Nat.le_refl _)
    have VX':=am VX
    have VY':=am VY
    clear VX VY
    refine anyHI_tk 0 38 (.func (.yield L) #[] #[]) rfl rfl (by kernel_rfl) (by kernel_rfl) (by kernel_rfl) (fun _ _ _ h=>h) (Or.inl ⟨by rfl,?_⟩) hHeld (by simp only [Act.put,List.setIfInBounds_toArray,List.set_cons_zero,List.set_cons_succ];rfl) ?_
    ·intro w' hSw
     clear hSw
     go_simp
     try with_reducible rfl
    refine anyHI_tk 1 39 (.agg #[.int .i64 s1,.int .i64 s2,.int .i64 s3,.int .i64 s4]) rfl rfl (by kernel_rfl) (by kernel_rfl) (by kernel_rfl) (fun _ _ _ h=>h) (Or.inl ⟨by rfl,?_⟩) hHeld (by simp only [Act.put,List.setIfInBounds_toArray,List.set_cons_zero,List.set_cons_succ];rfl) ?_
    ·intro w' hSw
     obtain ⟨t1,t2,t3,t4⟩:=hSw
     go_simp
     try with_reducible rfl
    refine anyHI_tk 2 40 (.pointer (some ⟨g1,0,none⟩)) rfl rfl (by kernel_rfl) (by kernel_rfl) (by kernel_rfl) (fun _ _ _ h=>h) (Or.inl ⟨by rfl,?_⟩) hHeld (by simp only [Act.put,List.setIfInBounds_toArray,List.set_cons_zero,List.set_cons_succ];rfl) ?_
    ·intro w' hSw
     clear hSw
     go_simp
     try with_reducible rfl
    refine anyHI_tk 3 41 (.pointer (some ⟨gs,0,none⟩)) rfl rfl (by kernel_rfl) (by kernel_rfl) (by kernel_rfl) (fun _ _ _ h=>h) (Or.inl ⟨by rfl,?_⟩) hHeld (by simp only [Act.put,List.setIfInBounds_toArray,List.set_cons_zero,List.set_cons_succ];rfl) ?_
    ·intro w' hSw
     clear hSw
     go_simp
     try with_reducible rfl
    refine anyHI_tk 4 42 (.agg #[.int .i64 s1,.int .i64 s2]) rfl rfl (by kernel_rfl) (by kernel_rfl) (by kernel_rfl) (fun _ _ _ h=>h) (Or.inl ⟨by rfl,?_⟩) hHeld (by simp only [Act.put,List.setIfInBounds_toArray,List.set_cons_zero,List.set_cons_succ];rfl) ?_
    ·intro w' hSw
     obtain ⟨t1,t2,t3,t4⟩:=hSw
     go_simp
     try with_reducible rfl
    refine anyHI_tk 6 44 (.pointer (some ⟨g2,0,none⟩)) rfl rfl (by kernel_rfl) (by kernel_rfl) (by kernel_rfl) (fun _ _ _ h=>h) (Or.inl ⟨by rfl,?_⟩) hHeld (by simp only [Act.put,List.setIfInBounds_toArray,List.set_cons_zero,List.set_cons_succ];rfl) ?_
    ·intro w' hSw
     clear hSw
     go_simp
     try with_reducible rfl
    refine anyHI_tk 7 45 (.pointer (some ⟨gs,0,none⟩)) rfl rfl (by kernel_rfl) (by kernel_rfl) (by kernel_rfl) (fun _ _ _ h=>h) (Or.inl ⟨by rfl,?_⟩) hHeld (by simp only [Act.put,List.setIfInBounds_toArray,List.set_cons_zero,List.set_cons_succ];rfl) ?_
    ·intro w' hSw
     clear hSw
     go_simp
     try with_reducible rfl
    refine anyHI_tk 8 46 (.agg #[.int .i64 s1,.int .i64 s2]) rfl rfl (by kernel_rfl) (by kernel_rfl) (by kernel_rfl) (fun _ _ _ h=>h) (Or.inl ⟨by rfl,?_⟩) hHeld (by simp only [Act.put,List.setIfInBounds_toArray,List.set_cons_zero,List.set_cons_succ];rfl) ?_
    ·intro w' hSw
     obtain ⟨t1,t2,t3,t4⟩:=hSw
     go_simp
     try with_reducible rfl
    refine anyHI_goes 5 43 (us:=#[.tmp 40,.tmp 42]) rfl rfl (by kernel_rfl) ?hq Tryz.func159 (by kernel_rfl) rfl #[.pointer (some ⟨g1,0,none⟩),.agg #[.int .i64 s1,.int .i64 s2]] (by rfl) rfl (by (try simp only [List.map_toArray,List.map_cons,List.map_nil]);first | done | rfl) ?_
    case hq=>rintro ⟨a',w',h⟩;obtain ⟨⟨_,h⟩,_⟩:=h;cases h
    refine VX'.out.mono ?_
    rintro e w6 ⟨rfl,hg6,hk6,hb6⟩
    have J6:=am (JS.out _ (fun q=>q=g1) pre _ w6 JJ5.out (Kept.of_keep (w:=ws) (W:=ws.drew) (Kept.refl ws _) hk6 (.inl rfl)) (fun q hq=>by rw [hq];exact ⟨fun h=>by have:=LP.out;omega,by have:=L1.out;have:=GP.out;omega,by have:=O1.out;have:=GP.out;omega,GP.out⟩))
    have BS6:=am ((hk6.2 gs (blk_lt BS.out) NGS1.out (by simp)).trans BS.out)
    have BP6:=am hg6
    have BQ6:=am ((hk6.2 g2 (blk_lt B_q.out) (Ne.symm NPQ.out) (by simp)).trans B_q.out)
    have K86:=am (Kept.of_keep (W:=ws.drew) K8.out hk6 (.inl S1.out))
    have HB6:=am hb6
    have SZ6:=am (show ws.heap.size≤w6.heap.size from hk6.1)
    clear hg6 hk6 hb6 hHeld JJ5 B_p B_q K8 HB VX'
    have B0:=blk_cell BS6.out
    refine ⟨_,rfl,⟨(B0 0).trans rfl,(B0 1).trans rfl,(B0 2).trans rfl,(B0 3).trans rfl⟩,?_⟩
    clear B0
    refine anyHI_goes 9 47 (us:=#[.tmp 44,.tmp 46]) rfl rfl (by kernel_rfl) ?hq Tryz.func159 (by kernel_rfl) rfl #[.pointer (some ⟨g2,0,none⟩),.agg #[.int .i64 s1,.int .i64 s2]] (by rfl) rfl (by (try simp only [List.map_toArray,List.map_cons,List.map_nil]);first | done | rfl) ?_
    case hq=>rintro ⟨a',w',h⟩;obtain ⟨⟨_,h⟩,_⟩:=h;cases h
    refine (VY'.out w6 HB6.out BQ6.out (fun W' hk=>YK.out W' (Kept.of_keep K86.out hk (.inl S2.out)))).mono ?_
    rintro e w9 ⟨rfl,hg6,hk6,hb6⟩
    have J9:=am (JS.out _ (fun q=>q=g2) pre _ w9 J6.out (Kept.of_keep (Kept.refl w6 _) hk6 (.inl rfl)) (fun q hq=>by rw [hq];exact ⟨fun h=>by have:=LQ.out;omega,by have:=L1.out;have:=GQ.out;omega,by have:=O1.out;have:=GQ.out;omega,GQ.out⟩))
    have BS9:=am ((hk6.2 gs (blk_lt BS6.out) NGS2.out (by simp)).trans BS6.out)
    have BQ9:=am hg6
    have BP9:=am ((hk6.2 g1 (blk_lt BP6.out) NPQ.out (by simp)).trans BP6.out)
    have K89:=am (Kept.of_keep K86.out hk6 (.inl S2.out))
    have HB9:=am hb6
    have SZ9:=am (show ws.heap.size≤w9.heap.size from Nat.le_trans SZ6.out hk6.1)
    clear hg6 hk6 hb6 J6 BS6 BP6 BQ6 K86 HB6 VY' SZ6
    have B0:=blk_cell BS9.out
    have hHeld:(fun w':World=>w'.cell? ⟨gs,0,none⟩=some (.int .i64 s1)∧w'.cell? ⟨gs,1,none⟩=some (.int .i64 s2)∧w'.cell? ⟨gs,2,none⟩=some (.int .i64 s3)∧w'.cell? ⟨gs,3,none⟩=some (.int .i64 s4)) w9:=⟨(B0 0).trans rfl,(B0 1).trans rfl,(B0 2).trans rfl,(B0 3).trans rfl⟩
    refine ⟨_,rfl,hHeld,?_⟩
    clear B0;generalize hb0:hasV (s1,s2) x (advF hiS (s1,s2) x i1)=b0;have HB0:=am hb0;clear hb0
    refine anyHI_tk 10 48 (.agg #[.bool b0,.bool false]) rfl rfl (by kernel_rfl) (by kernel_rfl) (by kernel_rfl) (fun _ _ _ h=>h) (Or.inl ⟨by rfl,?_⟩) hHeld (by simp only [Act.put,List.setIfInBounds_toArray,List.set_cons_zero,List.set_cons_succ];rfl) ?_
    ·intro w' hSw
     clear hSw
     go_simp
     try with_reducible rfl
    refine anyHI_yield 11 49 (l:=L) (args:=#[.agg #[.int .i64 s1,.int .i64 s2,.int .i64 s3,.int .i64 s4],.agg #[.bool b0,.bool false]]) rfl rfl (by kernel_rfl) rfl (by rfl) ?hx (HY.out _ pre s1 s2 s3 s4 b0 w9 (fun q hq=>FR5.out q (Nat.le_trans SZ9.out hq)) HB9.out J9.out (by have:=HP.out;have:=HLC.out;have:=HN.out;omega)) ?_
    case hx=>unfold execOp;simp [resolve,Deferred.ofValue,invoke,Act.eval]
    rintro e w11 ⟨rfl,hJ,hK,hB⟩
    have NL:∀ q,W1.heap.size≤q→q≠L∧q≠gO:=fun q hq=>by have:=L1.out;have:=O1.out;exact ⟨by omega,by omega⟩
    have BS:=blk_kept BS9.out hK (fun h=>by have:=NL gs (Nat.le_trans WZ.out GS.out);rcases h with h | h | h;exact this.1 h;exact this.2 h;exact h.2 rfl)
    have BP:=am (blk_kept BP9.out hK (fun h=>by have:=NL g1 GP.out;have:=LP.out;rcases h with h | h | h;exact (NL g1 GP.out).1 h;exact (NL g1 GP.out).2 h;omega))
    have BQ:=am (blk_kept BQ9.out hK (fun h=>by have:=NL g2 GQ.out;have:=LQ.out;rcases h with h | h | h;exact (NL g2 GQ.out).1 h;exact (NL g2 GQ.out).2 h;omega))
    have K8:=am (K89.out.then_ hK (fun q h=>(SR.out (fun q=>wz.heap.size≤q∧q≠gs) q h).imp id (fun h=>h.1)))
    have JJ:=am (JM.out _ (fun q=>wz.heap.size≤q) _ _ hJ (fun q h _=>h.1))
    have HB:=am hB;clear NL hJ hK hB BS9 BP9 BQ9 K89 HB9 J9 FR5 SZ9 hHeld
    have B0:=blk_cell BS
    have hHeld:(fun w':World=>w'.cell? ⟨gs,0,none⟩=some (.int .i64 s1)∧w'.cell? ⟨gs,1,none⟩=some (.int .i64 s2)∧w'.cell? ⟨gs,2,none⟩=some (.int .i64 s3)∧w'.cell? ⟨gs,3,none⟩=some (.int .i64 s4)) w11:=⟨(B0 0).trans rfl,(B0 1).trans rfl,(B0 2).trans rfl,(B0 3).trans rfl⟩
    refine ⟨_,rfl,hHeld,?_⟩
    clear B0 BS
    refine anyHI_tk 12 50 (.bool false) rfl rfl (by kernel_rfl) (by kernel_rfl) (by kernel_rfl) (fun _ _ _ h=>h) (Or.inl ⟨by rfl,?_⟩) hHeld (by simp only [Act.put,List.setIfInBounds_toArray,List.set_cons_zero,List.set_cons_succ];rfl) ?_
    ·intro w' hSw
     clear hSw
     go_simp
     try with_reducible rfl
    refine anyHI_done (by kernel_rfl) ?_ _
    refine NoPanic.normal ?_
    clear hHeld
    obtain ⟨k1,rfl⟩:∃ k1,gk=k1+1:=⟨gk - 1,by have:=HQ.out;omega⟩
    have hw:wrap64 ((j:Int)+1+1)=((j+1:Nat):Int)+1:=by
     have:=HN.out;have:=HLC.out
     unfold wrap64;push_cast;omega
    have HE2:(pre ++ [((⟨⟨s1,s2⟩,⟨s3,s4⟩⟩:S35),b0)]) ++ refineL x (rd_T33 c ((j+1:Nat):Int)) (c.drop (j+1+1)) (advF hiS (s1,s2) x i1)=piecesR x c:=by
     have hjl:j+1 < c.length:=by have:=HN.out;omega
     have hd:c.drop (j+1)=rd_T33 c ((j:Int)+1) :: c.drop (j+1+1):=by
      rw [List.drop_eq_getElem_cons hjl]
      congr 1
      have et:((j:Int)+1).toNat=j+1:=by omega
      simp [rd_T33,et,hjl]
     have h:=HE.out
     rw [hd,ES1.out,ES2.out] at h
     unfold refineL at h
     rw [HB0.out] at h
     rw [List.append_assoc,List.singleton_append]
     have e2:rd_T33 c ((j+1:Nat):Int)=(⟨s3,s4⟩:S33):=by rw [← ES2.out];push_cast;rfl
     rw [e2]
     exact h
    go_wp2
    go_roundg k1
    case measure=>omega
    case rel=>exact ⟨j+1,advF hiS (s1,s2) x i1,_,by first | rfl | (rw [← hw];rfl) | (simp [hw];done),⟨by omega⟩,⟨by have:=HQ.out;omega⟩,⟨by have:=HP.out;rw [List.length_append];show pre.length+1≤_;omega⟩,⟨HE2⟩,⟨advF_le hiS (s1,s2) x i1 HI.out⟩,BP,BQ,K8,JJ,HB⟩
   ·have bj:decide ((j:Int)+1 < (n:Int))=false:=decide_eq_false (by omega)
    have HE2:pre=piecesR x c:=by
     have h:=HE.out
     rw [List.drop_eq_nil_of_le (by have:=HN.out;omega)] at h
     unfold refineL at h
     rw [List.append_nil] at h
     exact h
    go_wp2
    go_end0
    exact ⟨⟨_,rfl⟩,by rw [← HE2];exact JM.out _ _ _ _ JJ.out (fun _ _ _=>trivial),HB.out⟩
def selR (pre:List (S35×Bool)):List S35:=(pre.filter (fun p=>p.2)).map (fun p=>p.1)
theorem selR_snoc (pre:List (S35×Bool)) (s:S35) (b:Bool):selR (pre ++ [(s,b)])=if b=true then selR pre ++ [s] else selR pre:=by
 cases b <;> simp [selR]
theorem selR_le (pre:List (S35×Bool)):(selR pre).length≤pre.length:=by
 unfold selR
 rw [List.length_map]
 exact List.length_filter_le _ _
def algebra_Refine.f (k:Nat) (l:List S35):Option (List S35) :=
 (algebra_Cuts.f k l).bind fun c=>(span_List.f k l).bind fun x=>if l.length < 1000000∧c.length < 1000000∧x.length < 1000000 then some (selR (piecesR x c)) else none
theorem algebra_Refine.mono:∀ a0 k,LeO (algebra_Refine.f k a0) (algebra_Refine.f (k+1) a0):=by
 intro a0 k
 unfold algebra_Refine.f
 exact LeO.bind (algebra_Cuts.mono _ _) (fun c=>LeO.bind (span_List.mono _ _) (fun x=>LeO.refl _))
theorem such.walk (k:Nat) (l x:List S35) (c:List S33) (A0:Option Addr) (c0:Nat) (w:World) (hl0:Kd.C k35 w A0 l.length l) (hc0:l.length≤c0)
 (e1:algebra_Cuts.f k l=some c) (e2:span_List.f k l=some x) (hll:l.length < 1000000) (hlc:c.length < 1000000) (hlx:x.length < 1000000) :
 Calls Tryz.prog 107 #[.slice A0 l.length c0,.slice none 0 0,.func (.func 108) #[] #[]] w fun e w'=>∃ v0_:Value,e=.returned v0_∧Kd.R k35 35 w' w.heap.size (fun _=>True) v0_ (selR (piecesR x c))∧Below w.heap.size w w':=by
 have hu35:=Tryz.underlying35;have hu147:=Tryz.underlying147;have CL:=am hl0;have C0:=am hc0;have E1:=am e1;have E2:=am e2;have HL:=am hll;have HLC:=am hlc;have HLX:=am hlx;clear hl0 hc0 e1 e2 hll hlc hlx
 refine (callsIn_wide (n:=1)).1 (callsIn_of_wp_marks Tryz.func107 rfl trivial (wpIn_wide.2 ?_) rfl)
 simp only [Tryz.ntmps107,List.size_toArray,List.length_cons,List.length_nil,Nat.reduceAdd,Nat.reduceSub,Array.replicate_succ,Array.replicate_zero,List.push_toArray,List.append_toArray,List.nil_append,List.cons_append]
 go_wp2_with (first | ((with_reducible refine gate_dst (N:=5) rfl ?_);refine box_event ?hg (N:=5) ?hd (cs:=#[.func (.func 108) #[] #[]]) (t:=134) ?hr ?_;(case hd=>rfl);(case hg=>rfl);(case hr=>first | (go_simp;done) | (go_simp;rfl));intro gC hgb w1 hbox hb;have BC1:=am hbox;have HB1:=am hb;have GC:=am hgb;clear hbox hb hgb) | ((with_reducible refine gate_dst (N:=7) rfl ?_);refine bxe (N:=7) (cs:=#[.slice none 0 0]) (t:=29) ?_;intro gO hgb w2 hbox hb;have BO2:=am hbox;have BC2:=bkb BC1 hb;have GO:=am (show w.heap.size≤gO by rw [hgb];exact HB1.out.size);have NCO:=nlt hgb BC1;have HB2:=bst HB1 hb;clear hbox hb hgb BC1 HB1) | (go_at_call 129;(with_reducible refine (algebra_pieces.calls A0 none l.length c0 0 0 _).mono ?_);rintro e w3 ⟨gA,gB,rfl,hg0,hg1,ha,hbb,hb⟩;have BA3:=am ha;have BB3:=am hbb;have BO3:=bkb BO2 hb;have BC3:=bkb BC2 hb;have HB3:=bst HB2 hb;clear hg0 hg1 ha hbb hb BO2 BC2 HB2))
 refine wp_range (gf:=156) (lb:=#[.pointer (some ⟨gA,0,none⟩),.pointer (some ⟨gB,0,none⟩)]) rfl (fun args w=>enters_ Tryz.func156 (by kernel_rfl) rfl args w) ?_
 intro rc W1 hst hpe htm hpa has hbd hW1
 have YW:Below w3.heap.size w3 W1:=by rw [hW1];exact below_alloc (below_alloc (Below.refl _ _) _) _
 have hD:W1.heap[w3.heap.size]? = some (.deferred (some [])):=by rw [hW1];exact blk_alloc (World.alloc_heap_new w3 _) _
 have hLp:W1.heap[w3.heap.size+1]? = some (.loop rc):=by
  rw [hW1];have h:=World.alloc_heap_new (w3.alloc (.deferred (some []))) (.loop rc);rwa [World.size_alloc] at h
 have hC1:=blk_below BC3.out YW
 have hO1:=blk_below BO3.out YW
 have hlO:gO < w3.heap.size:=blk_lt BO3.out
 have hlC:gC < w3.heap.size:=blk_lt BC3.out
 generalize hLn:w3.heap.size+1=L at *;generalize hDn:w3.heap.size=D at *
 have RL:Aside0 (L≠D∧L≠gO∧L≠gC∧D≠gO∧D≠gC∧gO≠gC):=⟨⟨by omega,by omega,by omega,by omega,by omega,Ne.symm NCO.out⟩⟩
 obtain ⟨J,hJ⟩:∃ J:(Nat→Prop)→List (S35×Bool)→World→Prop,J=fun ok pre W=>W.heap[L]? = some (.loop rc)∧W.heap[D]? = some (.deferred (some []))∧W.heap[gC]? = some (.cells #[.func (.func 108) #[] #[]] 134 (0,0))∧∃ v,W.heap[gO]? = some (.cells #[v] 29 (0,0))∧Kd.R k35 35 W w.heap.size (fun q=>ok q∧q≠L∧q≠D∧q≠gC∧q≠gO) v (selR pre):=⟨_,rfl⟩
 have LW:w.heap.size≤L:=by have:=HB3.out.size;omega
 refine (pieces1.walk k l x c A0 c0 w W1 (below_step HB3.out (hDn ▸ YW)) CL.out C0.out gA gB L gO (blk_below BA3.out (hDn ▸ YW)) (blk_below BB3.out (hDn ▸ YW)) LW GO.out (blk_lt hLp) (blk_lt hO1) E1.out E2.out HL.out HLC.out HLX.out J ?j0 ?jm ?js ?jy).mono ?_
 case j0 =>
  intro W ok hW
  rw [hJ]
  exact ⟨blk_below hLp hW,blk_below hD hW,blk_below hC1 hW,_,blk_below hO1 hW,Kd.R_nil _ _ _ _ _⟩
 case jm =>
  intro ok ok' pre W h hq
  rw [hJ] at h ⊢
  obtain ⟨h1,h2,h3,v,h4,h5⟩:=h
  exact ⟨h1,h2,h3,v,h4,Kd.R_mono (Kd.R_bound h5) (fun q h=>⟨hq q h.1.1 h.2.2.1,h.1.2⟩)⟩
 case js =>
  intro ok S pre W W' h hk hS
  rw [hJ] at h ⊢
  obtain ⟨h1,h2,h3,v,h4,h5⟩:=h
  have b1:=blk_lt hC1
  have b2:=blk_lt hD
  exact ⟨blk_kept h1 hk (fun h=>(hS _ h).2.1 rfl),blk_kept h2 hk (fun h=>by have:=(hS _ h).2.2.2;omega),blk_kept h3 hk (fun h=>by have:=(hS _ h).2.2.2;omega),v,blk_kept h4 hk (fun h=>(hS _ h).2.2.1 rfl),Kd.R_kept h5 hk (fun q h hs=>(hS q hs).1 h.1)⟩
 case jy =>
  intro ok pre s1 s2 s3 s4 b W hfr hB h hlen
  rw [hJ] at h ⊢
  clear hJ
  obtain ⟨h1,h2,h3,v,h4,h5⟩:=h
  refine yield_at h1 hst hpe (by rw [hpa];rfl) ?_
  intro rb _
  rw [hpa,htm,has,hbd]
  clear hpa htm has hbd hLp hD hC1 hO1 YW hW1
  have eg:∀ args w,(callFunc 108 args).run Tryz.prog w=.ok (.enter 108 args) w:=fun args w=>enters_ Tryz.func108 (by kernel_rfl) rfl args w
  simp only [List.zip_toArray,List.foldl_toArray,List.zip_cons_cons,List.zip_nil_right,List.foldl_cons,List.foldl_nil,List.setIfInBounds_toArray,List.set_cons_zero,List.set_cons_succ]
  refine wpIn_seq_k fun K hK=>?_
  refine regionIn_of (by rintro ⟨_,_,h⟩;exact h) (by rfl) ?_
  go_wp2
  refine regionIn_of (by rintro ⟨_,_,h⟩;exact h) (by rfl) ?_
  go_wp2
  have Y2:Below W.heap.size W ((W.alloc (.cells #[.int .i64 s1,.int .i64 s2,.int .i64 s3,.int .i64 s4] 35)).alloc (.cells #[.bool b,.bool false] 147)):=below_alloc (below_alloc (Below.refl _ _) _) _
  have BS:=blk_alloc (World.alloc_heap_new W (.cells #[.int .i64 s1,.int .i64 s2,.int .i64 s3,.int .i64 s4] 35)) (.cells #[.bool b,.bool false] 147)
  have BI:=World.alloc_heap_new (W.alloc (.cells #[.int .i64 s1,.int .i64 s2,.int .i64 s3,.int .i64 s4] 35)) (.cells #[.bool b,.bool false] 147)
  rw [World.size_alloc] at BI
  refine ⟨blk_below h1 Y2,?_⟩
  have lL:=blk_lt h1
  have NSL:W.heap.size≠L:=by omega
  have NIL:W.heap.size+1≠L:=by omega
  have NSO:W.heap.size≠gO:=by have:=blk_lt h4;omega
  have NIO:W.heap.size+1≠gO:=by have:=blk_lt h4;omega
  have HF:=am (fun q (hq:W.heap.size≤q)=>hfr q hq)
  have HS:=am (show W.heap.size≤W.heap.size from Nat.le_refl _)
  have P2:=blk_below h2 Y2
  have P3:=blk_below h3 Y2
  have P4:=blk_below h4 Y2
  have P5:=Kd.R_below h5 Y2
  have PL:L < ((W.alloc (.cells #[.int .i64 s1,.int .i64 s2,.int .i64 s3,.int .i64 s4] 35)).alloc (.cells #[.bool b,.bool false] 147)).heap.size:=Nat.lt_of_lt_of_le lL Y2.size
  have PB:=below_step hB Y2
  have PK:Kept W ((W.alloc (.cells #[.int .i64 s1,.int .i64 s2,.int .i64 s3,.int .i64 s4] 35)).alloc (.cells #[.bool b,.bool false] 147)) (fun q=>q=L∨q=gO∨ok q):=Kept.of_below Y2 _
  clear h2 h3 h4 h5 Y2;generalize ((W.alloc (.cells #[.int .i64 s1,.int .i64 s2,.int .i64 s3,.int .i64 s4] 35)).alloc (.cells #[.bool b,.bool false] 147))=w2' at *
  have QL:=am (World.putObj_heap_same (o:=.loop rb) PL)
  have QS:=am (blk_putObj BS NSL (.loop rb))
  have QI:=am (blk_putObj BI NIL (.loop rb))
  have Q2:=am (blk_putObj P2 (Ne.symm RL.out.1) (.loop rb))
  have Q3:=am (blk_putObj P3 (Ne.symm RL.out.2.2.1) (.loop rb))
  have Q4:=am (blk_putObj P4 (Ne.symm RL.out.2.1) (.loop rb))
  have Q5:=am (R_putObj P5 (l:=L) (fun h=>h.2.1 rfl) (.loop rb))
  have QB:=am (below_putObj PB LW (.loop rb))
  have QK:=am (kept_putObj PK (l:=L) (.inl (.inl rfl)) (.loop rb))
  clear P2 P3 P4 P5 PB PK PL BS BI;generalize w2'.putObj L (.loop rb)=w3' at *;generalize W.heap.size+1=gi at *;generalize hgs:W.heap.size=gs at *;clear h1 hB
  refine wpIn_block (wpIn_seq_k fun K hK=>?_)
  refine regionIn_of (by rintro ⟨_,_,h⟩;exact absurd h.1 (by simp)) (by rfl) ?_
  have c0:=(blk_cell Q3.out 0).trans rfl
  have c1:w3'.cell? ⟨gi,0,none⟩=some (.bool b):=(blk_cell QI.out 0).trans rfl
  have c2:w3'.cell? ⟨gi,1,none⟩=some (.bool false):=(blk_cell QI.out 1).trans rfl
  replace c0:w3'.cell? ⟨gC,0,none⟩=some (.func (.func 108) #[] #[]):=c0
  go_wp2_with (first | ((with_reducible refine (algebra_Refine1.calls b false _).mono ?_);rintro e w4' ⟨rfl,rfl⟩));clear c0 c1 c2 eg;cases b
  ·refine wpIn_cond_false rfl (wpIn_skip ?_)
   exact ⟨rfl,QL.out,trivial,⟨World.putObj_heap_same (blk_lt QL.out),blk_putObj Q2.out (Ne.symm RL.out.1) _,blk_putObj Q3.out (Ne.symm RL.out.2.2.1) _,v,blk_putObj Q4.out (Ne.symm RL.out.2.1) _,by rw [selR_snoc,if_neg (by decide)];exact R_putObj Q5.out (fun h=>h.2.1 rfl) _⟩,kept_putObj QK.out (.inl (.inl rfl)) _,below_putObj QB.out LW _⟩
  ·refine wpIn_cond_true rfl ?_
   refine regionIn_of (by rintro ⟨_,_,h⟩;exact absurd h.1 (by simp)) (by rfl) ?_
   obtain ⟨A9,c9,rfl⟩:=Kd.R_slice Q5.out
   have FR:Aside0 (∀ q,w4'.heap.size≤q→ok q∧q≠L∧q≠D∧q≠gC∧q≠gO):=by
    refine ⟨fun q hq=>?_⟩
    have z0:=QK.out.1
    have z1:=blk_lt QL.out;have z2:=blk_lt Q2.out;have z3:=blk_lt Q3.out;have z4:=blk_lt Q4.out
    exact ⟨HF.out q (by omega),by omega,by omega,by omega,by omega⟩
   have LN:Aside0 (((selR pre).length+1) * 32≤140737488355328):=⟨by have:=selR_le pre;omega⟩
   have AWL:=am (Kd.R_away Q5.out (g:=L) (fun q h=>h.2.1))
   have AWD:=am (Kd.R_away Q5.out (g:=D) (fun q h=>h.2.2.1))
   have AWC:=am (Kd.R_away Q5.out (g:=gC) (fun q h=>h.2.2.2.1))
   have AWO:=am (Kd.R_away Q5.out (g:=gO) (fun q h=>h.2.2.2.2))
   have OWN:=am (fun q (h:(Value.slice A9 (selR pre).length c9).ownBlock=some q)=>(Q5.out.1 q h).1)
   have d0:w4'.cell? ⟨gO,0,none⟩=some (.slice A9 (selR pre).length c9):=(blk_cell Q4.out 0).trans rfl
   have d1:w4'.cell? ⟨gs,0,none⟩=some (.int .i64 s1):=(blk_cell QS.out 0).trans rfl
   have d2:w4'.cell? ⟨gs,1,none⟩=some (.int .i64 s2):=(blk_cell QS.out 1).trans rfl
   have d3:w4'.cell? ⟨gs,2,none⟩=some (.int .i64 s3):=(blk_cell QS.out 2).trans rfl
   have d4:w4'.cell? ⟨gs,3,none⟩=some (.int .i64 s4):=(blk_cell QS.out 3).trans rfl
   clear hgs HS NSL NIL NSO NIO lL hfr hlen
   go_wp2_with (first | ((with_reducible refine gate_builtin (b:=.append) (xs:=#[.tmp 21,.tmp 23]) rfl ?_);at_builtin;(refine Kd.R_append k35 (w0:=w) w.heap.size rfl (.tmp 21) (.tmp 23) 29 35 (.agg #[(.int .i64 0),(.int .i64 0),(.int .i64 0),(.int .i64 0)]) 32 rfl Tryz.underlying29 info35 rfl (by decide) (by omega) (_) (selR pre) (⟨⟨s1,s2⟩,⟨s3,s4⟩⟩:S35) [.int .i64 s1,.int .i64 s2,.int .i64 s3,.int .i64 s4] (fun q=>ok q∧q≠L∧q≠D∧q≠gC∧q≠gO) (fun _=>False) rfl rfl ?aP (fun _ hk=>hk.elim) ?aF ?aO ?aB ?aS ?aL ?_;(case aP=>exact (k35_mkM _ _ _ (⟨⟨s1,s2⟩,⟨s3,s4⟩⟩:S35)));(case aF=>exact FR.out);(case aO=>exact Q5.out);(case aB=>exact QB.out);(case aS=>exact below_size QB.out);(case aL=>exact LN.out);intro vn wn ho hb hgr hat;obtain ⟨An,cn,rfl⟩:=Kd.R_slice ho;have HO3:=am ho;have HB3':=am hb;have QL3:=am (blk_grown QL.out hgr AWL.out);have Q23:=am (blk_grown Q2.out hgr AWD.out);have Q33:=am (blk_grown Q3.out hgr AWC.out);have Q43:=am (blk_grown Q4.out hgr AWO.out);have QK3:=am (Kept.of_grown hgr QK.out (fun q hq=>.inl (.inr (.inr (OWN.out q hq)))));clear ho hb hgr hat d0 d1 d2 d3 d4;have d5:=(blk_cell Q43.out 0).trans rfl;have d6:=blk_frozen Q43.out 0)))
   refine ⟨by first | rfl | trivial,(Below.heap_setCell wn ⟨gO,0,none⟩ _ L (Ne.symm (Ne.symm RL.out.2.1))).trans QL3.out,trivial,⟨World.putObj_heap_same (blk_lt ((Below.heap_setCell wn ⟨gO,0,none⟩ _ L RL.out.2.1).trans QL3.out)),blk_putObj ((Below.heap_setCell wn ⟨gO,0,none⟩ _ D RL.out.2.2.2.1).trans Q23.out) (Ne.symm RL.out.1) _,blk_putObj (blk_far Q33.out (p:=⟨gO,0,none⟩) (Ne.symm RL.out.2.2.2.2.2) _) (Ne.symm RL.out.2.2.1) _,_,blk_putObj (blk_put Q43.out 0 _ rfl) (Ne.symm RL.out.2.1) _,?_⟩,kept_putObj (Kept.setCell QK3.out (p:=⟨gO,0,none⟩) (.inl (.inr (.inl rfl))) _) (.inl (.inl rfl)) _,below_putObj (below_set HB3'.out GO.out) LW _⟩
   rw [selR_snoc,if_pos rfl]
   have hR:=R_putObj (Kd.R_far HO3.out (p:=⟨gO,0,none⟩) (fun q h=>h.2.2.2.2) (Value.slice An (selR pre ++ [(⟨⟨s1,s2⟩,⟨s3,s4⟩⟩:S35)]).length cn)) (l:=L) (fun h=>h.2.1 rfl) (.loop rc)
   first | exact hR | (simp only [List.length_append,List.length_cons,List.length_nil,Nat.zero_add] at hR;exact hR) | (trace_state;exact hR)
 rintro e W2 ⟨⟨v,rfl⟩,hJ2,hB2⟩
 rw [hJ] at hJ2
 obtain ⟨h1,h2,h3,v',h4,h5⟩:=hJ2
 obtain ⟨A9,c9,rfl⟩:=Kd.R_slice h5
 refine ⟨⟨v,rfl⟩,h1,fun rc'=>?_⟩
 have K4:=blk_putObj h4 (Ne.symm RL.out.2.1) (.loop rc')
 have KD:=am (blk_putObj h2 (Ne.symm RL.out.1) (.loop rc'))
 have K5:=am (R_putObj h5 (l:=L) (fun h=>h.2.1 rfl) (.loop rc'))
 have K6:=am (below_putObj hB2 LW (.loop rc'))
 have DW:Aside0 (w.heap.size≤D):=⟨by have:=HB3.out.size;omega⟩
 clear h1 h2 h3 h4 h5 hB2 hJ hD hLp hC1 hO1 YW hW1 hst hpe htm hpa has hbd;generalize W2.putObj L (.loop rc')=W3 at *
 have c0:W3.cell? ⟨gO,0,none⟩=some (.slice A9 (selR (piecesR x c)).length c9):=(blk_cell K4 0).trans rfl
 go_wp2
 refine ⟨by simp,.inl ⟨_,_,rfl,run_takeDeferred KD.out,?_⟩⟩
 refine ⟨_,results_tmp rfl _ _ _,?_⟩
 exact ⟨_,rfl,Kd.R_mono (R_putObj K5.out (l:=D) (fun h=>h.2.2.1 rfl) _) (fun _ _=>trivial),below_putObj K6.out DW.out _⟩
theorem algebra_Refine.calls (k:Nat) (A0:Option Addr) (c0:Nat) (l0:List (S35)) (r:List (S35)) (w:World) (hr0:Kd.C k35 w A0 l0.length l0) (hc0:l0.length≤c0) (h:algebra_Refine.f k l0=some r) :
 Calls Tryz.prog 73 #[.slice A0 l0.length c0,.slice none 0 0] w fun e w'=>∃ v0_:Value,e=.returned (v0_)∧Kd.R k35 35 w' w.heap.size (fun _=>True) v0_ r∧Below w.heap.size w w':=by
 obtain ⟨c,e1,h⟩:=Option.bind_eq_some_iff.1 h
 obtain ⟨x,e2,h⟩:=Option.bind_eq_some_iff.1 h
 split at h
 case isFalse=>cases h
 rename_i hl
 obtain rfl:=Option.some.inj h
 have SW:=such.walk k l0 x c A0 c0 w hr0 hc0 e1 e2 hl.1 hl.2.1 hl.2.2
 clear hr0 hc0 e1 e2 hl h;go_enter Tryz.func73,Tryz.ntmps73
 go_wp2_with (first | (go_at_call 107;(with_reducible refine SW.mono ?_);rintro e w1 ⟨v1,rfl,ho,hb⟩;obtain ⟨A1,c1,rfl⟩:=Kd.R_slice ho;have HO:=am ho;have HB:=am hb;clear ho hb))
 go_ret
 exact ⟨_,rfl,HO.out,HB.out⟩
def pieces.l0 (φ:Int→Bool→Int→Bool→Option (Int×Bool)) (x y:List S37):List S35→Nat→Nat→List S37→Option (List S37)
  | [],_,_,out=>some out
  | s :: rs,i1,i2,out =>
    (φ (valV (loS s) x (advF hiP (loS s) x i1)).1 (valV (loS s) x (advF hiP (loS s) x i1)).2 (valV (loS s) y (advF hiP (loS s) y i2)).1 (valV (loS s) y (advF hiP (loS s) y i2)).2).bind fun z =>
      pieces.l0 φ x y rs (advF hiP (loS s) x i1) (advF hiP (loS s) y i2) (if z.2=true then out ++ [⟨s,z.1⟩] else out)
def pieces.f (k:Nat) (φ:Int→Bool→Int→Bool→Option (Int×Bool)) (a b:List S37):Option (List S37) :=
  (mapalg_Merge.f k a).bind fun x=>(mapalg_Merge.f k b).bind fun y=>(mapalg_spans.f k a).bind fun sa=>(mapalg_spans.f k b).bind fun sb =>
    if x.length < 1000000∧y.length < 1000000∧sa.length+sb.length < 1000000 then
      (algebra_Refine.f k (sa ++ sb)).bind fun rs=>if rs.length < 1000000 then (pieces.l0 φ x y rs 0 0 []).bind fun out=>mapalg_Merge.f k out else none
    else none
theorem pieces.walk (k:Nat) (φ:Int→Bool→Int→Bool→Option (Int×Bool)) (fn:Nat) (caps:Array Value) (A0 A1:Option Addr) (c0 c1:Nat) (a b x y:List S37) (sa sb rs:List S35) (out r:List S37) (w:World)
 (ha:Kd.C k37 w A0 a.length a) (hca:a.length≤c0) (hb:Kd.C k37 w A1 b.length b) (hcb:b.length≤c1)
 (eg:∀ args w,(callFunc fn args).run Tryz.prog w=.ok (.enter fn args) w)
 (hf:∀ (W:World) (xv:Int) (xh:Bool) (yv:Int) (yh:Bool) (z:Int×Bool),Below w.heap.size w W→φ xv xh yv yh=some z→Calls Tryz.prog fn (#[.agg #[.int .i64 xv,.bool xh],.agg #[.int .i64 yv,.bool yh]] ++ caps) W fun e w'=>e=.returned (.agg #[.int .i64 z.1,.bool z.2])∧Below W.heap.size W w')
 (e1:mapalg_Merge.f k a=some x) (e2:mapalg_Merge.f k b=some y) (e3:mapalg_spans.f k a=some sa) (e4:mapalg_spans.f k b=some sb) (hlx:x.length < 1000000) (hly:y.length < 1000000) (hls:sa.length+sb.length < 1000000)
 (e5:algebra_Refine.f k (sa ++ sb)=some rs) (hlr:rs.length < 1000000) (e6:pieces.l0 φ x y rs 0 0 []=some out) (e7:mapalg_Merge.f k out=some r) :
 Calls Tryz.prog 44 #[.slice A0 a.length c0,.slice A1 b.length c1,.func (.func fn) #[] caps] w fun e w'=>∃ v0_:Value,e=.returned (v0_)∧Kd.R k37 37 w' w.heap.size (fun _=>True) v0_ r∧Below w.heap.size w w':=by
 have hu37:=Tryz.underlying37;have hu35:=Tryz.underlying35;have hu33:=Tryz.underlying33;have hu67:=Tryz.underlying67;have hu103:=Tryz.underlying103;have CA:=am ha;have CB:=am hb;have LA:=am hca;have LB:=am hcb;have HF:=am hf;have EG:=am eg;have E1:=am e1;have E2:=am e2;have E3:=am e3;have E4:=am e4;have E5:=am e5;have E6:=am e6;have E7:=am e7;have HX:=am hlx;have HY:=am hly;have HS:=am hls;have HRS:=am hlr
 have HB0:=am (Below.refl w.heap.size w)
 have MA:∀ (W:World),Below w.heap.size w W→Calls Tryz.prog 16 #[.slice A0 a.length c0] W fun e w'=>∃ v0_:Value,e=.returned (v0_)∧Kd.R k37 37 w' W.heap.size (fun _=>True) v0_ x∧Below W.heap.size W w':=fun W hW=>mapalg_Merge.calls k A0 c0 a x W (Kd.C_below ha hW) hca e1
 have MB:∀ (W:World),Below w.heap.size w W→Calls Tryz.prog 16 #[.slice A1 b.length c1] W fun e w'=>∃ v0_:Value,e=.returned (v0_)∧Kd.R k37 37 w' W.heap.size (fun _=>True) v0_ y∧Below W.heap.size W w':=fun W hW=>mapalg_Merge.calls k A1 c1 b y W (Kd.C_below hb hW) hcb e2
 have SA:∀ (W:World),Below w.heap.size w W→Calls Tryz.prog 70 #[.slice A0 a.length c0] W fun e w'=>∃ v0_:Value,e=.returned (v0_)∧Kd.R k35 35 w' W.heap.size (fun _=>True) v0_ sa∧Below W.heap.size W w':=fun W hW=>mapalg_spans.calls k A0 c0 a sa W (Kd.C_below ha hW) hca e3
 have SB:∀ (W:World),Below w.heap.size w W→Calls Tryz.prog 70 #[.slice A1 b.length c1] W fun e w'=>∃ v0_:Value,e=.returned (v0_)∧Kd.R k35 35 w' W.heap.size (fun _=>True) v0_ sb∧Below W.heap.size W w':=fun W hW=>mapalg_spans.calls k A1 c1 b sb W (Kd.C_below hb hW) hcb e4
 have MA':=am MA
 have MB':=am MB
 have SA':=am SA
 have SB':=am SB
 clear ha hb hca hcb hf eg e1 e2 e3 e4 e5 e6 e7 hlx hly hls hlr MA MB SA SB;go_enter Tryz.func44,Tryz.ntmps44
 go_upto_region 2 with (first | (go_at_call 16;(with_reducible refine (MA'.out _ HB0.out).mono ?_);rintro e w1 ⟨v1,rfl,ho,hb⟩;obtain ⟨A2,c2,rfl⟩:=Kd.R_slice ho;have HO1:=am ho;have HB1:=am hb;clear ho hb HB0 MA') | ((with_reducible refine gate_dst (N:=18) rfl ?_);refine bxe (N:=18) (cs:=#[.slice A2 x.length c2,.int .i64 0]) (t:=103) ?_;intro g1 hgb w2 hbox hb;have BF1:=am hbox;have HG1:=am (show w.heap.size≤g1 by rw [hgb];exact HB1.out.size);have HO2:=am (Kd.R_below HO1.out hb);have HB2:=bst HB1 hb;clear hbox hb hgb HO1 HB1) | (go_at_call 16;(with_reducible refine (MB'.out _ HB2.out).mono ?_);rintro e w3 ⟨v3,rfl,ho,hb⟩;obtain ⟨A3,c3,rfl⟩:=Kd.R_slice ho;have HP3:=am ho;have BF3:=bkb BF1 hb;have HO3:=am (Kd.R_below HO2.out hb);have HB3:=bst HB2 hb;clear ho hb HB2 HO2 BF1 MB') | ((with_reducible refine gate_dst (N:=22) rfl ?_);refine bxe (N:=22) (cs:=#[.slice A3 y.length c3,.int .i64 0]) (t:=103) ?_;intro g2 hgb w4 hbox hb;have BG4:=am hbox;have HG2:=am (show w.heap.size≤g2 by rw [hgb];exact HB3.out.size);have BF4:=bkb BF3 hb;have NFG:=nlt hgb BF3;have HO4:=am (Kd.R_below HO3.out hb);have HP4:=am (Kd.R_below HP3.out hb);have HB4:=bst HB3 hb;clear hbox hb hgb HO3 HP3 HB3 BF3))
 have HW4:=am (Below.refl w4.heap.size w4)
 obtain ⟨sab,hsab⟩:∃ l,l=sa ++ sb:=⟨_,rfl⟩
 rw [← hsab] at E5
 have HSAB:=am hsab;clear hsab
 go_upto_region 4 with (first | (go_at_call 70;(with_reducible refine (SA'.out _ HB4.out).mono ?_);rintro e w5 ⟨v5,rfl,ho,hb⟩;obtain ⟨A5,c5,rfl⟩:=Kd.R_slice ho;have HA5:=am ho;have HW5:=am hb;clear ho hb HW4 SA') | (go_at_call 70;(with_reducible refine (SB'.out _ (HB4.out.trans (HW5.out.mono HB4.out.size))).mono ?_);rintro e w6 ⟨v6,rfl,ho,hb⟩;obtain ⟨A6,c6,rfl⟩:=Kd.R_slice ho;have HA6:=am (Kd.R_below HA5.out hb);have HC6:=am (Kd.R_reads' ho).2.2;have HW6:=bst HW5 hb;clear ho hb HW5 HA5 SB') | ((with_reducible refine gate_builtin (b:=.append) (xs:=#[.tmp 24,.tmp 26]) rfl ?_);at_builtin;refine Kd.R_append_rows k35 (w0:=w4) w4.heap.size rfl (.tmp 24) (.tmp 26) 29 35 (.agg #[(.int .i64 0),(.int .i64 0),(.int .i64 0),(.int .i64 0)]) 32 rfl Tryz.underlying29 info35 rfl (by decide) (by omega) (.slice A5 sa.length c5) sa sb _ _ _ (fun _=>True) (fun _=>False) rfl rfl ?aO ?aR (fun _ _ h=>h) (fun _ h=>h.elim) ?aF ?aB ?aS ?aL ?_;(case aR=>exact HC6.out);(case aB=>exact HW6.out);(case aF=>exact (fun _ _=>trivial));(case aO=>exact HA6.out);(case aS=>exact HW6.out.size);(case aL=>have:=HS.out;omega);intro v7 w7 ho hb hg hat;rw [← HSAB.out] at ho;obtain ⟨A7,c7,rfl⟩:=Kd.R_slice ho;have HA7:=am ho;have HW7:=am hb;clear ho hb hg hat HA6 HC6 HW6) | (go_at_call 73;(with_reducible refine (algebra_Refine.calls k A7 c7 sab rs _ (Kd.R_reads' HA7.out).2.2 (Kd.R_reads' HA7.out).2.1 E5.out).mono ?_);rintro e w8 ⟨v8,rfl,ho,hb⟩;obtain ⟨A8,c8,rfl⟩:=Kd.R_slice ho;have HR8:=am ho;have HW8:=bst HW7 hb;clear ho hb HW7 HA7))
 obtain ⟨SS,hSS⟩:∃ SS:Nat→Prop,SS=fun q=>q=g1∨q=g2:=⟨_,rfl⟩
 have S1:Aside0 (SS g1):=⟨by rw [hSS];exact .inl rfl⟩
 have S2:Aside0 (SS g2):=⟨by rw [hSS];exact .inr rfl⟩
 have SN:Aside0 (∀ q,q≠g1→q≠g2→¬ SS q):=⟨fun q h1 h2 h=>by rw [hSS] at h;exact h.elim h1 h2⟩
 clear hSS
 have BP:=am (blk_below BF4.out HW8.out)
 have BQ:=am (blk_below BG4.out HW8.out)
 have LX:=am (below_size HW8.out)
 have HB:=am (HB4.out.trans (HW8.out.mono HB4.out.size))
 have XK:=am (Kd.C_kept_own (S:=SS) (Kd.R_types (Kd.R_types (Kd.R_below HO4.out HW8.out) BP.out (by decide)) BQ.out (by decide)) (fun q hq=>SN.out q hq.1.2 hq.2))
 have YK:=am (Kd.C_kept_own (S:=SS) (Kd.R_types (Kd.R_types (Kd.R_below HP4.out HW8.out) BP.out (by decide)) BQ.out (by decide)) (fun q hq=>SN.out q hq.1.2 hq.2))
 have RK:=am (Kd.C_kept_own (S:=SS) (Kd.R_types (Kd.R_types HR8.out BP.out (by decide)) BQ.out (by decide)) (fun q hq=>SN.out q hq.1.2 hq.2))
 have L1:=am (blk_lt BP.out)
 have L2:=am (blk_lt BQ.out)
 clear HO4 HP4 HR8 BF4 BG4 HB4 HW8 HSAB E5 CA CB LA LB E1 E2 E3 E4 HS
 obtain ⟨n,hn⟩:∃ n,rs.length=n:=⟨_,rfl⟩
 have HN:=am hn
 rw [hn]
 clear hn
 go_loopg [9,30] (n+1) (fun kq v9 v30 w'=>∃ (j i1 i2:Nat) (xs:List S37),v30=.int .i64 (j:Int)∧Aside0 (kq+j=n+1)∧Aside0 (j≤n)∧Aside0 (xs.length≤j)∧Aside0 (i1≤x.length)∧Aside0 (i2≤y.length)∧Aside0 (pieces.l0 φ x y (rs.drop j) i1 i2 xs=some out)∧Aside0 (w'.heap[g1]? = some (.cells #[.slice A2 x.length c2,.int .i64 (i1:Int)] 103 (0,0)))∧Aside0 (w'.heap[g2]? = some (.cells #[.slice A3 y.length c3,.int .i64 (i2:Int)] 103 (0,0)))∧Aside0 (Kept w8 w' SS)∧Aside0 (Kd.R k37 37 w' w.heap.size (fun q=>w8.heap.size≤q) v9 xs)∧Aside0 (Below w.heap.size w w'))
 case atStart=>exact ⟨0,0,0,[],rfl,⟨rfl⟩,⟨Nat.zero_le _⟩,⟨Nat.le_refl _⟩,⟨Nat.zero_le _⟩,⟨Nat.zero_le _⟩,E6,BP,BQ,⟨Kept.refl _ _⟩,⟨Kd.R_nil _ _ _ _ _⟩,HB⟩
 case round =>
  clear BP BQ HB E6
  obtain ⟨j,i1,i2,xs,rfl,HQ,HJ,HL,HI1,HI2,HA,B_p,B_q,K8,HO,HB⟩:=hrel
  by_cases hj:j < n
  ·have p1:0≤(j:Int):=Int.natCast_nonneg j
   have q1:(j:Int) < (rs.length:Int):=by rw [HN.out];omega
   have q2:(j:Int) < (n:Int):=by omega
   have bj:decide ((j:Int) < (n:Int))=true:=decide_eq_true q2
   have HD:rs.drop j=rd_T35 rs (j:Int) :: rs.drop (j+1):=by
    have hj2:j < rs.length:=by rw [HN.out];exact hj
    rw [List.drop_eq_getElem_cons hj2]
    congr 1
    simp [rd_T35,hj2]
   obtain ⟨ad,ea,hx0,hx1,hx2,hx3⟩:=at_T35 (RK.out wr K8.out) (j:Int) p1 q1;cases ea;have HA2:=HA.out
   rw [HD] at HA2
   obtain ⟨⟨⟨s1,s2⟩,⟨s3,s4⟩⟩,hs⟩:∃ s:S35,rd_T35 rs (j:Int)=s:=⟨_,rfl⟩
   rw [hs] at hx0 hx1 hx2 hx3 HA2
   simp only [Int.toNat_natCast] at hx0 hx1 hx2 hx3
   unfold pieces.l0 at HA2
   obtain ⟨⟨zv,zh⟩,ea1,HA3⟩:=Option.bind_eq_some_iff.1 HA2
   obtain ⟨j1,hj1⟩:∃ m,advF hiP (s1,s2) x i1=m:=⟨_,rfl⟩
   obtain ⟨j2,hj2⟩:∃ m,advF hiP (s1,s2) y i2=m:=⟨_,rfl⟩
   have hlo:loS (⟨⟨s1,s2⟩,⟨s3,s4⟩⟩:S35)=(s1,s2):=rfl
   rw [hlo,hj1,hj2] at ea1 HA3
   obtain ⟨⟨xv,xh⟩,hxv⟩:∃ p,valV (s1,s2) x j1=p:=⟨_,rfl⟩
   obtain ⟨⟨yv,yh⟩,hyv⟩:∃ p,valV (s1,s2) y j2=p:=⟨_,rfl⟩
   rw [hxv,hyv] at ea1
   dsimp only at ea1 HA3
   have EA:=am ea1;have HA4:=am HA3
   have VX:∀ (w0 W:World),Below w0.heap.size w0 W→w0.heap.size≤g1→W.heap[g1]? = some (.cells #[.slice A2 x.length c2,.int .i64 (i1:Int)] 103 (0,0))→(∀ W',KeepBut W W' g1 none→Kd.C k37 W' A2 x.length x)→Calls Tryz.prog 74 #[.pointer (some ⟨g1,0,none⟩),.agg #[.int .i64 s1,.int .i64 s2]] W fun e w'=>e=.returned (.tuple #[.int .i64 xv,.bool xh])∧w'.heap[g1]? = some (.cells #[.slice A2 x.length c2,.int .i64 (j1:Int)] 103 (0,0))∧KeepBut W w' g1 none∧Below w0.heap.size w0 w':=fun w0 W h1 h2 h3 h4=>by
    have h:=front_value.calls x A2 c2 i1 g1 s1 s2 w0 W h1 h2 h3 h4 HX.out HI1.out
    rw [hj1,hxv] at h
    exact h
   have VY:∀ (w0 W:World),Below w0.heap.size w0 W→w0.heap.size≤g2→W.heap[g2]? = some (.cells #[.slice A3 y.length c3,.int .i64 (i2:Int)] 103 (0,0))→(∀ W',KeepBut W W' g2 none→Kd.C k37 W' A3 y.length y)→Calls Tryz.prog 74 #[.pointer (some ⟨g2,0,none⟩),.agg #[.int .i64 s1,.int .i64 s2]] W fun e w'=>e=.returned (.tuple #[.int .i64 yv,.bool yh])∧w'.heap[g2]? = some (.cells #[.slice A3 y.length c3,.int .i64 (j2:Int)] 103 (0,0))∧KeepBut W w' g2 none∧Below w0.heap.size w0 w':=fun w0 W h1 h2 h3 h4=>by
    have h:=front_value.calls y A3 c3 i2 g2 s1 s2 w0 W h1 h2 h3 h4 HY.out HI2.out
    rw [hj2,hyv] at h
    exact h
   have J1:Aside0 (j1≤x.length):=⟨by rw [← hj1];exact advF_le hiP (s1,s2) x i1 HI1.out⟩
   have J2:Aside0 (j2≤y.length):=⟨by rw [← hj2];exact advF_le hiP (s1,s2) y i2 HI2.out⟩
   have VX':=am VX
   have VY':=am VY
   have KR:=am (Kept.refl wr SS)
   have Gp:=HG1
   have Gq:=HG2
   have NE_p_q:=NFG
   clear ea1 HA3 HA2 HA HD hs hj1 hj2 hlo hxv hyv VX VY;replace p1:=eq_true p1;replace q2:=eq_true q2
   go_upto_region 6 with (first | ((with_reducible refine gate_dst (N:=11) rfl ?_);refine bxe (N:=11) (cs:=#[.int .i64 0,.int .i64 0,.int .i64 0,.int .i64 0]) (t:=35) ?_;intro gs hgb wa hbox hb;have NE_p_s:=nlt hgb B_p;have NE_q_s:=nlt hgb B_q;have GE_s_HB:=lsz hgb HB;have GE_s_K8:=am (show w8.heap.size≤gs by rw [hgb];exact K8.out.1);have GE_s_KR:=am (show wr.heap.size≤gs by rw [hgb];exact KR.out.1);replace B_p:=bkb B_p hb;replace B_q:=bkb B_q hb;replace HB:=bst HB hb;replace K8:=am (Kept.below K8.out hb);replace KR:=am (Kept.below KR.out hb);have B_s:=am hbox;replace hx0:=(hb.cell (World.block_lt_of_cell? _ _ hx0)).trans hx0;replace hx1:=(hb.cell (World.block_lt_of_cell? _ _ hx1)).trans hx1;replace hx2:=(hb.cell (World.block_lt_of_cell? _ _ hx2)).trans hx2;replace hx3:=(hb.cell (World.block_lt_of_cell? _ _ hx3)).trans hx3;have c_s_0:wa.cell? ⟨gs,0,none⟩=some (.int .i64 0):=(blk_cell hbox 0).trans rfl;have f_s_0:=blk_frozen hbox 0;have c_s_1:wa.cell? ⟨gs,1,none⟩=some (.int .i64 0):=(blk_cell hbox 1).trans rfl;have f_s_1:=blk_frozen hbox 1;have c_s_2:wa.cell? ⟨gs,2,none⟩=some (.int .i64 0):=(blk_cell hbox 2).trans rfl;have f_s_2:=blk_frozen hbox 2;have c_s_3:wa.cell? ⟨gs,3,none⟩=some (.int .i64 0):=(blk_cell hbox 3).trans rfl;have f_s_3:=blk_frozen hbox 3;clear hbox hb hgb))
   have N_p:Aside0 (((((wa.setCell ⟨gs,0,none⟩ (.int .i64 s1)).setCell ⟨gs,1,none⟩ (.int .i64 s2)).setCell ⟨gs,2,none⟩ (.int .i64 s3)).setCell ⟨gs,3,none⟩ (.int .i64 s4)).heap[g1]? = some (.cells #[.slice A2 x.length c2,.int .i64 (i1:Int)] 103 (0,0))):=⟨(blk_far (blk_far (blk_far (blk_far B_p.out (p:=⟨gs,0,none⟩) NE_p_s.out (.int .i64 s1)) (p:=⟨gs,1,none⟩) NE_p_s.out (.int .i64 s2)) (p:=⟨gs,2,none⟩) NE_p_s.out (.int .i64 s3)) (p:=⟨gs,3,none⟩) NE_p_s.out (.int .i64 s4))⟩
   have N_q:Aside0 (((((wa.setCell ⟨gs,0,none⟩ (.int .i64 s1)).setCell ⟨gs,1,none⟩ (.int .i64 s2)).setCell ⟨gs,2,none⟩ (.int .i64 s3)).setCell ⟨gs,3,none⟩ (.int .i64 s4)).heap[g2]? = some (.cells #[.slice A3 y.length c3,.int .i64 (i2:Int)] 103 (0,0))):=⟨(blk_far (blk_far (blk_far (blk_far B_q.out (p:=⟨gs,0,none⟩) NE_q_s.out (.int .i64 s1)) (p:=⟨gs,1,none⟩) NE_q_s.out (.int .i64 s2)) (p:=⟨gs,2,none⟩) NE_q_s.out (.int .i64 s3)) (p:=⟨gs,3,none⟩) NE_q_s.out (.int .i64 s4))⟩
   have N_s:Aside0 (((((wa.setCell ⟨gs,0,none⟩ (.int .i64 s1)).setCell ⟨gs,1,none⟩ (.int .i64 s2)).setCell ⟨gs,2,none⟩ (.int .i64 s3)).setCell ⟨gs,3,none⟩ (.int .i64 s4)).heap[gs]? = some (.cells #[.int .i64 s1,.int .i64 s2,.int .i64 s3,.int .i64 s4] 35 (0,0))):=⟨(blk_put (blk_put (blk_put (blk_put B_s.out 0 (.int .i64 s1) rfl) 1 (.int .i64 s2) rfl) 2 (.int .i64 s3) rfl) 3 (.int .i64 s4) rfl)⟩
   have N_HB:Aside0 (Below w.heap.size w ((((wa.setCell ⟨gs,0,none⟩ (.int .i64 s1)).setCell ⟨gs,1,none⟩ (.int .i64 s2)).setCell ⟨gs,2,none⟩ (.int .i64 s3)).setCell ⟨gs,3,none⟩ (.int .i64 s4))):=⟨(below_set (below_set (below_set (below_set HB.out GE_s_HB.out) GE_s_HB.out) GE_s_HB.out) GE_s_HB.out)⟩
   have N_K8:Aside0 (Kept w8 ((((wa.setCell ⟨gs,0,none⟩ (.int .i64 s1)).setCell ⟨gs,1,none⟩ (.int .i64 s2)).setCell ⟨gs,2,none⟩ (.int .i64 s3)).setCell ⟨gs,3,none⟩ (.int .i64 s4)) SS):=⟨(Kept.setCell (Kept.setCell (Kept.setCell (Kept.setCell K8.out (p:=⟨gs,0,none⟩) (.inr GE_s_K8.out) (.int .i64 s1)) (p:=⟨gs,1,none⟩) (.inr GE_s_K8.out) (.int .i64 s2)) (p:=⟨gs,2,none⟩) (.inr GE_s_K8.out) (.int .i64 s3)) (p:=⟨gs,3,none⟩) (.inr GE_s_K8.out) (.int .i64 s4))⟩
   have N_KR:Aside0 (Kept wr ((((wa.setCell ⟨gs,0,none⟩ (.int .i64 s1)).setCell ⟨gs,1,none⟩ (.int .i64 s2)).setCell ⟨gs,2,none⟩ (.int .i64 s3)).setCell ⟨gs,3,none⟩ (.int .i64 s4)) SS):=⟨(Kept.setCell (Kept.setCell (Kept.setCell (Kept.setCell KR.out (p:=⟨gs,0,none⟩) (.inr GE_s_KR.out) (.int .i64 s1)) (p:=⟨gs,1,none⟩) (.inr GE_s_KR.out) (.int .i64 s2)) (p:=⟨gs,2,none⟩) (.inr GE_s_KR.out) (.int .i64 s3)) (p:=⟨gs,3,none⟩) (.inr GE_s_KR.out) (.int .i64 s4))⟩
   clear B_p B_q B_s HB K8 KR
   have B_p:=N_p
   have B_q:=N_q
   have B_s:=N_s
   have HB:=N_HB
   have K8:=N_K8
   have KR:=N_KR
   clear N_p N_q N_s N_HB N_K8 N_KR;generalize ((((wa.setCell ⟨gs,0,none⟩ (.int .i64 s1)).setCell ⟨gs,1,none⟩ (.int .i64 s2)).setCell ⟨gs,2,none⟩ (.int .i64 s3)).setCell ⟨gs,3,none⟩ (.int .i64 s4))=wb at *;clear hx0 hx1 hx2 hx3 c_s_0 f_s_0 c_s_1 f_s_1 c_s_2 f_s_2 c_s_3 f_s_3
   go_upto_region 7 with (first | ((with_reducible refine gate_dst (N:=12) rfl ?_);refine bxf #[.int .i64 0,.bool false] 67 HB fun gx wc B_x GE_x_HB HB hgb hb=>?_;have NE_p_x:=nlt hgb B_p;have NE_q_x:=nlt hgb B_q;have NE_s_x:=nlt hgb B_s;have GE_x_K8:=am (show w8.heap.size≤gx by rw [hgb];exact K8.out.1);have GE_x_KR:=am (show wr.heap.size≤gx by rw [hgb];exact KR.out.1);replace B_p:=bkb B_p hb;replace B_q:=bkb B_q hb;replace B_s:=bkb B_s hb;replace K8:=am (Kept.below K8.out hb);replace KR:=am (Kept.below KR.out hb);clear hb hgb) | ((with_reducible refine gate_dst (N:=13) rfl ?_);refine bxf #[.int .i64 0,.bool false] 67 HB fun gy wd B_y GE_y_HB HB hgb hb=>?_;have NE_p_y:=nlt hgb B_p;have NE_q_y:=nlt hgb B_q;have NE_s_y:=nlt hgb B_s;have NE_x_y:=nlt hgb B_x;have GE_y_K8:=am (show w8.heap.size≤gy by rw [hgb];exact K8.out.1);have GE_y_KR:=am (show wr.heap.size≤gy by rw [hgb];exact KR.out.1);replace B_p:=bkb B_p hb;replace B_q:=bkb B_q hb;replace B_s:=bkb B_s hb;replace B_x:=bkb B_x hb;replace K8:=am (Kept.below K8.out hb);replace KR:=am (Kept.below KR.out hb);clear hb hgb))
   have c_s_0:wd.cell? ⟨gs,0,none⟩=some (.int .i64 s1):=(blk_cell B_s.out 0).trans rfl
   have f_s_0:=blk_frozen B_s.out 0
   have c_s_1:wd.cell? ⟨gs,1,none⟩=some (.int .i64 s2):=(blk_cell B_s.out 1).trans rfl
   have f_s_1:=blk_frozen B_s.out 1
   go_upto_region 8 with (first | (go_at_call 74;(with_reducible refine (VX'.out w wd HB.out Gp.out B_p.out (fun W' hk=>XK.out W' (Kept.of_keep K8.out hk (.inl S1.out)))).mono ?_);rintro e we ⟨rfl,hbn,hk0,hbl⟩;have hk:=hk0;replace B_p:=am hbn;replace B_q:=am ((hk.2 _ (blk_lt B_q.out) (Ne.symm NE_p_q.out) (by simp)).trans B_q.out);replace B_s:=am ((hk.2 _ (blk_lt B_s.out) (Ne.symm NE_p_s.out) (by simp)).trans B_s.out);replace B_x:=am ((hk.2 _ (blk_lt B_x.out) (Ne.symm NE_p_x.out) (by simp)).trans B_x.out);replace B_y:=am ((hk.2 _ (blk_lt B_y.out) (Ne.symm NE_p_y.out) (by simp)).trans B_y.out);replace HB:=am hbl;replace K8:=am (Kept.of_keep K8.out hk (.inl S1.out));replace KR:=am (Kept.of_keep KR.out hk (.inl S1.out));have c_x_0:we.cell? ⟨gx,0,none⟩=some (.int .i64 0):=(blk_cell B_x.out 0).trans rfl;have f_x_0:=blk_frozen B_x.out 0;have c_x_1:we.cell? ⟨gx,1,none⟩=some (.bool false):=(blk_cell B_x.out 1).trans rfl;have f_x_1:=blk_frozen B_x.out 1;clear hk0 hk hbn hbl))
   clear c_s_0 f_s_0 c_s_1 f_s_1
   have N_p:Aside0 (((we.setCell ⟨gx,0,none⟩ (.int .i64 xv)).setCell ⟨gx,1,none⟩ (.bool xh)).heap[g1]? = some (.cells #[.slice A2 x.length c2,.int .i64 (j1:Int)] 103 (0,0))):=⟨(blk_far (blk_far B_p.out (p:=⟨gx,0,none⟩) NE_p_x.out (.int .i64 xv)) (p:=⟨gx,1,none⟩) NE_p_x.out (.bool xh))⟩
   have N_q:Aside0 (((we.setCell ⟨gx,0,none⟩ (.int .i64 xv)).setCell ⟨gx,1,none⟩ (.bool xh)).heap[g2]? = some (.cells #[.slice A3 y.length c3,.int .i64 (i2:Int)] 103 (0,0))):=⟨(blk_far (blk_far B_q.out (p:=⟨gx,0,none⟩) NE_q_x.out (.int .i64 xv)) (p:=⟨gx,1,none⟩) NE_q_x.out (.bool xh))⟩
   have N_s:Aside0 (((we.setCell ⟨gx,0,none⟩ (.int .i64 xv)).setCell ⟨gx,1,none⟩ (.bool xh)).heap[gs]? = some (.cells #[.int .i64 s1,.int .i64 s2,.int .i64 s3,.int .i64 s4] 35 (0,0))):=⟨(blk_far (blk_far B_s.out (p:=⟨gx,0,none⟩) NE_s_x.out (.int .i64 xv)) (p:=⟨gx,1,none⟩) NE_s_x.out (.bool xh))⟩
   have N_x:Aside0 (((we.setCell ⟨gx,0,none⟩ (.int .i64 xv)).setCell ⟨gx,1,none⟩ (.bool xh)).heap[gx]? = some (.cells #[.int .i64 xv,.bool xh] 67 (0,0))):=⟨(blk_put (blk_put B_x.out 0 (.int .i64 xv) rfl) 1 (.bool xh) rfl)⟩
   have N_y:Aside0 (((we.setCell ⟨gx,0,none⟩ (.int .i64 xv)).setCell ⟨gx,1,none⟩ (.bool xh)).heap[gy]? = some (.cells #[.int .i64 0,.bool false] 67 (0,0))):=⟨(blk_far (blk_far B_y.out (p:=⟨gx,0,none⟩) (Ne.symm NE_x_y.out) (.int .i64 xv)) (p:=⟨gx,1,none⟩) (Ne.symm NE_x_y.out) (.bool xh))⟩
   have N_HB:Aside0 (Below w.heap.size w ((we.setCell ⟨gx,0,none⟩ (.int .i64 xv)).setCell ⟨gx,1,none⟩ (.bool xh))):=⟨(below_set (below_set HB.out GE_x_HB.out) GE_x_HB.out)⟩
   have N_K8:Aside0 (Kept w8 ((we.setCell ⟨gx,0,none⟩ (.int .i64 xv)).setCell ⟨gx,1,none⟩ (.bool xh)) SS):=⟨(Kept.setCell (Kept.setCell K8.out (p:=⟨gx,0,none⟩) (.inr GE_x_K8.out) (.int .i64 xv)) (p:=⟨gx,1,none⟩) (.inr GE_x_K8.out) (.bool xh))⟩
   have N_KR:Aside0 (Kept wr ((we.setCell ⟨gx,0,none⟩ (.int .i64 xv)).setCell ⟨gx,1,none⟩ (.bool xh)) SS):=⟨(Kept.setCell (Kept.setCell KR.out (p:=⟨gx,0,none⟩) (.inr GE_x_KR.out) (.int .i64 xv)) (p:=⟨gx,1,none⟩) (.inr GE_x_KR.out) (.bool xh))⟩
   clear B_p B_q B_s B_x B_y HB K8 KR
   have B_p:=N_p
   have B_q:=N_q
   have B_s:=N_s
   have B_x:=N_x
   have B_y:=N_y
   have HB:=N_HB
   have K8:=N_K8
   have KR:=N_KR
   clear N_p N_q N_s N_x N_y N_HB N_K8 N_KR;generalize ((we.setCell ⟨gx,0,none⟩ (.int .i64 xv)).setCell ⟨gx,1,none⟩ (.bool xh))=wf at *;clear c_x_0 f_x_0 c_x_1 f_x_1
   have c_s_0:wf.cell? ⟨gs,0,none⟩=some (.int .i64 s1):=(blk_cell B_s.out 0).trans rfl
   have f_s_0:=blk_frozen B_s.out 0
   have c_s_1:wf.cell? ⟨gs,1,none⟩=some (.int .i64 s2):=(blk_cell B_s.out 1).trans rfl
   have f_s_1:=blk_frozen B_s.out 1
   go_upto_region 9 with (first | (go_at_call 74;(with_reducible refine (VY'.out w wf HB.out Gq.out B_q.out (fun W' hk=>YK.out W' (Kept.of_keep K8.out hk (.inl S2.out)))).mono ?_);rintro e wg ⟨rfl,hbn,hk0,hbl⟩;have hk:=hk0;replace B_p:=am ((hk.2 _ (blk_lt B_p.out) NE_p_q.out (by simp)).trans B_p.out);replace B_q:=am hbn;replace B_s:=am ((hk.2 _ (blk_lt B_s.out) (Ne.symm NE_q_s.out) (by simp)).trans B_s.out);replace B_x:=am ((hk.2 _ (blk_lt B_x.out) (Ne.symm NE_q_x.out) (by simp)).trans B_x.out);replace B_y:=am ((hk.2 _ (blk_lt B_y.out) (Ne.symm NE_q_y.out) (by simp)).trans B_y.out);replace HB:=am hbl;replace K8:=am (Kept.of_keep K8.out hk (.inl S2.out));replace KR:=am (Kept.of_keep KR.out hk (.inl S2.out));have c_y_0:wg.cell? ⟨gy,0,none⟩=some (.int .i64 0):=(blk_cell B_y.out 0).trans rfl;have f_y_0:=blk_frozen B_y.out 0;have c_y_1:wg.cell? ⟨gy,1,none⟩=some (.bool false):=(blk_cell B_y.out 1).trans rfl;have f_y_1:=blk_frozen B_y.out 1;clear hk0 hk hbn hbl))
   clear c_s_0 f_s_0 c_s_1 f_s_1
   have N_p:Aside0 (((wg.setCell ⟨gy,0,none⟩ (.int .i64 yv)).setCell ⟨gy,1,none⟩ (.bool yh)).heap[g1]? = some (.cells #[.slice A2 x.length c2,.int .i64 (j1:Int)] 103 (0,0))):=⟨(blk_far (blk_far B_p.out (p:=⟨gy,0,none⟩) NE_p_y.out (.int .i64 yv)) (p:=⟨gy,1,none⟩) NE_p_y.out (.bool yh))⟩
   have N_q:Aside0 (((wg.setCell ⟨gy,0,none⟩ (.int .i64 yv)).setCell ⟨gy,1,none⟩ (.bool yh)).heap[g2]? = some (.cells #[.slice A3 y.length c3,.int .i64 (j2:Int)] 103 (0,0))):=⟨(blk_far (blk_far B_q.out (p:=⟨gy,0,none⟩) NE_q_y.out (.int .i64 yv)) (p:=⟨gy,1,none⟩) NE_q_y.out (.bool yh))⟩
   have N_s:Aside0 (((wg.setCell ⟨gy,0,none⟩ (.int .i64 yv)).setCell ⟨gy,1,none⟩ (.bool yh)).heap[gs]? = some (.cells #[.int .i64 s1,.int .i64 s2,.int .i64 s3,.int .i64 s4] 35 (0,0))):=⟨(blk_far (blk_far B_s.out (p:=⟨gy,0,none⟩) NE_s_y.out (.int .i64 yv)) (p:=⟨gy,1,none⟩) NE_s_y.out (.bool yh))⟩
   have N_x:Aside0 (((wg.setCell ⟨gy,0,none⟩ (.int .i64 yv)).setCell ⟨gy,1,none⟩ (.bool yh)).heap[gx]? = some (.cells #[.int .i64 xv,.bool xh] 67 (0,0))):=⟨(blk_far (blk_far B_x.out (p:=⟨gy,0,none⟩) NE_x_y.out (.int .i64 yv)) (p:=⟨gy,1,none⟩) NE_x_y.out (.bool yh))⟩
   have N_y:Aside0 (((wg.setCell ⟨gy,0,none⟩ (.int .i64 yv)).setCell ⟨gy,1,none⟩ (.bool yh)).heap[gy]? = some (.cells #[.int .i64 yv,.bool yh] 67 (0,0))):=⟨(blk_put (blk_put B_y.out 0 (.int .i64 yv) rfl) 1 (.bool yh) rfl)⟩
   have N_HB:Aside0 (Below w.heap.size w ((wg.setCell ⟨gy,0,none⟩ (.int .i64 yv)).setCell ⟨gy,1,none⟩ (.bool yh))):=⟨(below_set (below_set HB.out GE_y_HB.out) GE_y_HB.out)⟩
   have N_K8:Aside0 (Kept w8 ((wg.setCell ⟨gy,0,none⟩ (.int .i64 yv)).setCell ⟨gy,1,none⟩ (.bool yh)) SS):=⟨(Kept.setCell (Kept.setCell K8.out (p:=⟨gy,0,none⟩) (.inr GE_y_K8.out) (.int .i64 yv)) (p:=⟨gy,1,none⟩) (.inr GE_y_K8.out) (.bool yh))⟩
   have N_KR:Aside0 (Kept wr ((wg.setCell ⟨gy,0,none⟩ (.int .i64 yv)).setCell ⟨gy,1,none⟩ (.bool yh)) SS):=⟨(Kept.setCell (Kept.setCell KR.out (p:=⟨gy,0,none⟩) (.inr GE_y_KR.out) (.int .i64 yv)) (p:=⟨gy,1,none⟩) (.inr GE_y_KR.out) (.bool yh))⟩
   clear B_p B_q B_s B_x B_y HB K8 KR
   have B_p:=N_p
   have B_q:=N_q
   have B_s:=N_s
   have B_x:=N_x
   have B_y:=N_y
   have HB:=N_HB
   have K8:=N_K8
   have KR:=N_KR
   clear N_p N_q N_s N_x N_y N_HB N_K8 N_KR;generalize ((wg.setCell ⟨gy,0,none⟩ (.int .i64 yv)).setCell ⟨gy,1,none⟩ (.bool yh))=wh at *;clear c_y_0 f_y_0 c_y_1 f_y_1
   have c_x_0:wh.cell? ⟨gx,0,none⟩=some (.int .i64 xv):=(blk_cell B_x.out 0).trans rfl
   have c_x_1:wh.cell? ⟨gx,1,none⟩=some (.bool xh):=(blk_cell B_x.out 1).trans rfl
   have c_y_0:wh.cell? ⟨gy,0,none⟩=some (.int .i64 yv):=(blk_cell B_y.out 0).trans rfl
   have c_y_1:wh.cell? ⟨gy,1,none⟩=some (.bool yh):=(blk_cell B_y.out 1).trans rfl
   have eg:=EG.out
   go_upto_region 10 with (first | ((with_reducible refine (HF.out _ xv xh yv yh (zv,zh) HB.out EA.out).mono ?_);rintro e wi ⟨rfl,hb9⟩;replace B_p:=am (blk_below B_p.out hb9);replace B_q:=am (blk_below B_q.out hb9);replace B_s:=am (blk_below B_s.out hb9);replace B_x:=am (blk_below B_x.out hb9);replace B_y:=am (blk_below B_y.out hb9);replace HB:=am (below_step HB.out hb9);replace K8:=am (Kept.below K8.out hb9);replace KR:=am (Kept.below KR.out hb9);clear hb9) | ((with_reducible refine gate_dst (N:=14) rfl ?_);refine bxe (N:=14) (cs:=#[.int .i64 0,.bool false]) (t:=67) ?_;intro gz hgb wj hbox hb;have NE_p_z:=nlt hgb B_p;have NE_q_z:=nlt hgb B_q;have NE_s_z:=nlt hgb B_s;have NE_x_z:=nlt hgb B_x;have NE_y_z:=nlt hgb B_y;have GE_z_HB:=lsz hgb HB;have GE_z_K8:=am (show w8.heap.size≤gz by rw [hgb];exact K8.out.1);have GE_z_KR:=am (show wr.heap.size≤gz by rw [hgb];exact KR.out.1);replace B_p:=bkb B_p hb;replace B_q:=bkb B_q hb;replace B_s:=bkb B_s hb;replace B_x:=bkb B_x hb;replace B_y:=bkb B_y hb;replace HB:=bst HB hb;replace K8:=am (Kept.below K8.out hb);replace KR:=am (Kept.below KR.out hb);have B_z:=am hbox;have c_z_0:wj.cell? ⟨gz,0,none⟩=some (.int .i64 0):=(blk_cell hbox 0).trans rfl;have f_z_0:=blk_frozen hbox 0;have c_z_1:wj.cell? ⟨gz,1,none⟩=some (.bool false):=(blk_cell hbox 1).trans rfl;have f_z_1:=blk_frozen hbox 1;clear hbox hb hgb))
   clear eg c_x_0 c_x_1 c_y_0 c_y_1
   have N_p:Aside0 (((wj.setCell ⟨gz,0,none⟩ (.int .i64 zv)).setCell ⟨gz,1,none⟩ (.bool zh)).heap[g1]? = some (.cells #[.slice A2 x.length c2,.int .i64 (j1:Int)] 103 (0,0))):=⟨(blk_far (blk_far B_p.out (p:=⟨gz,0,none⟩) NE_p_z.out (.int .i64 zv)) (p:=⟨gz,1,none⟩) NE_p_z.out (.bool zh))⟩
   have N_q:Aside0 (((wj.setCell ⟨gz,0,none⟩ (.int .i64 zv)).setCell ⟨gz,1,none⟩ (.bool zh)).heap[g2]? = some (.cells #[.slice A3 y.length c3,.int .i64 (j2:Int)] 103 (0,0))):=⟨(blk_far (blk_far B_q.out (p:=⟨gz,0,none⟩) NE_q_z.out (.int .i64 zv)) (p:=⟨gz,1,none⟩) NE_q_z.out (.bool zh))⟩
   have N_s:Aside0 (((wj.setCell ⟨gz,0,none⟩ (.int .i64 zv)).setCell ⟨gz,1,none⟩ (.bool zh)).heap[gs]? = some (.cells #[.int .i64 s1,.int .i64 s2,.int .i64 s3,.int .i64 s4] 35 (0,0))):=⟨(blk_far (blk_far B_s.out (p:=⟨gz,0,none⟩) NE_s_z.out (.int .i64 zv)) (p:=⟨gz,1,none⟩) NE_s_z.out (.bool zh))⟩
   have N_x:Aside0 (((wj.setCell ⟨gz,0,none⟩ (.int .i64 zv)).setCell ⟨gz,1,none⟩ (.bool zh)).heap[gx]? = some (.cells #[.int .i64 xv,.bool xh] 67 (0,0))):=⟨(blk_far (blk_far B_x.out (p:=⟨gz,0,none⟩) NE_x_z.out (.int .i64 zv)) (p:=⟨gz,1,none⟩) NE_x_z.out (.bool zh))⟩
   have N_y:Aside0 (((wj.setCell ⟨gz,0,none⟩ (.int .i64 zv)).setCell ⟨gz,1,none⟩ (.bool zh)).heap[gy]? = some (.cells #[.int .i64 yv,.bool yh] 67 (0,0))):=⟨(blk_far (blk_far B_y.out (p:=⟨gz,0,none⟩) NE_y_z.out (.int .i64 zv)) (p:=⟨gz,1,none⟩) NE_y_z.out (.bool zh))⟩
   have N_z:Aside0 (((wj.setCell ⟨gz,0,none⟩ (.int .i64 zv)).setCell ⟨gz,1,none⟩ (.bool zh)).heap[gz]? = some (.cells #[.int .i64 zv,.bool zh] 67 (0,0))):=⟨(blk_put (blk_put B_z.out 0 (.int .i64 zv) rfl) 1 (.bool zh) rfl)⟩
   have N_HB:Aside0 (Below w.heap.size w ((wj.setCell ⟨gz,0,none⟩ (.int .i64 zv)).setCell ⟨gz,1,none⟩ (.bool zh))):=⟨(below_set (below_set HB.out GE_z_HB.out) GE_z_HB.out)⟩
   have N_K8:Aside0 (Kept w8 ((wj.setCell ⟨gz,0,none⟩ (.int .i64 zv)).setCell ⟨gz,1,none⟩ (.bool zh)) SS):=⟨(Kept.setCell (Kept.setCell K8.out (p:=⟨gz,0,none⟩) (.inr GE_z_K8.out) (.int .i64 zv)) (p:=⟨gz,1,none⟩) (.inr GE_z_K8.out) (.bool zh))⟩
   have N_KR:Aside0 (Kept wr ((wj.setCell ⟨gz,0,none⟩ (.int .i64 zv)).setCell ⟨gz,1,none⟩ (.bool zh)) SS):=⟨(Kept.setCell (Kept.setCell KR.out (p:=⟨gz,0,none⟩) (.inr GE_z_KR.out) (.int .i64 zv)) (p:=⟨gz,1,none⟩) (.inr GE_z_KR.out) (.bool zh))⟩
   clear B_p B_q B_s B_x B_y B_z HB K8 KR
   have B_p:=N_p
   have B_q:=N_q
   have B_s:=N_s
   have B_x:=N_x
   have B_y:=N_y
   have B_z:=N_z
   have HB:=N_HB
   have K8:=N_K8
   have KR:=N_KR
   clear N_p N_q N_s N_x N_y N_z N_HB N_K8 N_KR;generalize ((wj.setCell ⟨gz,0,none⟩ (.int .i64 zv)).setCell ⟨gz,1,none⟩ (.bool zh))=wk at *
   have c_z_0:wk.cell? ⟨gz,0,none⟩=some (.int .i64 zv):=(blk_cell B_z.out 0).trans rfl
   have c_z_1:wk.cell? ⟨gz,1,none⟩=some (.bool zh):=(blk_cell B_z.out 1).trans rfl
   have c_s_0:wk.cell? ⟨gs,0,none⟩=some (.int .i64 s1):=(blk_cell B_s.out 0).trans rfl
   have c_s_1:wk.cell? ⟨gs,1,none⟩=some (.int .i64 s2):=(blk_cell B_s.out 1).trans rfl
   have c_s_2:wk.cell? ⟨gs,2,none⟩=some (.int .i64 s3):=(blk_cell B_s.out 2).trans rfl
   have c_s_3:wk.cell? ⟨gs,3,none⟩=some (.int .i64 s4):=(blk_cell B_s.out 3).trans rfl
   have HO2:=am (Kd.R_kept HO.out KR.out (fun q hq=>SN.out q (fun e=>by have:=L1.out;omega) (fun e=>by have:=L2.out;omega)))
   clear HO
   obtain ⟨k1,rfl⟩:∃ k1,gk=k1+1:=⟨gk - 1,by have:=HQ.out;omega⟩
   have hw:wrap64 ((j:Int)+1)=((j+1:Nat):Int):=by
    have:=HN.out;have:=HRS.out
    unfold wrap64;push_cast;omega
   cases zh
   ·rw [if_neg (by decide)] at HA4
    go_wp2
    go_roundg k1
    case measure=>omega
    case rel=>exact ⟨j+1,j1,j2,xs,by first | rfl | (rw [← hw];rfl) | (simp [hw];done),⟨by have:=HQ.out;omega⟩,⟨by omega⟩,⟨by have:=HL.out;omega⟩,J1,J2,HA4,B_p,B_q,K8,HO2,HB⟩
   ·rw [if_pos rfl] at HA4
    have AW1:=am (Kd.R_away HO2.out (g:=g1) (fun q hq=>by have:=L1.out;omega))
    have AW2:=am (Kd.R_away HO2.out (g:=g2) (fun q hq=>by have:=L2.out;omega))
    have HRR:=HRS
    go_wp2_with (first | ((with_reducible refine gate_builtin (b:=.append) (xs:=#[.tmp 58,.tmp 63]) rfl ?_);at_builtin;(refine Kd.R_append k37 (w0:=w) w.heap.size rfl (.tmp 58) (.tmp 63) 22 37 (.agg #[(.int .i64 0),(.int .i64 0),(.int .i64 0),(.int .i64 0),(.int .i64 0)]) 40 rfl Tryz.underlying22 info37 rfl (by decide) (by omega) (_) (xs) (⟨⟨⟨s1,s2⟩,⟨s3,s4⟩⟩,zv⟩:S37) [.int .i64 s1,.int .i64 s2,.int .i64 s3,.int .i64 s4,.int .i64 zv] (fun q=>w8.heap.size≤q) (fun _=>False) rfl rfl ?aP (fun _ hk=>hk.elim) ?aF ?aO ?aB ?aS ?aL ?_;(case aP=>exact (k37_mkM _ _ _ (⟨⟨⟨s1,s2⟩,⟨s3,s4⟩⟩,zv⟩:S37)));(case aF=>exact (fun k_ hk=>Nat.le_trans K8.out.1 hk));(case aO=>exact HO2.out);(case aB=>exact HB.out);(case aS=>exact below_size HB.out);(case aL=>have:=HL.out;have:=HN.out;have:=HRR.out;omega);intro vn wn ho hb hgr hat;have HO3:=am ho;have HB3:=am hb;have BP3:=am (blk_grown B_p.out hgr AW1.out);have BQ3:=am (blk_grown B_q.out hgr AW2.out);have K83:=am (Kept.of_grown hgr K8.out (fun q hq=>.inr (HO2.out.1 q hq)));clear ho hb hgr hat)))
    go_roundg k1
    case measure=>omega
    case rel=>exact ⟨j+1,j1,j2,xs ++ [(⟨⟨⟨s1,s2⟩,⟨s3,s4⟩⟩,zv⟩:S37)],by first | rfl | (rw [← hw];rfl) | (simp [hw];done),⟨by have:=HQ.out;omega⟩,⟨by omega⟩,⟨by have:=HL.out;rw [List.length_append];show xs.length+1≤_;omega⟩,J1,J2,HA4,BP3,BQ3,K83,HO3,HB3⟩
  ·have bj:decide ((j:Int) < (n:Int))=false:=decide_eq_false (by omega)
   have hjn:j=n:=by have:=HJ.out;omega
   have HA2:=HA.out
   rw [List.drop_eq_nil_of_le (by rw [HN.out];omega)] at HA2
   obtain rfl:=Option.some.inj HA2
   obtain ⟨A9,c9,rfl⟩:=Kd.R_slice HO.out
   go_wp2_with (first | (go_at_call 16;(with_reducible refine (mapalg_Merge.calls k A9 c9 xs r _ (Kd.R_reads' HO.out).2.2 (Kd.R_reads' HO.out).2.1 E7.out).mono ?_);rintro e w9 ⟨v9,rfl,ho,hb⟩;have HO9:=am ho;have Y9:=am hb;clear ho hb))
   go_ret
   exact ⟨_,rfl,Kd.R_lower HO9.out (below_size HB.out),below_step HB.out Y9.out⟩
def sat_end.f (a0:Bool):Option (Int):=if a0=true then (some (-9223372036854775808)) else (some 9223372036854775807)
theorem sat_end.calls (a0:Bool) (r:Int) (w:World) (h:sat_end.f a0=some r) :
 Calls Tryz.prog 133 #[.bool a0] w fun e w'=>e=.returned (.int .i64 r)∧Drawn0 w w':=by
 unfold sat_end.f at h;have H:=h;clear h;cases a0;rotate_left
 ·replace H:=itt H;obtain rfl:=Option.some.inj H;go_enter Tryz.func133,Tryz.ntmps133;go_wp2;go_ret
  exact ⟨rs,dn⟩
 ·replace H:=itf H;obtain rfl:=Option.some.inj H;go_enter Tryz.func133,Tryz.ntmps133;go_wp2;go_ret
  exact ⟨rs,dn⟩
def sat_Add.f (a0:Int) (a1:Int):Option (Int):=if ((decide (a0 < 0)) == (decide (a1 < 0)))=true then (if ((decide ((wrap64 (a0+a1)) < 0)) != (decide (a0 < 0)))=true then ((sat_end.f (decide (a0 < 0))).bind fun t546=>(some t546)) else (some (wrap64 (a0+a1)))) else (some (wrap64 (a0+a1)))
theorem sat_Add.calls (a0:Int) (a1:Int) (r:Int) (w:World) (h:sat_Add.f a0 a1=some r) :
 Calls Tryz.prog 111 #[.int .i64 a0,.int .i64 a1] w fun e w'=>e=.returned (.int .i64 r)∧Drawn0 w w':=by
 unfold sat_Add.f at h;have H:=h;clear h
 by_cases c3:((decide (a0 < 0)) == (decide (a1 < 0)))=true
 ·rw [if_pos c3] at H
  have c3b0:((decide (a0 < 0)) == (decide (a1 < 0)))=true:=c3
  (try (have c3b1:decide ((decide (a0 < 0))=(decide (a1 < 0)))=true:=by simpa using c3))
  (try (have c3b2:((decide (a0 < 0)) == (decide (a1 < 0)))=true:=by simpa using c3))
  clear c3
  by_cases c4:((decide ((wrap64 (a0+a1)) < 0)) != (decide (a0 < 0)))=true
  ·rw [if_pos c4] at H
   have c4b0:((decide ((wrap64 (a0+a1)) < 0)) != (decide (a0 < 0)))=true:=c4
   (try (have c4b1:decide ((decide ((wrap64 (a0+a1)) < 0))=(decide (a0 < 0)))=false:=by simpa using c4))
   (try (have c4b2:((decide ((wrap64 (a0+a1)) < 0)) == (decide (a0 < 0)))=false:=by simpa using c4))
   (try (have c4b3:¬ ((decide ((wrap64 (a0+a1)) < 0))=(decide (a0 < 0))):=by simpa using c4))
   clear c4;revert H;refine bnd fun t546 A5 H=>?_
   obtain rfl:=Option.some.inj H;go_enter Tryz.func111,Tryz.ntmps111
   go_wp2_with (first | ((with_reducible refine gate_callee (f:=133) rfl ?_);refine god Tryz.func133 (sat_end.calls _ _ _ A5.out) fun nd=>?_))
   go_ret
   exact ⟨rs,dn⟩
  ·rw [if_neg c4] at H
   have c4b0:((decide ((wrap64 (a0+a1)) < 0)) != (decide (a0 < 0)))=false:=by simpa using c4
   (try (have c4b1:decide ((decide ((wrap64 (a0+a1)) < 0))=(decide (a0 < 0)))=true:=by simpa using c4))
   (try (have c4b2:((decide ((wrap64 (a0+a1)) < 0)) == (decide (a0 < 0)))=true:=by simpa using c4))
   clear c4;obtain rfl:=Option.some.inj H;go_enter Tryz.func111,Tryz.ntmps111;go_wp2;go_ret
   exact ⟨rs,dn⟩
 ·rw [if_neg c3] at H
  have c3b0:((decide (a0 < 0)) == (decide (a1 < 0)))=false:=by simpa using c3
  (try (have c3b1:decide ((decide (a0 < 0))=(decide (a1 < 0)))=false:=by simpa using c3))
  (try (have c3b2:((decide (a0 < 0)) == (decide (a1 < 0)))=false:=by simpa using c3))
  (try (have c3b3:¬ ((decide (a0 < 0))=(decide (a1 < 0))):=by simpa using c3))
  clear c3;obtain rfl:=Option.some.inj H;go_enter Tryz.func111,Tryz.ntmps111;go_wp2;go_ret
  exact ⟨rs,dn⟩
def sat_Sub.f (a0:Int) (a1:Int):Option (Int):=if ((decide (a0 < 0)) != (decide (a1 < 0)))=true then (if ((decide ((wrap64 (a0 - a1)) < 0)) != (decide (a0 < 0)))=true then ((sat_end.f (decide (a0 < 0))).bind fun t547=>(some t547)) else (some (wrap64 (a0 - a1)))) else (some (wrap64 (a0 - a1)))
theorem sat_Sub.calls (a0:Int) (a1:Int) (r:Int) (w:World) (h:sat_Sub.f a0 a1=some r) :
 Calls Tryz.prog 112 #[.int .i64 a0,.int .i64 a1] w fun e w'=>e=.returned (.int .i64 r)∧Drawn0 w w':=by
 unfold sat_Sub.f at h;have H:=h;clear h
 by_cases c3:((decide (a0 < 0)) != (decide (a1 < 0)))=true
 ·rw [if_pos c3] at H
  have c3b0:((decide (a0 < 0)) != (decide (a1 < 0)))=true:=c3
  (try (have c3b1:decide ((decide (a0 < 0))=(decide (a1 < 0)))=false:=by simpa using c3))
  (try (have c3b2:((decide (a0 < 0)) == (decide (a1 < 0)))=false:=by simpa using c3))
  (try (have c3b3:¬ ((decide (a0 < 0))=(decide (a1 < 0))):=by simpa using c3))
  clear c3
  by_cases c4:((decide ((wrap64 (a0 - a1)) < 0)) != (decide (a0 < 0)))=true
  ·rw [if_pos c4] at H
   have c4b0:((decide ((wrap64 (a0 - a1)) < 0)) != (decide (a0 < 0)))=true:=c4
   (try (have c4b1:decide ((decide ((wrap64 (a0 - a1)) < 0))=(decide (a0 < 0)))=false:=by simpa using c4))
   (try (have c4b2:((decide ((wrap64 (a0 - a1)) < 0)) == (decide (a0 < 0)))=false:=by simpa using c4))
   (try (have c4b3:¬ ((decide ((wrap64 (a0 - a1)) < 0))=(decide (a0 < 0))):=by simpa using c4))
   clear c4;revert H;refine bnd fun t547 A5 H=>?_
   obtain rfl:=Option.some.inj H;go_enter Tryz.func112,Tryz.ntmps112
   go_wp2_with (first | ((with_reducible refine gate_callee (f:=133) rfl ?_);refine god Tryz.func133 (sat_end.calls _ _ _ A5.out) fun nd=>?_))
   go_ret
   exact ⟨rs,dn⟩
  ·rw [if_neg c4] at H
   have c4b0:((decide ((wrap64 (a0 - a1)) < 0)) != (decide (a0 < 0)))=false:=by simpa using c4
   (try (have c4b1:decide ((decide ((wrap64 (a0 - a1)) < 0))=(decide (a0 < 0)))=true:=by simpa using c4))
   (try (have c4b2:((decide ((wrap64 (a0 - a1)) < 0)) == (decide (a0 < 0)))=true:=by simpa using c4))
   clear c4;obtain rfl:=Option.some.inj H;go_enter Tryz.func112,Tryz.ntmps112;go_wp2;go_ret
   exact ⟨rs,dn⟩
 ·rw [if_neg c3] at H
  have c3b0:((decide (a0 < 0)) != (decide (a1 < 0)))=false:=by simpa using c3
  (try (have c3b1:decide ((decide (a0 < 0))=(decide (a1 < 0)))=true:=by simpa using c3))
  (try (have c3b2:((decide (a0 < 0)) == (decide (a1 < 0)))=true:=by simpa using c3))
  clear c3;obtain rfl:=Option.some.inj H;go_enter Tryz.func112,Tryz.ntmps112;go_wp2;go_ret
  exact ⟨rs,dn⟩
def comb_least.f (a0:Int) (a1:Int):Option (Int):=some (mn a0 a1)
theorem comb_least.calls (a0:Int) (a1:Int) (r:Int) (w:World) (h:comb_least.f a0 a1=some r) :
 Calls Tryz.prog 113 #[.int .i64 a0,.int .i64 a1] w fun e w'=>e=.returned (.int .i64 r)∧Below w.heap.size w w':=by
 have HB:=am (Below.refl w.heap.size w)
 unfold comb_least.f at h;have H:=h;clear h
 obtain ⟨ji3,hji3⟩:∃ j_:Int,(mn a0 a1)=j_:=⟨_,rfl⟩
 (first | rw [hji3] at H | simp only [hji3] at H)
 have hji3_:(if a1 < a0 then a1 else a0)=ji3:=hji3
 obtain rfl:=Option.some.inj H;go_enter Tryz.func113,Tryz.ntmps113;go_wp2;go_ret
 exact ⟨by first | rfl | (simp [errW_none,errW_some] <;> rfl) | (simp only [← hji3];first | rfl | (simp [errW_none,errW_some] <;> rfl)) | (simp [*,errW_none,errW_some] <;> rfl),by repeat (first | (with_reducible first | exact HB.out | apply below_alloc | apply pw_below_drewN | apply below_drew1) | exact HB.out)⟩
def comb_greatest.f (a0:Int) (a1:Int):Option (Int):=some (mx a0 a1)
theorem comb_greatest.calls (a0:Int) (a1:Int) (r:Int) (w:World) (h:comb_greatest.f a0 a1=some r) :
 Calls Tryz.prog 114 #[.int .i64 a0,.int .i64 a1] w fun e w'=>e=.returned (.int .i64 r)∧Below w.heap.size w w':=by
 have HB:=am (Below.refl w.heap.size w)
 unfold comb_greatest.f at h;have H:=h;clear h
 obtain ⟨ji3,hji3⟩:∃ j_:Int,(mx a0 a1)=j_:=⟨_,rfl⟩
 (first | rw [hji3] at H | simp only [hji3] at H)
 have hji3_:(if a0 < a1 then a1 else a0)=ji3:=hji3
 obtain rfl:=Option.some.inj H;go_enter Tryz.func114,Tryz.ntmps114;go_wp2;go_ret
 exact ⟨by first | rfl | (simp [errW_none,errW_some] <;> rfl) | (simp only [← hji3];first | rfl | (simp [errW_none,errW_some] <;> rfl)) | (simp [*,errW_none,errW_some] <;> rfl),by repeat (first | (with_reducible first | exact HB.out | apply below_alloc | apply pw_below_drewN | apply below_drew1) | exact HB.out)⟩
def comb_Do.f (a0 a1 a2:Int):Option Int :=
 if a0=1 then sat_Add.f a1 a2 else if a0=2 then sat_Sub.f a1 a2 else if a0=3 then comb_least.f a1 a2 else if a0=4 then comb_greatest.f a1 a2 else if a0=5 then some a2 else some a1
def comb_Do.cs:Array Value:=#[Value.func (Fn.func 110) #[] #[],Value.func (Fn.func 111) #[] #[],Value.func (Fn.func 112) #[] #[],Value.func (Fn.func 113) #[] #[],Value.func (Fn.func 114) #[] #[],Value.func (Fn.func 115) #[] #[],Value.func (Fn.func 110) #[] #[]]
theorem comb_Do.ways (w:World):Calls Tryz.prog 75 #[] w fun e w'=>e=.returned (.agg #[Value.func (Fn.func 110) #[] #[],Value.func (Fn.func 111) #[] #[],Value.func (Fn.func 112) #[] #[],Value.func (Fn.func 113) #[] #[],Value.func (Fn.func 114) #[] #[],Value.func (Fn.func 115) #[] #[],Value.func (Fn.func 110) #[] #[]])∧w'=w.alloc (.cells comb_Do.cs 105):=by
 go_enter Tryz.func75,Tryz.ntmps75;go_wp2
 exact bodyPost_ret (results_cell_row rfl _ _ w.heap.size 105 comb_Do.cs (0,0) _ rfl (blk_new w _) Tryz.underlying105 rfl (by kernel_rfl)) rfl ⟨rfl,rfl⟩
theorem comb_Do.low (w:World) (o:Obj) (n:Nat):Below w.heap.size w ((w.alloc o).drewN n):=pw_below_drewN ((Below.refl _ w).alloc (Nat.le_refl _) _) n
theorem comb_Do.calls (a0 a1 a2 r:Int) (w:World) (h:comb_Do.f a0 a1 a2=some r) :
 Calls Tryz.prog 46 #[.int .i64 a0,.int .i64 a1,.int .i64 a2] w fun e w'=>e=.returned (.int .i64 r)∧Below w.heap.size w w':=by
 unfold comb_Do.f at h
 by_cases h1:a0=1
 ·rw [if_pos h1] at h
  have H:=am h;clear h
  subst h1
  have hix:∀ w,(Instr.index 105 (.agg #[Value.func (Fn.func 110) #[] #[],Value.func (Fn.func 111) #[] #[],Value.func (Fn.func 112) #[] #[],Value.func (Fn.func 113) #[] #[],Value.func (Fn.func 114) #[] #[],Value.func (Fn.func 115) #[] #[],Value.func (Fn.func 110) #[] #[]]) (.int .i64 1)).run Tryz.prog w=.ok (.func (.func 111) #[] #[]) w:=fun _=>by kernel_rfl
  go_enter Tryz.func46,Tryz.ntmps46
  go_wp2_with (first | (go_at_call 75;refine (comb_Do.ways _).mono ?_;rintro e w' ⟨rfl,rfl⟩) | (go_at_call 111;refine (sat_Add.calls a1 a2 r _ H.out).mono ?_;rintro e w' ⟨rfl,⟨nd,rfl⟩⟩) | go_in);go_ret
  exact ⟨rfl,comb_Do.low w _ nd⟩
 ·rw [if_neg h1] at h
  by_cases h2:a0=2
  ·rw [if_pos h2] at h
   have H:=am h;clear h
   subst h2
   have hix:∀ w,(Instr.index 105 (.agg #[Value.func (Fn.func 110) #[] #[],Value.func (Fn.func 111) #[] #[],Value.func (Fn.func 112) #[] #[],Value.func (Fn.func 113) #[] #[],Value.func (Fn.func 114) #[] #[],Value.func (Fn.func 115) #[] #[],Value.func (Fn.func 110) #[] #[]]) (.int .i64 2)).run Tryz.prog w=.ok (.func (.func 112) #[] #[]) w:=fun _=>by kernel_rfl
   go_enter Tryz.func46,Tryz.ntmps46
   go_wp2_with (first | (go_at_call 75;refine (comb_Do.ways _).mono ?_;rintro e w' ⟨rfl,rfl⟩) | (go_at_call 112;refine (sat_Sub.calls a1 a2 r _ H.out).mono ?_;rintro e w' ⟨rfl,⟨nd,rfl⟩⟩) | go_in);go_ret
   exact ⟨rfl,comb_Do.low w _ nd⟩
  ·rw [if_neg h2] at h
   by_cases h3:a0=3
   ·rw [if_pos h3] at h
    have H:=am h;clear h
    subst h3
    have hix:∀ w,(Instr.index 105 (.agg #[Value.func (Fn.func 110) #[] #[],Value.func (Fn.func 111) #[] #[],Value.func (Fn.func 112) #[] #[],Value.func (Fn.func 113) #[] #[],Value.func (Fn.func 114) #[] #[],Value.func (Fn.func 115) #[] #[],Value.func (Fn.func 110) #[] #[]]) (.int .i64 3)).run Tryz.prog w=.ok (.func (.func 113) #[] #[]) w:=fun _=>by kernel_rfl
    go_enter Tryz.func46,Tryz.ntmps46
    go_wp2_with (first | (go_at_call 75;refine (comb_Do.ways _).mono ?_;rintro e w' ⟨rfl,rfl⟩) | (go_at_call 113;refine (comb_least.calls a1 a2 r _ H.out).mono ?_;rintro e w' ⟨rfl,hb⟩) | go_in);go_ret
    exact ⟨rfl,((Below.refl _ w).alloc (Nat.le_refl _) _).trans (hb.mono (by simp))⟩
   ·rw [if_neg h3] at h
    by_cases h4:a0=4
    ·rw [if_pos h4] at h
     have H:=am h;clear h
     subst h4
     have hix:∀ w,(Instr.index 105 (.agg #[Value.func (Fn.func 110) #[] #[],Value.func (Fn.func 111) #[] #[],Value.func (Fn.func 112) #[] #[],Value.func (Fn.func 113) #[] #[],Value.func (Fn.func 114) #[] #[],Value.func (Fn.func 115) #[] #[],Value.func (Fn.func 110) #[] #[]]) (.int .i64 4)).run Tryz.prog w=.ok (.func (.func 114) #[] #[]) w:=fun _=>by kernel_rfl
     go_enter Tryz.func46,Tryz.ntmps46
     go_wp2_with (first | (go_at_call 75;refine (comb_Do.ways _).mono ?_;rintro e w' ⟨rfl,rfl⟩) | (go_at_call 114;refine (comb_greatest.calls a1 a2 r _ H.out).mono ?_;rintro e w' ⟨rfl,hb⟩) | go_in);go_ret
     exact ⟨rfl,((Below.refl _ w).alloc (Nat.le_refl _) _).trans (hb.mono (by simp))⟩
    ·rw [if_neg h4] at h
     by_cases h5:a0=5
     ·rw [if_pos h5] at h
      obtain rfl:=Option.some.inj h
      subst h5
      have hix:∀ w,(Instr.index 105 (.agg #[Value.func (Fn.func 110) #[] #[],Value.func (Fn.func 111) #[] #[],Value.func (Fn.func 112) #[] #[],Value.func (Fn.func 113) #[] #[],Value.func (Fn.func 114) #[] #[],Value.func (Fn.func 115) #[] #[],Value.func (Fn.func 110) #[] #[]]) (.int .i64 5)).run Tryz.prog w=.ok (.func (.func 115) #[] #[]) w:=fun _=>by kernel_rfl
      go_enter Tryz.func46,Tryz.ntmps46
      go_wp2_with (first | (go_at_call 75;refine (comb_Do.ways _).mono ?_;rintro e w' ⟨rfl,rfl⟩) | go_in);go_ret
      exact ⟨rfl,comb_Do.low w _ 0⟩
     ·rw [if_neg h5] at h
      by_cases h6:a0=6
      ·obtain rfl:=Option.some.inj h
       subst h6
       have hix:∀ w,(Instr.index 105 (.agg #[Value.func (Fn.func 110) #[] #[],Value.func (Fn.func 111) #[] #[],Value.func (Fn.func 112) #[] #[],Value.func (Fn.func 113) #[] #[],Value.func (Fn.func 114) #[] #[],Value.func (Fn.func 115) #[] #[],Value.func (Fn.func 110) #[] #[]]) (.int .i64 6)).run Tryz.prog w=.ok (.func (.func 110) #[] #[]) w:=fun _=>by kernel_rfl
       go_enter Tryz.func46,Tryz.ntmps46
       go_wp2_with (first | (go_at_call 75;refine (comb_Do.ways _).mono ?_;rintro e w' ⟨rfl,rfl⟩) | go_in);go_ret
       exact ⟨rfl,comb_Do.low w _ 0⟩
      ·obtain rfl:=Option.some.inj h
       have hb:a0 < 1∨6 < a0:=by omega
       clear h1 h2 h3 h4 h5 h6
       rcases hb with hb | hb
       ·have e1:decide (1≤a0)=false:=decide_eq_false (by omega)
        have hix:∀ w,(Instr.index 105 (.agg #[Value.func (Fn.func 110) #[] #[],Value.func (Fn.func 111) #[] #[],Value.func (Fn.func 112) #[] #[],Value.func (Fn.func 113) #[] #[],Value.func (Fn.func 114) #[] #[],Value.func (Fn.func 115) #[] #[],Value.func (Fn.func 110) #[] #[]]) (.int .i64 0)).run Tryz.prog w=.ok (.func (.func 110) #[] #[]) w:=fun _=>by kernel_rfl
        go_enter Tryz.func46,Tryz.ntmps46
        go_wp2_with (first | (go_at_call 75;refine (comb_Do.ways _).mono ?_;rintro e w' ⟨rfl,rfl⟩) | go_in);go_ret
        exact ⟨rfl,comb_Do.low w _ 0⟩
       ·have e1:decide (1≤a0)=true:=decide_eq_true (by omega)
        have e2:decide (a0≤6)=false:=decide_eq_false (by omega)
        have hix:∀ w,(Instr.index 105 (.agg #[Value.func (Fn.func 110) #[] #[],Value.func (Fn.func 111) #[] #[],Value.func (Fn.func 112) #[] #[],Value.func (Fn.func 113) #[] #[],Value.func (Fn.func 114) #[] #[],Value.func (Fn.func 115) #[] #[],Value.func (Fn.func 110) #[] #[]]) (.int .i64 0)).run Tryz.prog w=.ok (.func (.func 110) #[] #[]) w:=fun _=>by kernel_rfl
        go_enter Tryz.func46,Tryz.ntmps46
        go_wp2_with (first | (go_at_call 75;refine (comb_Do.ways _).mono ?_;rintro e w' ⟨rfl,rfl⟩) | go_in);go_ret
        exact ⟨rfl,comb_Do.low w _ 0⟩
def sat_Neg.f (a0:Int):Option (Int):=(sat_Sub.f 0 a0).bind fun t548=>(some t548)
theorem sat_Neg.calls (a0:Int) (r:Int) (w:World) (h:sat_Neg.f a0=some r) :
 Calls Tryz.prog 76 #[.int .i64 a0] w fun e w'=>e=.returned (.int .i64 r)∧Drawn0 w w':=by
 unfold sat_Neg.f at h;have H:=h;clear h;revert H;refine bnd fun t548 A2 H=>?_
 obtain rfl:=Option.some.inj H;go_enter Tryz.func76,Tryz.ntmps76
 go_wp2_with (first | ((with_reducible refine gate_callee (f:=112) rfl ?_);refine god Tryz.func112 (sat_Sub.calls _ _ _ _ A2.out) fun nd=>?_))
 go_ret
 exact ⟨rs,dn⟩
def comb_First.f (a0:Int) (a1:Int):Option (Int):=if a0=2 then ((sat_Neg.f a1).bind fun t549=>(some t549)) else (some a1)
theorem comb_First.calls (a0:Int) (a1:Int) (r:Int) (w:World) (h:comb_First.f a0 a1=some r) :
 Calls Tryz.prog 47 #[.int .i64 a0,.int .i64 a1] w fun e w'=>e=.returned (.int .i64 r)∧Drawn0 w w':=by
 unfold comb_First.f at h;have H:=h;clear h
 by_cases c3:a0=2
 ·rw [if_pos c3] at H
  have c3b0:(a0 == 2)=true:=beq_iff_eq.mpr c3
  have c3b1:(a0 != 2)=false:=bne_eq_false_iff_eq.mpr c3
  clear c3;revert H;refine bnd fun t549 A4 H=>?_
  obtain rfl:=Option.some.inj H;go_enter Tryz.func47,Tryz.ntmps47
  go_wp2_with (first | ((with_reducible refine gate_callee (f:=76) rfl ?_);refine god Tryz.func76 (sat_Neg.calls _ _ _ A4.out) fun nd=>?_))
  go_ret
  exact ⟨rs,dn⟩
 ·rw [if_neg c3] at H
  have c3b0:(a0 == 2)=false:=beq_eq_false_iff_ne.mpr c3
  have c3b1:(a0 != 2)=true:=bne_iff_ne.mpr c3
  obtain rfl:=Option.some.inj H;go_enter Tryz.func47,Tryz.ntmps47;go_wp2;go_ret
  exact ⟨rs,dn⟩
theorem restrict_cl (xv:Int) (xh:Bool) (yv:Int) (yh:Bool) (w:World) :
 Calls Tryz.prog 67 (#[.agg #[.int .i64 xv,.bool xh],.agg #[.int .i64 yv,.bool yh]] ++ #[]) w fun e w'=>e=.returned (.agg #[.int .i64 xv,.bool (xh && yh)])∧Below w.heap.size w w':=by
 have hu67:=Tryz.underlying67
 have HB:=am (Below.refl w.heap.size w)
 go_enter Tryz.func67,Tryz.ntmps67;cases xh
 ·go_upto_region 1 with (first | ((with_reducible refine gate_dst (N:=2) rfl ?_);refine bxf #[.int .i64 xv,.bool false] 67 HB fun gx w1 B_x GE_x_HB HB hgb hb=>?_;clear hb hgb) | ((with_reducible refine gate_dst (N:=3) rfl ?_);refine bxf #[.int .i64 yv,.bool yh] 67 HB fun gy w2 B_y GE_y_HB HB hgb hb=>?_;have NE_x_y:=nlt hgb B_x;replace B_x:=bkb B_x hb;clear hb hgb) | ((with_reducible refine gate_dst (N:=4) rfl ?_);refine bxf #[.int .i64 0,.bool false] 67 HB fun gr w3 B_r GE_r_HB HB hgb hb=>?_;have NE_x_r:=nlt hgb B_x;have NE_y_r:=nlt hgb B_y;replace B_x:=bkb B_x hb;replace B_y:=bkb B_y hb;clear hb hgb))
  obtain ⟨c_x_0,c_x_1⟩:=e2 B_x;obtain ⟨c_y_0,c_y_1⟩:=e2 B_y;obtain ⟨c_r_0,c_r_1,f_r_0,f_r_1⟩:=s2 B_r;go_wp2
  refine bodyPost_ret (results_cell_row rfl _ _ gr 67 #[.int .i64 xv,.bool false] (0,0) _ rfl (blk_put (blk_put B_r.out 0 _ rfl) 1 _ rfl) Tryz.underlying67 rfl (by kernel_rfl)) rfl ?_
  exact ⟨rfl,below_set (below_set HB.out GE_r_HB.out) GE_r_HB.out⟩
 ·go_upto_region 1 with (first | ((with_reducible refine gate_dst (N:=2) rfl ?_);refine bxf #[.int .i64 xv,.bool true] 67 HB fun gx w1 B_x GE_x_HB HB hgb hb=>?_;clear hb hgb) | ((with_reducible refine gate_dst (N:=3) rfl ?_);refine bxf #[.int .i64 yv,.bool yh] 67 HB fun gy w2 B_y GE_y_HB HB hgb hb=>?_;have NE_x_y:=nlt hgb B_x;replace B_x:=bkb B_x hb;clear hb hgb) | ((with_reducible refine gate_dst (N:=4) rfl ?_);refine bxf #[.int .i64 0,.bool false] 67 HB fun gr w3 B_r GE_r_HB HB hgb hb=>?_;have NE_x_r:=nlt hgb B_x;have NE_y_r:=nlt hgb B_y;replace B_x:=bkb B_x hb;replace B_y:=bkb B_y hb;clear hb hgb))
  obtain ⟨c_x_0,c_x_1⟩:=e2 B_x;obtain ⟨c_y_0,c_y_1⟩:=e2 B_y;obtain ⟨c_r_0,c_r_1,f_r_0,f_r_1⟩:=s2 B_r;go_wp2
  refine bodyPost_ret (results_cell_row rfl _ _ gr 67 #[.int .i64 xv,.bool yh] (0,0) _ rfl (blk_put (blk_put B_r.out 0 _ rfl) 1 _ rfl) Tryz.underlying67 rfl (by kernel_rfl)) rfl ?_
  exact ⟨rfl,below_set (below_set HB.out GE_r_HB.out) GE_r_HB.out⟩
theorem diff_cl (xv:Int) (xh:Bool) (yv:Int) (yh:Bool) (w:World) :
 Calls Tryz.prog 54 (#[.agg #[.int .i64 xv,.bool xh],.agg #[.int .i64 yv,.bool yh]] ++ #[]) w fun e w'=>e=.returned (.agg #[.int .i64 0,.bool (decide ¬ (xv=yv∧xh=yh))])∧Below w.heap.size w w':=by
 have hu67:=Tryz.underlying67
 have HB:=am (Below.refl w.heap.size w)
 go_enter Tryz.func54,Tryz.ntmps54
 go_upto_region 1 with (first | ((with_reducible refine gate_dst (N:=2) rfl ?_);refine bxf #[.int .i64 xv,.bool xh] 67 HB fun gx w1 B_x GE_x_HB HB hgb hb=>?_;clear hb hgb) | ((with_reducible refine gate_dst (N:=3) rfl ?_);refine bxf #[.int .i64 yv,.bool yh] 67 HB fun gy w2 B_y GE_y_HB HB hgb hb=>?_;have NE_x_y:=nlt hgb B_x;replace B_x:=bkb B_x hb;clear hb hgb) | ((with_reducible refine gate_dst (N:=4) rfl ?_);refine bxf #[.int .i64 0,.bool false] 67 HB fun gr w3 B_r GE_r_HB HB hgb hb=>?_;have NE_x_r:=nlt hgb B_x;have NE_y_r:=nlt hgb B_y;replace B_x:=bkb B_x hb;replace B_y:=bkb B_y hb;clear hb hgb))
 obtain ⟨_,_⟩:=e2 B_x;obtain ⟨_,_⟩:=e2 B_y;obtain ⟨_,_,_,_⟩:=s2 B_r;go_wp2
 all_goals (refine bodyPost_ret (results_cell_row rfl _ _ gr 67 #[.int .i64 0,.bool _] (0,0) _ rfl (blk_put (blk_put B_r.out 0 _ rfl) 1 _ rfl) Tryz.underlying67 rfl (by kernel_rfl)) rfl ?_;refine ⟨by simp [*],below_set (below_set HB.out GE_r_HB.out) GE_r_HB.out⟩)
def both_phi (kind:Int) (xv:Int) (xh:Bool) (yv:Int) (yh:Bool):Option (Int×Bool) :=
 if yh=true then (if xh=true then (comb_Do.f kind xv yv).map (fun r=>(r,true)) else (comb_First.f kind yv).map (fun r=>(r,true))) else some (xv,xh)
theorem both_cl_tt (kind xv yv:Int) (r:Int) (gk:Nat) (w:World) (hk:w.heap[gk]? = some (.cells #[.int .i64 kind] 3 (0,0))) (hc:comb_Do.f kind xv yv=some r) :
 Calls Tryz.prog 45 (#[.agg #[.int .i64 xv,.bool true],.agg #[.int .i64 yv,.bool true]] ++ #[.pointer (some ⟨gk,0,none⟩)]) w fun e w'=>e=.returned (.agg #[.int .i64 r,.bool true])∧Below w.heap.size w w':=by
 have hu67:=Tryz.underlying67
 have HB:=am (Below.refl w.heap.size w)
 have B_k:=am hk;clear hk;have EC:=am hc;clear hc;go_enter Tryz.func45,Tryz.ntmps45
 go_upto_region 1 with (first | ((with_reducible refine gate_dst (N:=3) rfl ?_);refine bxf #[.int .i64 xv,.bool true] 67 HB fun gx w1 B_x GE_x_HB HB hgb hb=>?_;have NE_k_x:=nlt hgb B_k;replace B_k:=bkb B_k hb;clear hb hgb) | ((with_reducible refine gate_dst (N:=4) rfl ?_);refine bxf #[.int .i64 yv,.bool true] 67 HB fun gy w2 B_y GE_y_HB HB hgb hb=>?_;have NE_k_y:=nlt hgb B_k;have NE_x_y:=nlt hgb B_x;replace B_k:=bkb B_k hb;replace B_x:=bkb B_x hb;clear hb hgb) | ((with_reducible refine gate_dst (N:=5) rfl ?_);refine bxf #[.int .i64 0,.bool false] 67 HB fun gr w3 B_r GE_r_HB HB hgb hb=>?_;have NE_k_r:=nlt hgb B_k;have NE_x_r:=nlt hgb B_x;have NE_y_r:=nlt hgb B_y;replace B_k:=bkb B_k hb;replace B_x:=bkb B_x hb;replace B_y:=bkb B_y hb;clear hb hgb))
 obtain ⟨_,_⟩:=e2 B_x;obtain ⟨_,_⟩:=e2 B_y;obtain ⟨c_r_0,c_r_1,f_r_0,f_r_1⟩:=s2 B_r
 have c_k_0:w3.cell? ⟨gk,0,none⟩=some (.int .i64 kind):=(blk_cell B_k.out 0).trans rfl
 have c_r_0':=c_r_0
 clear c_r_0 f_r_0 c_r_1 f_r_1 c_r_0'
 go_wp2_with (first | (go_at_call 46;(with_reducible refine (comb_Do.calls kind xv yv r _ EC.out).mono ?_);rintro e w4 ⟨rfl,hb⟩;replace B_k:=bkb B_k hb;replace B_x:=bkb B_x hb;replace B_y:=bkb B_y hb;replace B_r:=bkb B_r hb;replace HB:=bst HB hb;have c_r_0:w4.cell? ⟨gr,0,none⟩=some (.int .i64 0):=(blk_cell B_r.out 0).trans rfl;have f_r_0:=blk_frozen B_r.out 0;have c_r_1:w4.cell? ⟨gr,1,none⟩=some (.bool false):=(blk_cell B_r.out 1).trans rfl;have f_r_1:=blk_frozen B_r.out 1))
 refine bodyPost_ret (results_cell_row rfl _ _ gr 67 #[.int .i64 r,.bool true] (0,0) _ rfl (blk_put (blk_put B_r.out 0 _ rfl) 1 _ rfl) Tryz.underlying67 rfl (by kernel_rfl)) rfl ?_
 exact ⟨rfl,below_set (below_set HB.out GE_r_HB.out) GE_r_HB.out⟩
theorem both_cl_ft (kind xv yv:Int) (r:Int) (gk:Nat) (w:World) (hk:w.heap[gk]? = some (.cells #[.int .i64 kind] 3 (0,0))) (hc:comb_First.f kind yv=some r) :
 Calls Tryz.prog 45 (#[.agg #[.int .i64 xv,.bool false],.agg #[.int .i64 yv,.bool true]] ++ #[.pointer (some ⟨gk,0,none⟩)]) w fun e w'=>e=.returned (.agg #[.int .i64 r,.bool true])∧Below w.heap.size w w':=by
 have hu67:=Tryz.underlying67
 have HB:=am (Below.refl w.heap.size w)
 have B_k:=am hk;clear hk;have EC:=am hc;clear hc;go_enter Tryz.func45,Tryz.ntmps45
 go_upto_region 1 with (first | ((with_reducible refine gate_dst (N:=3) rfl ?_);refine bxf #[.int .i64 xv,.bool false] 67 HB fun gx w1 B_x GE_x_HB HB hgb hb=>?_;have NE_k_x:=nlt hgb B_k;replace B_k:=bkb B_k hb;clear hb hgb) | ((with_reducible refine gate_dst (N:=4) rfl ?_);refine bxf #[.int .i64 yv,.bool true] 67 HB fun gy w2 B_y GE_y_HB HB hgb hb=>?_;have NE_k_y:=nlt hgb B_k;have NE_x_y:=nlt hgb B_x;replace B_k:=bkb B_k hb;replace B_x:=bkb B_x hb;clear hb hgb) | ((with_reducible refine gate_dst (N:=5) rfl ?_);refine bxf #[.int .i64 0,.bool false] 67 HB fun gr w3 B_r GE_r_HB HB hgb hb=>?_;have NE_k_r:=nlt hgb B_k;have NE_x_r:=nlt hgb B_x;have NE_y_r:=nlt hgb B_y;replace B_k:=bkb B_k hb;replace B_x:=bkb B_x hb;replace B_y:=bkb B_y hb;clear hb hgb))
 obtain ⟨_,_⟩:=e2 B_x;obtain ⟨_,_⟩:=e2 B_y;obtain ⟨c_r_0,c_r_1,f_r_0,f_r_1⟩:=s2 B_r
 have c_k_0:w3.cell? ⟨gk,0,none⟩=some (.int .i64 kind):=(blk_cell B_k.out 0).trans rfl
 have c_r_0':=c_r_0
 clear c_r_0 f_r_0 c_r_1 f_r_1 c_r_0'
 go_wp2_with (first | (go_at_call 47;(with_reducible refine (comb_First.calls kind yv r _ EC.out).mono ?_);rintro e w4 ⟨rfl,⟨nd,rfl⟩⟩;have hb:=pw_below_drewN (Below.refl w3.heap.size w3) nd;generalize w3.drewN nd=w4 at *;replace B_k:=bkb B_k hb;replace B_x:=bkb B_x hb;replace B_y:=bkb B_y hb;replace B_r:=bkb B_r hb;replace HB:=bst HB hb;have c_r_0:w4.cell? ⟨gr,0,none⟩=some (.int .i64 0):=(blk_cell B_r.out 0).trans rfl;have f_r_0:=blk_frozen B_r.out 0;have c_r_1:w4.cell? ⟨gr,1,none⟩=some (.bool false):=(blk_cell B_r.out 1).trans rfl;have f_r_1:=blk_frozen B_r.out 1))
 refine bodyPost_ret (results_cell_row rfl _ _ gr 67 #[.int .i64 r,.bool true] (0,0) _ rfl (blk_put (blk_put B_r.out 0 _ rfl) 1 _ rfl) Tryz.underlying67 rfl (by kernel_rfl)) rfl ?_
 exact ⟨rfl,below_set (below_set HB.out GE_r_HB.out) GE_r_HB.out⟩
theorem both_cl_tf (kind xv yv:Int) (r:Int) (gk:Nat) (w:World) (hk:w.heap[gk]? = some (.cells #[.int .i64 kind] 3 (0,0))) :
 Calls Tryz.prog 45 (#[.agg #[.int .i64 xv,.bool true],.agg #[.int .i64 yv,.bool false]] ++ #[.pointer (some ⟨gk,0,none⟩)]) w fun e w'=>e=.returned (.agg #[.int .i64 xv,.bool true])∧Below w.heap.size w w':=by
 have hu67:=Tryz.underlying67
 have HB:=am (Below.refl w.heap.size w)
 have B_k:=am hk;clear hk;go_enter Tryz.func45,Tryz.ntmps45
 go_upto_region 1 with (first | ((with_reducible refine gate_dst (N:=3) rfl ?_);refine bxf #[.int .i64 xv,.bool true] 67 HB fun gx w1 B_x GE_x_HB HB hgb hb=>?_;have NE_k_x:=nlt hgb B_k;replace B_k:=bkb B_k hb;clear hb hgb) | ((with_reducible refine gate_dst (N:=4) rfl ?_);refine bxf #[.int .i64 yv,.bool false] 67 HB fun gy w2 B_y GE_y_HB HB hgb hb=>?_;have NE_k_y:=nlt hgb B_k;have NE_x_y:=nlt hgb B_x;replace B_k:=bkb B_k hb;replace B_x:=bkb B_x hb;clear hb hgb) | ((with_reducible refine gate_dst (N:=5) rfl ?_);refine bxf #[.int .i64 0,.bool false] 67 HB fun gr w3 B_r GE_r_HB HB hgb hb=>?_;have NE_k_r:=nlt hgb B_k;have NE_x_r:=nlt hgb B_x;have NE_y_r:=nlt hgb B_y;replace B_k:=bkb B_k hb;replace B_x:=bkb B_x hb;replace B_y:=bkb B_y hb;clear hb hgb))
 obtain ⟨_,_⟩:=e2 B_x;obtain ⟨_,_⟩:=e2 B_y;obtain ⟨_,_,_,_⟩:=s2 B_r
 have c_k_0:w3.cell? ⟨gk,0,none⟩=some (.int .i64 kind):=(blk_cell B_k.out 0).trans rfl
 go_wp2
 refine bodyPost_ret (results_cell_row rfl _ _ gr 67 #[.int .i64 xv,.bool true] (0,0) _ rfl (blk_put (blk_put B_r.out 0 _ rfl) 1 _ rfl) Tryz.underlying67 rfl (by kernel_rfl)) rfl ?_
 exact ⟨rfl,below_set (below_set HB.out GE_r_HB.out) GE_r_HB.out⟩
theorem both_cl_ff (kind xv yv:Int) (r:Int) (gk:Nat) (w:World) (hk:w.heap[gk]? = some (.cells #[.int .i64 kind] 3 (0,0))) :
 Calls Tryz.prog 45 (#[.agg #[.int .i64 xv,.bool false],.agg #[.int .i64 yv,.bool false]] ++ #[.pointer (some ⟨gk,0,none⟩)]) w fun e w'=>e=.returned (.agg #[.int .i64 xv,.bool false])∧Below w.heap.size w w':=by
 have hu67:=Tryz.underlying67
 have HB:=am (Below.refl w.heap.size w)
 have B_k:=am hk;clear hk;go_enter Tryz.func45,Tryz.ntmps45
 go_upto_region 1 with (first | ((with_reducible refine gate_dst (N:=3) rfl ?_);refine bxf #[.int .i64 xv,.bool false] 67 HB fun gx w1 B_x GE_x_HB HB hgb hb=>?_;have NE_k_x:=nlt hgb B_k;replace B_k:=bkb B_k hb;clear hb hgb) | ((with_reducible refine gate_dst (N:=4) rfl ?_);refine bxf #[.int .i64 yv,.bool false] 67 HB fun gy w2 B_y GE_y_HB HB hgb hb=>?_;have NE_k_y:=nlt hgb B_k;have NE_x_y:=nlt hgb B_x;replace B_k:=bkb B_k hb;replace B_x:=bkb B_x hb;clear hb hgb) | ((with_reducible refine gate_dst (N:=5) rfl ?_);refine bxf #[.int .i64 0,.bool false] 67 HB fun gr w3 B_r GE_r_HB HB hgb hb=>?_;have NE_k_r:=nlt hgb B_k;have NE_x_r:=nlt hgb B_x;have NE_y_r:=nlt hgb B_y;replace B_k:=bkb B_k hb;replace B_x:=bkb B_x hb;replace B_y:=bkb B_y hb;clear hb hgb))
 obtain ⟨_,_⟩:=e2 B_x;obtain ⟨_,_⟩:=e2 B_y;obtain ⟨_,_,_,_⟩:=s2 B_r
 have c_k_0:w3.cell? ⟨gk,0,none⟩=some (.int .i64 kind):=(blk_cell B_k.out 0).trans rfl
 go_wp2
 refine bodyPost_ret (results_cell_row rfl _ _ gr 67 #[.int .i64 xv,.bool false] (0,0) _ rfl (blk_put (blk_put B_r.out 0 _ rfl) 1 _ rfl) Tryz.underlying67 rfl (by kernel_rfl)) rfl ?_
 exact ⟨rfl,below_set (below_set HB.out GE_r_HB.out) GE_r_HB.out⟩
theorem both_cl (kind xv:Int) (xh:Bool) (yv:Int) (yh:Bool) (z:Int×Bool) (gk:Nat) (w:World) (hk:w.heap[gk]? = some (.cells #[.int .i64 kind] 3 (0,0))) (h:both_phi kind xv xh yv yh=some z) :
 Calls Tryz.prog 45 (#[.agg #[.int .i64 xv,.bool xh],.agg #[.int .i64 yv,.bool yh]] ++ #[.pointer (some ⟨gk,0,none⟩)]) w fun e w'=>e=.returned (.agg #[.int .i64 z.1,.bool z.2])∧Below w.heap.size w w':=by
 unfold both_phi at h
 cases yh
 ·rw [if_neg (by decide)] at h
  obtain rfl:=Option.some.inj h;cases xh
  ·exact both_cl_ff kind xv yv 0 gk w hk
  ·exact both_cl_tf kind xv yv 0 gk w hk
 ·rw [if_pos rfl] at h
  cases xh
  ·rw [if_neg (by decide)] at h
   obtain ⟨r,e,rfl⟩:=Option.map_eq_some_iff.1 h
   exact both_cl_ft kind xv yv r gk w hk e
  ·rw [if_pos rfl] at h
   obtain ⟨r,e,rfl⟩:=Option.map_eq_some_iff.1 h
   exact both_cl_tt kind xv yv r gk w hk e
theorem pieces.mono (φ:Int→Bool→Int→Bool→Option (Int×Bool)):∀ a b k,LeO (pieces.f k φ a b) (pieces.f (k+1) φ a b):=by
 intro a b k
 unfold pieces.f
 exact LeO.bind (mapalg_Merge.mono _ _) (fun _=>LeO.bind (mapalg_Merge.mono _ _) (fun _=>LeO.bind (mapalg_spans.mono _ _) (fun _=>LeO.bind (mapalg_spans.mono _ _) (fun _=>LeO.ite (LeO.bind (algebra_Refine.mono _ _) (fun _=>LeO.ite (LeO.bind (LeO.refl _) (fun _=>mapalg_Merge.mono _ _)) (LeO.refl _))) (LeO.refl _)))))
theorem pieces.calls (k:Nat) (φ:Int→Bool→Int→Bool→Option (Int×Bool)) (fn:Nat) (caps:Array Value) (A0:Option Addr) (c0:Nat) (a:List S37) (A1:Option Addr) (c1:Nat) (b r:List S37) (w:World)
 (ha:Kd.C k37 w A0 a.length a) (hca:a.length≤c0) (hb:Kd.C k37 w A1 b.length b) (hcb:b.length≤c1)
 (eg:∀ args w,(callFunc fn args).run Tryz.prog w=.ok (.enter fn args) w)
 (hf:∀ (W:World) (xv:Int) (xh:Bool) (yv:Int) (yh:Bool) (z:Int×Bool),Below w.heap.size w W→φ xv xh yv yh=some z→Calls Tryz.prog fn (#[.agg #[.int .i64 xv,.bool xh],.agg #[.int .i64 yv,.bool yh]] ++ caps) W fun e w'=>e=.returned (.agg #[.int .i64 z.1,.bool z.2])∧Below W.heap.size W w')
 (h:pieces.f k φ a b=some r) :
 Calls Tryz.prog 44 #[.slice A0 a.length c0,.slice A1 b.length c1,.func (.func fn) #[] caps] w fun e w'=>∃ v0_:Value,e=.returned (v0_)∧Kd.R k37 37 w' w.heap.size (fun _=>True) v0_ r∧Below w.heap.size w w':=by
 unfold pieces.f at h
 obtain ⟨x,e1,h⟩:=Option.bind_eq_some_iff.1 h
 obtain ⟨y,e2,h⟩:=Option.bind_eq_some_iff.1 h
 obtain ⟨sa,e3,h⟩:=Option.bind_eq_some_iff.1 h
 obtain ⟨sb,e4,h⟩:=Option.bind_eq_some_iff.1 h
 by_cases hl:x.length < 1000000∧y.length < 1000000∧sa.length+sb.length < 1000000
 ·rw [if_pos hl] at h
  obtain ⟨rs,e5,h⟩:=Option.bind_eq_some_iff.1 h
  by_cases hr:rs.length < 1000000
  ·rw [if_pos hr] at h
   obtain ⟨out,e6,e7⟩:=Option.bind_eq_some_iff.1 h
   exact pieces.walk k φ fn caps A0 A1 c0 c1 a b x y sa sb rs out r w ha hca hb hcb eg hf e1 e2 e3 e4 hl.1 hl.2.1 hl.2.2 e5 hr e6 e7
  ·rw [if_neg hr] at h;cases h
 ·rw [if_neg hl] at h;cases h
def mapalg_Both.f (k:Nat) (kind:Int) (a b:List S37):Option (List S37):=(comb_Right.f kind).bind fun ok=>if ok=true then pieces.f k (both_phi kind) a b else some []
theorem mapalg_Both.mono:∀ a0 a1 a2 k,LeO (mapalg_Both.f k a0 a1 a2) (mapalg_Both.f (k+1) a0 a1 a2):=fun _ _ _ _=>LeO.bind (LeO.refl _) (fun _=>LeO.ite (pieces.mono _ _ _ _) (LeO.refl _))
theorem eg45:∀ args w,(callFunc 45 args).run Tryz.prog w=.ok (.enter 45 args) w:=enters_of Tryz.func45 (by kernel_rfl) rfl
theorem eg67:∀ args w,(callFunc 67 args).run Tryz.prog w=.ok (.enter 67 args) w:=enters_of Tryz.func67 (by kernel_rfl) rfl
theorem eg54:∀ args w,(callFunc 54 args).run Tryz.prog w=.ok (.enter 54 args) w:=enters_of Tryz.func54 (by kernel_rfl) rfl
theorem mapalg_Both.calls (k:Nat) (a0:Int) (A1:Option Addr) (c1:Nat) (l1:List S37) (A2:Option Addr) (c2:Nat) (l2 r:List S37) (w:World) (hr1:Kd.C k37 w A1 l1.length l1) (hc1:l1.length≤c1) (hr2:Kd.C k37 w A2 l2.length l2) (hc2:l2.length≤c2) (h:mapalg_Both.f k a0 l1 l2=some r) :
 Calls Tryz.prog 13 #[.int .i64 a0,.slice A1 l1.length c1,.slice A2 l2.length c2] w fun e w'=>∃ v0_:Value,e=.returned (v0_)∧Kd.R k37 37 w' w.heap.size (fun _=>True) v0_ r∧Below w.heap.size w w':=by
 have hu3:=Tryz.underlying3
 obtain ⟨ok,e0,h⟩:=Option.bind_eq_some_iff.1 h
 have E0:=am e0
 have HB:=am (Below.refl w.heap.size w)
 have CA:=am hr1;have CB:=am hr2;have LA:=am hc1;have LB:=am hc2;clear e0 hr1 hr2 hc1 hc2;cases ok
 ·rw [if_neg (by decide)] at h
  obtain rfl:=Option.some.inj h;clear h;go_enter Tryz.func13,Tryz.ntmps13
  go_wp2_with (first | ((with_reducible refine gate_dst (N:=3) rfl ?_);refine bxe (N:=3) (cs:=#[.int .i64 a0]) (t:=3) ?_;intro gk hgb w1 hbox hb;have GE_k_HB:=lsz hgb HB;replace HB:=bst HB hb;have B_k:=am hbox;have c_k_0:w1.cell? ⟨gk,0,none⟩=some (.int .i64 a0):=(blk_cell hbox 0).trans rfl;clear hbox hb hgb) | (go_at_call 43;(with_reducible refine (comb_Right.calls a0 false _ E0.out).mono ?_);rintro e w2 ⟨rfl,⟨nd,rfl⟩⟩;have hb:=pw_below_drewN (Below.refl w1.heap.size w1) nd;clear c_k_0;generalize w1.drewN nd=w2 at *;replace B_k:=bkb B_k hb;replace HB:=bst HB hb;clear hb))
  go_ret
  exact ⟨_,rfl,Kd.R_nil _ _ _ _ _,HB.out⟩
 ·rw [if_pos rfl] at h
  have H3:=am h;clear h;go_enter Tryz.func13,Tryz.ntmps13
  go_upto_region 3 with (first | ((with_reducible refine gate_dst (N:=3) rfl ?_);refine bxe (N:=3) (cs:=#[.int .i64 a0]) (t:=3) ?_;intro gk hgb w1 hbox hb;have GE_k_HB:=lsz hgb HB;replace HB:=bst HB hb;have B_k:=am hbox;have c_k_0:w1.cell? ⟨gk,0,none⟩=some (.int .i64 a0):=(blk_cell hbox 0).trans rfl;clear hbox hb hgb) | (go_at_call 43;(with_reducible refine (comb_Right.calls a0 true _ E0.out).mono ?_);rintro e w2 ⟨rfl,⟨nd,rfl⟩⟩;have hb:=pw_below_drewN (Below.refl w1.heap.size w1) nd;clear c_k_0;generalize w1.drewN nd=w2 at *;replace B_k:=bkb B_k hb;replace HB:=bst HB hb;clear hb))
  have HF:=am (show ∀ (W:World) (xv:Int) (xh:Bool) (yv:Int) (yh:Bool) (z:Int×Bool),Below w2.heap.size w2 W→both_phi a0 xv xh yv yh=some z→Calls Tryz.prog 45 (#[.agg #[.int .i64 xv,.bool xh],.agg #[.int .i64 yv,.bool yh]] ++ #[.pointer (some ⟨gk,0,none⟩)]) W fun e w'=>e=.returned (.agg #[.int .i64 z.1,.bool z.2])∧Below W.heap.size W w' from fun W xv xh yv yh z hW hz=>both_cl a0 xv xh yv yh z gk W (blk_below B_k.out hW) hz)
  go_wp2_with (first | (go_loud (go_at_call 44;(with_reducible refine (pieces.calls k (both_phi a0) 45 #[.pointer (some ⟨gk,0,none⟩)] A1 c1 l1 A2 c2 l2 r _ (Kd.C_below CA.out HB.out) LA.out (Kd.C_below CB.out HB.out) LB.out eg45 HF.out H3.out).mono ?_);rintro e w3 ⟨v3,rfl,ho,hb⟩;have HO:=am ho;have Y:=am hb;clear ho hb)))
  go_ret
  exact ⟨_,rfl,Kd.R_lower HO.out (below_size HB.out),below_step HB.out Y.out⟩
def restrict_phi (xv:Int) (xh:Bool) (yv:Int) (yh:Bool):Option (Int×Bool):=some (xv,xh && yh)
def diff_phi (xv:Int) (xh:Bool) (yv:Int) (yh:Bool):Option (Int×Bool):=some (0,decide ¬ (xv=yv∧xh=yh))
def mapalg_Restrict.f (k:Nat) (a:List S37) (l:List S35):Option (List S37):=(mapalg_Paint.f k l 0).bind fun p=>pieces.f k restrict_phi a p
theorem mapalg_Restrict.mono:∀ a0 a1 k,LeO (mapalg_Restrict.f k a0 a1) (mapalg_Restrict.f (k+1) a0 a1):=fun _ _ _=>LeO.bind (mapalg_Paint.mono _ _ _) (fun _=>pieces.mono _ _ _ _)
theorem mapalg_Restrict.calls (k:Nat) (A0:Option Addr) (c0:Nat) (l0:List S37) (A1:Option Addr) (c1:Nat) (l1:List S35) (r:List S37) (w:World) (hr0:Kd.C k37 w A0 l0.length l0) (hc0:l0.length≤c0) (hr1:Kd.C k35 w A1 l1.length l1) (hc1:l1.length≤c1) (h:mapalg_Restrict.f k l0 l1=some r) :
 Calls Tryz.prog 27 #[.slice A0 l0.length c0,.slice A1 l1.length c1] w fun e w'=>∃ v0_:Value,e=.returned (v0_)∧Kd.R k37 37 w' w.heap.size (fun _=>True) v0_ r∧Below w.heap.size w w':=by
 obtain ⟨p,e0,h⟩:=Option.bind_eq_some_iff.1 h
 have E0:=am e0;have CA:=am hr0;have CB:=am hr1;have LA:=am hc0;have LB:=am hc1;have H:=am h
 have HF:=am (show ∀ (W:World) (xv:Int) (xh:Bool) (yv:Int) (yh:Bool) (z:Int×Bool),restrict_phi xv xh yv yh=some z→Calls Tryz.prog 67 (#[.agg #[.int .i64 xv,.bool xh],.agg #[.int .i64 yv,.bool yh]] ++ #[]) W fun e w'=>e=.returned (.agg #[.int .i64 z.1,.bool z.2])∧Below W.heap.size W w' from fun W xv xh yv yh z hz=>by obtain rfl:=Option.some.inj hz;exact restrict_cl xv xh yv yh W)
 clear e0 hr0 hr1 hc0 hc1 h;go_enter Tryz.func27,Tryz.ntmps27
 go_wp2_with (first | (go_at_call 30;(with_reducible refine (mapalg_Paint.calls k A1 c1 l1 0 p _ CB.out LB.out E0.out).mono ?_);rintro e w1 ⟨v1,rfl,ho,hb⟩;obtain ⟨A2,c2,rfl⟩:=Kd.R_slice ho;have HP:=am ho;have HB:=am hb;clear ho hb) | go_loud (go_at_call 44;(with_reducible refine (pieces.calls k restrict_phi 67 #[] A0 c0 l0 A2 c2 p r _ (Kd.C_below CA.out HB.out) LA.out (Kd.R_reads' HP.out).2.2 (Kd.R_reads' HP.out).2.1 eg67 (fun W xv xh yv yh z _ hz=>HF.out W xv xh yv yh z hz) H.out).mono ?_);rintro e w2 ⟨v2,rfl,ho,hb⟩;have HO:=am ho;have Y:=am hb;clear ho hb))
 go_ret
 exact ⟨_,rfl,Kd.R_lower HO.out (below_size HB.out),below_step HB.out Y.out⟩
def mapalg_Diff.f (k:Nat) (a b:List S37):Option (List S35):=(pieces.f k diff_phi a b).bind fun p=>mapalg_Domain.f k p
theorem mapalg_Diff.mono:∀ a0 a1 k,LeO (mapalg_Diff.f k a0 a1) (mapalg_Diff.f (k+1) a0 a1):=fun _ _ _=>LeO.bind (pieces.mono _ _ _ _) (fun _=>mapalg_Domain.mono _ _)
theorem mapalg_Diff.calls (k:Nat) (A0:Option Addr) (c0:Nat) (l0:List S37) (A1:Option Addr) (c1:Nat) (l1:List S37) (r:List S35) (w:World) (hr0:Kd.C k37 w A0 l0.length l0) (hc0:l0.length≤c0) (hr1:Kd.C k37 w A1 l1.length l1) (hc1:l1.length≤c1) (h:mapalg_Diff.f k l0 l1=some r) :
 Calls Tryz.prog 18 #[.slice A0 l0.length c0,.slice A1 l1.length c1] w fun e w'=>∃ v0_:Value,e=.returned (v0_)∧Kd.R k35 35 w' w.heap.size (fun _=>True) v0_ r∧Below w.heap.size w w':=by
 obtain ⟨p,e0,h⟩:=Option.bind_eq_some_iff.1 h
 have E0:=am e0;have CA:=am hr0;have CB:=am hr1;have LA:=am hc0;have LB:=am hc1;have H:=am h
 have HF:=am (show ∀ (W:World) (xv:Int) (xh:Bool) (yv:Int) (yh:Bool) (z:Int×Bool),diff_phi xv xh yv yh=some z→Calls Tryz.prog 54 (#[.agg #[.int .i64 xv,.bool xh],.agg #[.int .i64 yv,.bool yh]] ++ #[]) W fun e w'=>e=.returned (.agg #[.int .i64 z.1,.bool z.2])∧Below W.heap.size W w' from fun W xv xh yv yh z hz=>by obtain rfl:=Option.some.inj hz;exact diff_cl xv xh yv yh W)
 clear e0 hr0 hr1 hc0 hc1 h;go_enter Tryz.func18,Tryz.ntmps18
 go_wp2_with (first | go_loud (go_at_call 44;(with_reducible refine (pieces.calls k diff_phi 54 #[] A0 c0 l0 A1 c1 l1 p _ CA.out LA.out CB.out LB.out eg54 (fun W xv xh yv yh z _ hz=>HF.out W xv xh yv yh z hz) E0.out).mono ?_);rintro e w1 ⟨v1,rfl,ho,hb⟩;obtain ⟨A2,c2,rfl⟩:=Kd.R_slice ho;have HP:=am ho;have HB:=am hb;clear ho hb) | (go_at_call 31;(with_reducible refine (mapalg_Domain.calls k A2 c2 p r _ (Kd.R_reads' HP.out).2.2 (Kd.R_reads' HP.out).2.1 H.out).mono ?_);rintro e w2 ⟨v2,rfl,ho,hb⟩;have HO:=am ho;have Y:=am hb;clear ho hb))
 go_ret
 exact ⟨_,rfl,Kd.R_lower HO.out (below_size HB.out),below_step HB.out Y.out⟩
def bits_Mul64.f (a0:Int) (a1:Int):Option (Int×Int):=some (IntKind.u64.wrap ((IntKind.u64.wrap ((IntKind.u64.wrap ((a0 / 4294967296) * (a1 / 4294967296)))+((IntKind.u64.wrap ((IntKind.u64.wrap ((a0 / 4294967296) * (Go.bits .and .u64 a1 4294967295)))+((IntKind.u64.wrap ((Go.bits .and .u64 a0 4294967295) * (Go.bits .and .u64 a1 4294967295))) / 4294967296))) / 4294967296)))+((IntKind.u64.wrap ((Go.bits .and .u64 (IntKind.u64.wrap ((IntKind.u64.wrap ((a0 / 4294967296) * (Go.bits .and .u64 a1 4294967295)))+((IntKind.u64.wrap ((Go.bits .and .u64 a0 4294967295) * (Go.bits .and .u64 a1 4294967295))) / 4294967296))) 4294967295)+(IntKind.u64.wrap ((Go.bits .and .u64 a0 4294967295) * (a1 / 4294967296))))) / 4294967296)),IntKind.u64.wrap (a0 * a1))
theorem bits_Mul64.calls (a0:Int) (a1:Int) (r1:Int) (r2:Int) (w:World) (h:bits_Mul64.f a0 a1=some (r1,r2)) :
 Calls Tryz.prog 90 #[.int .u64 a0,.int .u64 a1] w fun e w'=>e=.returned (.tuple #[.int .u64 r1,.int .u64 r2])∧Drawn0 w w':=by
 unfold bits_Mul64.f at h;have H:=h;clear h
 simp only [Option.some.injEq,Prod.mk.injEq] at H
 obtain ⟨rfl,rfl⟩:=H
 go_enter Tryz.func90,Tryz.ntmps90;go_wp2
 go_ret2
 exact ⟨rs,dn⟩
def IsS83 (w0 W:World) (g:Nat) (f0:Int) (f1:Int) (f2:Int):Prop:=W.heap[g]? = some (.cells #[.int .u64 f0,.int .u64 f1,.int .u64 f2] 83 (0,0))∧w0.heap.size≤g
theorem IsS83.grown {w0 W:World} {g:Nat} {f0:Int} {f1:Int} {f2:Int} {W1:World} {row:Option Nat} (h:IsS83 w0 W g f0 f1 f2) (hw:W.grownBy W1 row) (hne:some g≠row):IsS83 w0 W1 g f0 f1 f2:=by
 obtain ⟨hb,hg⟩:=h
 exact ⟨blk_grown hb hw hne,hg⟩
theorem IsS83.below {w0 W:World} {g:Nat} {f0:Int} {f1:Int} {f2:Int} {W1:World} (h:IsS83 w0 W g f0 f1 f2) (hw:Below W.heap.size W W1):IsS83 w0 W1 g f0 f1 f2:=h.grown (grown_of_below hw none) (by simp)
theorem IsS83.alloc {w0 W:World} {g:Nat} {f0:Int} {f1:Int} {f2:Int} (h:IsS83 w0 W g f0 f1 f2) (o:Obj):IsS83 w0 (W.alloc o) g f0 f1 f2:=h.below (below_alloc (Below.refl _ _) o)
theorem IsS83.drewN {w0 W:World} {g:Nat} {f0:Int} {f1:Int} {f2:Int} (h:IsS83 w0 W g f0 f1 f2) (m:Nat):IsS83 w0 (W.drewN m) g f0 f1 f2:=h
theorem IsS83.drew {w0 W:World} {g:Nat} {f0:Int} {f1:Int} {f2:Int} (h:IsS83 w0 W g f0 f1 f2):IsS83 w0 W.drew g f0 f1 f2:=h
theorem IsS83.ge {w0 W:World} {g:Nat} {f0:Int} {f1:Int} {f2:Int} (h:IsS83 w0 W g f0 f1 f2):w0.heap.size≤g:=by
 obtain ⟨hb,hg⟩:=h
 exact hg
theorem cellS83_0 {W:World} {g:Nat} {f0:Int} {f1:Int} {f2:Int} (h:W.heap[g]? = some (.cells #[.int .u64 f0,.int .u64 f1,.int .u64 f2] 83 (0,0))):W.cell? ⟨g,0,none⟩=some (.int .u64 f0):=(blk_cell h 0).trans rfl
theorem IsS83.set_0 {w0 W:World} {g:Nat} {f0:Int} {f1:Int} {f2:Int} (h:IsS83 w0 W g f0 f1 f2) (x:Int):IsS83 w0 (W.setCell ⟨g,0,none⟩ (.int .u64 x)) g x f1 f2:=by
 obtain ⟨hb,hg⟩:=h
 exact ⟨by simpa using blk_set hb 0 (.int .u64 x),hg⟩
theorem cellS83_1 {W:World} {g:Nat} {f0:Int} {f1:Int} {f2:Int} (h:W.heap[g]? = some (.cells #[.int .u64 f0,.int .u64 f1,.int .u64 f2] 83 (0,0))):W.cell? ⟨g,1,none⟩=some (.int .u64 f1):=(blk_cell h 1).trans rfl
theorem IsS83.set_1 {w0 W:World} {g:Nat} {f0:Int} {f1:Int} {f2:Int} (h:IsS83 w0 W g f0 f1 f2) (x:Int):IsS83 w0 (W.setCell ⟨g,1,none⟩ (.int .u64 x)) g f0 x f2:=by
 obtain ⟨hb,hg⟩:=h
 exact ⟨by simpa using blk_set hb 1 (.int .u64 x),hg⟩
theorem cellS83_2 {W:World} {g:Nat} {f0:Int} {f1:Int} {f2:Int} (h:W.heap[g]? = some (.cells #[.int .u64 f0,.int .u64 f1,.int .u64 f2] 83 (0,0))):W.cell? ⟨g,2,none⟩=some (.int .u64 f2):=(blk_cell h 2).trans rfl
theorem IsS83.set_2 {w0 W:World} {g:Nat} {f0:Int} {f1:Int} {f2:Int} (h:IsS83 w0 W g f0 f1 f2) (x:Int):IsS83 w0 (W.setCell ⟨g,2,none⟩ (.int .u64 x)) g f0 f1 x:=by
 obtain ⟨hb,hg⟩:=h
 exact ⟨by simpa using blk_set hb 2 (.int .u64 x),hg⟩
def mapalg_wide_end.j0:Nat→Bool→Int→Int→Int→Option (Int×Int×Int×Int)
 | 0,_,_,_,_=>none
 | k+1,x11,x1000,x1001,x1002=>if x11=true then (some (wrap64 (x1000),x1000,x1001,x1002)) else (if (x1002 / 9223372036854775808)=1 then (some ((-9223372036854775808),x1000,x1001,x1002)) else (some (9223372036854775807,x1000,x1001,x1002)))
def mapalg_wide_end.f (k:Nat) (s0_0:Int) (s0_1:Int) (s0_2:Int):Option (Int×Int×Int×Int):=if s0_1=(IntKind.u64.wrap ((wrap64 (s0_0)) / 9223372036854775808)) then (mapalg_wide_end.j0 k (s0_2 == (IntKind.u64.wrap ((wrap64 (s0_0)) / 9223372036854775808))) s0_0 s0_1 s0_2) else (mapalg_wide_end.j0 k false s0_0 s0_1 s0_2)
theorem mapalg_wide_end.mono_l:∀ k,(∀ y0 y1 y2 y3,LeO (mapalg_wide_end.j0 k y0 y1 y2 y3) (mapalg_wide_end.j0 (k+1) y0 y1 y2 y3))
 | 0=>fun _ _ _ _ r h=>by simp [mapalg_wide_end.j0] at h
 | k+1=>by
  have ih0:=mapalg_wide_end.mono_l k
  ·intro y0 y1 y2 y3
   unfold mapalg_wide_end.j0
   repeat' with_reducible first | apply ih0 | apply lr | apply ln | apply li | refine lb ?_ fun _=>?_
theorem mapalg_wide_end.mono:∀ a0 a1 a2 k,LeO (mapalg_wide_end.f k a0 a1 a2) (mapalg_wide_end.f (k+1) a0 a1 a2):=by
 intro a0 a1 a2 k
 have ih0:=mapalg_wide_end.mono_l k
 unfold mapalg_wide_end.f
 repeat' with_reducible first | apply ih0 | apply lr | apply ln | apply li | refine lb ?_ fun _=>?_
theorem mapalg_wide_end.calls (k:Nat) (g:Nat) (s0_0:Int) (s0_1:Int) (s0_2:Int) (r1:Int) (r2:Int) (r3:Int) (r4:Int) (w0 w:World) (hI:IsS83 w0 w g s0_0 s0_1 s0_2) (hB:Below w0.heap.size w0 w) (h:mapalg_wide_end.f k s0_0 s0_1 s0_2=some (r1,r2,r3,r4)) :
 Calls Tryz.prog 59 #[.pointer (some ⟨g,0,none⟩)] w fun e w'=>e=.returned (.int .i64 r1)∧IsS83 w0 w' g r2 r3 r4∧Below w0.heap.size w0 w'∧KeepBut w w' g none:=by
 have HI0:=am hI
 have HK:=am (KeepBut.refl w g none)
 have HL:=am hB.size
 clear hI
 have HW0:=am hB.size
 have HB:=am hB;clear hB
 unfold mapalg_wide_end.f at h;have H:=h;clear h;have HC2:=am H;clear H
 obtain ⟨HGz3,hgz3⟩:=HI0.out
 have hcz3_0:=cellS83_0 HGz3
 have hcz3_1:=cellS83_1 HGz3
 have hcz3_2:=cellS83_2 HGz3
 have hfz3_0:=blk_frozen HGz3 0
 have hfz3_1:=blk_frozen HGz3 1
 have hfz3_2:=blk_frozen HGz3 2
 clear HGz3 hgz3;go_enter Tryz.func59,Tryz.ntmps59
 go_upto_region 2 with (fail)
 go_cut [11] (fun v11 wc=>∃ (kq:Nat) (x11_1:Bool),v11=.bool x11_1∧Aside0 (mapalg_wide_end.j0 kq x11_1 s0_0 s0_1 s0_2=some (r1,r2,r3,r4))∧Aside0 (kq≤k)∧Aside0 (IsS83 w0 wc g s0_0 s0_1 s0_2)∧Aside0 (KeepBut w wc g none)∧Aside0 (Below w0.heap.size w0 wc))
 case first =>
  have H:=HC2.out;clear HC2
  by_cases c4:s0_1=(IntKind.u64.wrap ((wrap64 (s0_0)) / 9223372036854775808))
  ·rw [if_pos c4] at H
   have c4b0:(s0_1 == (IntKind.u64.wrap ((wrap64 (s0_0)) / 9223372036854775808)))=true:=beq_iff_eq.mpr c4
   have c4b1:(s0_1 != (IntKind.u64.wrap ((wrap64 (s0_0)) / 9223372036854775808)))=false:=bne_eq_false_iff_eq.mpr c4
   clear c4
   (first | rw [c4b0] | (simp only [i64_w,i32_w];rw [c4b0]) | skip)
   have H':=am H;clear H
   obtain ⟨HGz5,hgz5⟩:=HI0.out
   have hcz5_0:=cellS83_0 HGz5
   have hcz5_1:=cellS83_1 HGz5
   have hcz5_2:=cellS83_2 HGz5
   have hfz5_0:=blk_frozen HGz5 0
   have hfz5_1:=blk_frozen HGz5 1
   have hfz5_2:=blk_frozen HGz5 2
   clear HGz5 hgz5;go_wp2
   go_meet
   case rel=>exact ⟨_,((s0_2 == (IntKind.u64.wrap ((wrap64 (s0_0)) / 9223372036854775808)))),rs,H',⟨by first | omega | exact Nat.le_refl _⟩,⟨by repeat (first | (with_reducible first | exact HI0.out | apply IsS83.alloc | apply IsS83.drewN | apply IsS83.drew | apply IsS83.set_0 | apply IsS83.set_1 | apply IsS83.set_2) | exact HI0.out)⟩,⟨by repeat (first | (with_reducible first | exact HK.out | apply KeepBut.set_ | apply keep_drewN | apply keep_drew | apply keep_alloc) | exact HK.out)⟩,⟨by repeat (first | (with_reducible first | exact HB.out | apply below_alloc | apply pw_below_drewN | apply below_drew1 | refine below_set ?_ (IsS83.ge HI0.out)) | exact HB.out)⟩⟩
  ·rw [if_neg c4] at H
   have c4b0:(s0_1 == (IntKind.u64.wrap ((wrap64 (s0_0)) / 9223372036854775808)))=false:=beq_eq_false_iff_ne.mpr c4
   have c4b1:(s0_1 != (IntKind.u64.wrap ((wrap64 (s0_0)) / 9223372036854775808)))=true:=bne_iff_ne.mpr c4
   (first | rw [c4b0] | (simp only [i64_w,i32_w];rw [c4b0]) | skip)
   have H':=am H;clear H
   obtain ⟨HGz6,hgz6⟩:=HI0.out
   have hcz6_0:=cellS83_0 HGz6
   have hcz6_1:=cellS83_1 HGz6
   have hcz6_2:=cellS83_2 HGz6
   have hfz6_0:=blk_frozen HGz6 0
   have hfz6_1:=blk_frozen HGz6 1
   have hfz6_2:=blk_frozen HGz6 2
   clear HGz6 hgz6;go_wp2
   go_meet
   case rel=>exact ⟨_,(false),rs,H',⟨by first | omega | exact Nat.le_refl _⟩,⟨by repeat (first | (with_reducible first | exact HI0.out | apply IsS83.alloc | apply IsS83.drewN | apply IsS83.drew | apply IsS83.set_0 | apply IsS83.set_1 | apply IsS83.set_2) | exact HI0.out)⟩,⟨by repeat (first | (with_reducible first | exact HK.out | apply KeepBut.set_ | apply keep_drewN | apply keep_drew | apply keep_alloc) | exact HK.out)⟩,⟨by repeat (first | (with_reducible first | exact HB.out | apply below_alloc | apply pw_below_drewN | apply below_drew1 | refine below_set ?_ (IsS83.ge HI0.out)) | exact HB.out)⟩⟩
 case rest =>
  clear HC2
  try clear p2
  try clear c4
  try clear c4b0
  try clear c4b1
  try clear c5
  try clear p6
  try clear hcz3_0
  try clear hcz3_1
  try clear hcz3_2
  try clear hcz5_0
  try clear hcz5_1
  try clear hcz5_2
  try clear hcz6_0
  try clear hcz6_1
  try clear hcz6_2
  try clear hfz3_0
  try clear hfz3_1
  try clear hfz3_2
  try clear hfz5_0
  try clear hfz5_1
  try clear hfz5_2
  try clear hfz6_0
  try clear hfz6_1
  try clear hfz6_2
  obtain ⟨kq,x11_1,rfl,HA,HJ1,HI0,HK,HB⟩:=hcut
  cases kq with
  | zero=>exact absurd HA.out (by simp [mapalg_wide_end.j0])
  | succ kj1 =>
   have H:=HA.out;clear HA
   simp only [mapalg_wide_end.j0] at H
   cases x11_1;rotate_left
   ·replace H:=itt H
    simp only [Option.some.injEq,Prod.mk.injEq] at H
    obtain ⟨rfl,rfl,rfl,rfl⟩:=H
    obtain ⟨HGz8,hgz8⟩:=HI0.out
    have hcz8_0:=cellS83_0 HGz8
    have hcz8_1:=cellS83_1 HGz8
    have hcz8_2:=cellS83_2 HGz8
    have hfz8_0:=blk_frozen HGz8 0
    have hfz8_1:=blk_frozen HGz8 1
    have hfz8_2:=blk_frozen HGz8 2
    clear HGz8 hgz8;go_wp2;go_ret
    exact ⟨by first | rfl | (simp [errW_none,errW_some] <;> rfl) | (simp [*,errW_none,errW_some] <;> rfl),by repeat (first | (with_reducible first | exact HI0.out | apply IsS83.alloc | apply IsS83.drewN | apply IsS83.drew | apply IsS83.set_0 | apply IsS83.set_1 | apply IsS83.set_2) | exact HI0.out),by repeat (first | (with_reducible first | exact HB.out | apply below_alloc | apply pw_below_drewN | apply below_drew1 | refine below_set ?_ (IsS83.ge HI0.out)) | exact HB.out),by repeat (first | (with_reducible first | exact HK.out | apply KeepBut.set_ | apply keep_drewN | apply keep_drew | apply keep_alloc) | exact HK.out)⟩
   ·replace H:=itf H
    by_cases c9:(s0_2 / 9223372036854775808)=1
    ·rw [if_pos c9] at H
     have c9b0:((s0_2 / 9223372036854775808) == 1)=true:=beq_iff_eq.mpr c9
     have c9b1:((s0_2 / 9223372036854775808) != 1)=false:=bne_eq_false_iff_eq.mpr c9
     clear c9
     simp only [Option.some.injEq,Prod.mk.injEq] at H
     obtain ⟨rfl,rfl,rfl,rfl⟩:=H
     obtain ⟨HGz10,hgz10⟩:=HI0.out
     have hcz10_0:=cellS83_0 HGz10
     have hcz10_1:=cellS83_1 HGz10
     have hcz10_2:=cellS83_2 HGz10
     have hfz10_0:=blk_frozen HGz10 0
     have hfz10_1:=blk_frozen HGz10 1
     have hfz10_2:=blk_frozen HGz10 2
     clear HGz10 hgz10;go_wp2;go_ret
     exact ⟨by first | rfl | (simp [errW_none,errW_some] <;> rfl) | (simp [*,errW_none,errW_some] <;> rfl),by repeat (first | (with_reducible first | exact HI0.out | apply IsS83.alloc | apply IsS83.drewN | apply IsS83.drew | apply IsS83.set_0 | apply IsS83.set_1 | apply IsS83.set_2) | exact HI0.out),by repeat (first | (with_reducible first | exact HB.out | apply below_alloc | apply pw_below_drewN | apply below_drew1 | refine below_set ?_ (IsS83.ge HI0.out)) | exact HB.out),by repeat (first | (with_reducible first | exact HK.out | apply KeepBut.set_ | apply keep_drewN | apply keep_drew | apply keep_alloc) | exact HK.out)⟩
    ·rw [if_neg c9] at H
     have c9b0:((s0_2 / 9223372036854775808) == 1)=false:=beq_eq_false_iff_ne.mpr c9
     have c9b1:((s0_2 / 9223372036854775808) != 1)=true:=bne_iff_ne.mpr c9
     simp only [Option.some.injEq,Prod.mk.injEq] at H
     obtain ⟨rfl,rfl,rfl,rfl⟩:=H
     obtain ⟨HGz11,hgz11⟩:=HI0.out
     have hcz11_0:=cellS83_0 HGz11
     have hcz11_1:=cellS83_1 HGz11
     have hcz11_2:=cellS83_2 HGz11
     have hfz11_0:=blk_frozen HGz11 0
     have hfz11_1:=blk_frozen HGz11 1
     have hfz11_2:=blk_frozen HGz11 2
     clear HGz11 hgz11;go_wp2;go_ret
     exact ⟨by first | rfl | (simp [errW_none,errW_some] <;> rfl) | (simp [*,errW_none,errW_some] <;> rfl),by repeat (first | (with_reducible first | exact HI0.out | apply IsS83.alloc | apply IsS83.drewN | apply IsS83.drew | apply IsS83.set_0 | apply IsS83.set_1 | apply IsS83.set_2) | exact HI0.out),by repeat (first | (with_reducible first | exact HB.out | apply below_alloc | apply pw_below_drewN | apply below_drew1 | refine below_set ?_ (IsS83.ge HI0.out)) | exact HB.out),by repeat (first | (with_reducible first | exact HK.out | apply KeepBut.set_ | apply keep_drewN | apply keep_drew | apply keep_alloc) | exact HK.out)⟩
def bits_Sub64.f (a b c:Int):Option (Int×Int):=if 0≤a∧0≤b∧0≤c∧c≤1∧b < 18446744073709551616 then some ((a+18446744073709551616 - b - c) % 18446744073709551616,if a < b+c then 1 else 0) else none
def bits_Add64.f (a b c:Int):Option (Int×Int):=if 0≤a∧0≤b∧0≤c∧c≤1 then some ((a+b+c) % 18446744073709551616,(a+b+c) / 18446744073709551616) else none
theorem bits_Sub64.run (a b c r q:Int) (h:bits_Sub64.f a b c=some (r,q)) (w:World):(callFunc 91 #[.int .u64 a,.int .u64 b,.int .u64 c]).run Tryz.prog w=.ok (.value (.tuple #[.int .u64 r,.int .u64 q])) w:=by
 unfold bits_Sub64.f at h
 by_cases hc:0≤a∧0≤b∧0≤c∧c≤1∧b < 18446744073709551616
 ·rw [if_pos hc] at h
  simp only [Option.some.injEq,Prod.mk.injEq] at h
  obtain ⟨rfl,rfl⟩:=h
  obtain ⟨x,rfl⟩:=Int.eq_ofNat_of_zero_le hc.1
  obtain ⟨y,rfl⟩:=Int.eq_ofNat_of_zero_le hc.2.1
  obtain ⟨z,rfl⟩:=Int.eq_ofNat_of_zero_le hc.2.2.1
  have hz:z≤1:=by omega
  rw [run_callFunc_extern Tryz.func91 (by kernel_rfl) (by kernel_rfl) (by kernel_rfl) (e:=sub64Entry) (by kernel_rfl),run_sub64 x y z hz]
  have e1:(((x+18446744073709551616 - y - z) % 18446744073709551616:Nat):Int)=((x:Int)+18446744073709551616 - y - z) % 18446744073709551616:=by omega
  have e2:(((if x < y+z then 1 else 0:Nat)):Int)=(if (x:Int) < y+z then 1 else 0):=by split <;> split <;> omega
  simp only [Result.andThen]
  rw [e1,e2]
 ·rw [if_neg hc] at h;cases h
theorem bits_Add64.run (a b c r q:Int) (h:bits_Add64.f a b c=some (r,q)) (w:World):(callFunc 92 #[.int .u64 a,.int .u64 b,.int .u64 c]).run Tryz.prog w=.ok (.value (.tuple #[.int .u64 r,.int .u64 q])) w:=by
 unfold bits_Add64.f at h
 by_cases hc:0≤a∧0≤b∧0≤c∧c≤1
 ·rw [if_pos hc] at h
  simp only [Option.some.injEq,Prod.mk.injEq] at h
  obtain ⟨rfl,rfl⟩:=h
  obtain ⟨x,rfl⟩:=Int.eq_ofNat_of_zero_le hc.1
  obtain ⟨y,rfl⟩:=Int.eq_ofNat_of_zero_le hc.2.1
  obtain ⟨z,rfl⟩:=Int.eq_ofNat_of_zero_le hc.2.2.1
  have hz:z≤1:=by omega
  rw [run_callFunc_extern Tryz.func92 (by kernel_rfl) (by kernel_rfl) (by kernel_rfl) (e:=add64Entry) (by kernel_rfl),run_add64 x y z (by omega) (by omega) (by omega) (by omega)]
  rfl
 ·rw [if_neg hc] at h;cases h
def mapalg_wide_add.j0:Nat→Int→Int→Int→Int→Int→Int→Option (Int×Int×Int)
 | 0,_,_,_,_,_,_=>none
 | k+1,x1,x2,x6,x1000,x1001,x1002=>(bits_Mul64.f x6 x2).bind fun bt288=>(if x1 < 0 then ((bits_Sub64.f x1000 bt288.2 0).bind fun bt290=>((bits_Sub64.f x1001 bt288.1 bt290.2).bind fun bt292=>((bits_Sub64.f x1002 0 bt292.2).bind fun bt294=>(some (bt290.1,bt292.1,bt294.1))))) else ((bits_Add64.f x1000 bt288.2 0).bind fun bt296=>((bits_Add64.f x1001 bt288.1 bt296.2).bind fun bt298=>((bits_Add64.f x1002 0 bt298.2).bind fun bt300=>(some (bt296.1,bt298.1,bt300.1))))))
def mapalg_wide_add.f (k:Nat) (s0_0:Int) (s0_1:Int) (s0_2:Int) (a1:Int) (a2:Int):Option (Int×Int×Int):=if a1 < 0 then (mapalg_wide_add.j0 k a1 a2 (IntKind.u64.wrap (-(IntKind.u64.wrap (a1)))) s0_0 s0_1 s0_2) else (mapalg_wide_add.j0 k a1 a2 (IntKind.u64.wrap (a1)) s0_0 s0_1 s0_2)
theorem mapalg_wide_add.mono_l:∀ k,(∀ y0 y1 y2 y3 y4 y5,LeO (mapalg_wide_add.j0 k y0 y1 y2 y3 y4 y5) (mapalg_wide_add.j0 (k+1) y0 y1 y2 y3 y4 y5))
 | 0=>fun _ _ _ _ _ _ r h=>by simp [mapalg_wide_add.j0] at h
 | k+1=>by
  have ih0:=mapalg_wide_add.mono_l k
  ·intro y0 y1 y2 y3 y4 y5
   unfold mapalg_wide_add.j0
   repeat' with_reducible first | apply ih0 | apply lr | apply ln | apply li | refine lb ?_ fun _=>?_
theorem mapalg_wide_add.mono:∀ a0 a1 a2 a3 a4 k,LeO (mapalg_wide_add.f k a0 a1 a2 a3 a4) (mapalg_wide_add.f (k+1) a0 a1 a2 a3 a4):=by
 intro a0 a1 a2 a3 a4 k
 have ih0:=mapalg_wide_add.mono_l k
 unfold mapalg_wide_add.f
 repeat' with_reducible first | apply ih0 | apply lr | apply ln | apply li | refine lb ?_ fun _=>?_
theorem mapalg_wide_add.calls (k:Nat) (g:Nat) (s0_0:Int) (s0_1:Int) (s0_2:Int) (a1:Int) (a2:Int) (r1:Int) (r2:Int) (r3:Int) (w0 w:World) (hI:IsS83 w0 w g s0_0 s0_1 s0_2) (hB:Below w0.heap.size w0 w) (h:mapalg_wide_add.f k s0_0 s0_1 s0_2 a1 a2=some (r1,r2,r3)) :
 Calls Tryz.prog 58 #[.pointer (some ⟨g,0,none⟩),.int .i64 a1,.int .u64 a2] w fun e w'=>e=.returned (.tuple #[])∧IsS83 w0 w' g r1 r2 r3∧Below w0.heap.size w0 w'∧KeepBut w w' g none:=by
 have HI0:=am hI
 have HK:=am (KeepBut.refl w g none)
 have HL:=am hB.size
 clear hI
 have HW0:=am hB.size
 have HB:=am hB;clear hB
 unfold mapalg_wide_add.f at h;have H:=h;clear h;have HC4:=am H;clear H;go_enter Tryz.func58,Tryz.ntmps58
 go_upto_if 13 with (fail)
 go_cut [6] (fun v6 wc=>∃ (kq:Nat) (x6_3:Int),v6=.int .u64 x6_3∧Aside0 (mapalg_wide_add.j0 kq a1 a2 x6_3 s0_0 s0_1 s0_2=some (r1,r2,r3))∧Aside0 (kq≤k)∧Aside0 (IsS83 w0 wc g s0_0 s0_1 s0_2)∧Aside0 (KeepBut w wc g none)∧Aside0 (Below w0.heap.size w0 wc))
 case first =>
  have H:=HC4.out;clear HC4;revert H;refine itc (fun c5b0 H=>?_) fun c5b0 H=>?_
  ·(first | rw [c5b0] | (simp only [i64_w,i32_w];rw [c5b0]) | skip)
   have H':=am H;clear H;go_wp2
   go_meet
   case rel=>exact ⟨_,(IntKind.u64.wrap (-(IntKind.u64.wrap (a1)))),rs,H',⟨by first | omega | exact Nat.le_refl _⟩,⟨by repeat (first | (with_reducible first | exact HI0.out | apply IsS83.alloc | apply IsS83.drewN | apply IsS83.drew | apply IsS83.set_0 | apply IsS83.set_1 | apply IsS83.set_2) | exact HI0.out)⟩,⟨by repeat (first | (with_reducible first | exact HK.out | apply KeepBut.set_ | apply keep_drewN | apply keep_drew | apply keep_alloc) | exact HK.out)⟩,⟨by repeat (first | (with_reducible first | exact HB.out | apply below_alloc | apply pw_below_drewN | apply below_drew1 | refine below_set ?_ (IsS83.ge HI0.out)) | exact HB.out)⟩⟩
  ·(first | rw [c5b0] | (simp only [i64_w,i32_w];rw [c5b0]) | skip)
   have H':=am H;clear H;go_wp2
   go_meet
   case rel=>exact ⟨_,(IntKind.u64.wrap (a1)),rs,H',⟨by first | omega | exact Nat.le_refl _⟩,⟨by repeat (first | (with_reducible first | exact HI0.out | apply IsS83.alloc | apply IsS83.drewN | apply IsS83.drew | apply IsS83.set_0 | apply IsS83.set_1 | apply IsS83.set_2) | exact HI0.out)⟩,⟨by repeat (first | (with_reducible first | exact HK.out | apply KeepBut.set_ | apply keep_drewN | apply keep_drew | apply keep_alloc) | exact HK.out)⟩,⟨by repeat (first | (with_reducible first | exact HB.out | apply below_alloc | apply pw_below_drewN | apply below_drew1 | refine below_set ?_ (IsS83.ge HI0.out)) | exact HB.out)⟩⟩
 case rest =>
  clear HC4
  try clear p2
  try clear c5
  try clear c5b0
  obtain ⟨kq,x6_3,rfl,HA,HJ3,HI0,HK,HB⟩:=hcut
  cases kq with
  | zero=>exact absurd HA.out (by simp [mapalg_wide_add.j0])
  | succ kj3 =>
   have H:=HA.out;clear HA
   simp only [mapalg_wide_add.j0] at H
   revert H;refine bnd2 fun t288 t289 A6 H=>?_;dsimp only at H
   revert H;refine itc (fun c7b0 H=>?_) fun c7b0 H=>?_
   ·revert H;refine bnd2 fun t290 t291 A8 H=>?_;dsimp only at H
    revert H;refine bnd2 fun t292 t293 A9 H=>?_;dsimp only at H
    revert H;refine bnd2 fun t294 t295 A10 H=>?_;dsimp only at H
    simp only [Option.some.injEq,Prod.mk.injEq] at H
    obtain ⟨rfl,rfl,rfl⟩:=H
    go_upto_region 6 with (first | ((with_reducible refine gate_callee (f:=90) rfl ?_);refine god Tryz.func90 (bits_Mul64.calls _ _ _ _ _ A6.out) fun nd=>?_))
    have HI1:=am (IsS83.drewN HI0.out nd)
    have HB1:=am (pw_below_drewN HB.out nd)
    have HK1:=am (keep_drewN HK.out nd)
    clear HI0 HB HK;generalize wc.drewN nd=w1 at *
    have c0:w1.cell? ⟨g,0,none⟩=some (.int .u64 s0_0):=(blk_cell HI1.out.1 0).trans rfl
    have f0:=blk_frozen HI1.out.1 0
    have c1:w1.cell? ⟨g,1,none⟩=some (.int .u64 s0_1):=(blk_cell HI1.out.1 1).trans rfl
    have f1:=blk_frozen HI1.out.1 1
    have c2:w1.cell? ⟨g,2,none⟩=some (.int .u64 s0_2):=(blk_cell HI1.out.1 2).trans rfl
    have f2:=blk_frozen HI1.out.1 2
    have hs:=fun w=>bits_Sub64.run _ _ _ _ _ A8.out w
    go_region
    (try simp only [Exit.then])
    have HI2:Aside0 (IsS83 w0 ((w1.setCell ⟨g,0,none⟩ (.int .u64 t290)).drew) g t290 s0_1 s0_2):=⟨IsS83.drew (IsS83.set_0 HI1.out _)⟩
    have HB2:Aside0 (Below w0.heap.size w0 ((w1.setCell ⟨g,0,none⟩ (.int .u64 t290)).drew)):=⟨below_drew1 (below_set HB1.out (IsS83.ge HI1.out))⟩
    have HK2:Aside0 (KeepBut w ((w1.setCell ⟨g,0,none⟩ (.int .u64 t290)).drew) g none):=⟨keep_drew (KeepBut.set_ HK1.out _ _)⟩
    clear HI1 HB1 HK1 c0 c1 c2 f0 f1 f2 hs;generalize (w1.setCell ⟨g,0,none⟩ (.int .u64 t290)).drew=w2 at *
    go_wp2_with fail
    have c0:w2.cell? ⟨g,0,none⟩=some (.int .u64 t290):=(blk_cell HI2.out.1 0).trans rfl
    have f0:=blk_frozen HI2.out.1 0
    have c1:w2.cell? ⟨g,1,none⟩=some (.int .u64 s0_1):=(blk_cell HI2.out.1 1).trans rfl
    have f1:=blk_frozen HI2.out.1 1
    have c2:w2.cell? ⟨g,2,none⟩=some (.int .u64 s0_2):=(blk_cell HI2.out.1 2).trans rfl
    have f2:=blk_frozen HI2.out.1 2
    have hs:=fun w=>bits_Sub64.run _ _ _ _ _ A9.out w
    go_region
    (try simp only [Exit.then])
    have HI3:Aside0 (IsS83 w0 ((w2.setCell ⟨g,1,none⟩ (.int .u64 t292)).drew) g t290 t292 s0_2):=⟨IsS83.drew (IsS83.set_1 HI2.out _)⟩
    have HB3:Aside0 (Below w0.heap.size w0 ((w2.setCell ⟨g,1,none⟩ (.int .u64 t292)).drew)):=⟨below_drew1 (below_set HB2.out (IsS83.ge HI2.out))⟩
    have HK3:Aside0 (KeepBut w ((w2.setCell ⟨g,1,none⟩ (.int .u64 t292)).drew) g none):=⟨keep_drew (KeepBut.set_ HK2.out _ _)⟩
    clear HI2 HB2 HK2 c0 c1 c2 f0 f1 f2 hs;generalize (w2.setCell ⟨g,1,none⟩ (.int .u64 t292)).drew=w3 at *
    go_wp2_with fail
    have c0:w3.cell? ⟨g,0,none⟩=some (.int .u64 t290):=(blk_cell HI3.out.1 0).trans rfl
    have f0:=blk_frozen HI3.out.1 0
    have c1:w3.cell? ⟨g,1,none⟩=some (.int .u64 t292):=(blk_cell HI3.out.1 1).trans rfl
    have f1:=blk_frozen HI3.out.1 1
    have c2:w3.cell? ⟨g,2,none⟩=some (.int .u64 s0_2):=(blk_cell HI3.out.1 2).trans rfl
    have f2:=blk_frozen HI3.out.1 2
    have hs:=fun w=>bits_Sub64.run _ _ _ _ _ A10.out w
    go_region
    (try simp only [Exit.then])
    have HI4:Aside0 (IsS83 w0 ((w3.setCell ⟨g,2,none⟩ (.int .u64 t294)).drew) g t290 t292 t294):=⟨IsS83.drew (IsS83.set_2 HI3.out _)⟩
    have HB4:Aside0 (Below w0.heap.size w0 ((w3.setCell ⟨g,2,none⟩ (.int .u64 t294)).drew)):=⟨below_drew1 (below_set HB3.out (IsS83.ge HI3.out))⟩
    have HK4:Aside0 (KeepBut w ((w3.setCell ⟨g,2,none⟩ (.int .u64 t294)).drew) g none):=⟨keep_drew (KeepBut.set_ HK3.out _ _)⟩
    clear HI3 HB3 HK3 c0 c1 c2 f0 f1 f2 hs;generalize (w3.setCell ⟨g,2,none⟩ (.int .u64 t294)).drew=w4 at *;go_wp2
    first | go_end0 | ((try simp only [Exit.inBlock,Exit.then]);refine bodyPost_ret (results_none rfl _ _ _) rfl ?_)
    exact ⟨rfl,HI4.out,HB4.out,HK4.out⟩
   ·revert H;refine bnd2 fun t296 t297 A12 H=>?_;dsimp only at H
    revert H;refine bnd2 fun t298 t299 A13 H=>?_;dsimp only at H
    revert H;refine bnd2 fun t300 t301 A14 H=>?_;dsimp only at H
    simp only [Option.some.injEq,Prod.mk.injEq] at H
    obtain ⟨rfl,rfl,rfl⟩:=H
    go_upto_region 9 with (first | ((with_reducible refine gate_callee (f:=90) rfl ?_);refine god Tryz.func90 (bits_Mul64.calls _ _ _ _ _ A6.out) fun nd=>?_))
    have HI1:=am (IsS83.drewN HI0.out nd)
    have HB1:=am (pw_below_drewN HB.out nd)
    have HK1:=am (keep_drewN HK.out nd)
    clear HI0 HB HK;generalize wc.drewN nd=w1 at *
    have c0:w1.cell? ⟨g,0,none⟩=some (.int .u64 s0_0):=(blk_cell HI1.out.1 0).trans rfl
    have f0:=blk_frozen HI1.out.1 0
    have c1:w1.cell? ⟨g,1,none⟩=some (.int .u64 s0_1):=(blk_cell HI1.out.1 1).trans rfl
    have f1:=blk_frozen HI1.out.1 1
    have c2:w1.cell? ⟨g,2,none⟩=some (.int .u64 s0_2):=(blk_cell HI1.out.1 2).trans rfl
    have f2:=blk_frozen HI1.out.1 2
    have hs:=fun w=>bits_Add64.run _ _ _ _ _ A12.out w
    go_region
    (try simp only [Exit.then])
    have HI2:Aside0 (IsS83 w0 ((w1.setCell ⟨g,0,none⟩ (.int .u64 t296)).drew) g t296 s0_1 s0_2):=⟨IsS83.drew (IsS83.set_0 HI1.out _)⟩
    have HB2:Aside0 (Below w0.heap.size w0 ((w1.setCell ⟨g,0,none⟩ (.int .u64 t296)).drew)):=⟨below_drew1 (below_set HB1.out (IsS83.ge HI1.out))⟩
    have HK2:Aside0 (KeepBut w ((w1.setCell ⟨g,0,none⟩ (.int .u64 t296)).drew) g none):=⟨keep_drew (KeepBut.set_ HK1.out _ _)⟩
    clear HI1 HB1 HK1 c0 c1 c2 f0 f1 f2 hs;generalize (w1.setCell ⟨g,0,none⟩ (.int .u64 t296)).drew=w2 at *
    go_wp2_with fail
    have c0:w2.cell? ⟨g,0,none⟩=some (.int .u64 t296):=(blk_cell HI2.out.1 0).trans rfl
    have f0:=blk_frozen HI2.out.1 0
    have c1:w2.cell? ⟨g,1,none⟩=some (.int .u64 s0_1):=(blk_cell HI2.out.1 1).trans rfl
    have f1:=blk_frozen HI2.out.1 1
    have c2:w2.cell? ⟨g,2,none⟩=some (.int .u64 s0_2):=(blk_cell HI2.out.1 2).trans rfl
    have f2:=blk_frozen HI2.out.1 2
    have hs:=fun w=>bits_Add64.run _ _ _ _ _ A13.out w
    go_region
    (try simp only [Exit.then])
    have HI3:Aside0 (IsS83 w0 ((w2.setCell ⟨g,1,none⟩ (.int .u64 t298)).drew) g t296 t298 s0_2):=⟨IsS83.drew (IsS83.set_1 HI2.out _)⟩
    have HB3:Aside0 (Below w0.heap.size w0 ((w2.setCell ⟨g,1,none⟩ (.int .u64 t298)).drew)):=⟨below_drew1 (below_set HB2.out (IsS83.ge HI2.out))⟩
    have HK3:Aside0 (KeepBut w ((w2.setCell ⟨g,1,none⟩ (.int .u64 t298)).drew) g none):=⟨keep_drew (KeepBut.set_ HK2.out _ _)⟩
    clear HI2 HB2 HK2 c0 c1 c2 f0 f1 f2 hs;generalize (w2.setCell ⟨g,1,none⟩ (.int .u64 t298)).drew=w3 at *
    go_wp2_with fail
    have c0:w3.cell? ⟨g,0,none⟩=some (.int .u64 t296):=(blk_cell HI3.out.1 0).trans rfl
    have f0:=blk_frozen HI3.out.1 0
    have c1:w3.cell? ⟨g,1,none⟩=some (.int .u64 t298):=(blk_cell HI3.out.1 1).trans rfl
    have f1:=blk_frozen HI3.out.1 1
    have c2:w3.cell? ⟨g,2,none⟩=some (.int .u64 s0_2):=(blk_cell HI3.out.1 2).trans rfl
    have f2:=blk_frozen HI3.out.1 2
    have hs:=fun w=>bits_Add64.run _ _ _ _ _ A14.out w
    go_region
    (try simp only [Exit.then])
    have HI4:Aside0 (IsS83 w0 ((w3.setCell ⟨g,2,none⟩ (.int .u64 t300)).drew) g t296 t298 t300):=⟨IsS83.drew (IsS83.set_2 HI3.out _)⟩
    have HB4:Aside0 (Below w0.heap.size w0 ((w3.setCell ⟨g,2,none⟩ (.int .u64 t300)).drew)):=⟨below_drew1 (below_set HB3.out (IsS83.ge HI3.out))⟩
    have HK4:Aside0 (KeepBut w ((w3.setCell ⟨g,2,none⟩ (.int .u64 t300)).drew) g none):=⟨keep_drew (KeepBut.set_ HK3.out _ _)⟩
    clear HI3 HB3 HK3 c0 c1 c2 f0 f1 f2 hs;generalize (w3.setCell ⟨g,2,none⟩ (.int .u64 t300)).drew=w4 at *;go_wp2
    first | go_end0 | ((try simp only [Exit.inBlock,Exit.then]);refine bodyPost_ret (results_none rfl _ _ _) rfl ?_)
    exact ⟨rfl,HI4.out,HB4.out,HK4.out⟩
theorem is83 {w0 W:World} {g:Nat} {f0 f1 f2:Int} (hb:W.heap[g]? = some (.cells #[.int .u64 f0,.int .u64 f1,.int .u64 f2] 83 (0,0))) (hg:w0.heap.size≤g):IsS83 w0 W g f0 f1 f2:=⟨hb,hg⟩
def sum.l0 (k:Nat):List S37→Int×Int×Int→Option (Int×Int×Int)
  | [],t=>some t
  | s :: l,t=>(span_Count.f k s.f0.f0.f0 s.f0.f0.f1 s.f0.f1.f0 s.f0.f1.f1).bind fun q =>
    (if q.2=true then some (t,q.1) else (mapalg_wide_add.f k t.1 t.2.1 t.2.2 s.f1 1).map (fun u=>(u,IntKind.u64.wrap (q.1 - 1)))).bind fun p =>
      (mapalg_wide_add.f k p.1.1 p.1.2.1 p.1.2.2 s.f1 p.2).bind fun u=>sum.l0 k l u
theorem sum.l0_mono (k:Nat):∀ (l:List S37) (t:Int×Int×Int),LeO (sum.l0 k l t) (sum.l0 (k+1) l t)
 | [],_=>LeO.refl _
 | s :: l,t=>by
  unfold sum.l0
  refine LeO.bind (span_Count.mono _ _ _ _ _) (fun q=>LeO.bind (LeO.ite (LeO.refl _) ?_) (fun p=>LeO.bind (mapalg_wide_add.mono _ _ _ _ _ _) (fun u=>sum.l0_mono k l u)))
  intro r h
  obtain ⟨u,e,rfl⟩:=Option.map_eq_some_iff.1 h
  exact Option.map_eq_some_iff.2 ⟨u,mapalg_wide_add.mono _ _ _ _ _ _ _ e,rfl⟩
def mapalg_Sum.f (k:Nat) (a:List S37) (w1 w2 w3 w4:Int):Option Int :=
 (mapalg_Restrict.f k a [⟨⟨w1,w2⟩,⟨w3,w4⟩⟩]).bind fun rs=>if rs.length < 1000000 then (sum.l0 k rs (0,0,0)).bind fun t=>(mapalg_wide_end.f k t.1 t.2.1 t.2.2).bind fun q=>some q.1 else none
theorem mapalg_Sum.mono:∀ a0 a1 a2 a3 a4 k,LeO (mapalg_Sum.f k a0 a1 a2 a3 a4) (mapalg_Sum.f (k+1) a0 a1 a2 a3 a4):=fun _ _ _ _ _ _ =>
 LeO.bind (mapalg_Restrict.mono _ _ _) (fun _=>LeO.ite (LeO.bind (sum.l0_mono _ _ _) (fun _=>LeO.bind (mapalg_wide_end.mono _ _ _ _) (fun _=>LeO.refl _))) (LeO.refl _))
theorem mapalg_Sum.walk (k:Nat) (A0:Option Addr) (c0:Nat) (l rs:List S37) (w1 w2 w3 w4 t1 t2 t3 r q2 q3 q4:Int) (w:World) (hr:Kd.C k37 w A0 l.length l) (hc:l.length≤c0) (e1:mapalg_Restrict.f k l [(⟨⟨w1,w2⟩,⟨w3,w4⟩⟩:S35)]=some rs) (hl:rs.length < 1000000) (e2:sum.l0 k rs (0,0,0)=some (t1,t2,t3)) (e3:mapalg_wide_end.f k t1 t2 t3=some (r,q2,q3,q4)) :
 Calls Tryz.prog 23 #[.slice A0 l.length c0,.agg #[.int .i64 w1,.int .i64 w2,.int .i64 w3,.int .i64 w4]] w fun e w'=>e=.returned (.int .i64 r)∧Below w.heap.size w w':=by
 have hu83:=Tryz.underlying83;have hu37:=Tryz.underlying37;have hu35:=Tryz.underlying35
 have HB:=am (Below.refl w.heap.size w)
 have CA:=am hr;have LA:=am hc;have E1:=am e1;have E2:=am e2;have E3:=am e3;have HL:=am hl
 obtain ⟨sw,hsw⟩:∃ y:List S35,y=[(⟨⟨w1,w2⟩,⟨w3,w4⟩⟩:S35)]:=⟨_,rfl⟩
 rw [← hsw] at E1
 have HSW:=am hsw;clear hr hc e1 e2 e3 hl hsw;go_enter Tryz.func23,Tryz.ntmps23
 go_upto_region 3 with (first | ((with_reducible refine gate_dst (N:=3) rfl ?_);refine bxf #[.int .i64 w1,.int .i64 w2,.int .i64 w3,.int .i64 w4] 35 HB fun gp wa B_p GE_p_HB HB hgb hb=>?_;clear hb hgb) | ((with_reducible refine gate_dst (N:=5) rfl ?_);refine bxf #[.int .u64 0,.int .u64 0,.int .u64 0] 83 HB fun gw wb B_w GE_w_HB HB hgb hb=>?_;have NE_p_w:=nlt hgb B_p;replace B_p:=bkb B_p hb;obtain ⟨c_p_0,c_p_1,c_p_2,c_p_3⟩:=e4 B_p;clear hb hgb) | ((with_reducible refine gate_dst (N:=12) rfl ?_);refine Kd.R_lit k35 _ 35 ?hg (N:=12) ?hd (xs:=[(⟨⟨w1,w2⟩,⟨w3,w4⟩⟩:S35)]) (inner:=[.int .i64 w1,.int .i64 w2,.int .i64 w3,.int .i64 w4]) (ok:=fun _=>True) (okp:=fun _=>True) ?hr ?hp (fun _ hk=>hk) trivial (Below.refl _ _) (Nat.le_refl _) (by simp) ?_;(case hd=>rfl);(case hg=>rfl);(case hr=>first | (go_simp;done) | (go_simp;rfl));(case hp=>exact (Reps.c4 (show Kd.M k35 _ _ _ (⟨⟨w1,w2⟩,⟨w3,w4⟩⟩:S35) [.int .i64 w1,.int .i64 w2,.int .i64 w3,.int .i64 w4] from (k35_mkM _ _ _ (⟨⟨w1,w2⟩,⟨w3,w4⟩⟩:S35))) (Reps.none _ _)));intro v1 wc ho hb hg_ hnew_;rw [← HSW.out] at ho;obtain ⟨A1,c1,rfl⟩:=Kd.R_slice ho;have HO1:=am ho;replace B_p:=bkb B_p hb;replace B_w:=bkb B_w hb;replace HB:=bst HB hb;clear ho hb hg_ hnew_ c_p_0 c_p_1 c_p_2 c_p_3) | (go_at_call 27;(with_reducible refine (mapalg_Restrict.calls k A0 c0 l A1 c1 sw rs _ (Kd.C_below CA.out HB.out) LA.out (Kd.R_reads' HO1.out).2.2 (Kd.R_reads' HO1.out).2.1 E1.out).mono ?_);rintro e w8 ⟨v2,rfl,ho,hb⟩;obtain ⟨A2,c2,rfl⟩:=Kd.R_slice ho;have HO2:=am ho;replace B_p:=bkb B_p hb;replace B_w:=bkb B_w hb;replace HB:=bst HB hb;clear ho hb HO1))
 clear B_p
 obtain ⟨SS,hSS⟩:∃ SS:Nat→Prop,SS=fun q=>q=gw:=⟨_,rfl⟩
 have S1:Aside0 (SS gw):=⟨by rw [hSS]⟩
 have SN:Aside0 (∀ q,q≠gw→¬ SS q):=⟨fun q h1 h=>by rw [hSS] at h;exact h1 h⟩
 clear hSS
 have RK:=am (Kd.C_kept_own (S:=SS) (Kd.R_types HO2.out B_w.out (by decide)) (fun q hq=>SN.out q hq.2))
 have GW:=GE_w_HB
 clear HO2 E1 CA LA
 obtain ⟨n,hn⟩:∃ n,rs.length=n:=⟨_,rfl⟩
 have HN:=am hn
 rw [hn]
 clear hn
 go_loopg [15] (n+1) (fun kq v15 w'=>∃ (j:Nat) (u1 u2 u3:Int),v15=.int .i64 (j:Int)∧Aside0 (kq+j=n+1)∧Aside0 (j≤n)∧Aside0 (sum.l0 k (rs.drop j) (u1,u2,u3)=some (t1,t2,t3))∧Aside0 (w'.heap[gw]? = some (.cells #[.int .u64 u1,.int .u64 u2,.int .u64 u3] 83 (0,0)))∧Aside0 (Kept w8 w' SS)∧Aside0 (Below w.heap.size w w'))
 case atStart=>exact ⟨0,0,0,0,rfl,⟨rfl⟩,⟨Nat.zero_le _⟩,E2,B_w,⟨Kept.refl _ _⟩,HB⟩
 case round =>
  clear B_w HB E2
  obtain ⟨j,u1,u2,u3,rfl,HQ,HJ,HA,B_w,K8,HB⟩:=hrel
  by_cases hj:j < n
  ·have p1:0≤(j:Int):=Int.natCast_nonneg j
   have q1:(j:Int) < (rs.length:Int):=by rw [HN.out];omega
   have q2:(j:Int) < (n:Int):=by omega
   have bj:decide ((j:Int) < (n:Int))=true:=decide_eq_true q2
   have HD:rs.drop j=rd_T37 rs (j:Int) :: rs.drop (j+1):=by
    have hj2:j < rs.length:=by rw [HN.out];exact hj
    rw [List.drop_eq_getElem_cons hj2]
    congr 1
    simp [rd_T37,hj2]
   obtain ⟨ad,ea,hx0,hx1,hx2,hx3,hx4⟩:=at_T37 (RK.out wr K8.out) (j:Int) p1 q1;cases ea;have HA2:=HA.out
   rw [HD] at HA2
   obtain ⟨⟨⟨⟨s1,s2⟩,⟨s3,s4⟩⟩,s5⟩,hs⟩:∃ s:S37,rd_T37 rs (j:Int)=s:=⟨_,rfl⟩
   rw [hs] at hx0 hx1 hx2 hx3 hx4 HA2
   simp only [Int.toNat_natCast] at hx0 hx1 hx2 hx3 hx4
   unfold sum.l0 at HA2
   obtain ⟨⟨cn,is⟩,ea1,HA3⟩:=Option.bind_eq_some_iff.1 HA2
   obtain ⟨⟨⟨x1,x2,x3⟩,m⟩,ea2,HA4⟩:=Option.bind_eq_some_iff.1 HA3
   obtain ⟨⟨y1,y2,y3⟩,ea3,HA5⟩:=Option.bind_eq_some_iff.1 HA4
   dsimp only at ea1 ea2 ea3 HA5
   have F1:=am ea1;have F2:=am ea2;have F3:=am ea3;have HA6:=am HA5;clear ea1 ea2 ea3 HA5 HA4 HA3 HA2 HA HD hs;replace p1:=eq_true p1;replace q2:=eq_true q2
   obtain ⟨k1,rfl⟩:∃ k1,gk=k1+1:=⟨gk - 1,by have:=HQ.out;omega⟩
   have hw:wrap64 ((j:Int)+1)=((j+1:Nat):Int):=by
    have:=HN.out;have:=HL.out
    unfold wrap64;push_cast;omega
   go_upto_region 5 with (first | ((with_reducible refine gate_dst (N:=7) rfl ?_);refine bxe (N:=7) (cs:=#[.int .i64 0,.int .i64 0,.int .i64 0,.int .i64 0,.int .i64 0]) (t:=37) ?_;intro ge hgb wc hbox hb;have NE_w_e:=nlt hgb B_w;have GE_e_HB:=lsz hgb HB;have GE_e_K8:=am (show w8.heap.size≤ge by rw [hgb];exact K8.out.1);replace B_w:=bkb B_w hb;replace HB:=bst HB hb;replace K8:=am (Kept.below K8.out hb);have B_e:=am hbox;replace hx0:=(hb.cell (World.block_lt_of_cell? _ _ hx0)).trans hx0;replace hx1:=(hb.cell (World.block_lt_of_cell? _ _ hx1)).trans hx1;replace hx2:=(hb.cell (World.block_lt_of_cell? _ _ hx2)).trans hx2;replace hx3:=(hb.cell (World.block_lt_of_cell? _ _ hx3)).trans hx3;replace hx4:=(hb.cell (World.block_lt_of_cell? _ _ hx4)).trans hx4;have c_e_0:wc.cell? ⟨ge,0,none⟩=some (.int .i64 0):=(blk_cell hbox 0).trans rfl;have f_e_0:=blk_frozen hbox 0;have c_e_1:wc.cell? ⟨ge,1,none⟩=some (.int .i64 0):=(blk_cell hbox 1).trans rfl;have f_e_1:=blk_frozen hbox 1;have c_e_2:wc.cell? ⟨ge,2,none⟩=some (.int .i64 0):=(blk_cell hbox 2).trans rfl;have f_e_2:=blk_frozen hbox 2;have c_e_3:wc.cell? ⟨ge,3,none⟩=some (.int .i64 0):=(blk_cell hbox 3).trans rfl;have f_e_3:=blk_frozen hbox 3;have c_e_4:wc.cell? ⟨ge,4,none⟩=some (.int .i64 0):=(blk_cell hbox 4).trans rfl;have f_e_4:=blk_frozen hbox 4;clear hbox hb hgb))
   have N_w:Aside0 ((((((wc.setCell ⟨ge,0,none⟩ (.int .i64 s1)).setCell ⟨ge,1,none⟩ (.int .i64 s2)).setCell ⟨ge,2,none⟩ (.int .i64 s3)).setCell ⟨ge,3,none⟩ (.int .i64 s4)).setCell ⟨ge,4,none⟩ (.int .i64 s5)).heap[gw]? = some (.cells #[.int .u64 u1,.int .u64 u2,.int .u64 u3] 83 (0,0))):=⟨(blk_far (blk_far (blk_far (blk_far (blk_far B_w.out (p:=⟨ge,0,none⟩) NE_w_e.out (.int .i64 s1)) (p:=⟨ge,1,none⟩) NE_w_e.out (.int .i64 s2)) (p:=⟨ge,2,none⟩) NE_w_e.out (.int .i64 s3)) (p:=⟨ge,3,none⟩) NE_w_e.out (.int .i64 s4)) (p:=⟨ge,4,none⟩) NE_w_e.out (.int .i64 s5))⟩
   have N_e:Aside0 ((((((wc.setCell ⟨ge,0,none⟩ (.int .i64 s1)).setCell ⟨ge,1,none⟩ (.int .i64 s2)).setCell ⟨ge,2,none⟩ (.int .i64 s3)).setCell ⟨ge,3,none⟩ (.int .i64 s4)).setCell ⟨ge,4,none⟩ (.int .i64 s5)).heap[ge]? = some (.cells #[.int .i64 s1,.int .i64 s2,.int .i64 s3,.int .i64 s4,.int .i64 s5] 37 (0,0))):=⟨(blk_put (blk_put (blk_put (blk_put (blk_put B_e.out 0 (.int .i64 s1) rfl) 1 (.int .i64 s2) rfl) 2 (.int .i64 s3) rfl) 3 (.int .i64 s4) rfl) 4 (.int .i64 s5) rfl)⟩
   have N_HB:Aside0 (Below w.heap.size w (((((wc.setCell ⟨ge,0,none⟩ (.int .i64 s1)).setCell ⟨ge,1,none⟩ (.int .i64 s2)).setCell ⟨ge,2,none⟩ (.int .i64 s3)).setCell ⟨ge,3,none⟩ (.int .i64 s4)).setCell ⟨ge,4,none⟩ (.int .i64 s5))):=⟨(below_set (below_set (below_set (below_set (below_set HB.out GE_e_HB.out) GE_e_HB.out) GE_e_HB.out) GE_e_HB.out) GE_e_HB.out)⟩
   have N_K8:Aside0 (Kept w8 (((((wc.setCell ⟨ge,0,none⟩ (.int .i64 s1)).setCell ⟨ge,1,none⟩ (.int .i64 s2)).setCell ⟨ge,2,none⟩ (.int .i64 s3)).setCell ⟨ge,3,none⟩ (.int .i64 s4)).setCell ⟨ge,4,none⟩ (.int .i64 s5)) SS):=⟨(Kept.setCell (Kept.setCell (Kept.setCell (Kept.setCell (Kept.setCell K8.out (p:=⟨ge,0,none⟩) (.inr GE_e_K8.out) (.int .i64 s1)) (p:=⟨ge,1,none⟩) (.inr GE_e_K8.out) (.int .i64 s2)) (p:=⟨ge,2,none⟩) (.inr GE_e_K8.out) (.int .i64 s3)) (p:=⟨ge,3,none⟩) (.inr GE_e_K8.out) (.int .i64 s4)) (p:=⟨ge,4,none⟩) (.inr GE_e_K8.out) (.int .i64 s5))⟩
   clear B_w B_e HB K8
   have B_w:=N_w
   have B_e:=N_e
   have HB:=N_HB
   have K8:=N_K8
   clear N_w N_e N_HB N_K8;generalize (((((wc.setCell ⟨ge,0,none⟩ (.int .i64 s1)).setCell ⟨ge,1,none⟩ (.int .i64 s2)).setCell ⟨ge,2,none⟩ (.int .i64 s3)).setCell ⟨ge,3,none⟩ (.int .i64 s4)).setCell ⟨ge,4,none⟩ (.int .i64 s5))=wd at *;clear hx0 hx1 hx2 hx3 hx4 c_e_0 f_e_0 c_e_1 f_e_1 c_e_2 f_e_2 c_e_3 f_e_3 c_e_4 f_e_4;obtain ⟨c_e_0,c_e_1,c_e_2,c_e_3,c_e_4⟩:=e5 B_e
   go_upto_region 6 with (first | (go_at_call 57;(with_reducible refine (span_Count.calls k s1 s2 s3 s4 cn is _ F1.out).mono ?_);rintro e we ⟨rfl,hb⟩;replace B_w:=bkb B_w hb;replace B_e:=bkb B_e hb;replace HB:=bst HB hb;replace K8:=am (Kept.below K8.out hb);clear hb))
   clear c_e_0 c_e_1 c_e_2 c_e_3 c_e_4
   have c_e_4:we.cell? ⟨ge,4,none⟩=some (.int .i64 s5):=(blk_cell B_e.out 4).trans rfl
   cases is
   ·have F2':=F2.out
    rw [if_neg (by decide)] at F2'
    obtain ⟨⟨z1,z2,z3⟩,ez,hz⟩:=Option.map_eq_some_iff.1 F2'
    simp only [Prod.mk.injEq] at hz
    obtain ⟨⟨rfl,rfl,rfl⟩,rfl⟩:=hz
    have FZ:=am ez
    clear ez F2' F2
    go_upto_region 9 with (first | (go_at_call 58;(with_reducible refine (mapalg_wide_add.calls k gw u1 u2 u3 s5 1 z1 z2 z3 w we (is83 B_w.out GW.out) HB.out FZ.out).mono ?_);rintro e wf ⟨rfl,hi,hbl,hk⟩;replace B_w:=am (And.left hi);replace B_e:=am ((hk.2 _ (blk_lt B_e.out) (Ne.symm NE_w_e.out) (by simp)).trans B_e.out);replace HB:=am hbl;replace K8:=am (Kept.of_keep K8.out hk (.inl S1.out));clear hi hbl hk))
    clear c_e_4
    have c_e_4:wf.cell? ⟨ge,4,none⟩=some (.int .i64 s5):=(blk_cell B_e.out 4).trans rfl
    go_wp2_with (first | (go_at_call 58;(with_reducible refine (mapalg_wide_add.calls k gw z1 z2 z3 s5 _ y1 y2 y3 w wf (is83 B_w.out GW.out) HB.out F3.out).mono ?_);rintro e wg ⟨rfl,hi,hbl,hk⟩;replace B_w:=am (And.left hi);replace B_e:=am ((hk.2 _ (blk_lt B_e.out) (Ne.symm NE_w_e.out) (by simp)).trans B_e.out);replace HB:=am hbl;replace K8:=am (Kept.of_keep K8.out hk (.inl S1.out));clear hi hbl hk))
    go_roundg k1
    case measure=>omega
    case rel=>exact ⟨j+1,y1,y2,y3,by first | rfl | (rw [← hw];rfl) | (simp [hw];done),⟨by have:=HQ.out;omega⟩,⟨by omega⟩,HA6,B_w,K8,HB⟩
   ·have F2':=F2.out
    rw [if_pos rfl] at F2'
    obtain ⟨⟨rfl,rfl,rfl⟩,rfl⟩:(x1=u1∧x2=u2∧x3=u3)∧m=cn:=by have h:=Option.some.inj F2';simp only [Prod.mk.injEq] at h;exact ⟨⟨h.1.1.symm,h.1.2.1.symm,h.1.2.2.symm⟩,h.2.symm⟩
    clear F2' F2
    go_wp2_with (first | (go_at_call 58;(with_reducible refine (mapalg_wide_add.calls k gw _ _ _ s5 _ y1 y2 y3 w we (is83 B_w.out GW.out) HB.out F3.out).mono ?_);rintro e wg ⟨rfl,hi,hbl,hk⟩;replace B_w:=am (And.left hi);replace B_e:=am ((hk.2 _ (blk_lt B_e.out) (Ne.symm NE_w_e.out) (by simp)).trans B_e.out);replace HB:=am hbl;replace K8:=am (Kept.of_keep K8.out hk (.inl S1.out));clear hi hbl hk))
    go_roundg k1
    case measure=>omega
    case rel=>exact ⟨j+1,y1,y2,y3,by first | rfl | (rw [← hw];rfl) | (simp [hw];done),⟨by have:=HQ.out;omega⟩,⟨by omega⟩,HA6,B_w,K8,HB⟩
  ·have bj:decide ((j:Int) < (n:Int))=false:=decide_eq_false (by omega)
   have HA2:=HA.out
   rw [List.drop_eq_nil_of_le (by rw [HN.out];omega)] at HA2
   have h:=Option.some.inj HA2
   simp only [Prod.mk.injEq] at h
   obtain ⟨rfl,rfl,rfl⟩:=h
   go_wp2_with (first | (go_at_call 59;(with_reducible refine (mapalg_wide_end.calls k gw u1 u2 u3 r _ _ _ w wr (is83 B_w.out GW.out) HB.out E3.out).mono ?_);rintro e w9 ⟨rfl,hi,hbl,hk⟩;have HB9:=am hbl;clear hi hbl hk))
   go_ret
   exact ⟨rfl,HB9.out⟩
theorem mapalg_Sum.calls (k:Nat) (A0:Option Addr) (c0:Nat) (l0:List S37) (a1_0 a1_1 a1_2 a1_3:Int) (r:Int) (w:World) (hr0:Kd.C k37 w A0 l0.length l0) (hc0:l0.length≤c0) (h:mapalg_Sum.f k l0 a1_0 a1_1 a1_2 a1_3=some r) :
 Calls Tryz.prog 23 #[.slice A0 l0.length c0,.agg #[.int .i64 a1_0,.int .i64 a1_1,.int .i64 a1_2,.int .i64 a1_3]] w fun e w'=>e=.returned (.int .i64 r)∧Below w.heap.size w w':=by
 obtain ⟨rs,e1,h⟩:=Option.bind_eq_some_iff.1 h
 by_cases hl:rs.length < 1000000
 ·rw [if_pos hl] at h
  obtain ⟨⟨t1,t2,t3⟩,e2,h⟩:=Option.bind_eq_some_iff.1 h
  obtain ⟨⟨r',q2,q3,q4⟩,e3,h⟩:=Option.bind_eq_some_iff.1 h
  obtain rfl:=Option.some.inj h
  exact mapalg_Sum.walk k A0 c0 l0 rs a1_0 a1_1 a1_2 a1_3 t1 t2 t3 r' q2 q3 q4 w hr0 hc0 e1 hl e2 e3
 ·rw [if_neg hl] at h;cases h
end Go.Proofs.YtbcpnejdbookkaaGreat.Print
namespace Go.Proofs
open Go.Shelf
def Tryz.keys_ren:Go.Shelf.Ren:=⟨fun | 7=>72 | 10=>106 | n=>n,fun | 23=>96 | 26=>2 | 3=>29 | 28=>99 | 0=>0 | 27=>98 | 33=>60 | 4=>4 | n=>n,fun | n=>n⟩
theorem Tryz.keys:Go.Proofs.SlLaysZI.n7 Tryz.prog Tryz.keys_ren:={
 mixed:=by kernel_rfl
 f7:=⟨Tryz.f72.name,by decide,Tryz.func72.trans (congrArg some (by kernel_rfl))⟩
 f10:=⟨Tryz.f106.name,by decide,Tryz.func106.trans (congrArg some (by kernel_rfl))⟩
 t0:=Tryz.underlying0
 a0:=Tryz.isAgg0
 z0:=Tryz.sizeOf0
 v0:=Tryz.zeroValue0
 t4:=Tryz.underlying4
 a4:=Tryz.isAgg4
 z4:=Tryz.sizeOf4
 v4:=Tryz.zeroValue4
 t23:=Tryz.underlying96
 a23:=Tryz.isAgg96
 z23:=Tryz.sizeOf96
 v23:=Tryz.zeroValue96
 t26:=Tryz.underlying2
 a26:=Tryz.isAgg2
 z26:=Tryz.sizeOf2
 v26:=Tryz.zeroValue2
 t27:=Tryz.underlying98
 a27:=Tryz.isAgg98
 z27:=Tryz.sizeOf98
 v27:=Tryz.zeroValue98
 t28:=Tryz.underlying99
 a28:=Tryz.isAgg99
 z28:=Tryz.sizeOf99
 v28:=Tryz.zeroValue99
 t33:=Tryz.underlying60
 a33:=Tryz.isAgg60
 z33:=Tryz.sizeOf60
 v33:=Tryz.zeroValue60 }
def Tryz.sorted_ren:Go.Shelf.Ren:=⟨fun | 6=>71 | 8=>104 | 9=>105 | 11=>127 | 13=>122 | 12=>128 | 23=>144 | 24=>145 | 14=>147 | 15=>148 | 16=>149 | 17=>150 | 18=>151 | 19=>152 | 20=>153 | 21=>154 | 22=>155 | 25=>167 | 26=>163 | 27=>164 | 28=>168 | 29=>169 | 30=>161 | 31=>172 | n=>n,fun | 26=>2 | 28=>99 | 24=>53 | 0=>0 | 3=>3 | 37=>122 | 48=>161 | 50=>81 | 4=>4 | 40=>154 | 39=>153 | 45=>158 | 5=>5 | 9=>9 | 51=>176 | 55=>180 | 57=>184 | 58=>185 | 33=>60 | n=>n,fun | n=>n⟩
theorem Tryz.sorted:Go.Proofs.SlLaysZI.n6 Tryz.prog Tryz.sorted_ren:={
 mixed:=by kernel_rfl
 f6:=⟨Tryz.f71.name,by decide,Tryz.func71.trans (congrArg some (by kernel_rfl))⟩
 f8:=⟨Tryz.f104.name,by decide,Tryz.func104.trans (congrArg some (by kernel_rfl))⟩
 f11:=⟨Tryz.f127.name,by decide,Tryz.func127.trans (congrArg some (by kernel_rfl))⟩
 t0:=Tryz.underlying0
 a0:=Tryz.isAgg0
 z0:=Tryz.sizeOf0
 v0:=Tryz.zeroValue0
 t24:=Tryz.underlying53
 a24:=Tryz.isAgg53
 z24:=Tryz.sizeOf53
 v24:=Tryz.zeroValue53
 t26:=Tryz.underlying2
 a26:=Tryz.isAgg2
 z26:=Tryz.sizeOf2
 v26:=Tryz.zeroValue2
 t28:=Tryz.underlying99
 a28:=Tryz.isAgg99
 z28:=Tryz.sizeOf99
 v28:=Tryz.zeroValue99
 i26:=by kernel_rfl }
def Tryz.sort_ren:Go.Shelf.Ren:=⟨fun | 5=>105 | 8=>122 | 7=>128 | 19=>144 | 20=>145 | 10=>147 | 11=>148 | 12=>149 | 13=>150 | 14=>151 | 15=>152 | 16=>153 | 17=>154 | 18=>155 | 30=>167 | 31=>163 | 32=>164 | 33=>168 | 34=>169 | 35=>161 | 40=>172 | n=>n,fun | 23=>53 | 25=>2 | 3=>3 | 32=>122 | 22=>53 | 0=>0 | 44=>161 | 46=>81 | 4=>4 | 36=>154 | 35=>153 | 41=>158 | 5=>5 | 9=>9 | 53=>176 | 57=>180 | 63=>184 | 64=>185 | n=>n,fun | n=>n⟩
theorem Tryz.sort:Go.Proofs.SlLaysM.n5 Tryz.prog Tryz.sort_ren:={
 mixed:=by kernel_rfl
 f5:=⟨Tryz.f105.name,by decide,Tryz.func105.trans (congrArg some (by kernel_rfl))⟩
 f7:=⟨Tryz.f128.name,by decide,Tryz.func128.trans (congrArg some (by kernel_rfl))⟩
 f8:=Tryz.func122.trans (congrArg some (by kernel_rfl))
 f10:=⟨Tryz.f147.name,by decide,Tryz.func147.trans (congrArg some (by kernel_rfl))⟩
 f11:=⟨Tryz.f148.name,by decide,Tryz.func148.trans (congrArg some (by kernel_rfl))⟩
 f12:=⟨Tryz.f149.name,by decide,Tryz.func149.trans (congrArg some (by kernel_rfl))⟩
 f13:=⟨Tryz.f150.name,by decide,Tryz.func150.trans (congrArg some (by kernel_rfl))⟩
 f14:=⟨Tryz.f151.name,by decide,Tryz.func151.trans (congrArg some (by kernel_rfl))⟩
 f15:=⟨Tryz.f152.name,by decide,Tryz.func152.trans (congrArg some (by kernel_rfl))⟩
 f16:=⟨Tryz.f153.name,by decide,Tryz.func153.trans (congrArg some (by kernel_rfl))⟩
 f17:=⟨Tryz.f154.name,by decide,Tryz.func154.trans (congrArg some (by kernel_rfl))⟩
 f18:=⟨Tryz.f155.name,by decide,Tryz.func155.trans (congrArg some (by kernel_rfl))⟩
 f19:=Tryz.func144.trans (congrArg some (by kernel_rfl))
 f20:=Tryz.func145.trans (congrArg some (by kernel_rfl))
 f30:=⟨Tryz.f167.name,by decide,Tryz.func167.trans (congrArg some (by kernel_rfl))⟩
 f31:=Tryz.func163.trans (congrArg some (by kernel_rfl))
 f32:=Tryz.func164.trans (congrArg some (by kernel_rfl))
 f33:=⟨Tryz.f168.name,by decide,Tryz.func168.trans (congrArg some (by kernel_rfl))⟩
 f34:=⟨Tryz.f169.name,by decide,Tryz.func169.trans (congrArg some (by kernel_rfl))⟩
 f35:=⟨Tryz.f161.name,by decide,Tryz.func161.trans (congrArg some (by kernel_rfl))⟩
 f40:=⟨Tryz.f172.name,by decide,Tryz.func172.trans (congrArg some (by kernel_rfl))⟩
 t0:=Tryz.underlying0
 a0:=Tryz.isAgg0
 z0:=Tryz.sizeOf0
 v0:=Tryz.zeroValue0
 t3:=Tryz.underlying3
 a3:=Tryz.isAgg3
 z3:=Tryz.sizeOf3
 v3:=Tryz.zeroValue3
 t4:=Tryz.underlying4
 a4:=Tryz.isAgg4
 z4:=Tryz.sizeOf4
 v4:=Tryz.zeroValue4
 t5:=Tryz.underlying5
 a5:=Tryz.isAgg5
 z5:=Tryz.sizeOf5
 v5:=Tryz.zeroValue5
 t9:=Tryz.underlying9
 a9:=Tryz.isAgg9
 z9:=Tryz.sizeOf9
 v9:=Tryz.zeroValue9
 t22:=Tryz.underlying53
 a22:=Tryz.isAgg53
 z22:=Tryz.sizeOf53
 v22:=Tryz.zeroValue53
 t23:=Tryz.underlying53
 a23:=Tryz.isAgg53
 z23:=Tryz.sizeOf53
 v23:=Tryz.zeroValue53
 t25:=Tryz.underlying2
 a25:=Tryz.isAgg2
 z25:=Tryz.sizeOf2
 v25:=Tryz.zeroValue2
 t32:=Tryz.underlying122
 a32:=Tryz.isAgg122
 z32:=Tryz.sizeOf122
 v32:=Tryz.zeroValue122
 t35:=Tryz.underlying153
 a35:=Tryz.isAgg153
 z35:=Tryz.sizeOf153
 v35:=Tryz.zeroValue153
 t36:=Tryz.underlying154
 a36:=Tryz.isAgg154
 z36:=Tryz.sizeOf154
 v36:=Tryz.zeroValue154
 t41:=Tryz.underlying158
 a41:=Tryz.isAgg158
 z41:=Tryz.sizeOf158
 v41:=Tryz.zeroValue158
 t44:=Tryz.underlying161
 a44:=Tryz.isAgg161
 z44:=Tryz.sizeOf161
 v44:=Tryz.zeroValue161
 t46:=Tryz.underlying81
 a46:=Tryz.isAgg81
 z46:=Tryz.sizeOf81
 v46:=Tryz.zeroValue81
 t53:=Tryz.underlying176
 a53:=Tryz.isAgg176
 z53:=Tryz.sizeOf176
 v53:=Tryz.zeroValue176
 t57:=Tryz.underlying180
 a57:=Tryz.isAgg180
 z57:=Tryz.sizeOf180
 v57:=Tryz.zeroValue180
 t63:=Tryz.underlying184
 a63:=Tryz.isAgg184
 z63:=Tryz.sizeOf184
 v63:=Tryz.zeroValue184
 t64:=Tryz.underlying185
 a64:=Tryz.isAgg185
 z64:=Tryz.sizeOf185
 v64:=Tryz.zeroValue185 }
end Go.Proofs
namespace Go.Proofs.YtbcpnejdbookkaaGreat.Print
open Go Go.RowKit Go.Maps Go.Sort Go.Shelf
theorem sortsK (m:Nat):AnyZI.SortsIn Tryz.prog Tryz.sorted_ren Fence.wide m :=
 ⟨fun blk off cap ss W hH hblk hsz=>callsIn_wide.2 (AnyM.slices_Sort_int Tryz.sort blk off cap ss W hH hblk hsz),
  fun p cap W=>callsIn_wide.2 (AnyM.slices_Sort_int_none Tryz.sort p cap W)⟩
theorem keys72 (mb:Option Nat) (W:World):Calls Tryz.prog 72 #[.map mb] W fun e w'=>e=.returned (.func (.func 106) #[] #[.pointer (some ⟨W.heap.size,0,none⟩)])∧w'=W.alloc (.cells #[.map mb] 96) :=
 (callsIn_wide (n:=5)).1 (AnyZI.keys_in Tryz.keys Fence.wide 5 trivial rfl mb W)
theorem sorted71 {H:Type} (b nn:Nat) (D0:DataW H) (R:Value→Option (DataW H×List MemPlace)) (w:World) (hown:w.ownsMap Tryz.prog 2 R b nn D0) (hmax:Maps.size D0≤maxLen) (hbytes:Maps.size D0 * 8≤140737488355328) :
 Calls Tryz.prog 71 #[.func (.func 106) #[] #[.pointer (some ⟨w.heap.size,0,none⟩)]] (w.alloc (.cells #[.map (some b)] 96)) fun e w'=>∃ (v:Value) (ss:List Int),e=.returned v∧ss.Perm (intKeys D0) ∧
  w'.ownsRow w.heap.size 2 1 v ss.length ((ss.mergeSort (fun x y=>decide (x≤y))).map encZ)∧(v=.slice none 0 0 ↔ ss=[])∧Below w.heap.size w w':=by
 refine (callsIn_wide (n:=5)).1 ?_
 have hbl:=hown.lt
 have hseq:SeqGives Fence.wide 2 Tryz.prog 106 #[.pointer (some ⟨w.heap.size,0,none⟩)] encZ (fun ss=>ss.Perm (intKeys D0)) (Maps.size D0) (w.alloc (.cells #[.map (some b)] 96)) :=
  AnyZI.keys_gives (ρ:=Tryz.keys_ren) { Tryz.keys with } Fence.wide _ trivial rfl (by omega) w.heap.size b nn D0 _ (by simp) (by simp) (by
   obtain ⟨es,clock,hb,Ft,hs,hD⟩:=hown
   exact ⟨es,clock,(Below.heap_alloc _ _ b hbl).trans hb,Ft,hs,hD⟩)
 have cS:=AnyZI.sorted_in Tryz.sorted Fence.wide 5 trivial trivial trivial trivial rfl (by omega) (sortsK _) (enters_of Tryz.func105 (by kernel_rfl) rfl) 106 #[.pointer (some ⟨w.heap.size,0,none⟩)] trivial (enters_of Tryz.func106 (by kernel_rfl) rfl) _ _ hmax hbytes _ hseq
 change CallsIn _ _ Tryz.prog 71 _ _ _ at cS
 refine cS.mono ?_
 rintro e w' ⟨v,ss,rfl,hS,hrow,hnil,hb⟩
 exact ⟨v,ss,rfl,hS,ownsRow_base_a hrow (by simp),hnil,((Below.refl _ w).alloc (Nat.le_refl _) _).trans (hb.mono (by simp))⟩
end Go.Proofs.YtbcpnejdbookkaaGreat.Print
namespace Go.Proofs.YtbcpnejdbookkaaGreat.Print
open Go.RowKit Go.Proofs.YtbcpnejdbookkaaGreatW.PrintWords Go.Proofs.YtbcpnejdbookkaaGreatW.PrintLast Go.Proofs.YtbcpnejdbookkaaGreatW.PrintMore
attribute [local go_sem] max2_int min2_int max_two min_two max_three min_three max_four min_four
def insV (v:Int):List Int→List Int
 | []=>[v]
 | y :: r=>if v < y then v :: y :: r else if v=y then y :: r else y :: insV v r
def vsOf (x:List S37):List Int:=x.foldl (fun l s=>insV s.f1 l) []
def spV (x:List S37) (v:Int):List S35:=(x.filter (fun s=>decide (s.f1=v))).map (fun s=>s.f0)
def okV (v:Int):Bool:=decide (-9223372036854775808≤v∧v≤9223372036854775807)
def mapalg_Group.f (k:Nat) (l:List S37):Option (List Int×List (List S35)) :=
 (mapalg_Merge.f k l).bind fun x=>if x.length < 1000000∧x.all (fun s=>okV s.f1)=true then some (vsOf x,(vsOf x).map (fun v=>listS (spV x v))) else none
theorem mapalg_Group.mono:∀ a0 k,LeO (mapalg_Group.f k a0) (mapalg_Group.f (k+1) a0):=by
 intro a0 k
 unfold mapalg_Group.f
 exact LeO.bind (mapalg_Merge.mono _ _) (fun x=>LeO.refl _)
theorem mem_insV (v a:Int):∀ l:List Int,a∈insV v l ↔ a=v∨a∈l
 | []=>by simp [insV]
 | y :: r=>by
  unfold insV
  split
  ·simp
  ·split
   ·rename_i h;subst h;simp
   ·rw [List.mem_cons,mem_insV v a r,List.mem_cons];exact ⟨fun h=>by rcases h with h | h | h;exact .inr (.inl h);exact .inl h;exact .inr (.inr h),fun h=>by rcases h with h | h | h;exact .inr (.inl h);exact .inl h;exact .inr (.inr h)⟩
theorem sorted_insV (v:Int):∀ l:List Int,l.Pairwise (· < ·)→(insV v l).Pairwise (· < ·)
 | [],_=>by simp [insV]
 | y :: r,h=>by
  rw [List.pairwise_cons] at h
  unfold insV
  split
  ·rename_i hv
   exact List.pairwise_cons.2 ⟨fun a ha=>by rcases List.mem_cons.1 ha with rfl | ha;exact hv;exact Int.lt_trans hv (h.1 a ha),List.pairwise_cons.2 h⟩
  ·split
   ·exact List.pairwise_cons.2 h
   ·exact List.pairwise_cons.2 ⟨fun a ha=>by rcases (mem_insV v a r).1 ha with rfl | ha;exact (by omega:y < a);exact h.1 a ha,sorted_insV v r h.2⟩
theorem fold_insV:∀ (x:List S37) (l:List Int),l.Pairwise (· < ·)→(x.foldl (fun l s=>insV s.f1 l) l).Pairwise (· < ·)∧∀ a,a∈x.foldl (fun l s=>insV s.f1 l) l ↔ a∈l∨a∈x.map (fun s=>s.f1)
 | [],l,h=>⟨h,fun a=>by simp⟩
 | s :: x,l,h=>by
  have ih:=fold_insV x (insV s.f1 l) (sorted_insV _ _ h)
  refine ⟨ih.1,fun a=>?_⟩
  rw [List.foldl_cons,ih.2 a,mem_insV,List.map_cons,List.mem_cons]
  constructor
  ·rintro ((h | h) | h);exact .inr (.inl h);exact .inl h;exact .inr (.inr h)
  ·rintro (h | h | h);exact .inl (.inr h);exact .inl (.inl h);exact .inr h
theorem vsOf_sorted (x:List S37):(vsOf x).Pairwise (· < ·):=(fold_insV x [] List.Pairwise.nil).1
theorem mem_vsOf (x:List S37) (a:Int):a∈vsOf x ↔ a∈x.map (fun s=>s.f1):=by
 have:=(fold_insV x [] List.Pairwise.nil).2 a
 simpa [vsOf] using this
theorem length_insV (v:Int):∀ l:List Int,(insV v l).length≤l.length+1
 | []=>by simp [insV]
 | y :: r=>by
  unfold insV
  split
  ·simp
  ·split
   ·simp
   ·have:=length_insV v r
    simp only [List.length_cons]
    omega
theorem vsOf_le (x:List S37):(vsOf x).length≤x.length:=by
 have h:∀ (x:List S37) (l:List Int),(x.foldl (fun l s=>insV s.f1 l) l).length≤l.length+x.length:=by
  intro x
  induction x with
  | nil=>intro l;simp
  | cons s x ih =>
   intro l
   have h1:=ih (insV s.f1 l)
   have h2:=length_insV s.f1 l
   simp only [List.foldl_cons,List.length_cons]
   omega
 have:=h x []
 simpa [vsOf] using this
theorem spV_snoc (x:List S37) (s:S37) (v:Int):spV (x ++ [s]) v=if s.f1=v then spV x v ++ [s.f0] else spV x v:=by
 unfold spV
 rw [List.filter_append,List.map_append]
 by_cases h:s.f1=v <;> simp [h]
theorem spV_le (x:List S37) (v:Int):(spV x v).length≤x.length:=by
 unfold spV
 rw [List.length_map]
 exact List.length_filter_le _ _
theorem okV_wf {v:Int} (h:okV v=true):(Lit.int .i64 v).wf=true:=by
 unfold okV at h
 have:=of_decide_eq_true h
 simp [Lit.wf,IntKind.min,IntKind.max,IntKind.signed,IntKind.bits]
 omega
def RH (v:Value):Option (DataW Value×List MemPlace):=some (.held v,[])
def GInv (W:World) (b n m base:Nat) (dn:List S37) (own:Nat→Option Int) (G:Int→Value) (D:DataW Value):Prop :=
 W.ownsMap Tryz.prog 2 RH b n D∧(∀ kx,okV kx=true→D.atKey (.int .i64 kx) (.held (.slice none 0 0))=.held (G kx)) ∧
 (∀ kx,okV kx=true→Kd.R k35 35 W base (fun q=>m≤q∧own q=some kx) (G kx) (spV dn kx))∧(∀ kl,Maps.has D kl=true ↔ ∃ s∈dn,kl=.int .i64 s.f1)∧(∃ es,D=.map es∧∀ p∈es,∃ x,p.1=.int .i64 x)
theorem GInv.start (W:World) (m base:Nat) (own:Nat→Option Int) (b:Nat) (h:W.ownsMap Tryz.prog 2 RH b 0 (.map [])):GInv W b 0 m base [] own (fun _=>.slice none 0 0) (.map []) :=
 ⟨h,fun _ _=>rfl,fun _ _=>Kd.R_nil _ _ _ _ _,fun kl=>by simp [Maps.has],[],rfl,fun p hp=>by cases hp⟩
theorem ownsMap_blk {W W':World} {b n:Nat} {D:DataW Value} (h:W.ownsMap Tryz.prog 2 RH b n D) (hb:W'.heap[b]? = W.heap[b]?):W'.ownsMap Tryz.prog 2 RH b n D:=by
 obtain ⟨es,clock,h1,h2,h3,h4⟩:=h
 exact ⟨es,clock,hb.trans h1,h2,h3,h4⟩
theorem GInv.move {W W':World} {b n m base:Nat} {dn:List S37} {own:Nat→Option Int} {G:Int→Value} {D:DataW Value} (h:GInv W b n m base dn own G D) (hb:W'.heap[b]? = W.heap[b]?) (hm:∀ q,m≤q→q < W.heap.size→W'.heap[q]? = W.heap[q]?):GInv W' b n m base dn own G D :=
 ⟨ownsMap_blk h.1 hb,h.2.1,fun kx hk=>Kd.R_step (h.2.2.1 kx hk) (fun q hq hl=>hm q hq.1 hl),h.2.2.2⟩
theorem GInv.look {W:World} {b n m base:Nat} {dn:List S37} {own:Nat→Option Int} {G:Int→Value} {D:DataW Value} (h:GInv W b n m base dn own G D) {kx:Int} (hk:okV kx=true) :
 (Instr.lookup 96 (.map (some b)) (.int .i64 kx) false).run Tryz.prog W=.ok (G kx) W:=by
 obtain ⟨v,ps,hr,hv⟩:=h.1.lookup (t:=96) (e:=29) (z:=.slice none 0 0) (zd:=.held (.slice none 0 0)) (zp:=[]) (Maps.int_keyed Tryz.underlying2) Tryz.underlying96 (Tryz.zeroValue29 W) rfl (Maps.keyOf_int_mk Tryz.underlying2 (okV_wf hk))
 rw [h.2.1 kx hk] at hv
 simp only [RH,Option.some.injEq,Prod.mk.injEq,DataW.held.injEq] at hv
 rw [hr,hv.1]
theorem mem_insert_dw (x p:Lit×DataW Value):∀ l:List (Lit×DataW Value),p∈DataW.insert x l→p=x∨p∈l
 | [],h=>by simpa [DataW.insert] using h
 | y :: r,h=>by
  unfold DataW.insert at h
  split at h
  ·simpa using h
  ·rcases List.mem_cons.1 h with rfl | h
   ·exact .inr (by simp)
   ·rcases mem_insert_dw x p r h with h | h
    ·exact .inl h
    ·exact .inr (by simp [h])
theorem GInv.step {W W1 W11:World} {b n m base:Nat} {dn:List S37} {own:Nat→Option Int} {G:Int→Value} {D:DataW Value} (h:GInv W b n m base dn own G D) (s:S37) (hv:okV s.f1=true) (own':Nat→Option Int) (v1:Value)
 (ho:∀ q,q < W.heap.size→own' q=own q) (hk:∀ q,q < W.heap.size→some q≠(G s.f1).ownBlock→W1.heap[q]? = W.heap[q]?)
 (hR:Kd.R k35 35 W1 base (fun q=>m≤q∧own' q=some s.f1) v1 (spV dn s.f1 ++ [s.f0])) (hu:W11.ownsMap Tryz.prog 2 RH b (n+1) (D.put (.int .i64 s.f1) (.held v1))) (hg:W1.grownBy W11 (some b)) (hbm:b < m) (hsz:W.heap.size≤W1.heap.size) :
 GInv W11 b (n+1) m base (dn ++ [s]) own' (fun kx=>if kx=s.f1 then v1 else G kx) (D.put (.int .i64 s.f1) (.held v1)):=by
 have him:=h.1.isMap
 refine ⟨hu,fun kx hkx=>?_,fun kx hkx=>?_,fun kl=>?_,?_⟩
 ·by_cases e:kx=s.f1
  ·subst e
   dsimp only
   rw [if_pos rfl]
   exact Maps.atKey_put_same (k:=.int .i64 s.f1) him trivial _ _
  ·dsimp only
   rw [if_neg e,Maps.atKey_put_other (fun h=>e (by simpa using h))]
   exact h.2.1 kx hkx
 ·have to11:∀ {v:Value} {xs:List S35},Kd.R k35 35 W1 base (fun q=>m≤q∧own' q=some kx) v xs→Kd.R k35 35 W11 base (fun q=>m≤q∧own' q=some kx) v xs:=fun hr=>Kd.R_step hr (fun q hq hl=>hg.block q hl (fun e=>by cases e;have:=hq.1;omega))
  by_cases e:kx=s.f1
  ·subst e
   dsimp only
   rw [if_pos rfl,spV_snoc,if_pos rfl]
   exact to11 hR
  ·dsimp only
   rw [if_neg e,spV_snoc,if_neg (Ne.symm e)]
   refine to11 ?_
   have h0:=h.2.2.1 kx hkx
   have hv0:=(h.2.2.1 s.f1 hv).1
   refine Kd.R_mono (Kd.R_step (Kd.R_bound h0) (fun q hq hl=>hk q hl (fun e'=>?_))) (fun q hq=>⟨hq.1.1,by rw [ho q hq.2.2.1];exact hq.1.2⟩)
   have h1:=(hv0 q e'.symm).2
   rw [hq.1.2] at h1
   exact e (Option.some.inj h1)
 ·by_cases e:kl=.int .i64 s.f1
  ·subst e
   rw [Maps.has_put_same (k:=.int .i64 s.f1) him trivial]
   exact ⟨fun _=>⟨s,by simp,rfl⟩,fun _=>rfl⟩
  ·rw [Maps.has_put_other e,h.2.2.2.1 kl]
   constructor
   ·rintro ⟨t,ht,rfl⟩;exact ⟨t,by simp [ht],rfl⟩
   ·rintro ⟨t,ht,rfl⟩
    rcases List.mem_append.1 ht with ht | ht
    ·exact ⟨t,ht,rfl⟩
    ·rw [List.mem_singleton] at ht;subst ht;exact absurd rfl e
 ·obtain ⟨es,rfl,he⟩:=h.2.2.2.2
  refine ⟨_,rfl,fun p hp=>?_⟩
  rcases mem_insert_dw _ _ _ hp with rfl | hp
  ·exact ⟨_,rfl⟩
  ·exact he p (List.mem_filter.1 hp).1
theorem GInv.keys {W:World} {b n m base:Nat} {dn:List S37} {own:Nat→Option Int} {G:Int→Value} {D:DataW Value} (h:GInv W b n m base dn own G D) {ss:List Int} (hp:ss.Perm (intKeys D)):ss.mergeSort (fun x y=>decide (x≤y))=vsOf dn:=by
 obtain ⟨es,rfl,ht⟩:=h.1.tidy (Maps.int_keyed Tryz.underlying2)
 have hk:∀ p∈es,∃ x,p.1=.int .i64 x:=by
  obtain ⟨es',e,he⟩:=h.2.2.2.2
  cases e
  exact he
 have hnd:(vsOf dn).Nodup:=(vsOf_sorted dn).imp (fun h=>Int.ne_of_lt h)
 have hq:(vsOf dn).Perm (intKeys (.map es)):=perm_intKeys ht hk hnd (fun x=>by
  rw [mem_vsOf,h.2.2.2.1,List.mem_map]
  exact ⟨fun ⟨s,hs,e⟩=>⟨s,hs,by rw [e]⟩,fun ⟨s,hs,e⟩=>⟨s,hs,by simpa using e.symm⟩⟩)
 have e1:=mergeSort_of_perm_i (hp.trans hq.symm)
 refine e1.trans (List.mergeSort_of_pairwise ?_)
 exact (vsOf_sorted dn).imp (fun h=>decide_eq_true (Int.le_of_lt h))
theorem group.walk (k:Nat) (l0 x:List S37) (A0:Option Addr) (c0:Nat) (w:World) (hr0:Kd.C k37 w A0 l0.length l0) (hc0:l0.length≤c0) (e1:mapalg_Merge.f k l0=some x) (hx:x.length < 1000000) (hok:x.all (fun s=>okV s.f1)=true) :
 Calls Tryz.prog 35 #[.slice A0 l0.length c0] w fun e w'=>∃ v0_ v1_:Value,e=.returned (.tuple #[v0_,v1_])∧Kd.R (Kd.int .i64) 2 w' w.heap.size (fun _=>True) v0_ (vsOf x)∧Kd.S (Kd.slice 35 k35) 29 w' w.heap.size (fun _=>True) v1_ ((vsOf x).map (fun v=>listS (spV x v)))∧Below w.heap.size w w':=by
 have hu37:=Tryz.underlying37;have hu35:=Tryz.underlying35
 have hmm:=@run_makeMap Tryz.prog
 have CM:Aside0 (∀ W,Below w.heap.size w W→Calls Tryz.prog 16 #[.slice A0 l0.length c0] W fun e w'=>∃ v0_:Value,e=.returned (v0_)∧Kd.R k37 37 w' W.heap.size (fun _=>True) v0_ x∧Below W.heap.size W w'):=⟨fun W hW=>mapalg_Merge.calls k A0 c0 l0 x W (Kd.C_below hr0 hW) hc0 e1⟩
 have HX:=am hx
 have HOK:=am (List.all_eq_true.1 hok)
 have Z1:Aside0 (0 < k35.sz):=⟨by decide⟩
 have Z2:Aside0 (0 < 32):=⟨by decide⟩
 have Z4:Aside0 ((Value.agg #[(.int .i64 0),(.int .i64 0),(.int .i64 0),(.int .i64 0)]).cells.size=k35.sz):=⟨by decide⟩
 clear hr0 hc0 e1 hx hok;go_enter Tryz.func35,Tryz.ntmps35
 have YA:=am (below_alloc (Below.refl w.heap.size w) (.map #[] 0))
 go_wp2_with (first | (go_at_call 16;(with_reducible refine (CM.out _ YA.out).mono ?_);rintro e w2 ⟨v2,rfl,ho,hb⟩;obtain ⟨A2,c2,rfl⟩:=Kd.R_slice ho;have HX2:=am ho;have HB2:=am hb;clear ho hb))
 clear hmm CM
 have YW:=am (below_step YA.out HB2.out)
 have OM:=am (ownsMap_blk (World.ownsMap_made w Tryz.prog 2 RH) (HB2.out.block w.heap.size (by simp)))
 have B2:Aside0 (w.heap.size < w2.heap.size):=⟨by have:=HB2.out.size;simp at this;omega⟩
 have XK:=am (Kd.C_kept_own (S:=fun q=>q=w.heap.size) (Kd.R_bound HX2.out) (fun q hq e=>by have:=hq.2.1;simp at this;omega))
 obtain ⟨n,hn⟩:∃ n,x.length=n:=⟨_,rfl⟩
 have HN:=am hn
 rw [hn]
 clear hn
 go_loopg [15] (n+1) (fun kq v15 w'=>∃ (j:Nat) (own:Nat→Option Int) (G:Int→Value) (D:DataW Value),v15=.int .i64 (j:Int)∧Aside0 (kq+j=n+1)∧Aside0 (j≤n)∧Aside0 (GInv w' w.heap.size j w2.heap.size w.heap.size (x.take j) own G D)∧Aside0 (Kept w2 w' (fun q=>q=w.heap.size))∧Aside0 (Below w.heap.size w w'))
 case atStart=>exact ⟨0,fun _=>none,_,_,rfl,⟨rfl⟩,⟨Nat.zero_le _⟩,⟨GInv.start w2 w2.heap.size w.heap.size (fun _=>none) w.heap.size OM.out⟩,⟨Kept.refl _ _⟩,YW⟩
 case round =>
  clear OM YW YA HB2 HX2
  obtain ⟨j,own,G,D,rfl,HQ,HJ,GI,K8,HB⟩:=hrel
  by_cases hj:j < n
  ·have p1:0≤(j:Int):=Int.natCast_nonneg j
   have q1:(j:Int) < (x.length:Int):=by rw [HN.out];omega
   have q2:(j:Int) < (n:Int):=by omega
   have bj:decide ((j:Int) < (n:Int))=true:=decide_eq_true q2
   have hjx:j < x.length:=by rw [HN.out];exact hj
   obtain ⟨ad,ea,hx0,hx1,hx2,hx3,hx4⟩:=at_T37 (XK.out wr K8.out) (j:Int) p1 q1;cases ea
   obtain ⟨⟨⟨⟨s1,s2⟩,⟨s3,s4⟩⟩,sv⟩,hs⟩:∃ s:S37,rd_T37 x (j:Int)=s:=⟨_,rfl⟩
   have hxj:x[j]=(⟨⟨⟨s1,s2⟩,⟨s3,s4⟩⟩,sv⟩:S37):=by rw [← hs];simp [rd_T37,hjx]
   rw [hs] at hx0 hx1 hx2 hx3 hx4
   simp only [Int.toNat_natCast] at hx0 hx1 hx2 hx3 hx4
   have hsv:okV sv=true:=by have:=HOK.out _ (List.getElem_mem hjx);rw [hxj] at this;exact this
   have HT:Aside0 (x.take (j+1)=x.take j ++ [(⟨⟨⟨s1,s2⟩,⟨s3,s4⟩⟩,sv⟩:S37)]):=⟨by rw [List.take_succ_eq_append_getElem hjx,hxj]⟩
   have HSV:=am hsv;clear hs hxj hsv;replace p1:=eq_true p1;replace q2:=eq_true q2
   go_upto_region 5 with fail
   have LB:Aside0 (w.heap.size < wr.heap.size):=⟨Nat.lt_of_lt_of_le B2.out K8.out.1⟩
   have BS:Aside0 ((wr.alloc (.cells #[.int .i64 s1,.int .i64 s2,.int .i64 s3,.int .i64 s4,.int .i64 sv] 37)).heap[wr.heap.size]? = some (.cells #[.int .i64 s1,.int .i64 s2,.int .i64 s3,.int .i64 s4,.int .i64 sv] 37 (0,0))):=⟨World.alloc_heap_new wr _⟩
   have YS:Below wr.heap.size wr (wr.alloc (.cells #[.int .i64 s1,.int .i64 s2,.int .i64 s3,.int .i64 s4,.int .i64 sv] 37)).drew:=below_drew1 (below_alloc (Below.refl _ _) _)
   have GS:=am (show (wr.alloc (.cells #[.int .i64 s1,.int .i64 s2,.int .i64 s3,.int .i64 s4,.int .i64 sv] 37)).drew.heap.size=wr.heap.size+1 by simp)
   have GI5:=am (GI.out.move (W':=(wr.alloc (.cells #[.int .i64 s1,.int .i64 s2,.int .i64 s3,.int .i64 s4,.int .i64 sv] 37)).drew) (YS.block _ LB.out) (fun q _ hl=>YS.block q hl))
   have HB5:=am (below_step HB.out YS)
   have KW5:Aside0 (∀ q,q < wr.heap.size→(wr.alloc (.cells #[.int .i64 s1,.int .i64 s2,.int .i64 s3,.int .i64 s4,.int .i64 sv] 37)).drew.heap[q]? = wr.heap[q]?):=⟨fun q hq=>YS.block q hq⟩
   clear YS hx0 hx1 hx2 hx3 hx4 p1 q1;generalize hws:wr.alloc (.cells #[.int .i64 s1,.int .i64 s2,.int .i64 s3,.int .i64 s4,.int .i64 sv] 37)=ws at *;clear hws
   obtain ⟨gs,hgs⟩:∃ g,wr.heap.size=g:=⟨_,rfl⟩
   rw [hgs] at BS
   rw [hgs]
   have HGS:=am hgs;clear hgs;have hlk:=GI5.out.look HSV.out;have hlk2:=(GI5.out.move (W':=(ws.alloc (.cells #[.int .i64 s1,.int .i64 s2,.int .i64 s3,.int .i64 s4] 35)).drew) (Below.heap_alloc ws _ _ GI5.out.1.lt) (fun q _ hl=>Below.heap_alloc ws _ _ hl)).look HSV.out;have HOv:=GI5.out.2.2.1 sv HSV.out
   obtain ⟨Ag,cg,hG⟩:=Kd.R_slice HOv
   rw [hG] at hlk hlk2 HOv
   have own1:=am (GI.out.2.2.1 sv HSV.out)
   obtain ⟨own',hown'⟩:∃ own':Nat→Option Int,own'=fun q=>if q < gs then own q else if q=gs then none else some sv:=⟨_,rfl⟩
   have OW1:Aside0 (∀ q,q < gs→own' q=own q):=⟨fun q hq=>by rw [hown'];simp [hq]⟩
   have OW2:Aside0 (own' gs=none):=⟨by rw [hown'];simp⟩
   have OW3:Aside0 (∀ q,gs < q→own' q=some sv):=⟨fun q hq=>by rw [hown'];simp [show ¬ q < gs by omega,show q≠gs by omega]⟩
   clear hown'
   have W2S:Aside0 (w2.heap.size≤gs):=⟨by rw [← HGS.out];exact K8.out.1⟩
   have HO5:Aside0 (Kd.R k35 35 ws.drew w.heap.size (fun q=>w2.heap.size≤q∧own' q=some sv) (.slice Ag (spV (x.take j) sv).length cg) (spV (x.take j) sv)):=⟨by
    have h1:=Kd.R_step (Kd.R_bound own1.out) (w1:=ws.drew) (fun q hq hl=>KW5.out q hl)
    rw [hG] at h1
    exact Kd.R_mono h1 (fun q hq=>⟨hq.1.1,by rw [OW1.out q (by rw [← HGS.out];exact hq.2.2.1)];exact hq.1.2⟩)⟩
   have FR5:Aside0 (∀ q,ws.drew.heap.size≤q→w2.heap.size≤q∧own' q=some sv):=⟨fun q hq=>by
    have h1:=GS.out;have h2:=W2S.out;have h3:=HGS.out
    exact ⟨by omega,OW3.out q (by omega)⟩⟩
   have LN5:Aside0 (((spV (x.take j) sv).length+1) * 32≤140737488355328):=⟨by have:=spV_le (x.take j) sv;have h2:=HX.out;rw [List.length_take] at this;omega⟩
   have AWG:Aside0 (some gs≠(Value.slice Ag (spV (x.take j) sv).length cg).ownBlock):=⟨Kd.R_away HO5.out (fun q hq e=>by rw [e,OW2.out] at hq;cases hq.2)⟩
   have AWB:Aside0 (some w.heap.size≠(Value.slice Ag (spV (x.take j) sv).length cg).ownBlock):=⟨Kd.R_away HO5.out (fun q hq e=>by have:=hq.1;have:=B2.out;omega)⟩
   have NGB:Aside0 (gs≠w.heap.size):=⟨by have:=W2S.out;have:=B2.out;omega⟩
   have HO5B:Aside0 (∀ q,(Value.slice Ag (spV (x.take j) sv).length cg).ownBlock=some q→w2.heap.size≤q):=⟨fun q hq=>(HO5.out.1 q hq).1⟩
   have HGv:=am hG
   have HNX:Aside0 (j < maxLen):=⟨by have:=HJ.out;have:=HN.out;have:=HX.out;simp only [maxLen];omega⟩
   have KG:∀ w':World,w'.heap[gs]? = some (.cells #[.int .i64 s1,.int .i64 s2,.int .i64 s3,.int .i64 s4,.int .i64 sv] 37 (0,0))→w'.cell? ⟨gs,0,none⟩=some (.int .i64 s1)∧w'.cell? ⟨gs,1,none⟩=some (.int .i64 s2)∧w'.cell? ⟨gs,2,none⟩=some (.int .i64 s3)∧w'.cell? ⟨gs,3,none⟩=some (.int .i64 s4)∧w'.cell? ⟨gs,4,none⟩=some (.int .i64 sv):=fun w' h=>⟨(blk_cell h 0).trans rfl,(blk_cell h 1).trans rfl,(blk_cell h 2).trans rfl,(blk_cell h 3).trans rfl,(blk_cell h 4).trans rfl⟩
   have KG':=am KG
   clear KG HOv hG
   have BSd:Aside0 (ws.drew.heap[gs]? = some (.cells #[.int .i64 s1,.int .i64 s2,.int .i64 s3,.int .i64 s4,.int .i64 sv] 37 (0,0))):=BS
   go_region_held3 (fun w'=>w'.cell? ⟨gs,0,none⟩=some (.int .i64 s1)∧w'.cell? ⟨gs,1,none⟩=some (.int .i64 s2)∧w'.cell? ⟨gs,2,none⟩=some (.int .i64 s3)∧w'.cell? ⟨gs,3,none⟩=some (.int .i64 s4)∧w'.cell? ⟨gs,4,none⟩=some (.int .i64 sv)) (first | exact KG'.out _ BSd.out | exact KG'.out _ (blk_alloc BSd.out _) | exact KG'.out _ B1.out | exact KG'.out _ B11.out)
    ((first | (refine Kd.R_append_step k35 (w0:=w) w.heap.size ?hw (.tmp 25) (.tmp 28) 29 35 (.agg #[(.int .i64 0),(.int .i64 0),(.int .i64 0),(.int .i64 0)]) 32 ?ho Tryz.underlying29 info35 Z4.out Z1.out Z2.out (.slice Ag (spV (x.take j) sv).length cg) (spV (x.take j) sv) (⟨⟨s1,s2⟩,⟨s3,s4⟩⟩:S35) [.int .i64 s1,.int .i64 s2,.int .i64 s3,.int .i64 s4] (fun q=>w2.heap.size≤q∧own' q=some sv) (fun _=>False) ?e1 ?e2 (k35_mkM _ _ _ (⟨⟨s1,s2⟩,⟨s3,s4⟩⟩:S35)) (fun _ hk=>hk.elim) FR5.out HO5.out HB5.out ?aS LN5.out ?_;(case hw=>rfl);(case ho=>rfl);(case e1=>rfl);(case e2=>rfl);(case aS=>exact below_size HB5.out);intro v1 w1 ho hb hgr hat;obtain ⟨A1,c1,rfl⟩:=Kd.R_slice ho;have HO1:=am ho;have HB1:=am hb;have HG1:=am hgr;have B1:=am (blk_grown BSd.out hgr AWG.out);obtain ⟨w11,hup,hown11,hg11⟩:=(ownsMap_blk GI5.out.1 (hgr.block _ GI5.out.1.lt AWB.out)).update (t:=96) (e:=29) (key:=.int .i64 sv) (val:=.slice A1 (spV (x.take j) sv ++ [(⟨⟨s1,s2⟩,⟨s3,s4⟩⟩:S35)]).length c1) (Maps.int_keyed Tryz.underlying2) Tryz.underlying96 HNX.out (Maps.keyOf_int_mk Tryz.underlying2 (okV_wf HSV.out)) rfl;simp only [List.length_append,List.length_cons,List.length_nil,Nat.zero_add] at hup;have HU:=am hown11;have HG11:=am hg11;have B11:=am (blk_grown B1.out hg11 (fun e=>NGB.out (Option.some.inj e)));clear ho hb hgr hat hown11 hg11)))
   all_goals
    clear hlk hlk2 OW2 OW3 HO5 FR5 LN5 AWB KG' BS BSd B1 B11 own1 hup
    have GN:=am (GInv.step GI.out (⟨⟨⟨s1,s2⟩,⟨s3,s4⟩⟩,sv⟩:S37) HSV.out own' (.slice A1 (spV (x.take j) sv ++ [(⟨⟨s1,s2⟩,⟨s3,s4⟩⟩:S35)]).length c1) (fun q hq=>OW1.out q (by rw [← HGS.out];exact hq)) (fun q hq hne=>(HG1.out.block q (by have:=GS.out;omega) (by rw [HGv.out] at hne;exact hne)).trans (KW5.out q hq)) HO1.out HU.out HG11.out B2.out (by have h1:=HG1.out.size;have h2:=GS.out;omega))
    have KN:=am (Kept.of_grown HG11.out (Kept.of_grown HG1.out (K8.out.then_ (S2:=fun _=>False) ⟨by have:=GS.out;omega,fun i hi _=>KW5.out i hi⟩ (fun _ h=>h.elim)) (fun q hq=>.inr (HO5B.out q hq))) (fun q hq=>.inl (Option.some.inj hq).symm))
    have HBN:=am (pw_below_grown HB1.out (some w.heap.size) HB1.out.size HG11.out (fun q hq=>Nat.le_of_eq (Option.some.inj hq)))
    clear GI K8 HB HB1 HG1 HU HG11 HO1 GI5 HB5 KW5 GS AWG HGv OW1
    obtain ⟨k1,rfl⟩:∃ k1,gk=k1+1:=⟨gk - 1,by have:=HQ.out;omega⟩
    have hw:wrap64 ((j:Int)+1)=((j+1:Nat):Int):=by
     have:=HN.out;have:=HX.out
     unfold wrap64;push_cast;omega
    go_wp2
    go_roundg k1
    case measure=>omega
    case rel=>exact ⟨j+1,own',_,_,by first | rfl | (rw [← hw];rfl) | (simp [hw];done),⟨by have:=HQ.out;omega⟩,⟨by omega⟩,⟨by rw [HT.out];exact GN.out⟩,KN,HBN⟩
  ·have bj:decide ((j:Int) < (n:Int))=false:=decide_eq_false (by omega)
   have hjn:j=n:=by have:=HJ.out;omega
   subst hjn
   have hfull:x.take j=x:=List.take_of_length_le (by rw [HN.out];exact Nat.le_refl _)
   have GI2:=GI.out
   rw [hfull] at GI2
   have GF:=am GI2
   have SZ:Aside0 (Maps.size D≤1000000):=⟨by have:=GI2.1.size_le;have:=HN.out;have:=HX.out;omega⟩
   have Y1:Aside0 (Maps.size D≤maxLen):=⟨by have:=SZ.out;simp only [maxLen];omega⟩
   have Y2:Aside0 (Maps.size D * 8≤140737488355328):=⟨by have:=SZ.out;omega⟩
   clear GI GI2 hfull XK
   go_wp2_with (first | (go_at_call 72;(with_reducible refine (keys72 (some w.heap.size) _).mono ?_);rintro e w3 ⟨rfl,rfl⟩;skip) | (go_at_call 71;fail))
   refine (sorted71 w.heap.size j D RH wr GF.out.1 Y1.out Y2.out).mono ?_
   rintro e w4 ⟨v4,ss,rfl,hp,hrow,hnil,hb⟩
   have hkeys:=GF.out.keys hp
   have el:ss.length=(vsOf x).length:=by rw [← hkeys,List.length_mergeSort]
   rw [hkeys,el] at hrow
   obtain ⟨A4,c4,rfl⟩:=own_slice hrow
   have HV:=am (Kd.R_of_own (enc:=Value.int .i64) (h1:=fun _=>rfl) (ok:=fun _=>True) (xs:=vsOf x) hrow (fun _ _=>trivial))
   have Y4:=am hb;clear hkeys el hrow hnil hb hp;go_wp2
   have GF4:=am (GF.out.move (Y4.out.block _ GF.out.1.lt) (fun q _ hl=>Y4.out.block q hl))
   have HB4:=am (below_step HB.out Y4.out)
   have VM:Aside0 ((vsOf x).length < 1000000):=⟨by have:=vsOf_le x;have:=HX.out;omega⟩
   have VO:Aside0 (∀ v∈vsOf x,okV v=true):=⟨fun v hv=>by obtain ⟨s,hs,rfl⟩:=List.mem_map.1 ((mem_vsOf x v).1 hv);exact HOK.out s hs⟩
   have HV4:=am (Kd.R_lower HV.out HB.out.size)
   clear GF HB HV Y4 K8 SZ Y1 Y2 bj hj HJ HQ B2
   obtain ⟨m,hm⟩:∃ m,(vsOf x).length=m:=⟨_,rfl⟩
   have HM:=am hm
   rw [hm]
   clear hm
   have i29:Aside0 ((Tryz.prog.info? 29).map (fun i=>(i.zero,i.size,i.bytes))=some (some (.slice none 0 0),1,24)):=⟨by kernel_rfl⟩
   go_loopg [8,36] (m+1) (fun kq v8 v36 w'=>∃ i:Nat,v36=.int .i64 (i:Int)∧Aside0 (kq+i=m+1)∧Aside0 (i≤m)∧Aside0 (Kd.S (Kd.slice 35 k35) 29 w' w.heap.size (fun q=>w4.heap.size≤q) v8 (((vsOf x).take i).map (fun v=>listS (spV x v))))∧Aside0 (Below w4.heap.size w4 w'))
   case atStart=>exact ⟨0,rfl,⟨rfl⟩,⟨Nat.zero_le _⟩,⟨Kd.S_nil _ _ _ _ _⟩,⟨Below.refl _ _⟩⟩
   case round =>
    obtain ⟨i,rfl,HQ,HJ,HO,YB⟩:=hrel
    by_cases hi:i < m
    ·have p1:0≤(i:Int):=Int.natCast_nonneg i
     have q2:(i:Int) < (m:Int):=by omega
     have q1:(i:Int) < ((vsOf x).length:Int):=by rw [HM.out];exact q2
     have bi:decide ((i:Int) < (m:Int))=true:=decide_eq_true q2
     have hil:i < (vsOf x).length:=by rw [HM.out];exact hi
     obtain ⟨g4,c4',hv4,_,hg4,_⟩:=Kd.R_form HV4.out (by omega)
     have e4:A4=some ⟨g4,0,none⟩:=by cases hv4;rfl
     subst e4
     have hc:=(Kd.R_cell (0:Int) HV4.out (i:Int) p1 q1).1
     have hrd:rdOf (0:Int) (vsOf x) (i:Int)=(vsOf x)[i]:=by simp [rdOf,hil]
     rw [hrd,Int.toNat_natCast] at hc
     replace hc:=cl YB hc
     obtain ⟨v,hv⟩:∃ v,(vsOf x)[i]=v:=⟨_,rfl⟩
     rw [hv] at hc
     have hvo:okV v=true:=by rw [← hv];exact VO.out _ (List.getElem_mem hil)
     have GW:=GF4.out.move (W':=wr) (YB.out.block _ GF4.out.1.lt) (fun q _ hl=>YB.out.block q hl)
     have hlk:=GW.look hvo
     have HOv:=GW.2.2.1 v hvo
     obtain ⟨Ag,cg,hG⟩:=Kd.R_slice HOv
     rw [hG] at hlk HOv
     have eS:span_List.f k (spV x v)=some (listS (spV x v)):=by
      unfold span_List.f
      rw [if_pos (by have:=spV_le x v;have:=HX.out;omega)]
     have CS:=am (span_List.calls k Ag cg (spV x v) (listS (spV x v)) wr (Kd.R_reads' HOv).2.2 (Kd.R_reads' HOv).2.1 eS)
     have HT:Aside0 (((vsOf x).take (i+1)).map (fun v=>listS (spV x v))=((vsOf x).take i).map (fun v=>listS (spV x v)) ++ [listS (spV x v)]):=⟨by rw [List.take_succ_eq_append_getElem hil,List.map_append,hv];rfl⟩
     obtain ⟨A8,c8,rfl⟩:=Kd.R_slice (Kd.S_R HO.out)
     have HOb:=am (Kd.S_bound HO.out)
     have HBW:=am (below_step HB4.out YB.out)
     have HLn:Aside0 ((((vsOf x).take i).map (fun v=>listS (spV x v))).length < 1000000):=⟨by rw [List.length_map,List.length_take];have:=VM.out;omega⟩
     clear hv hil hrd GW HOv hG eS hvo hv4 hg4 HO;replace p1:=eq_true p1;replace q2:=eq_true q2;generalize hys:((vsOf x).take i).map (fun v=>listS (spV x v))=ys at *;clear hys
     go_wp2_with (first | (go_at_call 69;(with_reducible refine CS.out.mono ?_);rintro e w5 ⟨v5,rfl,ho,hb⟩;obtain ⟨A5,c5,rfl⟩:=Kd.R_slice ho;have HR5:=am ho;have Y5:=am hb;clear ho hb) | ((with_reducible refine gate_builtin (b:=.append) (xs:=#[.tmp 40,.tmp 45]) rfl ?_);at_builtin;refine Kd.S_append (Kd.slice 35 k35) (w0:=w) w.heap.size rfl (.tmp 40) (.tmp 45) 54 29 (.slice none 0 0) 24 rfl Tryz.underlying54 i29.out rfl (by decide) (by omega) (.slice A8 ys.length c8) ys (listS (spV x v)) [.slice A5 (listS (spV x v)).length c5] (fun q=>w4.heap.size≤q) (fun q=>wr.heap.size≤q) rfl rfl ?aP ?aK ?aF ?aO ?aB ?aS ?aL ?_;(case aP=>exact ⟨_,rfl,Kd.R_lower (Kd.R_mono (Kd.R_bound HR5.out) (fun q hq=>hq.2.1)) (Nat.le_trans HB4.out.size YB.out.size)⟩);(case aK=>exact (fun q hq=>⟨Nat.le_trans YB.out.size hq,fun e=>by have:=((Kd.S_R HOb.out).1 q e.symm).2.2.1;omega⟩));(case aF=>exact (fun q hq=>Nat.le_trans YB.out.size (Nat.le_trans Y5.out.size hq)));(case aO=>exact Kd.S_mono (Kd.S_below HOb.out Y5.out) (fun q hq=>⟨hq.1,fun h=>by have:=hq.2.2.1;omega⟩));(case aB=>exact below_step HBW.out Y5.out);(case aS=>exact Nat.le_trans HBW.out.size Y5.out.size);(case aL=>have:=HLn.out;omega);intro v6 w6 ho hb hgr hat;have HO6:=am ho;have YB6:=am (pw_below_grown (below_step YB.out Y5.out) _ (Nat.le_trans YB.out.size Y5.out.size) hgr (fun q hq=>((Kd.S_R HOb.out).1 q hq).1));clear ho hb hgr hat))
     obtain ⟨k1,rfl⟩:∃ k1,gk=k1+1:=⟨gk - 1,by have:=HQ.out;omega⟩
     have hw:wrap64 ((i:Int)+1)=((i+1:Nat):Int):=by
      have:=HM.out;have:=VM.out
      unfold wrap64;push_cast;omega
     go_roundg k1
     case measure=>omega
     case rel=>exact ⟨i+1,by first | rfl | (rw [← hw];rfl) | (simp [hw];done),⟨by have:=HQ.out;omega⟩,⟨by omega⟩,⟨by rw [HT.out];exact HO6.out⟩,YB6⟩
    ·have bi:decide ((i:Int) < (m:Int))=false:=decide_eq_false (by omega)
     have him:i=m:=by have:=HJ.out;omega
     subst him
     have hfull:(vsOf x).take i=vsOf x:=List.take_of_length_le (by rw [HM.out];exact Nat.le_refl _)
     have HO2:=HO.out
     rw [hfull] at HO2
     have HV5:=HV4.out
     rw [HM.out] at HV5
     obtain ⟨A8,c8,hv8⟩:=Kd.R_slice (Kd.S_R HO2)
     go_wp2
     go_ret2
     exact ⟨_,_,rfl,Kd.R_below HV5 YB.out,Kd.S_mono HO2 (fun _ _=>trivial),below_step HB4.out YB.out⟩
theorem mapalg_Group.calls (k:Nat) (A0:Option Addr) (c0:Nat) (l0:List S37) (r0:List Int) (r1:List (List S35)) (w:World) (hr0:Kd.C k37 w A0 l0.length l0) (hc0:l0.length≤c0) (h:mapalg_Group.f k l0=some (r0,r1)) :
 Calls Tryz.prog 35 #[.slice A0 l0.length c0] w fun e w'=>∃ v0_ v1_:Value,e=.returned (.tuple #[v0_,v1_])∧Kd.R (Kd.int .i64) 2 w' w.heap.size (fun _=>True) v0_ r0∧Kd.S (Kd.slice 35 k35) 29 w' w.heap.size (fun _=>True) v1_ r1∧Below w.heap.size w w':=by
 obtain ⟨x,e1,h⟩:=Option.bind_eq_some_iff.1 h
 split at h
 case isFalse=>cases h
 rename_i hl
 cases h
 exact group.walk k l0 x A0 c0 w hr0 hc0 e1 hl.1 hl.2
end Go.Proofs.YtbcpnejdbookkaaGreat.Print
namespace Go.Proofs.YtbcpnejdbookkaaGreat.Print
open Go.RowKit Go.Proofs.YtbcpnejdbookkaaGreatW.PrintWords Go.Proofs.YtbcpnejdbookkaaGreatW.PrintLast Go.Proofs.YtbcpnejdbookkaaGreatW.PrintMore
attribute [local go_sem] max2_int min2_int max_two min_two max_three min_three max_four min_four   -- for this text's walks alone
theorem eqA37 (d:Nat) (w:World) (x0 y0:Int) (x1 y1:Int) (x2 y2:Int) (x3 y3:Int) (x4 y4:Int) :
 (Op.equalIn (d+4) 37 (.agg #[.int .i64 x0,.int .i64 x1,.int .i64 x2,.int .i64 x3,.int .i64 x4]) (.agg #[.int .i64 y0,.int .i64 y1,.int .i64 y2,.int .i64 y3,.int .i64 y4])).run Tryz.prog w=.ok (((x0 == y0 && (x1 == y1)) && ((x2 == y2 && (x3 == y3)))) && (x4 == y4)) w:=by
 refine eqA_of Tryz.underlying37 (by kernel_rfl) ?_
 refine eqf_cons (by rfl) (by go_simp) (by go_simp) (eqA35 (d+0) w _ _ _ _ _ _ _ _) ?_
 exact eqf_last (by rfl) (by go_simp;rfl) (by go_simp;rfl) (by go_simp)
end Go.Proofs.YtbcpnejdbookkaaGreat.Print
namespace Go.Proofs.YtbcpnejdbookkaaGreat.Print
open Go.RowKit Go.Proofs.YtbcpnejdbookkaaGreatW.PrintWords Go.Proofs.YtbcpnejdbookkaaGreatW.PrintLast Go.Proofs.YtbcpnejdbookkaaGreatW.PrintMore
attribute [local go_sem] max2_int min2_int max_two min_two max_three min_three max_four min_four   -- for this text's walks alone
attribute [local go_sem high] eqA37
def bocageref14_Same.l0:Nat→List (S37)→List (S37)→Int→Option (Bool)
 | 0,_,_,_=>none
 | k+1,x0,x1,x5=>if x5 < (x0.length:Int) then (if 0≤x5 then (if x5 < (x1.length:Int) then (if (((!(((rd_T37 x0 x5).f0.f0.f0) == ((rd_T37 x1 x5).f0.f0.f0)) || (!(((rd_T37 x0 x5).f0.f0.f1) == ((rd_T37 x1 x5).f0.f0.f1)))) || ((!(((rd_T37 x0 x5).f0.f1.f0) == ((rd_T37 x1 x5).f0.f1.f0)) || (!(((rd_T37 x0 x5).f0.f1.f1) == ((rd_T37 x1 x5).f0.f1.f1)))))) || (!(((rd_T37 x0 x5).f1) == ((rd_T37 x1 x5).f1))))=true then (some false) else (bocageref14_Same.l0 k x0 x1 (wrap64 (x5+1)))) else (none)) else (none)) else (some true)
def bocageref14_Same.f (k:Nat) (l0:List (S37)) (l1:List (S37)):Option (Bool):=if (l0.length:Int)=(l1.length:Int) then (bocageref14_Same.l0 k l0 l1 0) else (some false)
theorem bocageref14_Same.mono_l:∀ k,(∀ y0 y1 y2,LeO (bocageref14_Same.l0 k y0 y1 y2) (bocageref14_Same.l0 (k+1) y0 y1 y2))
 | 0=>fun _ _ _ r h=>by simp [bocageref14_Same.l0] at h
 | k+1=>by
  have ih0:=bocageref14_Same.mono_l k
  ·intro y0 y1 y2
   unfold bocageref14_Same.l0
   repeat' with_reducible first | apply ih0 | apply lr | apply ln | apply li | refine lb ?_ fun _=>?_
theorem bocageref14_Same.mono:∀ a0 a1 k,LeO (bocageref14_Same.f k a0 a1) (bocageref14_Same.f (k+1) a0 a1):=by
 intro a0 a1 k
 have ih0:=bocageref14_Same.mono_l k
 unfold bocageref14_Same.f
 repeat' with_reducible first | apply ih0 | apply lr | apply ln | apply li | refine lb ?_ fun _=>?_
theorem bocageref14_Same.calls (k:Nat) (A0:Option Addr) (c0:Nat) (l0:List (S37)) (A1:Option Addr) (c1:Nat) (l1:List (S37)) (r:Bool) (w:World) (hr0:Kd.C k37 w A0 l0.length l0) (hc0:l0.length≤c0) (hr1:Kd.C k37 w A1 l1.length l1) (hc1:l1.length≤c1) (h:bocageref14_Same.f k l0 l1=some r) :
 Calls Tryz.prog 14 #[.slice A0 l0.length c0,.slice A1 l1.length c1] w fun e w'=>e=.returned (.bool r)∧Drawn0 w w':=by
 have hu37:=Tryz.underlying37;have HR0:=am hr0;have HC0:=am hc0;clear hr0 hc0;have HR1:=am hr1;have HC1:=am hc1;clear hr1 hc1
 unfold bocageref14_Same.f at h;have H:=h;clear h
 by_cases c3:(l0.length:Int)=(l1.length:Int)
 ·rw [if_pos c3] at H
  have c3b0:((l0.length:Int) == (l1.length:Int))=true:=beq_iff_eq.mpr c3
  have c3b1:((l0.length:Int) != (l1.length:Int))=false:=bne_eq_false_iff_eq.mpr c3
  have c3b2:(l0.length == l1.length)=true:=by first | simpa using c3 | (simp at c3 ⊢;omega)
  clear c3;have H':=am H;clear H;go_enter Tryz.func14,Tryz.ntmps14;go_wp2
  repeat (go_quiet (fail);try go_wp2)
  go_loopg [5] k (fun kq v5 w'=>∃ (x5_1:Int),v5=.int .i64 x5_1∧Aside0 (bocageref14_Same.l0 kq l0 l1 x5_1=some r)∧Aside0 (kq≤k)∧Drawn0 w w')
  case atStart=>exact ⟨_,rs,H',⟨Nat.le_refl _⟩,dn⟩
  case round =>
   clear H'
   try clear c1
   try clear p2
   try clear c3
   try clear c3b0
   try clear c3b1
   try clear c3b2
   obtain ⟨x5_1,rfl,HA,HK1,⟨m1,rfl⟩⟩:=hrel
   cases gk with
   | zero=>exact absurd HA.out (by simp [bocageref14_Same.l0])
   | succ k1 =>
    have H:=HA.out;clear HA
    simp only [bocageref14_Same.l0] at H
    revert H;refine itc (fun c4b0 H=>?_) fun c4b0 H=>?_
    ·revert H;refine its fun c5b0 H=>?_
     revert H;refine its fun c6b0 H=>?_
     by_cases c7:(((!(((rd_T37 l0 x5_1).f0.f0.f0) == ((rd_T37 l1 x5_1).f0.f0.f0)) || (!(((rd_T37 l0 x5_1).f0.f0.f1) == ((rd_T37 l1 x5_1).f0.f0.f1)))) || ((!(((rd_T37 l0 x5_1).f0.f1.f0) == ((rd_T37 l1 x5_1).f0.f1.f0)) || (!(((rd_T37 l0 x5_1).f0.f1.f1) == ((rd_T37 l1 x5_1).f0.f1.f1)))))) || (!(((rd_T37 l0 x5_1).f1) == ((rd_T37 l1 x5_1).f1))))=true
     ·rw [if_pos c7] at H
      have c7b0:(((!(((rd_T37 l0 x5_1).f0.f0.f0) == ((rd_T37 l1 x5_1).f0.f0.f0)) || (!(((rd_T37 l0 x5_1).f0.f0.f1) == ((rd_T37 l1 x5_1).f0.f0.f1)))) || ((!(((rd_T37 l0 x5_1).f0.f1.f0) == ((rd_T37 l1 x5_1).f0.f1.f0)) || (!(((rd_T37 l0 x5_1).f0.f1.f1) == ((rd_T37 l1 x5_1).f0.f1.f1)))))) || (!(((rd_T37 l0 x5_1).f1) == ((rd_T37 l1 x5_1).f1))))=true:=c7
      clear c7;obtain rfl:=Option.some.inj H
      obtain ⟨ad168,e168,hx168_0,hx168_1,hx168_2,hx168_3,hx168_4,p168,q168⟩:=ay37 HR0.out x5_1
      cases e168
      obtain ⟨ad169,e169,hx169_0,hx169_1,hx169_2,hx169_3,hx169_4,p169,q169⟩:=ay37 HR1.out x5_1
      cases e169;go_wp2
      repeat (go_quiet (fail);try go_wp2)
      go_ret
      exact ⟨rs,dn⟩
     ·rw [if_neg c7] at H
      have c7b0:(((!(((rd_T37 l0 x5_1).f0.f0.f0) == ((rd_T37 l1 x5_1).f0.f0.f0)) || (!(((rd_T37 l0 x5_1).f0.f0.f1) == ((rd_T37 l1 x5_1).f0.f0.f1)))) || ((!(((rd_T37 l0 x5_1).f0.f1.f0) == ((rd_T37 l1 x5_1).f0.f1.f0)) || (!(((rd_T37 l0 x5_1).f0.f1.f1) == ((rd_T37 l1 x5_1).f0.f1.f1)))))) || (!(((rd_T37 l0 x5_1).f1) == ((rd_T37 l1 x5_1).f1))))=false:=by simpa using c7
      clear c7;have H':=am H;clear H
      obtain ⟨ad168,e168,hx168_0,hx168_1,hx168_2,hx168_3,hx168_4,p168,q168⟩:=ay37 HR0.out x5_1
      cases e168
      obtain ⟨ad169,e169,hx169_0,hx169_1,hx169_2,hx169_3,hx169_4,p169,q169⟩:=ay37 HR1.out x5_1
      cases e169;go_wp2
      repeat (go_quiet (fail);try go_wp2)
      go_roundg k1
      case measure=>have:=HK1.out;omega
      case rel=>exact ⟨_,rs,H',kl HK1,dn⟩
    ·obtain rfl:=Option.some.inj H;go_wp2
     repeat (go_quiet (fail);try go_wp2)
     go_ret
     exact ⟨rs,dn⟩
 ·rw [if_neg c3] at H
  have c3b0:((l0.length:Int) == (l1.length:Int))=false:=beq_eq_false_iff_ne.mpr c3
  have c3b1:((l0.length:Int) != (l1.length:Int))=true:=bne_iff_ne.mpr c3
  have c3b2:(l0.length == l1.length)=false:=by first | simpa using c3 | (simp at c3 ⊢;omega)
  obtain rfl:=Option.some.inj H;go_enter Tryz.func14,Tryz.ntmps14;go_wp2
  repeat (go_quiet (fail);try go_wp2)
  go_ret
  exact ⟨rs,dn⟩
end Go.Proofs.YtbcpnejdbookkaaGreat.Print
