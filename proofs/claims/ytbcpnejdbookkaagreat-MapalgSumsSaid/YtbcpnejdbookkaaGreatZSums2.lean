-- The texts of this repo that the claim reaches, in one (wip/print/bundle.py): only what is reached; not trusted: Lean checks it.
import Derived.Test.YtbcpnejdbookkaaGreatZSums1
import Derived.Shelf.SlSortCmp.WholeK
import Derived.Shelf.SlGeneric
import Derived.Laws.CopyRow
import Derived.Laws.CopyOwn
import Derived.Lib.SlBuf
set_option maxHeartbeats 8000000
set_option maxRecDepth 100000
set_option linter.unusedVariables false
set_option linter.unusedSimpArgs false
namespace Go.Proofs
open Go.Shelf
def Tryz.sortSpan_ren:Go.Shelf.Ren:=⟨fun | 6=>100 | 15=>122 | 14=>121 | 28=>144 | 29=>145 | 20=>136 | 21=>137 | 22=>138 | 23=>139 | 24=>140 | 25=>141 | 26=>142 | 27=>143 | 46=>162 | 47=>163 | 48=>164 | 49=>165 | 50=>166 | 57=>171 | n=>n,fun | 22=>29 | 24=>35 | 25=>130 | 3=>3 | 39=>122 | 0=>0 | 53=>161 | 55=>81 | 4=>4 | 46=>154 | 45=>153 | 50=>158 | 5=>5 | 9=>9 | 66=>176 | 70=>180 | 76=>184 | 77=>185 | n=>n,fun | n=>n⟩
theorem Tryz.sortSpan:Go.Proofs.SlLaysF0.n6 Tryz.prog Tryz.sortSpan_ren:={
 mixed:=by kernel_rfl
 f6:=⟨Tryz.f100.name,by decide,Tryz.func100.trans (congrArg some (by kernel_rfl))⟩
 f14:=⟨Tryz.f121.name,by decide,Tryz.func121.trans (congrArg some (by kernel_rfl))⟩
 f15:=Tryz.func122.trans (congrArg some (by kernel_rfl))
 f20:=⟨Tryz.f136.name,by decide,Tryz.func136.trans (congrArg some (by kernel_rfl))⟩
 f21:=⟨Tryz.f137.name,by decide,Tryz.func137.trans (congrArg some (by kernel_rfl))⟩
 f22:=⟨Tryz.f138.name,by decide,Tryz.func138.trans (congrArg some (by kernel_rfl))⟩
 f23:=⟨Tryz.f139.name,by decide,Tryz.func139.trans (congrArg some (by kernel_rfl))⟩
 f24:=⟨Tryz.f140.name,by decide,Tryz.func140.trans (congrArg some (by kernel_rfl))⟩
 f25:=⟨Tryz.f141.name,by decide,Tryz.func141.trans (congrArg some (by kernel_rfl))⟩
 f26:=⟨Tryz.f142.name,by decide,Tryz.func142.trans (congrArg some (by kernel_rfl))⟩
 f27:=⟨Tryz.f143.name,by decide,Tryz.func143.trans (congrArg some (by kernel_rfl))⟩
 f28:=Tryz.func144.trans (congrArg some (by kernel_rfl))
 f29:=Tryz.func145.trans (congrArg some (by kernel_rfl))
 f46:=⟨Tryz.f162.name,by decide,Tryz.func162.trans (congrArg some (by kernel_rfl))⟩
 f47:=Tryz.func163.trans (congrArg some (by kernel_rfl))
 f48:=Tryz.func164.trans (congrArg some (by kernel_rfl))
 f49:=⟨Tryz.f165.name,by decide,Tryz.func165.trans (congrArg some (by kernel_rfl))⟩
 f50:=⟨Tryz.f166.name,by decide,Tryz.func166.trans (congrArg some (by kernel_rfl))⟩
 f57:=⟨Tryz.f171.name,by decide,Tryz.func171.trans (congrArg some (by kernel_rfl))⟩
 t0:=Tryz.underlying0
 a0:=Tryz.isAgg0
 z0:=Tryz.sizeOf0
 v0:=Tryz.zeroValue0
 t3:=Tryz.underlying3
 a3:=Tryz.isAgg3
 z3:=Tryz.sizeOf3
 v3:=Tryz.zeroValue3
 t4:=Tryz.underlying4
 a4:=Tryz.isAgg4
 z4:=Tryz.sizeOf4
 v4:=Tryz.zeroValue4
 t5:=Tryz.underlying5
 a5:=Tryz.isAgg5
 z5:=Tryz.sizeOf5
 v5:=Tryz.zeroValue5
 t9:=Tryz.underlying9
 a9:=Tryz.isAgg9
 z9:=Tryz.sizeOf9
 v9:=Tryz.zeroValue9
 t22:=Tryz.underlying29
 a22:=Tryz.isAgg29
 z22:=Tryz.sizeOf29
 v22:=Tryz.zeroValue29
 t25:=Tryz.underlying130
 a25:=Tryz.isAgg130
 z25:=Tryz.sizeOf130
 v25:=Tryz.zeroValue130
 t39:=Tryz.underlying122
 a39:=Tryz.isAgg122
 z39:=Tryz.sizeOf122
 v39:=Tryz.zeroValue122
 t45:=Tryz.underlying153
 a45:=Tryz.isAgg153
 z45:=Tryz.sizeOf153
 v45:=Tryz.zeroValue153
 t46:=Tryz.underlying154
 a46:=Tryz.isAgg154
 z46:=Tryz.sizeOf154
 v46:=Tryz.zeroValue154
 t50:=Tryz.underlying158
 a50:=Tryz.isAgg158
 z50:=Tryz.sizeOf158
 v50:=Tryz.zeroValue158
 t53:=Tryz.underlying161
 a53:=Tryz.isAgg161
 z53:=Tryz.sizeOf161
 v53:=Tryz.zeroValue161
 t55:=Tryz.underlying81
 a55:=Tryz.isAgg81
 z55:=Tryz.sizeOf81
 v55:=Tryz.zeroValue81
 t66:=Tryz.underlying176
 a66:=Tryz.isAgg176
 z66:=Tryz.sizeOf176
 v66:=Tryz.zeroValue176
 t70:=Tryz.underlying180
 a70:=Tryz.isAgg180
 z70:=Tryz.sizeOf180
 v70:=Tryz.zeroValue180
 t76:=Tryz.underlying184
 a76:=Tryz.isAgg184
 z76:=Tryz.sizeOf184
 v76:=Tryz.zeroValue184
 t77:=Tryz.underlying185
 a77:=Tryz.isAgg185
 z77:=Tryz.sizeOf185
 v77:=Tryz.zeroValue185 }
def Tryz.sortCut_ren:Go.Shelf.Ren:=⟨fun | 6=>173 | 15=>122 | 14=>175 | 28=>144 | 29=>145 | 20=>176 | 21=>177 | 22=>178 | 23=>179 | 24=>180 | 25=>181 | 26=>182 | 27=>183 | 46=>184 | 47=>163 | 48=>164 | 49=>185 | 50=>186 | 57=>187 | n=>n,fun | 22=>71 | 24=>33 | 25=>135 | 3=>3 | 39=>122 | 0=>0 | 53=>161 | 55=>81 | 4=>4 | 46=>154 | 45=>153 | 50=>158 | 5=>5 | 9=>9 | 66=>176 | 70=>180 | 76=>184 | 77=>185 | n=>n,fun | n=>n⟩
theorem Tryz.sortCut:Go.Proofs.SlLaysF0.n6 Tryz.prog Tryz.sortCut_ren:={
 mixed:=by kernel_rfl
 f6:=⟨Tryz.f173.name,by decide,Tryz.func173.trans (congrArg some (by kernel_rfl))⟩
 f14:=⟨Tryz.f175.name,by decide,Tryz.func175.trans (congrArg some (by kernel_rfl))⟩
 f15:=Tryz.func122.trans (congrArg some (by kernel_rfl))
 f20:=⟨Tryz.f176.name,by decide,Tryz.func176.trans (congrArg some (by kernel_rfl))⟩
 f21:=⟨Tryz.f177.name,by decide,Tryz.func177.trans (congrArg some (by kernel_rfl))⟩
 f22:=⟨Tryz.f178.name,by decide,Tryz.func178.trans (congrArg some (by kernel_rfl))⟩
 f23:=⟨Tryz.f179.name,by decide,Tryz.func179.trans (congrArg some (by kernel_rfl))⟩
 f24:=⟨Tryz.f180.name,by decide,Tryz.func180.trans (congrArg some (by kernel_rfl))⟩
 f25:=⟨Tryz.f181.name,by decide,Tryz.func181.trans (congrArg some (by kernel_rfl))⟩
 f26:=⟨Tryz.f182.name,by decide,Tryz.func182.trans (congrArg some (by kernel_rfl))⟩
 f27:=⟨Tryz.f183.name,by decide,Tryz.func183.trans (congrArg some (by kernel_rfl))⟩
 f28:=Tryz.func144.trans (congrArg some (by kernel_rfl))
 f29:=Tryz.func145.trans (congrArg some (by kernel_rfl))
 f46:=⟨Tryz.f184.name,by decide,Tryz.func184.trans (congrArg some (by kernel_rfl))⟩
 f47:=Tryz.func163.trans (congrArg some (by kernel_rfl))
 f48:=Tryz.func164.trans (congrArg some (by kernel_rfl))
 f49:=⟨Tryz.f185.name,by decide,Tryz.func185.trans (congrArg some (by kernel_rfl))⟩
 f50:=⟨Tryz.f186.name,by decide,Tryz.func186.trans (congrArg some (by kernel_rfl))⟩
 f57:=⟨Tryz.f187.name,by decide,Tryz.func187.trans (congrArg some (by kernel_rfl))⟩
 t0:=Tryz.underlying0
 a0:=Tryz.isAgg0
 z0:=Tryz.sizeOf0
 v0:=Tryz.zeroValue0
 t3:=Tryz.underlying3
 a3:=Tryz.isAgg3
 z3:=Tryz.sizeOf3
 v3:=Tryz.zeroValue3
 t4:=Tryz.underlying4
 a4:=Tryz.isAgg4
 z4:=Tryz.sizeOf4
 v4:=Tryz.zeroValue4
 t5:=Tryz.underlying5
 a5:=Tryz.isAgg5
 z5:=Tryz.sizeOf5
 v5:=Tryz.zeroValue5
 t9:=Tryz.underlying9
 a9:=Tryz.isAgg9
 z9:=Tryz.sizeOf9
 v9:=Tryz.zeroValue9
 t22:=Tryz.underlying71
 a22:=Tryz.isAgg71
 z22:=Tryz.sizeOf71
 v22:=Tryz.zeroValue71
 t25:=Tryz.underlying135
 a25:=Tryz.isAgg135
 z25:=Tryz.sizeOf135
 v25:=Tryz.zeroValue135
 t39:=Tryz.underlying122
 a39:=Tryz.isAgg122
 z39:=Tryz.sizeOf122
 v39:=Tryz.zeroValue122
 t45:=Tryz.underlying153
 a45:=Tryz.isAgg153
 z45:=Tryz.sizeOf153
 v45:=Tryz.zeroValue153
 t46:=Tryz.underlying154
 a46:=Tryz.isAgg154
 z46:=Tryz.sizeOf154
 v46:=Tryz.zeroValue154
 t50:=Tryz.underlying158
 a50:=Tryz.isAgg158
 z50:=Tryz.sizeOf158
 v50:=Tryz.zeroValue158
 t53:=Tryz.underlying161
 a53:=Tryz.isAgg161
 z53:=Tryz.sizeOf161
 v53:=Tryz.zeroValue161
 t55:=Tryz.underlying81
 a55:=Tryz.isAgg81
 z55:=Tryz.sizeOf81
 v55:=Tryz.zeroValue81
 t66:=Tryz.underlying176
 a66:=Tryz.isAgg176
 z66:=Tryz.sizeOf176
 v66:=Tryz.zeroValue176
 t70:=Tryz.underlying180
 a70:=Tryz.isAgg180
 z70:=Tryz.sizeOf180
 v70:=Tryz.zeroValue180
 t76:=Tryz.underlying184
 a76:=Tryz.isAgg184
 z76:=Tryz.sizeOf184
 v76:=Tryz.zeroValue184
 t77:=Tryz.underlying185
 a77:=Tryz.isAgg185
 z77:=Tryz.sizeOf185
 v77:=Tryz.zeroValue185 }
end Go.Proofs
namespace Go.Proofs.YtbcpnejdbookkaaGreat.PrintG
open Go.RowKit hiding Below
open Go.Shelf Go.Lib Go.Sort Go.Proofs.YtbcpnejdbookkaaGreat.Print Go.Proofs.YtbcpnejdbookkaaGreatW.PrintWords
theorem below_grow {w w':World} (h:PrintG.Below w.heap.size w w'):∃ (q:Nat) (os:Array Obj),w'=grow (w.drewN q) os:=by
 refine ⟨w'.drawn - w.drawn,w'.heap.extract w.heap.size w'.heap.size,?_⟩
 have hd:w.drawn+(w'.drawn - w.drawn)=w'.drawn:=by have:=h.d;omega
 have hh:w'.heap=w.heap ++ w'.heap.extract w.heap.size w'.heap.size:=by
  apply Array.ext_getElem?
  intro i
  have hs:=h.size
  by_cases hi:i < w.heap.size
  ·rw [Array.getElem?_append_left hi,h.b.block i hi]
  ·rw [Array.getElem?_append_right (by omega),Array.getElem?_extract]
   by_cases h2:i < w'.heap.size
   ·rw [if_pos (by omega),show w.heap.size+(i - w.heap.size)=i by omega]
   ·rw [if_neg (by omega),Array.getElem?_eq_none (by omega)]
 have h1:=h.b.os
 have h2:=h.b.tape
 have h3:=h.b.output
 cases w with
 | mk heap tape drawn os output =>
  cases w' with
  | mk heap' tape' drawn' os' output' =>
   simp only [grow,World.drewN] at *
   subst h1 h2 h3
   simp only [World.mk.injEq,true_and,and_true]
   exact ⟨hh,hd.symm⟩
instance:Inhabited S35:=⟨z35⟩
def enc35 (x:S35):List Value:=[.int .i64 x.f0.f0,.int .i64 x.f0.f1,.int .i64 x.f1.f0,.int .i64 x.f1.f1]
def cf35 (x y:S35):Int:=if cmp2 (canon x.f0.f0 x.f0.f1) (canon y.f0.f0 y.f0.f1)=0 then cmp2 (canon x.f1.f0 x.f1.f1) (canon y.f1.f0 y.f1.f1) else cmp2 (canon x.f0.f0 x.f0.f1) (canon y.f0.f0 y.f0.f1)
theorem span_Compare.eq (x y:S35) (k:Nat) (hk:3≤k):span_Compare.f k x.f0.f0 x.f0.f1 x.f1.f0 x.f1.f1 y.f0.f0 y.f0.f1 y.f1.f0 y.f1.f1=some (cf35 x y):=by
 unfold span_Compare.f cf35
 rw [cut_Compare.eq _ _ _ _ k hk,Option.bind_some,cut_Compare.eq _ _ _ _ k hk,Option.bind_some,cmp_Or_int.eq _ _ k hk]
 rfl
theorem cmpLays35 (blk off size:Nat) (w:World):CmpLays Tryz.prog 101 #[] enc35 4 cf35 blk off size w :=
 fun m os dk _ x y=>(span_Compare.calls 10 x.f0.f0 x.f0.f1 x.f1.f0 x.f1.f1 y.f0.f0 y.f0.f1 y.f1.f0 y.f1.f1 (cf35 x y) _ (span_Compare.eq x y 10 (by omega))).mono fun _ _ ⟨he,hb⟩=>⟨he,below_grow hb⟩
theorem cf35_lt (x y:S35):ltOf cf35 x y=true ↔
 ((canon x.f0.f0 x.f0.f1).1 < (canon y.f0.f0 y.f0.f1).1∨((canon x.f0.f0 x.f0.f1).1=(canon y.f0.f0 y.f0.f1).1∧(canon x.f0.f0 x.f0.f1).2 < (canon y.f0.f0 y.f0.f1).2)) ∨
 (canon x.f0.f0 x.f0.f1=canon y.f0.f0 y.f0.f1∧((canon x.f1.f0 x.f1.f1).1 < (canon y.f1.f0 y.f1.f1).1∨((canon x.f1.f0 x.f1.f1).1=(canon y.f1.f0 y.f1.f1).1∧(canon x.f1.f0 x.f1.f1).2 < (canon y.f1.f0 y.f1.f1).2))):=by
 unfold ltOf cf35
 rw [decide_eq_true_eq]
 have h1:=cmp2_cases (canon x.f0.f0 x.f0.f1) (canon y.f0.f0 y.f0.f1)
 have h2:=cmp2_cases (canon x.f1.f0 x.f1.f1) (canon y.f1.f0 y.f1.f1)
 generalize canon x.f0.f0 x.f0.f1=p at *;generalize canon y.f0.f0 y.f0.f1=q at *;generalize canon x.f1.f0 x.f1.f1=p' at *;generalize canon y.f1.f0 y.f1.f1=q' at *
 obtain ⟨p1,p2⟩:=p
 obtain ⟨q1,q2⟩:=q
 simp only [Prod.mk.injEq] at *
 rcases h1 with ⟨e1,g1⟩ | ⟨e1,g1⟩ | ⟨e1,g1⟩
 ·rw [e1,if_neg (by decide)];constructor
  ·intro _;exact .inl g1
  ·intro _;decide
 ·rw [e1,if_neg (by decide)];constructor
  ·intro h;exact absurd h (by decide)
  ·intro h;omega
 ·rw [if_pos e1]
  obtain ⟨p1',p2'⟩:=p'
  obtain ⟨q1',q2'⟩:=q'
  simp only [Prod.mk.injEq] at *
  rcases h2 with ⟨e2,g2⟩ | ⟨e2,g2⟩ | ⟨e2,g2⟩
  ·rw [e2];constructor
   ·intro _;exact .inr ⟨g1,g2⟩
   ·intro _;decide
  ·rw [e2];constructor
   ·intro h;exact absurd h (by decide)
   ·intro h;omega
  ·rw [e2];constructor
   ·intro h;exact absurd h (by decide)
   ·intro h;omega
theorem swo35:SWO (ltOf cf35) where
 irrefl x:=by
  rw [Bool.eq_false_iff];intro h;rw [cf35_lt] at h;omega
 trans x y z h1 h2:=by
  rw [cf35_lt] at h1 h2 ⊢
  simp only [Prod.ext_iff] at *
  omega
 ntrans x y z h1 h2:=by
  rw [Bool.eq_false_iff,Ne,cf35_lt] at h1 h2 ⊢
  simp only [Prod.ext_iff] at *
  omega
theorem flat_get (l:List S35):∀ j,j < l.length * 4→(l.flatMap enc35)[j]? = some ((enc35 (l.toArray[j / 4]!))[j % 4]!):=by
 induction l with
 | nil=>intro j hj;simp at hj
 | cons x l ih =>
  intro j hj
  rw [List.flatMap_cons]
  by_cases h:j < 4
  ·rw [List.getElem?_append_left (by simpa [enc35] using h)]
   have:j / 4=0:=by omega
   rw [this]
   obtain rfl | rfl | rfl | rfl:j=0∨j=1∨j=2∨j=3:=by omega
   all_goals rfl
  ·rw [List.getElem?_append_right (by simp [enc35];omega)]
   have hl:(enc35 x).length=4:=rfl
   rw [hl,ih (j - 4) (by simp at hj;omega)]
   have e1:j / 4=(j - 4) / 4+1:=by omega
   have e2:(j - 4) % 4=j % 4:=by omega
   rw [e1,e2]
   have hj4:(j - 4) / 4 < l.length:=by simp at hj;omega
   rw [getElem!_pos (x :: l).toArray _ (by simpa using hj4),getElem!_pos l.toArray _ (by simpa using hj4)]
   simp
theorem sort35 (l:List S35) (blk c:Nat) (cs:Array Value) (t:Nat) (W:World) (hb:W.heap[blk]? = some (.cells cs t (0,0))) (hcs:cs.toList=l.flatMap enc35) (hn:l.length < 281474976710656) :
 Calls Tryz.prog 100 #[.slice (some ⟨blk,0,none⟩) l.length c,.func (.func 101) #[] #[]] W fun e w'=>e=.returned (.tuple #[])∧∃ d:List S35,d.Perm l∧d.Pairwise (fun x y=>ltOf cf35 y x=false)∧Kd.C k35 w' (some ⟨blk,0,none⟩) d.length d∧Go.RowKit.Below blk W w':=by
 have eg:∀ args w,(callFunc 101 args).run Tryz.prog w=.ok (.enter 101 args) w:=enters_of Tryz.func101 (by kernel_rfl) rfl
 have hsize:(flatK enc35 4 l.toArray).size=l.length * 4:=by simp
 have hH:HoldsK enc35 4 W blk 0 l.toArray:=by
  intro j hj
  rw [hsize] at hj
  constructor
  ·rw [Nat.zero_add]
   refine (blk_cell hb j).trans ?_
   rw [get_flatK enc35 4 l.toArray j (by simpa using hj)]
   have h0:=flat_get l j hj
   rw [← hcs] at h0
   simpa using h0
  ·rw [Nat.zero_add];exact blk_frozen hb j
 have hcon:=AnyQ.slices_SortFunc Tryz.sortSpan 4 Tryz.isAgg35 Tryz.sizeOf35 enc35 (fun _=>rfl) (fun x v hv=>by simp [enc35] at hv;rcases hv with rfl | rfl | rfl | rfl <;> rfl) cf35 swo35 101 #[] blk 0 c l.toArray W eg (cmpLays35 blk 0 l.toArray.size W) hH (blk_lt hb) (by simp;omega)
 change Calls Tryz.prog 100 _ _ _ at hcon
 refine hcon.mono ?_
 rintro e w' ⟨he,d,n,os,hp,hs,rfl⟩
 have h4:d.size=l.length:=by have:=hp.1;simpa using this
 have hK:HoldsK enc35 4 (sortWorldK enc35 4 W blk 0 n d os) blk 0 d:=holdsK_sortWorldK enc35 4 W blk 0 n l.toArray d os (blk_lt hb) hH (by simpa using h4)
 refine ⟨he,d.toList,?_,?_,?_,?_⟩
 ·have h3:=hp.2.2
  simp only [List.size_toArray] at h3
  rw [← h4] at h3
  simp only [Array.extract_size] at h3
  refine h3.trans ?_
  simp [h4]
 ·rw [List.pairwise_iff_getElem]
  intro i j hi hj hij
  have h5:=hs i j (Nat.zero_le _) hij (by simp at hj;simp;omega)
  rw [getElem!_pos d j (by simpa using hj),getElem!_pos d i (by simpa using hi)] at h5
  simpa using h5
 ·refine ⟨rfl,by simp;omega,fun hp0=>⟨_,rfl,fun j p hj=>⟨enc35 p,rfl,k35_mk _ p,fun i u hu=>?_⟩⟩⟩
  obtain ⟨hjl,hjp⟩:=List.getElem?_eq_some_iff.1 hj
  have hi:i < 4:=(List.getElem?_eq_some_iff.1 hu).1
  have hjd:j < d.size:=by simpa using hjl
  have hc:=(hK (j * 4+i) (by simp;omega)).1
  rw [get_flatK enc35 4 d (j * 4+i) (by omega)] at hc
  have e1:(j * 4+i) / 4=j:=by omega
  have e2:(j * 4+i) % 4=i:=by omega
  rw [e1,e2,getElem!_pos d j hjd] at hc
  have e3:d[j]=p:=by rw [← hjp];simp
  rw [e3,getElem!_pos (enc35 p) i hi] at hc
  have e4:(enc35 p)[i]=u:=(List.getElem?_eq_some_iff.1 hu).2
  rw [e4] at hc
  show (sortWorldK enc35 4 W blk 0 n d os).cell? (Addr.add ⟨blk,0,none⟩ (j * 4+i))=some u
  rw [Addr.add_lit]
  exact hc
 ·refine ⟨rfl,rfl,rfl,?_,fun q hq=>?_⟩
  ·simp [sortWorldK,grow,putRowK,putRow,mapBlock,ahead]
  ·have hql:q < W.heap.size:=Nat.lt_trans hq (blk_lt hb)
   simp only [sortWorldK,grow,putRowK,putRow,mapBlock,ahead]
   rw [Array.getElem?_append_left (by simpa using hql),Array.getElem?_modify,if_neg (by omega)]
   rfl
end Go.Proofs.YtbcpnejdbookkaaGreat.PrintG
namespace Go.Proofs.YtbcpnejdbookkaaGreat.Print
open Go Go.RowKit
variable {P : Program}
theorem run_copyK (w:World) (dT sT ty elem:TypeId) (k g o dLen dCap:Nat) (a:Addr) (sLen sCap:Nat) (cur:Array Value) (t:TypeId) (cs:List Value)
 (hu:P.underlying dT=some (.slice elem)) (hs:(P.info? elem).map (·.size)=some k) (hg:w.heap[g]? = some (.cells cur t (0,0))) (hn:cs.length=Nat.min sLen dLen * k)
 (hsrc:∀ j v,cs[j]? = some v→w.cell? (a.add j)=some v) (hfit:o+cs.length≤cur.size) (h1:∀ v∈cs,v.oneCell'=true) :
 (Builtin.copy_ #[dT,sT] ty #[.slice (some ⟨g,o,none⟩) dLen dCap,.slice (some a) sLen sCap]).run P w =
  .ok (goInt (Nat.min sLen dLen)) (w.setRow g (cur.toList.take o ++ cs ++ cur.toList.drop (o+cs.length)).toArray):=by
 have hl:=run_loadCells_list (P:=P) w a cs hsrc
 have hst:=run_storeCells_at P g o t cs 0 cur w hg (by simpa using hfit) h1
 cases hq:P.info? elem with
 | none=>simp [hq] at hs
 | some i =>
  have hi:i.size=k:=by simpa [hq] using hs
  simp [Builtin.copy_,run_underlying hu,Builtin.lenOf,Builtin.firstCells,sizeOf,typeInfo,hq,hi,← hn,hl,hst]
end Go.Proofs.YtbcpnejdbookkaaGreat.Print
namespace Go.Proofs.YtbcpnejdbookkaaGreat.Print
open Go.RowKit Go.Proofs.YtbcpnejdbookkaaGreatW.PrintWords Go.Proofs.YtbcpnejdbookkaaGreatW.PrintLast
theorem lex_lt {p q:Int×Int}:cmp2 p q < 0 ↔ p.1 < q.1∨(p.1=q.1∧p.2 < q.2):=by
 rcases cmp2_cases p q with ⟨h,g⟩ | ⟨h,g⟩ | ⟨h,g⟩
 ·rw [h];exact ⟨fun _=>g,fun _=>by decide⟩
 ·rw [h];exact ⟨fun e=>absurd e (by decide),fun e=>by omega⟩
 ·rw [h,g];exact ⟨fun e=>absurd e (by decide),fun e=>by omega⟩
theorem lex_gt {p q:Int×Int}:cmp2 p q > 0 ↔ cmp2 q p < 0:=by
 rw [cmp2_swap p q];omega
def pos (p:Int×Int):Int:=if p.1 < 0 then -9223372036854775808 else if p.1 > 0 then 9223372036854775808 else p.2
theorem CC.pos_cases {p:Int×Int} (h:CC p):(p=(-1,0)∧pos p=-9223372036854775808)∨(p=(1,0)∧pos p=9223372036854775808)∨(p=(0,pos p)∧-9223372036854775808 < pos p∧pos p≤9223372036854775807):=by
 rcases h with rfl | rfl | ⟨a,rfl,h1,h2⟩
 ·exact .inl ⟨rfl,rfl⟩
 ·exact .inr (.inl ⟨rfl,rfl⟩)
 ·have e:pos (0,a)=a:=by unfold pos;rw [if_neg (by show ¬ (0:Int) < 0;omega),if_neg (by show ¬ (0:Int) > 0;omega)]
  rw [e];exact .inr (.inr ⟨rfl,h1,h2⟩)
theorem CC.range {p:Int×Int} (h:CC p):-9223372036854775808≤pos p∧pos p≤9223372036854775808:=by
 rcases h.pos_cases with ⟨_,h⟩ | ⟨_,h⟩ | ⟨_,h,h'⟩ <;> omega
theorem pos_inj {p q:Int×Int} (hp:CC p) (hq:CC q) (h:pos p=pos q):p=q:=by
 rcases hp.pos_cases with ⟨e,h1⟩ | ⟨e,h1⟩ | ⟨e,h1,h2⟩ <;> rcases hq.pos_cases with ⟨e',h1'⟩ | ⟨e',h1'⟩ | ⟨e',h1',h2'⟩
 all_goals first
  | (rw [e,e'];done)
  | (rw [e,e',h];done)
  | (exfalso;omega)
theorem cmp2_pos {p q:Int×Int} (hp:CC p) (hq:CC q):cmp2 p q < 0 ↔ pos p < pos q:=by
 rw [lex_lt]
 rcases hp.pos_cases with ⟨e,h1⟩ | ⟨e,h1⟩ | ⟨e,h1,h2⟩ <;> rcases hq.pos_cases with ⟨e',h1'⟩ | ⟨e',h1'⟩ | ⟨e',h1',h2'⟩
 all_goals
  have k1:=congrArg Prod.fst e
  have k2:=congrArg Prod.snd e
  have k3:=congrArg Prod.fst e'
  have k4:=congrArg Prod.snd e'
  dsimp only at k1 k2 k3 k4
  omega
theorem cmp2_pos_gt {p q:Int×Int} (hp:CC p) (hq:CC q):cmp2 p q > 0 ↔ pos q < pos p:=by
 rw [lex_gt,cmp2_pos hq hp]
end Go.Proofs.YtbcpnejdbookkaaGreat.Print
namespace Go.Proofs.YtbcpnejdbookkaaGreat.Print
open Go.RowKit Go.Proofs.YtbcpnejdbookkaaGreatW.PrintWords Go.Proofs.YtbcpnejdbookkaaGreatW.PrintLast Go.Proofs.YtbcpnejdbookkaaGreatW.PrintMore
attribute [local go_sem] max2_int min2_int max_two min_two max_three min_three max_four min_four   -- for this text's walks alone
attribute [local go_sem high] eqA33
def imap_spans.l0:Nat→List (S35)→List (S37)→Int→Int→Option ((List (S35)))
 | 0,_,_,_,_=>none
 | k+1,x3,x6,x7,x8=>if x8 < x7 then (if 0≤x8 then (if x8 < (x6.length:Int) then (if x3.length < 4398046511104 then (imap_spans.l0 k (x3 ++ [(⟨(⟨(rd_T37 x6 x8).f0.f0.f0,(rd_T37 x6 x8).f0.f0.f1⟩:S33),(⟨(rd_T37 x6 x8).f0.f1.f0,(rd_T37 x6 x8).f0.f1.f1⟩:S33)⟩:S35)]) x6 x7 (wrap64 (x8+1))) else (none)) else (none)) else (none)) else (some x3)
def imap_spans.f (k:Nat) (l0:List (S37)):Option ((List (S35))):=imap_spans.l0 k ([]:List (S35)) l0 (l0.length:Int) 0
theorem imap_spans.mono_l:∀ k,(∀ y0 y1 y2 y3,LeO (imap_spans.l0 k y0 y1 y2 y3) (imap_spans.l0 (k+1) y0 y1 y2 y3))
 | 0=>fun _ _ _ _ r h=>by simp [imap_spans.l0] at h
 | k+1=>by
  have ih0:=imap_spans.mono_l k
  ·intro y0 y1 y2 y3
   unfold imap_spans.l0
   repeat' with_reducible first | apply ih0 | apply lr | apply ln | apply li | refine lb ?_ fun _=>?_
theorem imap_spans.mono:∀ a0 k,LeO (imap_spans.f k a0) (imap_spans.f (k+1) a0):=by
 intro a0 k
 have ih0:=imap_spans.mono_l k
 unfold imap_spans.f
 repeat' with_reducible first | apply ih0 | apply lr | apply ln | apply li | refine lb ?_ fun _=>?_
theorem imap_spans.calls (k:Nat) (A0:Option Addr) (c0:Nat) (l0:List (S37)) (r:List (S35)) (w:World) (hr0:Kd.C k37 w A0 l0.length l0) (hc0:l0.length≤c0) (h:imap_spans.f k l0=some r) :
 Calls Tryz.prog 81 #[.slice A0 l0.length c0] w fun e w'=>∃ v0_:Value,e=.returned (v0_)∧Kd.R k35 35 w' w.heap.size (fun _=>True) v0_ r∧Below w.heap.size w w':=by
 have hu37:=Tryz.underlying37;have hu35:=Tryz.underlying35;have HR0:=am hr0;have HC0:=am hc0;clear hr0 hc0
 have HB:=am (Below.refl w.heap.size w)
 have H:(imap_spans.l0 k ([]:List (S35)) l0 (l0.length:Int) 0)=some r:=h
 clear h;have H':=am H;clear H;go_enter Tryz.func81,Tryz.ntmps81;go_wp2
 go_loopg [3,8] k (fun kq v3 v8 w'=>∃ (x3_1:List (S35)) (x8_1:Int),v8=.int .i64 x8_1∧Aside0 (imap_spans.l0 kq x3_1 l0 (l0.length:Int) x8_1=some r)∧Aside0 (kq≤k)∧Aside0 (Kd.R k35 35 w' w.heap.size (fun _=>True) v3 x3_1)∧Aside0 (Below w.heap.size w w'))
 case atStart=>exact ⟨_,_,rs,H',⟨Nat.le_refl _⟩,kn,⟨bl HB⟩⟩
 case round =>
  clear H'
  obtain ⟨x3_1,x8_1,rfl,HA,HK1,HO_3,HB⟩:=hrel
  cases gk with
  | zero=>exact absurd HA.out (by simp [imap_spans.l0])
  | succ k1 =>
   have H:=HA.out;clear HA
   simp only [imap_spans.l0] at H
   revert H;refine itc (fun c2b0 H=>?_) fun c2b0 H=>?_
   ·revert H;refine its fun c3b0 H=>?_
    revert H;refine its fun c4b0 H=>?_
    revert H;refine itl fun LMc5 H=>?_
    generalize hy141:x3_1 ++ [(⟨(⟨(rd_T37 l0 x8_1).f0.f0.f0,(rd_T37 l0 x8_1).f0.f0.f1⟩:S33),(⟨(rd_T37 l0 x8_1).f0.f1.f0,(rd_T37 l0 x8_1).f0.f1.f1⟩:S33)⟩:S35)]=y141 at H;have Ny141:=am hy141.symm;clear hy141;have H':=am H;clear H
    obtain ⟨ad139,e139,hx139_0,hx139_1,hx139_2,hx139_3,hx139_4,p139,q139⟩:=ax37 HR0 HB x8_1
    cases e139
    go_wp2_with (first | ((with_reducible refine gate_dst (N:=5) rfl ?_);refine bxf #[.int .i64 0,.int .i64 0,.int .i64 0,.int .i64 0,.int .i64 0] 37 HB fun gb140 w6 BK140 GW140 HB hg hb=>?_;replace HO_3:=krb HO_3 hb;clear hb hg;obtain ⟨_,_,_,_,_,_,_,_,_,_⟩:=s5 BK140) | ((with_reducible refine gate_builtin (b:=.append) (xs:=#[.tmp 12,.tmp 15]) rfl ?_);at_builtin;refine Kd.R_append k35 (w0:=w) w.heap.size rfl (.tmp 12) (.tmp 15) 29 35 (.agg #[(.int .i64 0),(.int .i64 0),(.int .i64 0),(.int .i64 0)]) 32 rfl Tryz.underlying29 info35 rfl (by decide) (by omega) u3 x3_1 (⟨(⟨(rd_T37 l0 x8_1).f0.f0.f0,(rd_T37 l0 x8_1).f0.f0.f1⟩:S33),(⟨(rd_T37 l0 x8_1).f0.f1.f0,(rd_T37 l0 x8_1).f0.f1.f1⟩:S33)⟩:S35) [.int .i64 ((rd_T37 l0 x8_1).f0.f0.f0),.int .i64 ((rd_T37 l0 x8_1).f0.f0.f1),.int .i64 ((rd_T37 l0 x8_1).f0.f1.f0),.int .i64 ((rd_T37 l0 x8_1).f0.f1.f1)] (fun _=>True) (fun _=>False) rfl (by first | (go_simp;done) | (go_simp;rfl)) ?aP (fun _ hk=>hk.elim) ?aF ?aO ?aB ?aS ?aL ?_;(case aP=>exact k35_mkM _ _ _ (⟨(⟨(rd_T37 l0 x8_1).f0.f0.f0,(rd_T37 l0 x8_1).f0.f0.f1⟩:S33),(⟨(rd_T37 l0 x8_1).f0.f1.f0,(rd_T37 l0 x8_1).f0.f1.f1⟩:S33)⟩:S35));(case aB=>exact (bl HB));(case aF=>exact (fun _ _=>trivial));(case aO=>exact (by (with_reducible repeat (first | apply Kd.R_alloc | apply Kd.R_drewN | apply Kd.R_drew));exact Kd.R_mono (Kd.R_far (p:=⟨gb140,4,none⟩) (Kd.R_far (p:=⟨gb140,3,none⟩) (Kd.R_far (p:=⟨gb140,2,none⟩) (Kd.R_far (p:=⟨gb140,1,none⟩) (Kd.R_far (p:=⟨gb140,0,none⟩) (Kd.R_types HO_3.out BK140.out (by decide)) (fun _ hk=>hk.2) (.int .i64 ((rd_T37 l0 x8_1).f0.f0.f0))) (fun _ hk=>hk.2) (.int .i64 ((rd_T37 l0 x8_1).f0.f0.f1))) (fun _ hk=>hk.2) (.int .i64 ((rd_T37 l0 x8_1).f0.f1.f0))) (fun _ hk=>hk.2) (.int .i64 ((rd_T37 l0 x8_1).f0.f1.f1))) (fun _ hk=>hk.2) (.int .i64 ((rd_T37 l0 x8_1).f1))) (fun _ hk=>trivial)));(case aS=>exact (below_size (bl HB)));(case aL=>have:=LMc5.out;omega);intro v142 w8 ho hb hg hat;rw [← Ny141.out] at ho;replace BK140:=am (blk_grown (g:=gb140) (o:=.cells #[.int .i64 ((rd_T37 l0 x8_1).f0.f0.f0),.int .i64 ((rd_T37 l0 x8_1).f0.f0.f1),.int .i64 ((rd_T37 l0 x8_1).f0.f1.f0),.int .i64 ((rd_T37 l0 x8_1).f0.f1.f1),.int .i64 ((rd_T37 l0 x8_1).f1)] 37 (0,0)) (bkp BK140) hg (Kd.R_ne HO_3.out BK140.out (by decide)));replace HB:=am hb;have HO143:=am ho;clear HO_3;clear ho hb hg hat))
    go_roundg k1
    case measure=>have:=HK1.out;omega
    case rel=>exact ⟨_,_,rs,H',kl HK1,⟨kr HO143⟩,⟨bl HB⟩⟩
   ·obtain rfl:=Option.some.inj H;go_wp2;go_ret;exact endK HO_3 HB
def span_both.f (k:Nat) (a0_0:Int) (a0_1:Int) (a0_2:Int) (a0_3:Int) (a1_0:Int) (a1_1:Int) (a1_2:Int) (a1_3:Int):Option (Bool):=(span_Right.f k a0_0 a0_1 a0_2 a0_3).bind fun t146=>(if t146=true then ((span_Right.f k a1_0 a1_1 a1_2 a1_3).bind fun t147=>(some t147)) else (some false))
theorem span_both.mono:∀ a0 a1 a2 a3 a4 a5 a6 a7 k,LeO (span_both.f k a0 a1 a2 a3 a4 a5 a6 a7) (span_both.f (k+1) a0 a1 a2 a3 a4 a5 a6 a7):=by
 intro a0 a1 a2 a3 a4 a5 a6 a7 k
 unfold span_both.f
 repeat' with_reducible first | apply span_Right.mono | apply lr | apply ln | apply li | refine lb ?_ fun _=>?_
theorem span_both.calls (k:Nat) (a0_0:Int) (a0_1:Int) (a0_2:Int) (a0_3:Int) (a1_0:Int) (a1_1:Int) (a1_2:Int) (a1_3:Int) (r:Bool) (w:World) (h:span_both.f k a0_0 a0_1 a0_2 a0_3 a1_0 a1_1 a1_2 a1_3=some r) :
 Calls Tryz.prog 116 #[.agg #[.int .i64 a0_0,.int .i64 a0_1,.int .i64 a0_2,.int .i64 a0_3],.agg #[.int .i64 a1_0,.int .i64 a1_1,.int .i64 a1_2,.int .i64 a1_3]] w fun e w'=>e=.returned (.bool r)∧Below w.heap.size w w':=by
 have hu35:=Tryz.underlying35
 have HB:=am (Below.refl w.heap.size w)
 unfold span_both.f at h;have H:=h;clear h;revert H;refine bnd fun t146 A3 H=>?_
 cases t146;rotate_left
 ·replace H:=itt H;revert H;refine bnd fun t147 A5 H=>?_
  obtain rfl:=Option.some.inj H;go_enter Tryz.func116,Tryz.ntmps116
  go_wp2_with (first | ((with_reducible refine gate_dst (N:=2) rfl ?_);refine bxf #[.int .i64 a0_0,.int .i64 a0_1,.int .i64 a0_2,.int .i64 a0_3] 35 HB fun gb144 w6 BK144 GW144 HB hg hb=>?_;have GE144:=GW144;clear hb hg) | ((with_reducible refine gate_dst (N:=3) rfl ?_);refine bxf #[.int .i64 a1_0,.int .i64 a1_1,.int .i64 a1_2,.int .i64 a1_3] 35 HB fun gb145 w7 BK145 GW145 HB hg hb=>?_;have GE145:=GW145;have NB144_145:=nlt hg BK144;have NB145_144:=ngt hg BK144;replace BK144:=bkb BK144 hb;clear hb hg;have hnb8:=NB144_145.out;have hnc8:=NB145_144.out;obtain ⟨_,_,_,_,_,_,_,_⟩:=s4 BK144) | ((with_reducible refine gate_callee (f:=88) rfl ?_);refine gob Tryz.func88 (span_Right.calls _ _ _ _ _ _ _ A3.out) fun w10 hb=>?_;replace BK144:=bkb BK144 hb;replace BK145:=bkb BK145 hb;replace HB:=bst HB hb;(try clear hb);(try clear hb2);(try clear hk);(try clear hi);obtain ⟨_,_,_,_,_,_,_,_⟩:=s4 BK145) | (go_at_call 88;(with_reducible refine (span_Right.calls _ _ _ _ _ _ _ A5.out).mono ?_);rintro e w12 ⟨rfl,hb⟩;replace BK144:=bkb BK144 hb;replace BK145:=bkb BK145 hb;replace HB:=bst HB hb;clear hb))
  go_ret;exact endB HB
 ·replace H:=itf H;obtain rfl:=Option.some.inj H;go_enter Tryz.func116,Tryz.ntmps116
  go_wp2_with (first | ((with_reducible refine gate_dst (N:=2) rfl ?_);refine bxf #[.int .i64 a0_0,.int .i64 a0_1,.int .i64 a0_2,.int .i64 a0_3] 35 HB fun gb144 w13 BK144 GW144 HB hg hb=>?_;have GE144:=GW144;clear hb hg) | ((with_reducible refine gate_dst (N:=3) rfl ?_);refine bxf #[.int .i64 a1_0,.int .i64 a1_1,.int .i64 a1_2,.int .i64 a1_3] 35 HB fun gb145 w14 BK145 GW145 HB hg hb=>?_;have GE145:=GW145;have NB144_145:=nlt hg BK144;have NB145_144:=ngt hg BK144;replace BK144:=bkb BK144 hb;clear hb hg;have hnb15:=NB144_145.out;have hnc15:=NB145_144.out;obtain ⟨_,_,_,_,_,_,_,_⟩:=s4 BK144) | ((with_reducible refine gate_callee (f:=88) rfl ?_);refine gob Tryz.func88 (span_Right.calls _ _ _ _ _ _ _ A3.out) fun w17 hb=>?_;replace BK144:=bkb BK144 hb;replace BK145:=bkb BK145 hb;replace HB:=bst HB hb;(try clear hb);(try clear hb2);(try clear hk);(try clear hi)))
  go_ret;exact endB HB
def span_Touch.f (k:Nat) (a0_0:Int) (a0_1:Int) (a0_2:Int) (a0_3:Int) (a1_0:Int) (a1_1:Int) (a1_2:Int) (a1_3:Int):Option (Bool):=(span_both.f k a0_0 a0_1 a0_2 a0_3 a1_0 a1_1 a1_2 a1_3).bind fun t150=>(if t150=true then (if (a0_2 == a1_0 && (a0_3 == a1_1))=true then (some true) else (some (a1_2 == a0_0 && (a1_3 == a0_1)))) else (some false))
theorem span_Touch.mono:∀ a0 a1 a2 a3 a4 a5 a6 a7 k,LeO (span_Touch.f k a0 a1 a2 a3 a4 a5 a6 a7) (span_Touch.f (k+1) a0 a1 a2 a3 a4 a5 a6 a7):=by
 intro a0 a1 a2 a3 a4 a5 a6 a7 k
 unfold span_Touch.f
 repeat' with_reducible first | apply span_both.mono | apply lr | apply ln | apply li | refine lb ?_ fun _=>?_
theorem span_Touch.calls (k:Nat) (a0_0:Int) (a0_1:Int) (a0_2:Int) (a0_3:Int) (a1_0:Int) (a1_1:Int) (a1_2:Int) (a1_3:Int) (r:Bool) (w:World) (h:span_Touch.f k a0_0 a0_1 a0_2 a0_3 a1_0 a1_1 a1_2 a1_3=some r) :
 Calls Tryz.prog 83 #[.agg #[.int .i64 a0_0,.int .i64 a0_1,.int .i64 a0_2,.int .i64 a0_3],.agg #[.int .i64 a1_0,.int .i64 a1_1,.int .i64 a1_2,.int .i64 a1_3]] w fun e w'=>e=.returned (.bool r)∧Below w.heap.size w w':=by
 have hu35:=Tryz.underlying35;have hu33:=Tryz.underlying33
 have HB:=am (Below.refl w.heap.size w)
 unfold span_Touch.f at h;have H:=h;clear h;revert H;refine bnd fun t150 A3 H=>?_
 cases t150;rotate_left
 ·replace H:=itt H
  by_cases c5:(a0_2 == a1_0 && (a0_3 == a1_1))=true
  ·rw [if_pos c5] at H
   have c5b0:(a0_2 == a1_0 && (a0_3 == a1_1))=true:=c5
   (try (have c5b1:decide (a0_2=a1_0 && (a0_3 == a1_1))=true:=by simpa using c5))
   (try (have c5b2:(a0_2 == a1_0 && (a0_3 == a1_1))=true:=by simpa using c5))
   clear c5;obtain rfl:=Option.some.inj H;go_enter Tryz.func83,Tryz.ntmps83
   go_wp2_with (first | ((with_reducible refine gate_dst (N:=2) rfl ?_);refine bxf #[.int .i64 a0_0,.int .i64 a0_1,.int .i64 a0_2,.int .i64 a0_3] 35 HB fun gb148 w6 BK148 GW148 HB hg hb=>?_;have GE148:=GW148;clear hb hg) | ((with_reducible refine gate_dst (N:=3) rfl ?_);refine bxf #[.int .i64 a1_0,.int .i64 a1_1,.int .i64 a1_2,.int .i64 a1_3] 35 HB fun gb149 w7 BK149 GW149 HB hg hb=>?_;have GE149:=GW149;have NB148_149:=nlt hg BK148;have NB149_148:=ngt hg BK148;replace BK148:=bkb BK148 hb;clear hb hg;have hnb8:=NB148_149.out;have hnc8:=NB149_148.out;obtain ⟨_,_,_,_,_,_,_,_⟩:=s4 BK148;obtain ⟨_,_,_,_,_,_,_,_⟩:=s4 BK149) | ((with_reducible refine gate_callee (f:=116) rfl ?_);refine gob Tryz.func116 (span_both.calls _ _ _ _ _ _ _ _ _ _ _ A3.out) fun w11 hb=>?_;replace BK148:=bkb BK148 hb;replace BK149:=bkb BK149 hb;replace HB:=bst HB hb;(try clear hb);(try clear hb2);(try clear hk);(try clear hi);obtain ⟨_,_,_,_,_,_,_,_⟩:=s4 BK148;obtain ⟨_,_,_,_,_,_,_,_⟩:=s4 BK149));go_ret;exact endB HB
  ·rw [if_neg c5] at H
   have c5b0:(a0_2 == a1_0 && (a0_3 == a1_1))=false:=by simpa using c5
   (try (have c5b1:decide (a0_2=a1_0 && (a0_3 == a1_1))=false:=by simpa using c5))
   (try (have c5b2:(a0_2 == a1_0 && (a0_3 == a1_1))=false:=by simpa using c5))
   (try (have c5b3:¬ (a0_2=a1_0 && (a0_3 == a1_1)):=by simpa using c5))
   clear c5;obtain rfl:=Option.some.inj H;go_enter Tryz.func83,Tryz.ntmps83
   go_wp2_with (first | ((with_reducible refine gate_dst (N:=2) rfl ?_);refine bxf #[.int .i64 a0_0,.int .i64 a0_1,.int .i64 a0_2,.int .i64 a0_3] 35 HB fun gb148 w14 BK148 GW148 HB hg hb=>?_;have GE148:=GW148;clear hb hg) | ((with_reducible refine gate_dst (N:=3) rfl ?_);refine bxf #[.int .i64 a1_0,.int .i64 a1_1,.int .i64 a1_2,.int .i64 a1_3] 35 HB fun gb149 w15 BK149 GW149 HB hg hb=>?_;have GE149:=GW149;have NB148_149:=nlt hg BK148;have NB149_148:=ngt hg BK148;replace BK148:=bkb BK148 hb;clear hb hg;have hnb16:=NB148_149.out;have hnc16:=NB149_148.out;obtain ⟨_,_,_,_,_,_,_,_⟩:=s4 BK148;obtain ⟨_,_,_,_,_,_,_,_⟩:=s4 BK149) | ((with_reducible refine gate_callee (f:=116) rfl ?_);refine gob Tryz.func116 (span_both.calls _ _ _ _ _ _ _ _ _ _ _ A3.out) fun w19 hb=>?_;replace BK148:=bkb BK148 hb;replace BK149:=bkb BK149 hb;replace HB:=bst HB hb;(try clear hb);(try clear hb2);(try clear hk);(try clear hi);obtain ⟨_,_,_,_,_,_,_,_⟩:=s4 BK148;obtain ⟨_,_,_,_,_,_,_,_⟩:=s4 BK149));go_ret;exact endB HB
 ·replace H:=itf H;obtain rfl:=Option.some.inj H;go_enter Tryz.func83,Tryz.ntmps83
  go_wp2_with (first | ((with_reducible refine gate_dst (N:=2) rfl ?_);refine bxf #[.int .i64 a0_0,.int .i64 a0_1,.int .i64 a0_2,.int .i64 a0_3] 35 HB fun gb148 w22 BK148 GW148 HB hg hb=>?_;have GE148:=GW148;clear hb hg) | ((with_reducible refine gate_dst (N:=3) rfl ?_);refine bxf #[.int .i64 a1_0,.int .i64 a1_1,.int .i64 a1_2,.int .i64 a1_3] 35 HB fun gb149 w23 BK149 GW149 HB hg hb=>?_;have GE149:=GW149;have NB148_149:=nlt hg BK148;have NB149_148:=ngt hg BK148;replace BK148:=bkb BK148 hb;clear hb hg;have hnb24:=NB148_149.out;have hnc24:=NB149_148.out;obtain ⟨_,_,_,_,_,_,_,_⟩:=s4 BK148;obtain ⟨_,_,_,_,_,_,_,_⟩:=s4 BK149) | ((with_reducible refine gate_callee (f:=116) rfl ?_);refine gob Tryz.func116 (span_both.calls _ _ _ _ _ _ _ _ _ _ _ A3.out) fun w27 hb=>?_;replace BK148:=bkb BK148 hb;replace BK149:=bkb BK149 hb;replace HB:=bst HB hb;(try clear hb);(try clear hb2);(try clear hk);(try clear hi)))
  go_ret;exact endB HB
end Go.Proofs.YtbcpnejdbookkaaGreat.Print
namespace Go.Proofs.YtbcpnejdbookkaaGreat.Print
open Go.RowKit Go.Proofs.YtbcpnejdbookkaaGreatW.PrintWords Go.Proofs.YtbcpnejdbookkaaGreatW.PrintLast Go.Proofs.YtbcpnejdbookkaaGreatW.PrintMore
attribute [local go_sem] max2_int min2_int max_two min_two max_three min_three max_four min_four   -- for this text's walks alone
def cut_Least.l0:Nat→List (S33)→Int→Int→Int→Int→Option (Int×Int)
 | 0,_,_,_,_,_=>none
 | k+1,x7,x8,x9,x182000,x182001=>if x9 < x8 then (if 0≤x9 then (if x9 < (x7.length:Int) then ((cut_Compare.f k ((rd_T33 x7 x9).f0) ((rd_T33 x7 x9).f1) x182000 x182001).bind fun t184=>(if t184 < 0 then ((cut_Canon.f k ((rd_T33 x7 x9).f0) ((rd_T33 x7 x9).f1)).bind fun bt185=>(cut_Least.l0 k x7 x8 (wrap64 (x9+1)) bt185.1 bt185.2)) else (cut_Least.l0 k x7 x8 (wrap64 (x9+1)) x182000 x182001))) else (none)) else (none)) else (some (x182000,x182001))
def cut_Least.f (k:Nat) (l0:List (S33)):Option (Int×Int):=(cut_Last.f).bind fun bt179=>(cut_Least.l0 k l0 (l0.length:Int) 0 bt179.1 bt179.2)
theorem cut_Least.calls (k:Nat) (A0:Option Addr) (c0:Nat) (l0:List (S33)) (r1:Int) (r2:Int) (w:World) (hr0:Kd.C k33 w A0 l0.length l0) (hc0:l0.length≤c0) (h:cut_Least.f k l0=some (r1,r2)) :
 Calls Tryz.prog 125 #[.slice A0 l0.length c0] w fun e w'=>e=.returned (.agg #[.int .i64 r1,.int .i64 r2])∧Below w.heap.size w w':=by
 have hu33:=Tryz.underlying33;have HR0:=am hr0;have HC0:=am hc0;clear hr0 hc0
 have HB:=am (Below.refl w.heap.size w)
 unfold cut_Least.f at h;have H:=h;clear h;revert H;refine bnd2 fun t179 t180 A2 H=>?_;dsimp only at H
 have H':=am H;clear H;go_enter Tryz.func125,Tryz.ntmps125
 go_wp2_with (first | ((with_reducible refine gate_dst (N:=2) rfl ?_);refine bxf #[.int .i64 0,.int .i64 0] 33 HB fun gb178 w3 BK178 GW178 HB hg hb=>?_;clear hb hg) | ((with_reducible refine gate_callee (f:=134) rfl ?_);refine gob Tryz.func134 (cut_Last.calls _ _ _ A2.out) fun w4 hb=>?_;replace BK178:=bkb BK178 hb;replace HB:=bst HB hb;(try clear hb);(try clear hb2);(try clear hk);(try clear hi)) | ((with_reducible refine gate_dst (N:=3) rfl ?_);refine bxf #[.int .i64 0,.int .i64 0] 33 HB fun gb181 w5 BK181 GW181 HB hg hb=>?_;have NB178_181:=nlt hg BK178;have NB181_178:=ngt hg BK178;replace BK178:=bkb BK178 hb;clear hb hg;have hnb6:=NB181_178.out;have hnc6:=NB178_181.out;obtain ⟨hcz7_0,hcz7_1⟩:=e2 BK181;obtain ⟨hfz7_0,hfz7_1⟩:=f2 BK181))
 go_loopg [9] k (fun kq v9 w'=>∃ (x9_1:Int) (x182000_1:Int) (x182001_1:Int),v9=.int .i64 x9_1∧Aside0 (cut_Least.l0 kq l0 (l0.length:Int) x9_1 x182000_1 x182001_1=some (r1,r2))∧Aside0 (kq≤k)∧Aside0 (w'.heap[gb178]? = some (.cells #[.int .i64 0,.int .i64 0] 33 (0,0)))∧Aside0 (w'.heap[gb181]? = some (.cells #[.int .i64 x182000_1,.int .i64 x182001_1] 33 (0,0)))∧Aside0 (Below w.heap.size w w'))
 case atStart=>exact ⟨_,_,_,rs,H',⟨Nat.le_refl _⟩,⟨by (with_reducible repeat (first | refine blk_drewN ?_ _ | refine blk_drew ?_ | refine blk_alloc ?_ _));refine blk_far ?_ NB178_181.out _;(with_reducible repeat (first | refine blk_drewN ?_ _ | refine blk_drew ?_ | refine blk_alloc ?_ _));refine blk_far ?_ NB178_181.out _;(with_reducible repeat (first | refine blk_drewN ?_ _ | refine blk_drew ?_ | refine blk_alloc ?_ _));exact BK178.out⟩,⟨by (with_reducible repeat (first | refine blk_drewN ?_ _ | refine blk_drew ?_ | refine blk_alloc ?_ _));refine blk_put (cs:=#[.int .i64 t179,.int .i64 0]) ?_ 1 _ rfl;(with_reducible repeat (first | refine blk_drewN ?_ _ | refine blk_drew ?_ | refine blk_alloc ?_ _));refine blk_put (cs:=#[.int .i64 0,.int .i64 0]) ?_ 0 _ rfl;(with_reducible repeat (first | refine blk_drewN ?_ _ | refine blk_drew ?_ | refine blk_alloc ?_ _));exact BK181.out⟩,⟨bl HB⟩⟩
 case round =>
  clear H'
  try clear c1
  try clear p2
  try clear c6
  try clear hcz7_0
  try clear hcz7_1
  try clear hfz7_0
  try clear hfz7_1
  obtain ⟨x9_1,x182000_1,x182001_1,rfl,HA,HK1,BK178,BK181,HB⟩:=hrel
  cases gk with
  | zero=>exact absurd HA.out (by simp [cut_Least.l0])
  | succ k1 =>
   have H:=HA.out;clear HA
   simp only [cut_Least.l0] at H
   revert H;refine itc (fun c8b0 H=>?_) fun c8b0 H=>?_
   ·revert H;refine its fun c9b0 H=>?_
    revert H;refine its fun c10b0 H=>?_
    revert H;refine bnd fun t184 A11 H=>?_
    revert H;refine itc (fun c12b0 H=>?_) fun c12b0 H=>?_
    ·revert H;refine bnd2 fun t185 t186 A13 H=>?_;dsimp only at H
     have H':=am H;clear H
     obtain ⟨ad182,e182,hx182_0,hx182_1,p182,q182⟩:=ax33 HR0 HB x9_1
     cases e182
     go_wp2_with (first | ((with_reducible refine gate_dst (N:=5) rfl ?_);refine bxf #[.int .i64 0,.int .i64 0] 33 HB fun gb183 w14 BK183 GW183 HB hg hb=>?_;have GE183:=GW183;have NB178_183:=nlt hg BK178;have NB183_178:=ngt hg BK178;replace BK178:=bkb BK178 hb;have NB181_183:=nlt hg BK181;have NB183_181:=ngt hg BK181;replace BK181:=bkb BK181 hb;clear hb hg;have hnb15:=NB183_178.out;have hnc15:=NB178_183.out;have hnb16:=NB183_181.out;have hnc16:=NB181_183.out;obtain ⟨_,_,_,_⟩:=s2 BK183;have hnb18:=NB181_178.out;have hnc18:=NB178_181.out;obtain ⟨_,_,_,_⟩:=s2 BK181) | ((with_reducible refine gate_callee (f:=109) rfl ?_);refine gob Tryz.func109 (cut_Compare.calls _ _ _ _ _ _ _ A11.out) fun w20 hb=>?_;replace BK178:=am (blk_below (bkf BK178 NB178_183) hb);replace BK181:=am (blk_below (bkf BK181 NB181_183) hb);replace BK183:=am (blk_below (g:=gb183) (o:=.cells #[.int .i64 ((rd_T33 l0 x9_1).f0),.int .i64 ((rd_T33 l0 x9_1).f1)] 33 (0,0)) (bkp BK183) hb);replace HB:=bst HB hb;(try clear hb);(try clear hb2);(try clear hk);(try clear hi);obtain ⟨_,_,_,_⟩:=s2 BK183) | ((with_reducible refine gate_callee (f:=130) rfl ?_);refine gob Tryz.func130 (cut_Canon.calls _ _ _ _ _ _ A13.out) fun w22 hb=>?_;replace BK178:=bkb BK178 hb;replace BK181:=bkb BK181 hb;replace BK183:=bkb BK183 hb;replace HB:=bst HB hb;(try clear hb);(try clear hb2);(try clear hk);(try clear hi);obtain ⟨_,_,_,_⟩:=s2 BK181))
     go_roundg k1
     case measure=>have:=HK1.out;omega
     case rel=>exact ⟨_,_,_,rs,H',kl HK1,⟨by (with_reducible repeat (first | refine blk_drewN ?_ _ | refine blk_drew ?_ | refine blk_alloc ?_ _));refine blk_far ?_ NB178_181.out _;(with_reducible repeat (first | refine blk_drewN ?_ _ | refine blk_drew ?_ | refine blk_alloc ?_ _));refine blk_far ?_ NB178_181.out _;(with_reducible repeat (first | refine blk_drewN ?_ _ | refine blk_drew ?_ | refine blk_alloc ?_ _));exact BK178.out⟩,⟨by (with_reducible repeat (first | refine blk_drewN ?_ _ | refine blk_drew ?_ | refine blk_alloc ?_ _));refine blk_put (cs:=#[.int .i64 t185,.int .i64 x182001_1]) ?_ 1 _ rfl;(with_reducible repeat (first | refine blk_drewN ?_ _ | refine blk_drew ?_ | refine blk_alloc ?_ _));refine blk_put (cs:=#[.int .i64 x182000_1,.int .i64 x182001_1]) ?_ 0 _ rfl;(with_reducible repeat (first | refine blk_drewN ?_ _ | refine blk_drew ?_ | refine blk_alloc ?_ _));exact BK181.out⟩,⟨bl HB⟩⟩
    ·have H':=am H;clear H
     obtain ⟨ad182,e182,hx182_0,hx182_1,p182,q182⟩:=ax33 HR0 HB x9_1
     cases e182
     go_wp2_with (first | ((with_reducible refine gate_dst (N:=5) rfl ?_);refine bxf #[.int .i64 0,.int .i64 0] 33 HB fun gb183 w24 BK183 GW183 HB hg hb=>?_;have GE183:=GW183;have NB178_183:=nlt hg BK178;have NB183_178:=ngt hg BK178;replace BK178:=bkb BK178 hb;have NB181_183:=nlt hg BK181;have NB183_181:=ngt hg BK181;replace BK181:=bkb BK181 hb;clear hb hg;have hnb25:=NB183_178.out;have hnc25:=NB178_183.out;have hnb26:=NB183_181.out;have hnc26:=NB181_183.out;obtain ⟨_,_,_,_⟩:=s2 BK183;have hnb28:=NB181_178.out;have hnc28:=NB178_181.out;obtain ⟨_,_,_,_⟩:=s2 BK181) | ((with_reducible refine gate_callee (f:=109) rfl ?_);refine gob Tryz.func109 (cut_Compare.calls _ _ _ _ _ _ _ A11.out) fun w30 hb=>?_;replace BK178:=am (blk_below (bkf BK178 NB178_183) hb);replace BK181:=am (blk_below (bkf BK181 NB181_183) hb);replace BK183:=am (blk_below (g:=gb183) (o:=.cells #[.int .i64 ((rd_T33 l0 x9_1).f0),.int .i64 ((rd_T33 l0 x9_1).f1)] 33 (0,0)) (bkp BK183) hb);replace HB:=bst HB hb;(try clear hb);(try clear hb2);(try clear hk);(try clear hi)))
     go_roundg k1
     case measure=>have:=HK1.out;omega
     case rel=>exact ⟨_,_,_,rs,H',kl HK1,⟨bk BK178⟩,⟨bk BK181⟩,⟨bl HB⟩⟩
   ·simp only [Option.some.injEq,Prod.mk.injEq] at H
    obtain ⟨rfl,rfl⟩:=H
    have hnb31:=NB181_178.out;have hnc31:=NB178_181.out;obtain ⟨_,_,_,_⟩:=s2 BK181;obtain ⟨_,_,_,_⟩:=s2 BK178;go_wp2
    refine bodyPost_ret (results_cell_row rfl _ _ gb178 33 #[.int .i64 x182000_1,.int .i64 x182001_1] (0,0) _ rfl (bkp BK178) Tryz.underlying33 rfl (by kernel_rfl)) rfl ?_
    exact endB HB
def cut_Greatest.l0:Nat→List (S33)→Int→Int→Int→Int→Option (Int×Int)
 | 0,_,_,_,_,_=>none
 | k+1,x7,x8,x9,x191000,x191001=>if x9 < x8 then (if 0≤x9 then (if x9 < (x7.length:Int) then ((cut_Compare.f k ((rd_T33 x7 x9).f0) ((rd_T33 x7 x9).f1) x191000 x191001).bind fun t193=>(if t193 > 0 then ((cut_Canon.f k ((rd_T33 x7 x9).f0) ((rd_T33 x7 x9).f1)).bind fun bt194=>(cut_Greatest.l0 k x7 x8 (wrap64 (x9+1)) bt194.1 bt194.2)) else (cut_Greatest.l0 k x7 x8 (wrap64 (x9+1)) x191000 x191001))) else (none)) else (none)) else (some (x191000,x191001))
def cut_Greatest.f (k:Nat) (l0:List (S33)):Option (Int×Int):=(cut_First.f).bind fun bt188=>(cut_Greatest.l0 k l0 (l0.length:Int) 0 bt188.1 bt188.2)
theorem cut_Greatest.calls (k:Nat) (A0:Option Addr) (c0:Nat) (l0:List (S33)) (r1:Int) (r2:Int) (w:World) (hr0:Kd.C k33 w A0 l0.length l0) (hc0:l0.length≤c0) (h:cut_Greatest.f k l0=some (r1,r2)) :
 Calls Tryz.prog 126 #[.slice A0 l0.length c0] w fun e w'=>e=.returned (.agg #[.int .i64 r1,.int .i64 r2])∧Below w.heap.size w w':=by
 have hu33:=Tryz.underlying33;have HR0:=am hr0;have HC0:=am hc0;clear hr0 hc0
 have HB:=am (Below.refl w.heap.size w)
 unfold cut_Greatest.f at h;have H:=h;clear h;revert H;refine bnd2 fun t188 t189 A2 H=>?_;dsimp only at H
 have H':=am H;clear H;go_enter Tryz.func126,Tryz.ntmps126
 go_wp2_with (first | ((with_reducible refine gate_dst (N:=2) rfl ?_);refine bxf #[.int .i64 0,.int .i64 0] 33 HB fun gb187 w3 BK187 GW187 HB hg hb=>?_;clear hb hg) | ((with_reducible refine gate_callee (f:=135) rfl ?_);refine gob Tryz.func135 (cut_First.calls _ _ _ A2.out) fun w4 hb=>?_;replace BK187:=bkb BK187 hb;replace HB:=bst HB hb;(try clear hb);(try clear hb2);(try clear hk);(try clear hi)) | ((with_reducible refine gate_dst (N:=3) rfl ?_);refine bxf #[.int .i64 0,.int .i64 0] 33 HB fun gb190 w5 BK190 GW190 HB hg hb=>?_;have NB187_190:=nlt hg BK187;have NB190_187:=ngt hg BK187;replace BK187:=bkb BK187 hb;clear hb hg;have hnb6:=NB190_187.out;have hnc6:=NB187_190.out;obtain ⟨hcz7_0,hcz7_1⟩:=e2 BK190;obtain ⟨hfz7_0,hfz7_1⟩:=f2 BK190))
 go_loopg [9] k (fun kq v9 w'=>∃ (x9_1:Int) (x191000_1:Int) (x191001_1:Int),v9=.int .i64 x9_1∧Aside0 (cut_Greatest.l0 kq l0 (l0.length:Int) x9_1 x191000_1 x191001_1=some (r1,r2))∧Aside0 (kq≤k)∧Aside0 (w'.heap[gb187]? = some (.cells #[.int .i64 0,.int .i64 0] 33 (0,0)))∧Aside0 (w'.heap[gb190]? = some (.cells #[.int .i64 x191000_1,.int .i64 x191001_1] 33 (0,0)))∧Aside0 (Below w.heap.size w w'))
 case atStart=>exact ⟨_,_,_,rs,H',⟨Nat.le_refl _⟩,⟨by (with_reducible repeat (first | refine blk_drewN ?_ _ | refine blk_drew ?_ | refine blk_alloc ?_ _));refine blk_far ?_ NB187_190.out _;(with_reducible repeat (first | refine blk_drewN ?_ _ | refine blk_drew ?_ | refine blk_alloc ?_ _));refine blk_far ?_ NB187_190.out _;(with_reducible repeat (first | refine blk_drewN ?_ _ | refine blk_drew ?_ | refine blk_alloc ?_ _));exact BK187.out⟩,⟨by (with_reducible repeat (first | refine blk_drewN ?_ _ | refine blk_drew ?_ | refine blk_alloc ?_ _));refine blk_put (cs:=#[.int .i64 t188,.int .i64 0]) ?_ 1 _ rfl;(with_reducible repeat (first | refine blk_drewN ?_ _ | refine blk_drew ?_ | refine blk_alloc ?_ _));refine blk_put (cs:=#[.int .i64 0,.int .i64 0]) ?_ 0 _ rfl;(with_reducible repeat (first | refine blk_drewN ?_ _ | refine blk_drew ?_ | refine blk_alloc ?_ _));exact BK190.out⟩,⟨bl HB⟩⟩
 case round =>
  clear H'
  try clear c1
  try clear p2
  try clear c6
  try clear hcz7_0
  try clear hcz7_1
  try clear hfz7_0
  try clear hfz7_1
  obtain ⟨x9_1,x191000_1,x191001_1,rfl,HA,HK1,BK187,BK190,HB⟩:=hrel
  cases gk with
  | zero=>exact absurd HA.out (by simp [cut_Greatest.l0])
  | succ k1 =>
   have H:=HA.out;clear HA
   simp only [cut_Greatest.l0] at H
   revert H;refine itc (fun c8b0 H=>?_) fun c8b0 H=>?_
   ·revert H;refine its fun c9b0 H=>?_
    revert H;refine its fun c10b0 H=>?_
    revert H;refine bnd fun t193 A11 H=>?_
    revert H;refine itc (fun (c12b0:decide (0 < t193)=true) H=>?_) fun (c12b0:decide (0 < t193)=false) H=>?_
    ·revert H;refine bnd2 fun t194 t195 A13 H=>?_;dsimp only at H
     have H':=am H;clear H
     obtain ⟨ad191,e191,hx191_0,hx191_1,p191,q191⟩:=ax33 HR0 HB x9_1
     cases e191
     go_wp2_with (first | ((with_reducible refine gate_dst (N:=5) rfl ?_);refine bxf #[.int .i64 0,.int .i64 0] 33 HB fun gb192 w14 BK192 GW192 HB hg hb=>?_;have GE192:=GW192;have NB187_192:=nlt hg BK187;have NB192_187:=ngt hg BK187;replace BK187:=bkb BK187 hb;have NB190_192:=nlt hg BK190;have NB192_190:=ngt hg BK190;replace BK190:=bkb BK190 hb;clear hb hg;have hnb15:=NB192_187.out;have hnc15:=NB187_192.out;have hnb16:=NB192_190.out;have hnc16:=NB190_192.out;obtain ⟨_,_,_,_⟩:=s2 BK192;have hnb18:=NB190_187.out;have hnc18:=NB187_190.out;obtain ⟨_,_,_,_⟩:=s2 BK190) | ((with_reducible refine gate_callee (f:=109) rfl ?_);refine gob Tryz.func109 (cut_Compare.calls _ _ _ _ _ _ _ A11.out) fun w20 hb=>?_;replace BK187:=am (blk_below (bkf BK187 NB187_192) hb);replace BK190:=am (blk_below (bkf BK190 NB190_192) hb);replace BK192:=am (blk_below (g:=gb192) (o:=.cells #[.int .i64 ((rd_T33 l0 x9_1).f0),.int .i64 ((rd_T33 l0 x9_1).f1)] 33 (0,0)) (bkp BK192) hb);replace HB:=bst HB hb;(try clear hb);(try clear hb2);(try clear hk);(try clear hi);obtain ⟨_,_,_,_⟩:=s2 BK192) | ((with_reducible refine gate_callee (f:=130) rfl ?_);refine gob Tryz.func130 (cut_Canon.calls _ _ _ _ _ _ A13.out) fun w22 hb=>?_;replace BK187:=bkb BK187 hb;replace BK190:=bkb BK190 hb;replace BK192:=bkb BK192 hb;replace HB:=bst HB hb;(try clear hb);(try clear hb2);(try clear hk);(try clear hi);obtain ⟨_,_,_,_⟩:=s2 BK190))
     go_roundg k1
     case measure=>have:=HK1.out;omega
     case rel=>exact ⟨_,_,_,rs,H',kl HK1,⟨by (with_reducible repeat (first | refine blk_drewN ?_ _ | refine blk_drew ?_ | refine blk_alloc ?_ _));refine blk_far ?_ NB187_190.out _;(with_reducible repeat (first | refine blk_drewN ?_ _ | refine blk_drew ?_ | refine blk_alloc ?_ _));refine blk_far ?_ NB187_190.out _;(with_reducible repeat (first | refine blk_drewN ?_ _ | refine blk_drew ?_ | refine blk_alloc ?_ _));exact BK187.out⟩,⟨by (with_reducible repeat (first | refine blk_drewN ?_ _ | refine blk_drew ?_ | refine blk_alloc ?_ _));refine blk_put (cs:=#[.int .i64 t194,.int .i64 x191001_1]) ?_ 1 _ rfl;(with_reducible repeat (first | refine blk_drewN ?_ _ | refine blk_drew ?_ | refine blk_alloc ?_ _));refine blk_put (cs:=#[.int .i64 x191000_1,.int .i64 x191001_1]) ?_ 0 _ rfl;(with_reducible repeat (first | refine blk_drewN ?_ _ | refine blk_drew ?_ | refine blk_alloc ?_ _));exact BK190.out⟩,⟨bl HB⟩⟩
    ·have H':=am H;clear H
     obtain ⟨ad191,e191,hx191_0,hx191_1,p191,q191⟩:=ax33 HR0 HB x9_1
     cases e191
     go_wp2_with (first | ((with_reducible refine gate_dst (N:=5) rfl ?_);refine bxf #[.int .i64 0,.int .i64 0] 33 HB fun gb192 w24 BK192 GW192 HB hg hb=>?_;have GE192:=GW192;have NB187_192:=nlt hg BK187;have NB192_187:=ngt hg BK187;replace BK187:=bkb BK187 hb;have NB190_192:=nlt hg BK190;have NB192_190:=ngt hg BK190;replace BK190:=bkb BK190 hb;clear hb hg;have hnb25:=NB192_187.out;have hnc25:=NB187_192.out;have hnb26:=NB192_190.out;have hnc26:=NB190_192.out;obtain ⟨_,_,_,_⟩:=s2 BK192;have hnb28:=NB190_187.out;have hnc28:=NB187_190.out;obtain ⟨_,_,_,_⟩:=s2 BK190) | ((with_reducible refine gate_callee (f:=109) rfl ?_);refine gob Tryz.func109 (cut_Compare.calls _ _ _ _ _ _ _ A11.out) fun w30 hb=>?_;replace BK187:=am (blk_below (bkf BK187 NB187_192) hb);replace BK190:=am (blk_below (bkf BK190 NB190_192) hb);replace BK192:=am (blk_below (g:=gb192) (o:=.cells #[.int .i64 ((rd_T33 l0 x9_1).f0),.int .i64 ((rd_T33 l0 x9_1).f1)] 33 (0,0)) (bkp BK192) hb);replace HB:=bst HB hb;(try clear hb);(try clear hb2);(try clear hk);(try clear hi)))
     go_roundg k1
     case measure=>have:=HK1.out;omega
     case rel=>exact ⟨_,_,_,rs,H',kl HK1,⟨bk BK187⟩,⟨bk BK190⟩,⟨bl HB⟩⟩
   ·simp only [Option.some.injEq,Prod.mk.injEq] at H
    obtain ⟨rfl,rfl⟩:=H
    have hnb31:=NB190_187.out;have hnc31:=NB187_190.out;obtain ⟨_,_,_,_⟩:=s2 BK190;obtain ⟨_,_,_,_⟩:=s2 BK187;go_wp2
    refine bodyPost_ret (results_cell_row rfl _ _ gb187 33 #[.int .i64 x191000_1,.int .i64 x191001_1] (0,0) _ rfl (bkp BK187) Tryz.underlying33 rfl (by kernel_rfl)) rfl ?_
    exact endB HB
def span_Of.f (k:Nat) (a0_0:Int) (a0_1:Int) (a1_0:Int) (a1_1:Int):Option (Int×Int×Int×Int×Int):=(cut_Canon.f k a0_0 a0_1).bind fun bt199=>((cut_Canon.f k a1_0 a1_1).bind fun bt201=>((span_Right.f k bt199.1 bt199.2 bt201.1 bt201.2).bind fun t204=>(if t204=true then (some (bt199.1,bt199.2,bt201.1,bt201.2,0)) else (some (0,0,0,0,30)))))
theorem span_Of.calls (k:Nat) (a0_0 a0_1 a1_0 a1_1 r1 r2 r3 r4 r5:Int) (w:World) (h:span_Of.f k a0_0 a0_1 a1_0 a1_1=some (r1,r2,r3,r4,r5)) :
 Calls Tryz.prog 146 #[.agg #[.int .i64 a0_0,.int .i64 a0_1],.agg #[.int .i64 a1_0,.int .i64 a1_1]] w fun e w'=>e=.returned (.tuple #[.agg #[.int .i64 r1,.int .i64 r2,.int .i64 r3,.int .i64 r4],.int .i64 r5])∧Below w.heap.size w w':=by
 have hu35:=Tryz.underlying35;have hu33:=Tryz.underlying33
 obtain ⟨⟨p1,p2⟩,e1,h⟩:=Option.bind_eq_some_iff.1 h
 obtain ⟨⟨q1,q2⟩,e2,h⟩:=Option.bind_eq_some_iff.1 h
 obtain ⟨b,e3,h⟩:=Option.bind_eq_some_iff.1 h
 have E1:=am e1;have E2:=am e2;have E3:=am e3;clear e1 e2 e3;have H:=am h;clear h;go_enter Tryz.func146,Tryz.ntmps146
 go_wp2_with (first | ((with_reducible refine gate_dst (N:=2) rfl ?_);refine box_event ?hg (N:=2) ?hd (cs:=#[.int .i64 a0_0,.int .i64 a0_1]) (t:=33) ?hr ?_;(case hd=>rfl);(case hg=>rfl);(case hr=>first | (go_simp;done) | (go_simp;rfl));intro g0 hgb w1 hbox hb;have B0:=am hbox;have HB:=am hb;clear hbox hb hgb) | ((with_reducible refine gate_dst (N:=3) rfl ?_);refine box_event ?hg (N:=3) ?hd (cs:=#[.int .i64 a1_0,.int .i64 a1_1]) (t:=33) ?hr ?_;(case hd=>rfl);(case hg=>rfl);(case hr=>first | (go_simp;done) | (go_simp;rfl));intro g1 hgb w2 hbox hb;have B1:=am hbox;replace B0:=bkb B0 hb;replace HB:=bst HB hb;clear hbox hb hgb) | ((with_reducible refine gate_dst (N:=4) rfl ?_);refine box_event ?hg (N:=4) ?hd (cs:=#[.int .i64 0,.int .i64 0,.int .i64 0,.int .i64 0]) (t:=35) ?hr ?_;(case hd=>rfl);(case hg=>rfl);(case hr=>first | (go_simp;done) | (go_simp;rfl));intro g4 hgb w3 hbox hb;have B4:=am hbox;replace B0:=bkb B0 hb;replace B1:=bkb B1 hb;have G4:=am (show w.heap.size≤g4 by rw [hgb];exact HB.out.size);replace HB:=bst HB hb;clear hbox hb hgb))
 have KT:Aside0 (∀ w':World,w'.heap[g0]? = some (.cells #[.int .i64 a0_0,.int .i64 a0_1] 33 (0,0))→w'.heap[g1]? = some (.cells #[.int .i64 a1_0,.int .i64 a1_1] 33 (0,0))→w'.cell? ⟨g0,0,none⟩=some (.int .i64 a0_0)∧w'.cell? ⟨g0,1,none⟩=some (.int .i64 a0_1)∧w'.cell? ⟨g1,0,none⟩=some (.int .i64 a1_0)∧w'.cell? ⟨g1,1,none⟩=some (.int .i64 a1_1)):=⟨fun w' h0 h1=>⟨(st2 h0).1,(st2 h0).2,(st2 h1).1,(st2 h1).2⟩⟩
 have KB:Aside0 (∀ w':World,Below w3.heap.size w3 w'→w'.cell? ⟨g0,0,none⟩=some (.int .i64 a0_0)∧w'.cell? ⟨g0,1,none⟩=some (.int .i64 a0_1)∧w'.cell? ⟨g1,0,none⟩=some (.int .i64 a1_0)∧w'.cell? ⟨g1,1,none⟩=some (.int .i64 a1_1)):=⟨fun w' hW=>KT.out w' ((hW.block _ (blk_lt B0.out)).trans B0.out) ((hW.block _ (blk_lt B1.out)).trans B1.out)⟩
 have L0:=blk_lt B0.out;have L1:=blk_lt B1.out;have L4:=blk_lt B4.out
 go_region_held3? (fun w'=>w'.cell? ⟨g0,0,none⟩=some (.int .i64 a0_0)∧w'.cell? ⟨g0,1,none⟩=some (.int .i64 a0_1)∧w'.cell? ⟨g1,0,none⟩=some (.int .i64 a1_0)∧w'.cell? ⟨g1,1,none⟩=some (.int .i64 a1_1)) (first | (with_reducible refine KB.out _ ?_;(repeat (first | with_reducible assumption | (with_reducible first | exact Below.refl _ _ | apply below_alloc | apply below_drew1)));done) | (with_reducible refine KT.out _ (far4 ?_ (?_:g0≠_) _ _ _ _) (far4 ?_ (?_:g1≠_) _ _ _ _) <;> first | with_reducible assumption | omega) | (with_reducible refine KT.out _ (far4 (blk_alloc ?_ _) ?_ _ _ _ _) (far4 (blk_alloc ?_ _) ?_ _ _ _ _) <;> first | with_reducible assumption | omega))
  ((first | (go_at_call 130;(with_reducible refine (cut_Canon.calls k a0_0 a0_1 p1 p2 _ E1.out).mono ?_);rintro e w4 ⟨rfl,hb⟩;have Y:=below_step (w:=w3) (by repeat (first | assumption | (with_reducible first | exact Below.refl _ _ | apply below_alloc | apply pw_below_drewN | apply below_drew1) | exact Below.refl _ _)) hb;have U:=(Y.block _ (blk_lt B0.out)).trans B0.out;have V:=(Y.block _ (blk_lt B1.out)).trans B1.out;have LZ:=Y.size;(with_reducible first | have XB:=nb0 (B:=.cells #[.int .i64 0,.int .i64 0,.int .i64 0,.int .i64 0] 35 (0,0)) hb | have XB:=nb1 (B:=.cells #[.int .i64 0,.int .i64 0,.int .i64 0,.int .i64 0] 35 (0,0)) hb | have XB:=nb2 (B:=.cells #[.int .i64 0,.int .i64 0,.int .i64 0,.int .i64 0] 35 (0,0)) hb | have XB:=nd0 (B:=.cells #[.int .i64 0,.int .i64 0,.int .i64 0,.int .i64 0] 35 (0,0)) hb | have XB:=nd1 (B:=.cells #[.int .i64 0,.int .i64 0,.int .i64 0,.int .i64 0] 35 (0,0)) hb | have XB:=nd2 (B:=.cells #[.int .i64 0,.int .i64 0,.int .i64 0,.int .i64 0] 35 (0,0)) hb | have XB:=blk_below XB hb | have XB:=blk_below (blk_alloc XB _) hb | have XB:=blk_below (blk_alloc (blk_alloc XB _) _) hb | skip);(try simp only [drew_size,World.size_alloc] at XB);(try (have ZZ:=st4 XB;obtain ⟨z0,z1,z2,z3,z4,z5,z6,z7⟩:=ZZ))) | (go_at_call 130;(with_reducible refine (cut_Canon.calls k a1_0 a1_1 q1 q2 _ E2.out).mono ?_);rintro e w5 ⟨rfl,hb⟩;have Y:=below_step (w:=w3) (by repeat (first | assumption | (with_reducible first | exact Below.refl _ _ | apply below_alloc | apply pw_below_drewN | apply below_drew1) | exact Below.refl _ _)) hb;have U:=(Y.block _ (blk_lt B0.out)).trans B0.out;have V:=(Y.block _ (blk_lt B1.out)).trans B1.out;have LZ:=Y.size;(with_reducible first | have XB:=nb0 (B:=.cells #[.int .i64 0,.int .i64 0,.int .i64 0,.int .i64 0] 35 (0,0)) hb | have XB:=nb1 (B:=.cells #[.int .i64 0,.int .i64 0,.int .i64 0,.int .i64 0] 35 (0,0)) hb | have XB:=nb2 (B:=.cells #[.int .i64 0,.int .i64 0,.int .i64 0,.int .i64 0] 35 (0,0)) hb | have XB:=nd0 (B:=.cells #[.int .i64 0,.int .i64 0,.int .i64 0,.int .i64 0] 35 (0,0)) hb | have XB:=nd1 (B:=.cells #[.int .i64 0,.int .i64 0,.int .i64 0,.int .i64 0] 35 (0,0)) hb | have XB:=nd2 (B:=.cells #[.int .i64 0,.int .i64 0,.int .i64 0,.int .i64 0] 35 (0,0)) hb | have XB:=blk_below XB hb | have XB:=blk_below (blk_alloc XB _) hb | have XB:=blk_below (blk_alloc (blk_alloc XB _) _) hb | skip);(try simp only [drew_size,World.size_alloc] at XB);(try (have ZZ:=st4 XB;obtain ⟨z0,z1,z2,z3,z4,z5,z6,z7⟩:=ZZ)))))
 all_goals
  have XU:=(Y.block _ L4).trans B4.out
  have LW:=HB.out.size
  (first | refine store4 (G:=fun W=>Exit.then _ _ _ _ W) XB XU (by omega) (below_step HB.out Y) (by omega) fun W P Y4 YB=>?_ | refine alloc4 (G:=fun W=>Exit.then _ _ _ _ W) XU (below_step HB.out Y) fun W P Y4 YB=>?_)
  obtain ⟨s0,s1,s2,s3,-,-,-,-⟩:=st4 P
  obtain ⟨z0,z1,z2,z3,z4,z5,z6,z7⟩:=st4 Y4
  cases b
  all_goals
   go_wp2_with (first | (go_at_call 88;(with_reducible refine (span_Right.calls k p1 p2 q1 q2 _ W E3.out).mono ?_);rintro e w6 ⟨rfl,hb⟩;replace P:=blk_below P hb;replace Y4:=blk_below Y4 hb;replace YB:=below_step YB hb;clear s0 s1 s2 s3 z0 z1 z2 z3 z4 z5 z6 z7;obtain ⟨s0,s1,s2,s3,-,-,-,-⟩:=st4 P;obtain ⟨z0,z1,z2,z3,z4,z5,z6,z7⟩:=st4 Y4;clear hb))
   obtain ⟨rfl,rfl,rfl,rfl,rfl⟩:=by simpa [eq_comm] using H.out
   exact bodyPost_ret (results_ct rfl _ _ g4 35 _ (0,0) _ rfl (put4 Y4 _ _ _ _) Tryz.underlying35 rfl (by kernel_rfl)) rfl ⟨rfl,below4 YB G4.out _ _ _ _⟩
def span_Meet.f (k:Nat) (a0_0:Int) (a0_1:Int) (a0_2:Int) (a0_3:Int) (a1_0:Int) (a1_1:Int) (a1_2:Int) (a1_3:Int):Option (Int×Int×Int×Int×Bool):=(span_both.f k a0_0 a0_1 a0_2 a0_3 a1_0 a1_1 a1_2 a1_3).bind fun t208=>(if t208=true then ((cut_Greatest.f k (([(⟨a0_0,a0_1⟩:S33),(⟨a1_0,a1_1⟩:S33)]:List (S33)))).bind fun bt212=>((cut_Least.f k (([(⟨a0_2,a0_3⟩:S33),(⟨a1_2,a1_3⟩:S33)]:List (S33)))).bind fun bt217=>((span_Of.f k bt212.1 bt212.2 bt217.1 bt217.2).bind fun bt219=>(some (bt219.1,bt219.2.1,bt219.2.2.1,bt219.2.2.2.1,(bt219.2.2.2.2 == 0)))))) else (some (0,0,0,0,false)))
theorem span_Meet.calls (k:Nat) (a0_0:Int) (a0_1:Int) (a0_2:Int) (a0_3:Int) (a1_0:Int) (a1_1:Int) (a1_2:Int) (a1_3:Int) (r1 r2 r3 r4:Int) (r5:Bool) (w:World) (h:span_Meet.f k a0_0 a0_1 a0_2 a0_3 a1_0 a1_1 a1_2 a1_3=some (r1,r2,r3,r4,r5)) :
 Calls Tryz.prog 124 #[.agg #[.int .i64 a0_0,.int .i64 a0_1,.int .i64 a0_2,.int .i64 a0_3],.agg #[.int .i64 a1_0,.int .i64 a1_1,.int .i64 a1_2,.int .i64 a1_3]] w fun e w'=>e=.returned (.tuple #[.agg #[.int .i64 r1,.int .i64 r2,.int .i64 r3,.int .i64 r4],.bool r5])∧Below w.heap.size w w':=by
 have hu35:=Tryz.underlying35;have hu33:=Tryz.underlying33
 obtain ⟨b,e1,h⟩:=Option.bind_eq_some_iff.1 h
 have H:=am h;clear h;cases b
 all_goals
  go_enter Tryz.func124,Tryz.ntmps124
  go_wp2_with (first | ((with_reducible refine gate_dst (N:=2) rfl ?_);refine box_event ?hg (N:=2) ?hd (cs:=#[.int .i64 a0_0,.int .i64 a0_1,.int .i64 a0_2,.int .i64 a0_3]) (t:=35) ?hr ?_;(case hd=>rfl);(case hg=>rfl);(case hr=>first | (go_simp;done) | (go_simp;rfl));intro g0 hgb w1 hbox hb;have B0:=am hbox;have HB:=am hb;clear hbox hb hgb) | ((with_reducible refine gate_dst (N:=3) rfl ?_);refine box_event ?hg (N:=3) ?hd (cs:=#[.int .i64 a1_0,.int .i64 a1_1,.int .i64 a1_2,.int .i64 a1_3]) (t:=35) ?hr ?_;(case hd=>rfl);(case hg=>rfl);(case hr=>first | (go_simp;done) | (go_simp;rfl));intro g1 hgb w2 hbox hb;have B1:=am hbox;replace B0:=bkb B0 hb;replace HB:=bst HB hb;clear hbox hb hgb) | ((with_reducible refine gate_dst (N:=4) rfl ?_);refine box_event ?hg (N:=4) ?hd (cs:=#[.int .i64 0,.int .i64 0,.int .i64 0,.int .i64 0]) (t:=35) ?hr ?_;(case hd=>rfl);(case hg=>rfl);(case hr=>first | (go_simp;done) | (go_simp;rfl));intro g4 hgb w3 hbox hb;have F0:=am (Nat.ne_of_lt (Nat.lt_of_lt_of_eq (blk_lt B0.out) hgb.symm));have F1:=am (Nat.ne_of_lt (Nat.lt_of_lt_of_eq (blk_lt B1.out) hgb.symm));have B4:=am hbox;replace B0:=bkb B0 hb;replace B1:=bkb B1 hb;have G4:=am (show w.heap.size≤g4 by rw [hgb];exact HB.out.size);replace HB:=bst HB hb;clear hbox hb hgb;obtain ⟨x0,x1,x2,x3,-,-,-,-⟩:=st4 B0.out;obtain ⟨y0,y1,y2,y3,-,-,-,-⟩:=st4 B1.out) | (go_at_call 116;(with_reducible refine (span_both.calls k a0_0 a0_1 a0_2 a0_3 a1_0 a1_1 a1_2 a1_3 _ w3 e1).mono ?_);rintro e w4 ⟨rfl,hb⟩;replace B0:=bkb B0 hb;replace B1:=bkb B1 hb;replace B4:=bkb B4 hb;replace HB:=bst HB hb;clear hb x0 x1 x2 x3 y0 y1 y2 y3;obtain ⟨z0,z1,z2,z3,z4,z5,z6,z7⟩:=st4 B4.out))
 ·obtain ⟨rfl,rfl,rfl,rfl,rfl⟩:r1=0∧r2=0∧r3=0∧r4=0∧r5=false:=by simpa [eq_comm] using H.out
  exact bodyPost_ret (results_ct rfl _ _ g4 35 _ (0,0) _ rfl (put4 B4.out _ _ _ _) Tryz.underlying35 rfl (by kernel_rfl)) rfl ⟨rfl,below4 HB.out G4.out _ _ _ _⟩
 ·obtain ⟨⟨p1,p2⟩,e2,h⟩:=Option.bind_eq_some_iff.1 H.out
  obtain ⟨⟨q1,q2⟩,e3,h⟩:=Option.bind_eq_some_iff.1 h
  obtain ⟨⟨s1,s2,s3,s4,s5⟩,e4,h⟩:=Option.bind_eq_some_iff.1 h
  simp only [Option.some.injEq,Prod.mk.injEq] at h
  obtain ⟨rfl,rfl,rfl,rfl,rfl⟩:=h
  have E2:=am e2;have E3:=am e3;have E4:=am e4;clear e1 e2 e3 e4 H z0 z1 z2 z3 z4 z5 z6 z7
  have KT:Aside0 (∀ w':World,w'.heap[g0]? = some (.cells #[.int .i64 a0_0,.int .i64 a0_1,.int .i64 a0_2,.int .i64 a0_3] 35 (0,0))→w'.heap[g1]? = some (.cells #[.int .i64 a1_0,.int .i64 a1_1,.int .i64 a1_2,.int .i64 a1_3] 35 (0,0))→w'.cell? ⟨g0,0,none⟩=some (.int .i64 a0_0)∧w'.cell? ⟨g0,1,none⟩=some (.int .i64 a0_1)∧w'.cell? ⟨g0,2,none⟩=some (.int .i64 a0_2)∧w'.cell? ⟨g0,3,none⟩=some (.int .i64 a0_3)∧w'.cell? ⟨g1,0,none⟩=some (.int .i64 a1_0)∧w'.cell? ⟨g1,1,none⟩=some (.int .i64 a1_1)∧w'.cell? ⟨g1,2,none⟩=some (.int .i64 a1_2)∧w'.cell? ⟨g1,3,none⟩=some (.int .i64 a1_3)):=⟨fun w' h0 h1=>⟨(blk_cell h0 0).trans rfl,(blk_cell h0 1).trans rfl,(blk_cell h0 2).trans rfl,(blk_cell h0 3).trans rfl,(blk_cell h1 0).trans rfl,(blk_cell h1 1).trans rfl,(blk_cell h1 2).trans rfl,(blk_cell h1 3).trans rfl⟩⟩
  have KB:Aside0 (∀ w':World,Below w4.heap.size w4 w'→w'.cell? ⟨g0,0,none⟩=some (.int .i64 a0_0)∧w'.cell? ⟨g0,1,none⟩=some (.int .i64 a0_1)∧w'.cell? ⟨g0,2,none⟩=some (.int .i64 a0_2)∧w'.cell? ⟨g0,3,none⟩=some (.int .i64 a0_3)∧w'.cell? ⟨g1,0,none⟩=some (.int .i64 a1_0)∧w'.cell? ⟨g1,1,none⟩=some (.int .i64 a1_1)∧w'.cell? ⟨g1,2,none⟩=some (.int .i64 a1_2)∧w'.cell? ⟨g1,3,none⟩=some (.int .i64 a1_3)):=⟨fun w' hW=>KT.out w' ((hW.block _ (blk_lt B0.out)).trans B0.out) ((hW.block _ (blk_lt B1.out)).trans B1.out)⟩
  have L0:=blk_lt B0.out;have L1:=blk_lt B1.out;have L4:=blk_lt B4.out
  go_region_held3? (fun w'=>w'.cell? ⟨g0,0,none⟩=some (.int .i64 a0_0)∧w'.cell? ⟨g0,1,none⟩=some (.int .i64 a0_1)∧w'.cell? ⟨g0,2,none⟩=some (.int .i64 a0_2)∧w'.cell? ⟨g0,3,none⟩=some (.int .i64 a0_3)∧w'.cell? ⟨g1,0,none⟩=some (.int .i64 a1_0)∧w'.cell? ⟨g1,1,none⟩=some (.int .i64 a1_1)∧w'.cell? ⟨g1,2,none⟩=some (.int .i64 a1_2)∧w'.cell? ⟨g1,3,none⟩=some (.int .i64 a1_3)) (first | (with_reducible refine KB.out _ ?_;(repeat (first | with_reducible assumption | (with_reducible first | exact Below.refl _ _ | apply below_alloc | apply below_drew1)));done) | (with_reducible refine KT.out _ (far4 ?_ (?_:g0≠_) _ _ _ _) (far4 ?_ (?_:g1≠_) _ _ _ _) <;> first | with_reducible assumption | omega) | (with_reducible refine KT.out _ (far4 (blk_alloc ?_ _) ?_ _ _ _ _) (far4 (blk_alloc ?_ _) ?_ _ _ _ _) <;> first | with_reducible assumption | omega))
   ((first | (go_at_call 126;(refine Calls.mono (cut_Greatest.calls k _ 2 [(⟨a0_0,a0_1⟩:S33),⟨a1_0,a1_1⟩] p1 p2 _ ?_ (Nat.le_refl 2) E2.out) ?_);(focus (refine lit33 _ _ _ _ _ _ ?_;(repeat (first | (with_reducible exact World.alloc_heap_new _ _) | (with_reducible refine alloc_at ?_;first | (simp only [World.size_alloc,drew_size];done) | (simp only [World.size_alloc,drew_size];omega)) | (with_reducible refine blk_drew ?_) | (with_reducible refine blk_alloc ?_ _) | (with_reducible refine blk_below ?_ hb)))));rintro e w5 ⟨rfl,hb⟩;have Y:=below_step (w:=w4) (by repeat (first | assumption | (with_reducible first | exact Below.refl _ _ | apply below_alloc | apply pw_below_drewN | apply below_drew1) | exact Below.refl _ _)) hb;have U:=(Y.block _ (blk_lt B0.out)).trans B0.out;have V:=(Y.block _ (blk_lt B1.out)).trans B1.out;have LZ:=Y.size;(with_reducible first | have XB:=nb0 (B:=.cells #[.int .i64 0,.int .i64 0,.int .i64 0,.int .i64 0] 35 (0,0)) hb | have XB:=nb1 (B:=.cells #[.int .i64 0,.int .i64 0,.int .i64 0,.int .i64 0] 35 (0,0)) hb | have XB:=nb2 (B:=.cells #[.int .i64 0,.int .i64 0,.int .i64 0,.int .i64 0] 35 (0,0)) hb | have XB:=nd0 (B:=.cells #[.int .i64 0,.int .i64 0,.int .i64 0,.int .i64 0] 35 (0,0)) hb | have XB:=nd1 (B:=.cells #[.int .i64 0,.int .i64 0,.int .i64 0,.int .i64 0] 35 (0,0)) hb | have XB:=nd2 (B:=.cells #[.int .i64 0,.int .i64 0,.int .i64 0,.int .i64 0] 35 (0,0)) hb | have XB:=blk_below XB hb | have XB:=blk_below (blk_alloc XB _) hb | have XB:=blk_below (blk_alloc (blk_alloc XB _) _) hb | skip);(try simp only [drew_size,World.size_alloc] at XB);(try (have ZZ:=st4 XB;obtain ⟨z0,z1,z2,z3,z4,z5,z6,z7⟩:=ZZ))) | (go_at_call 146;(with_reducible refine (span_Of.calls k p1 p2 q1 q2 _ _ _ _ _ _ E4.out).mono ?_);rintro e w7 ⟨rfl,hb⟩;have Y:=below_step (w:=w4) (by repeat (first | assumption | (with_reducible first | exact Below.refl _ _ | apply below_alloc | apply pw_below_drewN | apply below_drew1) | exact Below.refl _ _)) hb;have U:=(Y.block _ (blk_lt B0.out)).trans B0.out;have V:=(Y.block _ (blk_lt B1.out)).trans B1.out;have LZ:=Y.size;(with_reducible first | have XB:=nb0 (B:=.cells #[.int .i64 0,.int .i64 0,.int .i64 0,.int .i64 0] 35 (0,0)) hb | have XB:=nb1 (B:=.cells #[.int .i64 0,.int .i64 0,.int .i64 0,.int .i64 0] 35 (0,0)) hb | have XB:=nb2 (B:=.cells #[.int .i64 0,.int .i64 0,.int .i64 0,.int .i64 0] 35 (0,0)) hb | have XB:=nd0 (B:=.cells #[.int .i64 0,.int .i64 0,.int .i64 0,.int .i64 0] 35 (0,0)) hb | have XB:=nd1 (B:=.cells #[.int .i64 0,.int .i64 0,.int .i64 0,.int .i64 0] 35 (0,0)) hb | have XB:=nd2 (B:=.cells #[.int .i64 0,.int .i64 0,.int .i64 0,.int .i64 0] 35 (0,0)) hb | have XB:=blk_below XB hb | have XB:=blk_below (blk_alloc XB _) hb | have XB:=blk_below (blk_alloc (blk_alloc XB _) _) hb | skip);(try simp only [drew_size,World.size_alloc] at XB);(try (have ZZ:=st4 XB;obtain ⟨z0,z1,z2,z3,z4,z5,z6,z7⟩:=ZZ))) | (go_at_call 125;(refine Calls.mono (cut_Least.calls k _ 2 [(⟨a0_2,a0_3⟩:S33),⟨a1_2,a1_3⟩] q1 q2 _ ?_ (Nat.le_refl 2) E3.out) ?_);(focus (refine lit33 _ _ _ _ _ _ ?_;(repeat (first | (with_reducible exact World.alloc_heap_new _ _) | (with_reducible refine alloc_at ?_;first | (simp only [World.size_alloc,drew_size];done) | (simp only [World.size_alloc,drew_size];omega)) | (with_reducible refine blk_drew ?_) | (with_reducible refine blk_alloc ?_ _) | (with_reducible refine blk_below ?_ hb)))));rintro e w6 ⟨rfl,hb⟩;have Y:=below_step (w:=w4) (by repeat (first | assumption | (with_reducible first | exact Below.refl _ _ | apply below_alloc | apply pw_below_drewN | apply below_drew1) | exact Below.refl _ _)) hb;have U:=(Y.block _ (blk_lt B0.out)).trans B0.out;have V:=(Y.block _ (blk_lt B1.out)).trans B1.out;have LZ:=Y.size;(with_reducible first | have XB:=nb0 (B:=.cells #[.int .i64 0,.int .i64 0,.int .i64 0,.int .i64 0] 35 (0,0)) hb | have XB:=nb1 (B:=.cells #[.int .i64 0,.int .i64 0,.int .i64 0,.int .i64 0] 35 (0,0)) hb | have XB:=nb2 (B:=.cells #[.int .i64 0,.int .i64 0,.int .i64 0,.int .i64 0] 35 (0,0)) hb | have XB:=nd0 (B:=.cells #[.int .i64 0,.int .i64 0,.int .i64 0,.int .i64 0] 35 (0,0)) hb | have XB:=nd1 (B:=.cells #[.int .i64 0,.int .i64 0,.int .i64 0,.int .i64 0] 35 (0,0)) hb | have XB:=nd2 (B:=.cells #[.int .i64 0,.int .i64 0,.int .i64 0,.int .i64 0] 35 (0,0)) hb | have XB:=blk_below XB hb | have XB:=blk_below (blk_alloc XB _) hb | have XB:=blk_below (blk_alloc (blk_alloc XB _) _) hb | skip);(try simp only [drew_size,World.size_alloc] at XB);(try (have ZZ:=st4 XB;obtain ⟨z0,z1,z2,z3,z4,z5,z6,z7⟩:=ZZ)))))
  all_goals
   have XU:=(Y.block _ L4).trans B4.out
   have LW:=HB.out.size
   (first | refine store4 (G:=fun W=>Exit.then _ _ _ _ W) XB XU (by omega) (below_step HB.out Y) (by omega) fun W P Y4 YB=>?_ | refine alloc4 (G:=fun W=>Exit.then _ _ _ _ W) XU (below_step HB.out Y) fun W P Y4 YB=>?_)
   obtain ⟨x0,x1,x2,x3,-,-,-,-⟩:=st4 P
   obtain ⟨z0,z1,z2,z3,z4,z5,z6,z7⟩:=st4 Y4
   go_wp2
   exact bodyPost_ret (results_ct rfl _ _ g4 35 _ (0,0) _ rfl (put4 Y4 _ _ _ _) Tryz.underlying35 rfl (by kernel_rfl)) rfl ⟨rfl,below4 YB G4.out _ _ _ _⟩
def span_Overlap.f (k:Nat) (a0_0:Int) (a0_1:Int) (a0_2:Int) (a0_3:Int) (a1_0:Int) (a1_1:Int) (a1_2:Int) (a1_3:Int):Option (Bool):=(span_Meet.f k a0_0 a0_1 a0_2 a0_3 a1_0 a1_1 a1_2 a1_3).bind fun bt227=>(some bt227.2.2.2.2)
theorem span_Overlap.calls (k:Nat) (a0_0:Int) (a0_1:Int) (a0_2:Int) (a0_3:Int) (a1_0:Int) (a1_1:Int) (a1_2:Int) (a1_3:Int) (r:Bool) (w:World) (h:span_Overlap.f k a0_0 a0_1 a0_2 a0_3 a1_0 a1_1 a1_2 a1_3=some r) :
 Calls Tryz.prog 102 #[.agg #[.int .i64 a0_0,.int .i64 a0_1,.int .i64 a0_2,.int .i64 a0_3],.agg #[.int .i64 a1_0,.int .i64 a1_1,.int .i64 a1_2,.int .i64 a1_3]] w fun e w'=>e=.returned (.bool r)∧Below w.heap.size w w':=by
 have hu35:=Tryz.underlying35
 have HB:=am (Below.refl w.heap.size w)
 unfold span_Overlap.f at h;have H:=h;clear h;revert H;refine bnd5 fun t227 t228 t229 t230 t231 A3 H=>?_;dsimp only at H
 obtain rfl:=Option.some.inj H;go_enter Tryz.func102,Tryz.ntmps102
 go_wp2_with (first | ((with_reducible refine gate_dst (N:=2) rfl ?_);refine bxf #[.int .i64 a0_0,.int .i64 a0_1,.int .i64 a0_2,.int .i64 a0_3] 35 HB fun gb225 w4 BK225 GW225 HB hg hb=>?_;clear hb hg) | ((with_reducible refine gate_dst (N:=3) rfl ?_);refine bxf #[.int .i64 a1_0,.int .i64 a1_1,.int .i64 a1_2,.int .i64 a1_3] 35 HB fun gb226 w5 BK226 GW226 HB hg hb=>?_;have NB225_226:=nlt hg BK225;have NB226_225:=ngt hg BK225;replace BK225:=bkb BK225 hb;clear hb hg;have hnb6:=NB225_226.out;have hnc6:=NB226_225.out;obtain ⟨_,_,_,_,_,_,_,_⟩:=s4 BK225;obtain ⟨_,_,_,_,_,_,_,_⟩:=s4 BK226) | ((with_reducible refine gate_callee (f:=124) rfl ?_);refine gob Tryz.func124 (span_Meet.calls _ _ _ _ _ _ _ _ _ _ _ _ _ _ _ A3.out) fun w9 hb=>?_;replace BK225:=bkb BK225 hb;replace BK226:=bkb BK226 hb;replace HB:=bst HB hb;(try clear hb);(try clear hb2);(try clear hk);(try clear hi)) | ((with_reducible refine gate_dst (N:=5) rfl ?_);refine bxf #[.int .i64 0,.int .i64 0,.int .i64 0,.int .i64 0] 35 HB fun gb232 w10 BK232 GW232 HB hg hb=>?_;have NB225_232:=nlt hg BK225;have NB232_225:=ngt hg BK225;replace BK225:=bkb BK225 hb;have NB226_232:=nlt hg BK226;have NB232_226:=ngt hg BK226;replace BK226:=bkb BK226 hb;clear hb hg;have hnb11:=NB232_225.out;have hnc11:=NB225_232.out;have hnb12:=NB232_226.out;have hnc12:=NB226_232.out;obtain ⟨_,_,_,_,_,_,_,_⟩:=s4 BK232));go_ret;exact endB HB
def span_Hull.f (k:Nat) (a0_0:Int) (a0_1:Int) (a0_2:Int) (a0_3:Int) (a1_0:Int) (a1_1:Int) (a1_2:Int) (a1_3:Int):Option (Int×Int×Int×Int):=(span_both.f k a0_0 a0_1 a0_2 a0_3 a1_0 a1_1 a1_2 a1_3).bind fun t236=>(if t236=true then ((cut_Least.f k (([(⟨a0_0,a0_1⟩:S33),(⟨a1_0,a1_1⟩:S33)]:List (S33)))).bind fun bt240=>((cut_Greatest.f k (([(⟨a0_2,a0_3⟩:S33),(⟨a1_2,a1_3⟩:S33)]:List (S33)))).bind fun bt245=>(some (bt240.1,bt240.2,bt245.1,bt245.2)))) else (some (0,0,0,0)))
theorem alloc_new1 (w:World) (a b:Obj):((w.alloc a).alloc b).heap[w.heap.size+1]? = some b:=by have h:=World.alloc_heap_new (w.alloc a) b;rwa [World.size_alloc] at h
theorem span_Hull.calls (k:Nat) (a0_0:Int) (a0_1:Int) (a0_2:Int) (a0_3:Int) (a1_0:Int) (a1_1:Int) (a1_2:Int) (a1_3:Int) (r1 r2 r3 r4:Int) (w:World) (h:span_Hull.f k a0_0 a0_1 a0_2 a0_3 a1_0 a1_1 a1_2 a1_3=some (r1,r2,r3,r4)) :
 Calls Tryz.prog 103 #[.agg #[.int .i64 a0_0,.int .i64 a0_1,.int .i64 a0_2,.int .i64 a0_3],.agg #[.int .i64 a1_0,.int .i64 a1_1,.int .i64 a1_2,.int .i64 a1_3]] w fun e w'=>e=.returned (.agg #[.int .i64 r1,.int .i64 r2,.int .i64 r3,.int .i64 r4])∧Below w.heap.size w w':=by
 have hu35:=Tryz.underlying35;have hu33:=Tryz.underlying33
 obtain ⟨b,e1,h⟩:=Option.bind_eq_some_iff.1 h
 have H:=am h;clear h;cases b
 all_goals
  go_enter Tryz.func103,Tryz.ntmps103
  go_wp2_with (first | ((with_reducible refine gate_dst (N:=2) rfl ?_);refine box_event ?hg (N:=2) ?hd (cs:=#[.int .i64 a0_0,.int .i64 a0_1,.int .i64 a0_2,.int .i64 a0_3]) (t:=35) ?hr ?_;(case hd=>rfl);(case hg=>rfl);(case hr=>first | (go_simp;done) | (go_simp;rfl));intro g0 hgb w1 hbox hb;have B0:=am hbox;have HB:=am hb;clear hbox hb hgb) | ((with_reducible refine gate_dst (N:=3) rfl ?_);refine box_event ?hg (N:=3) ?hd (cs:=#[.int .i64 a1_0,.int .i64 a1_1,.int .i64 a1_2,.int .i64 a1_3]) (t:=35) ?hr ?_;(case hd=>rfl);(case hg=>rfl);(case hr=>first | (go_simp;done) | (go_simp;rfl));intro g1 hgb w2 hbox hb;have B1:=am hbox;replace B0:=bkb B0 hb;replace HB:=bst HB hb;clear hbox hb hgb) | ((with_reducible refine gate_dst (N:=4) rfl ?_);refine box_event ?hg (N:=4) ?hd (cs:=#[.int .i64 0,.int .i64 0,.int .i64 0,.int .i64 0]) (t:=35) ?hr ?_;(case hd=>rfl);(case hg=>rfl);(case hr=>first | (go_simp;done) | (go_simp;rfl));intro g4 hgb w3 hbox hb;have F0:=am (Nat.ne_of_lt (Nat.lt_of_lt_of_eq (blk_lt B0.out) hgb.symm));have F1:=am (Nat.ne_of_lt (Nat.lt_of_lt_of_eq (blk_lt B1.out) hgb.symm));have B4:=am hbox;replace B0:=bkb B0 hb;replace B1:=bkb B1 hb;have G4:=am (show w.heap.size≤g4 by rw [hgb];exact HB.out.size);replace HB:=bst HB hb;clear hbox hb hgb;obtain ⟨x0,x1,x2,x3,-,-,-,-⟩:=st4 B0.out;obtain ⟨y0,y1,y2,y3,-,-,-,-⟩:=st4 B1.out) | (go_at_call 116;(with_reducible refine (span_both.calls k a0_0 a0_1 a0_2 a0_3 a1_0 a1_1 a1_2 a1_3 _ w3 e1).mono ?_);rintro e w4 ⟨rfl,hb⟩;replace B0:=bkb B0 hb;replace B1:=bkb B1 hb;replace B4:=bkb B4 hb;replace HB:=bst HB hb;clear hb x0 x1 x2 x3 y0 y1 y2 y3;obtain ⟨z0,z1,z2,z3,z4,z5,z6,z7⟩:=st4 B4.out))
 ·obtain ⟨rfl,rfl,rfl,rfl⟩:r1=0∧r2=0∧r3=0∧r4=0:=by simpa [eq_comm] using H.out
  exact bodyPost_ret (results_cell_row rfl _ _ g4 35 _ (0,0) _ rfl (put4 B4.out _ _ _ _) Tryz.underlying35 rfl (by kernel_rfl)) rfl ⟨rfl,below4 HB.out G4.out _ _ _ _⟩
 ·obtain ⟨⟨p1,p2⟩,e2,h⟩:=Option.bind_eq_some_iff.1 H.out
  obtain ⟨⟨q1,q2⟩,e3,h⟩:=Option.bind_eq_some_iff.1 h
  simp only [Option.some.injEq,Prod.mk.injEq] at h
  obtain ⟨rfl,rfl,rfl,rfl⟩:=h
  have E2:=am e2;have E3:=am e3;clear e1 e2 e3 H z0 z1 z2 z3 z4 z5 z6 z7
  have KT:Aside0 (∀ w':World,w'.heap[g0]? = some (.cells #[.int .i64 a0_0,.int .i64 a0_1,.int .i64 a0_2,.int .i64 a0_3] 35 (0,0))→w'.heap[g1]? = some (.cells #[.int .i64 a1_0,.int .i64 a1_1,.int .i64 a1_2,.int .i64 a1_3] 35 (0,0))→w'.cell? ⟨g0,0,none⟩=some (.int .i64 a0_0)∧w'.cell? ⟨g0,1,none⟩=some (.int .i64 a0_1)∧w'.cell? ⟨g0,2,none⟩=some (.int .i64 a0_2)∧w'.cell? ⟨g0,3,none⟩=some (.int .i64 a0_3)∧w'.cell? ⟨g1,0,none⟩=some (.int .i64 a1_0)∧w'.cell? ⟨g1,1,none⟩=some (.int .i64 a1_1)∧w'.cell? ⟨g1,2,none⟩=some (.int .i64 a1_2)∧w'.cell? ⟨g1,3,none⟩=some (.int .i64 a1_3)):=⟨fun w' h0 h1=>⟨(blk_cell h0 0).trans rfl,(blk_cell h0 1).trans rfl,(blk_cell h0 2).trans rfl,(blk_cell h0 3).trans rfl,(blk_cell h1 0).trans rfl,(blk_cell h1 1).trans rfl,(blk_cell h1 2).trans rfl,(blk_cell h1 3).trans rfl⟩⟩
  have KB:Aside0 (∀ w':World,Below w4.heap.size w4 w'→w'.cell? ⟨g0,0,none⟩=some (.int .i64 a0_0)∧w'.cell? ⟨g0,1,none⟩=some (.int .i64 a0_1)∧w'.cell? ⟨g0,2,none⟩=some (.int .i64 a0_2)∧w'.cell? ⟨g0,3,none⟩=some (.int .i64 a0_3)∧w'.cell? ⟨g1,0,none⟩=some (.int .i64 a1_0)∧w'.cell? ⟨g1,1,none⟩=some (.int .i64 a1_1)∧w'.cell? ⟨g1,2,none⟩=some (.int .i64 a1_2)∧w'.cell? ⟨g1,3,none⟩=some (.int .i64 a1_3)):=⟨fun w' hW=>KT.out w' ((hW.block _ (blk_lt B0.out)).trans B0.out) ((hW.block _ (blk_lt B1.out)).trans B1.out)⟩
  go_region_held3? (fun w'=>w'.cell? ⟨g0,0,none⟩=some (.int .i64 a0_0)∧w'.cell? ⟨g0,1,none⟩=some (.int .i64 a0_1)∧w'.cell? ⟨g0,2,none⟩=some (.int .i64 a0_2)∧w'.cell? ⟨g0,3,none⟩=some (.int .i64 a0_3)∧w'.cell? ⟨g1,0,none⟩=some (.int .i64 a1_0)∧w'.cell? ⟨g1,1,none⟩=some (.int .i64 a1_1)∧w'.cell? ⟨g1,2,none⟩=some (.int .i64 a1_2)∧w'.cell? ⟨g1,3,none⟩=some (.int .i64 a1_3)) (first | (with_reducible refine KT.out _ (far4 ?_ F0.out _ _ _ _) (far4 ?_ F1.out _ _ _ _) <;> with_reducible assumption) | exact KB.out _ (by repeat (first | assumption | (with_reducible first | exact Below.refl _ _ | apply below_alloc | apply pw_below_drewN | apply below_drew1) | exact Below.refl _ _)))
   ((first | (go_at_call 125;(refine Calls.mono (cut_Least.calls k _ 2 [(⟨a0_0,a0_1⟩:S33),⟨a1_0,a1_1⟩] p1 p2 _ ?_ (Nat.le_refl 2) E2.out) ?_);(focus (refine lit33 _ _ _ _ _ _ ?_;(repeat (first | (with_reducible exact World.alloc_heap_new _ _) | (with_reducible exact alloc_new1 _ _ _) | (with_reducible refine blk_drew ?_) | (with_reducible refine blk_alloc ?_ _) | (with_reducible refine blk_below ?_ hb6)))));rintro e w6 ⟨rfl,hb6⟩;have Y:=below_step (w:=w4) (by repeat (first | assumption | (with_reducible first | exact Below.refl _ _ | apply below_alloc | apply pw_below_drewN | apply below_drew1) | exact Below.refl _ _)) hb6;have U:=(Y.block _ (blk_lt B0.out)).trans B0.out;have V:=(Y.block _ (blk_lt B1.out)).trans B1.out;obtain ⟨z0,z1,z2,z3,z4,z5,z6,z7⟩:=st4 ((Y.block _ (blk_lt B4.out)).trans B4.out)) | (go_at_call 126;(refine Calls.mono (cut_Greatest.calls k _ 2 [(⟨a0_2,a0_3⟩:S33),⟨a1_2,a1_3⟩] q1 q2 _ ?_ (Nat.le_refl 2) E3.out) ?_);(focus (refine lit33 _ _ _ _ _ _ ?_;(repeat (first | (with_reducible exact World.alloc_heap_new _ _) | (with_reducible exact alloc_new1 _ _ _) | (with_reducible refine blk_drew ?_) | (with_reducible refine blk_alloc ?_ _) | (with_reducible refine blk_below ?_ hb6)))));rintro e w7 ⟨rfl,hb7⟩;have Y:=below_step (w:=w4) (by repeat (first | assumption | (with_reducible first | exact Below.refl _ _ | apply below_alloc | apply pw_below_drewN | apply below_drew1) | exact Below.refl _ _)) hb7;have U:=(Y.block _ (blk_lt B0.out)).trans B0.out;have V:=(Y.block _ (blk_lt B1.out)).trans B1.out;obtain ⟨z0,z1,z2,z3,z4,z5,z6,z7⟩:=st4 ((Y.block _ (blk_lt B4.out)).trans B4.out))))
  all_goals
   go_wp2
   exact bodyPost_ret (results_cell_row rfl _ _ g4 35 _ (0,0) _ rfl (put4 ((Y.block _ (blk_lt B4.out)).trans B4.out) _ _ _ _) Tryz.underlying35 rfl (by kernel_rfl)) rfl ⟨rfl,below4 (below_step HB.out Y) G4.out _ _ _ _⟩
end Go.Proofs.YtbcpnejdbookkaaGreat.Print
namespace Go.Proofs.YtbcpnejdbookkaaGreat.Print
open Go.RowKit Go.Proofs.YtbcpnejdbookkaaGreatW.PrintWords Go.Proofs.YtbcpnejdbookkaaGreatW.PrintLast
abbrev Sp:=S35
theorem canon_idem (s a:Int):canon (canon s a).1 (canon s a).2=canon s a:=by
 unfold canon
 by_cases h1:s < 0∨(s=0∧a=-9223372036854775808)
 ·rw [if_pos h1];rfl
 ·rw [if_neg h1]
  by_cases h2:s > 0
  ·rw [if_pos h2];rfl
  ·rw [if_neg h2];rw [if_neg h1,if_neg h2]
theorem canon_sides (s a:Int):(canon s a=(-1,0))∨(canon s a=(1,0))∨(∃ b,canon s a=(0,b)):=by
 unfold canon
 by_cases h1:s < 0∨(s=0∧a=-9223372036854775808)
 ·rw [if_pos h1];exact .inl rfl
 ·rw [if_neg h1]
  by_cases h2:s > 0
  ·rw [if_pos h2];exact .inr (.inl rfl)
  ·rw [if_neg h2];exact .inr (.inr ⟨a,by rw [show s=0 by omega]⟩)
def minC (p q:Int×Int):Int×Int:=if cmp2 q p < 0 then q else p
def maxC (p q:Int×Int):Int×Int:=if cmp2 q p > 0 then q else p
theorem cut_Least.eq2 (p q:Ct) (k:Nat) (hk:9≤k):cut_Least.f k [p,q]=some (minC (canon p.f0 p.f1) (canon q.f0 q.f1)):=by
 obtain ⟨k,rfl⟩:∃ j,k=j+3:=⟨k - 3,by omega⟩
 have h1:=cut_Compare.eq p.f0 p.f1 1 0 (k+2) (by omega)
 have h2:=cut_Canon.eq p.f0 p.f1 (k+2) (by omega)
 have h3:=cut_Canon.eq q.f0 q.f1 (k+1) (by omega)
 have h4:=fun s a=>cut_Compare.eq q.f0 q.f1 s a (k+1) (by omega)
 have hc:canon 1 0=(1,0):=rfl
 have hcases:=cmp2_cases (canon p.f0 p.f1) (1,0)
 have hs:=canon_sides p.f0 p.f1
 obtain ⟨m,rfl⟩:∃ m,k=m+1:=⟨k - 1,by omega⟩
 unfold cut_Least.f
 show cut_Least.l0 (m+1+3) [p,q] 2 0 1 0=_
 rw [cut_Least.l0,if_pos (by decide),if_pos (by decide),if_pos (by simp)]
 simp only [rd_T33,Int.toNat_zero,List.getD_cons_zero]
 rw [h1,hc]
 simp only [Option.bind_some]
 have hw:wrap64 (0+1)=1:=by unfold wrap64;omega
 have hw2:wrap64 (1+1)=2:=by unfold wrap64;omega
 have key:∀ r:Int×Int,canon r.1 r.2=r→cut_Least.l0 (m+1+2) [p,q] 2 (wrap64 (0+1)) r.1 r.2=some (minC r (canon q.f0 q.f1)):=by
  intro r hr
  rw [hw,cut_Least.l0,if_pos (by decide),if_pos (by decide),if_pos (by simp)]
  simp only [rd_T33,show (1:Int).toNat=1 from rfl,List.getD_cons_succ,List.getD_cons_zero]
  rw [h4,hr]
  simp only [Option.bind_some]
  unfold minC
  by_cases h:cmp2 (canon q.f0 q.f1) r < 0
  ·rw [if_pos h,if_pos h,h3,hw2]
   simp only [Option.bind_some]
   rw [cut_Least.l0,if_neg (by decide)]
  ·rw [if_neg h,if_neg h,hw2,cut_Least.l0,if_neg (by decide)]
 by_cases h:cmp2 (canon p.f0 p.f1) (1,0) < 0
 ·rw [if_pos h,h2]
  simp only [Option.bind_some]
  exact key _ (canon_idem _ _)
 ·rw [if_neg h]
  have:canon p.f0 p.f1=(1,0):=by
   rcases hs with e | e | ⟨b,e⟩
   ·rw [e] at h;exact absurd (by decide) h
   ·exact e
   ·rw [e] at h;exact absurd (by unfold cmp2;simp) h
  rw [this]
  exact key (1,0) rfl
theorem cut_Greatest.eq2 (p q:Ct) (k:Nat) (hk:9≤k):cut_Greatest.f k [p,q]=some (maxC (canon p.f0 p.f1) (canon q.f0 q.f1)):=by
 obtain ⟨k,rfl⟩:∃ j,k=j+3:=⟨k - 3,by omega⟩
 have h1:=cut_Compare.eq p.f0 p.f1 (-1) 0 (k+2) (by omega)
 have h2:=cut_Canon.eq p.f0 p.f1 (k+2) (by omega)
 have h3:=cut_Canon.eq q.f0 q.f1 (k+1) (by omega)
 have h4:=fun s a=>cut_Compare.eq q.f0 q.f1 s a (k+1) (by omega)
 have hc:canon (-1) 0=(-1,0):=rfl
 have hs:=canon_sides p.f0 p.f1
 obtain ⟨m,rfl⟩:∃ m,k=m+1:=⟨k - 1,by omega⟩
 unfold cut_Greatest.f
 show cut_Greatest.l0 (m+1+3) [p,q] 2 0 (-1) 0=_
 rw [cut_Greatest.l0,if_pos (by decide),if_pos (by decide),if_pos (by simp)]
 simp only [rd_T33,Int.toNat_zero,List.getD_cons_zero]
 rw [h1,hc]
 simp only [Option.bind_some]
 have hw:wrap64 (0+1)=1:=by unfold wrap64;omega
 have hw2:wrap64 (1+1)=2:=by unfold wrap64;omega
 have key:∀ r:Int×Int,canon r.1 r.2=r→cut_Greatest.l0 (m+1+2) [p,q] 2 (wrap64 (0+1)) r.1 r.2=some (maxC r (canon q.f0 q.f1)):=by
  intro r hr
  rw [hw,cut_Greatest.l0,if_pos (by decide),if_pos (by decide),if_pos (by simp)]
  simp only [rd_T33,show (1:Int).toNat=1 from rfl,List.getD_cons_succ,List.getD_cons_zero]
  rw [h4,hr]
  simp only [Option.bind_some]
  unfold maxC
  by_cases h:cmp2 (canon q.f0 q.f1) r > 0
  ·rw [if_pos h,if_pos h,h3,hw2]
   simp only [Option.bind_some]
   rw [cut_Greatest.l0,if_neg (by decide)]
  ·rw [if_neg h,if_neg h,hw2,cut_Greatest.l0,if_neg (by decide)]
 by_cases h:cmp2 (canon p.f0 p.f1) (-1,0) > 0
 ·rw [if_pos h,h2]
  simp only [Option.bind_some]
  exact key _ (canon_idem _ _)
 ·rw [if_neg h]
  have:canon p.f0 p.f1=(-1,0):=by
   rcases hs with e | e | ⟨b,e⟩
   ·exact e
   ·rw [e] at h;exact absurd (by decide) h
   ·rw [e] at h;exact absurd (by unfold cmp2;simp) h
  rw [this]
  exact key (-1,0) rfl
def RS (l h:Int×Int):Prop:=canon l.1 l.2=l∧canon h.1 h.2=h∧cmp2 l h < 0
instance (l h:Int×Int):Decidable (RS l h):=inferInstanceAs (Decidable (_∧_∧_))
theorem cut_Right.eqd (s a:Int) (k:Nat) (hk:1≤k):cut_Right.f k s a=some (decide (canon s a=(s,a))):=by
 unfold cut_Right.f
 rw [cut_Canon.eq s a k hk,Option.bind_some]
 congr 1
 rw [Bool.eq_iff_iff]
 simp [Prod.ext_iff]
theorem span_Right.eq (s a t b:Int) (k:Nat) (hk:3≤k):span_Right.f k s a t b=some (decide (RS (s,a) (t,b))):=by
 unfold span_Right.f
 rw [cut_Right.eqd s a k (by omega),Option.bind_some]
 by_cases h1:canon s a=(s,a)
 ·rw [decide_eq_true h1,if_pos rfl,cut_Right.eqd t b k (by omega),Option.bind_some]
  by_cases h2:canon t b=(t,b)
  ·rw [decide_eq_true h2,if_pos rfl,cut_Compare.eq _ _ _ _ k hk,Option.bind_some,h1,h2]
   congr 1
   rw [Bool.eq_iff_iff,decide_eq_true_eq,decide_eq_true_eq]
   exact ⟨fun h=>⟨h1,h2,h⟩,fun h=>h.2.2⟩
  ·rw [decide_eq_false h2,if_neg Bool.false_ne_true,decide_eq_false (fun h=>h2 h.2.1)]
 ·rw [decide_eq_false h1,if_neg Bool.false_ne_true,decide_eq_false (fun h=>h1 h.1)]
theorem span_both.eq (s a t b s' a' t' b':Int) (k:Nat) (hk:3≤k):span_both.f k s a t b s' a' t' b'=some (decide (RS (s,a) (t,b)∧RS (s',a') (t',b'))):=by
 unfold span_both.f
 rw [span_Right.eq s a t b k hk,Option.bind_some]
 by_cases h1:RS (s,a) (t,b)
 ·rw [decide_eq_true h1,if_pos rfl,span_Right.eq _ _ _ _ k hk,Option.bind_some];simp [h1]
 ·rw [decide_eq_false h1,if_neg Bool.false_ne_true];simp [h1]
theorem span_Of.eq (s a t b:Int) (k:Nat) (hk:3≤k):span_Of.f k s a t b=some (if cmp2 (canon s a) (canon t b) < 0 then ((canon s a).1,(canon s a).2,(canon t b).1,(canon t b).2,0) else (0,0,0,0,30)):=by
 unfold span_Of.f
 rw [cut_Canon.eq s a k (by omega),Option.bind_some,cut_Canon.eq t b k (by omega),Option.bind_some,span_Right.eq _ _ _ _ k hk,Option.bind_some]
 have e:decide (RS ((canon s a).1,(canon s a).2) ((canon t b).1,(canon t b).2))=decide (cmp2 (canon s a) (canon t b) < 0):=by
  unfold RS
  simp [canon_idem]
 rw [e]
 by_cases h:cmp2 (canon s a) (canon t b) < 0
 ·rw [decide_eq_true h,if_pos rfl,if_pos h]
 ·rw [decide_eq_false h,if_neg Bool.false_ne_true,if_neg h]
theorem maxC_canon {p q:Int×Int} (hp:canon p.1 p.2=p) (hq:canon q.1 q.2=q):canon (maxC p q).1 (maxC p q).2=maxC p q:=by
 unfold maxC;split <;> assumption
theorem minC_canon {p q:Int×Int} (hp:canon p.1 p.2=p) (hq:canon q.1 q.2=q):canon (minC p q).1 (minC p q).2=minC p q:=by
 unfold minC;split <;> assumption
theorem span_Meet.eq (s a t b s' a' t' b':Int) (k:Nat) (hk:9≤k):span_Meet.f k s a t b s' a' t' b' =
  some (if RS (s,a) (t,b)∧RS (s',a') (t',b')∧cmp2 (maxC (s,a) (s',a')) (minC (t,b) (t',b')) < 0 then ((maxC (s,a) (s',a')).1,(maxC (s,a) (s',a')).2,(minC (t,b) (t',b')).1,(minC (t,b) (t',b')).2,true) else (0,0,0,0,false)):=by
 unfold span_Meet.f
 rw [span_both.eq _ _ _ _ _ _ _ _ k (by omega),Option.bind_some]
 by_cases h:RS (s,a) (t,b)∧RS (s',a') (t',b')
 ·obtain ⟨h1,h2⟩:=h
  rw [decide_eq_true ⟨h1,h2⟩,if_pos rfl,cut_Greatest.eq2 _ _ k hk,Option.bind_some,cut_Least.eq2 _ _ k hk,Option.bind_some,span_Of.eq _ _ _ _ k (by omega),Option.bind_some]
  dsimp only
  have e1:canon s a=(s,a):=h1.1
  have e2:canon t b=(t,b):=h1.2.1
  have e3:canon s' a'=(s',a'):=h2.1
  have e4:canon t' b'=(t',b'):=h2.2.1
  rw [e1,e2,e3,e4,maxC_canon (p:=(s,a)) (q:=(s',a')) e1 e3,minC_canon (p:=(t,b)) (q:=(t',b')) e2 e4]
  by_cases h3:cmp2 (maxC (s,a) (s',a')) (minC (t,b) (t',b')) < 0
  ·rw [if_pos h3,if_pos ⟨h1,h2,h3⟩];rfl
  ·rw [if_neg h3,if_neg (fun hh=>h3 hh.2.2)];rfl
 ·rw [decide_eq_false h,if_neg Bool.false_ne_true,if_neg (fun hh=>h ⟨hh.1,hh.2.1⟩)]
theorem span_Overlap.eq (s a t b s' a' t' b':Int) (k:Nat) (hk:9≤k):span_Overlap.f k s a t b s' a' t' b'=some (decide (RS (s,a) (t,b)∧RS (s',a') (t',b')∧cmp2 (maxC (s,a) (s',a')) (minC (t,b) (t',b')) < 0)):=by
 unfold span_Overlap.f
 rw [span_Meet.eq _ _ _ _ _ _ _ _ k hk,Option.bind_some]
 by_cases h:RS (s,a) (t,b)∧RS (s',a') (t',b')∧cmp2 (maxC (s,a) (s',a')) (minC (t,b) (t',b')) < 0
 ·rw [if_pos h,decide_eq_true h]
 ·rw [if_neg h,decide_eq_false h]
theorem span_Touch.eq (s a t b s' a' t' b':Int) (k:Nat) (hk:9≤k):span_Touch.f k s a t b s' a' t' b'=some (decide (RS (s,a) (t,b)∧RS (s',a') (t',b')∧((t,b)=(s',a')∨(t',b')=(s,a)))):=by
 unfold span_Touch.f
 rw [span_both.eq _ _ _ _ _ _ _ _ k (by omega),Option.bind_some]
 by_cases h:RS (s,a) (t,b)∧RS (s',a') (t',b')
 ·rw [decide_eq_true h,if_pos rfl]
  by_cases h1:(t == s' && (b == a'))=true
  ·rw [if_pos h1];congr 1;symm;rw [decide_eq_true_eq];simp at h1;exact ⟨h.1,h.2,.inl (Prod.ext h1.1 h1.2)⟩
  ·rw [if_neg h1];congr 1;rw [Bool.eq_iff_iff,decide_eq_true_eq];simp at h1;simp only [Bool.and_eq_true,beq_iff_eq,Prod.mk.injEq]
   exact ⟨fun e=>⟨h.1,h.2,.inr e⟩,fun e=>e.2.2.resolve_left (fun e1=>h1 e1.1 e1.2)⟩
 ·rw [decide_eq_false h,if_neg Bool.false_ne_true];congr 1;symm;rw [decide_eq_false_iff_not];exact fun hh=>h ⟨hh.1,hh.2.1⟩
theorem span_Hull.eq (s a t b s' a' t' b':Int) (k:Nat) (hk:9≤k):span_Hull.f k s a t b s' a' t' b' =
  some (if RS (s,a) (t,b)∧RS (s',a') (t',b') then ((minC (s,a) (s',a')).1,(minC (s,a) (s',a')).2,(maxC (t,b) (t',b')).1,(maxC (t,b) (t',b')).2) else (0,0,0,0)):=by
 unfold span_Hull.f
 rw [span_both.eq _ _ _ _ _ _ _ _ k (by omega),Option.bind_some]
 by_cases h:RS (s,a) (t,b)∧RS (s',a') (t',b')
 ·obtain ⟨h1,h2⟩:=h
  rw [decide_eq_true ⟨h1,h2⟩,if_pos rfl,cut_Least.eq2 _ _ k hk,Option.bind_some,cut_Greatest.eq2 _ _ k hk,Option.bind_some,if_pos ⟨h1,h2⟩]
  dsimp only
  have e1:canon s a=(s,a):=h1.1
  have e2:canon t b=(t,b):=h1.2.1
  have e3:canon s' a'=(s',a'):=h2.1
  have e4:canon t' b'=(t',b'):=h2.2.1
  rw [e1,e2,e3,e4]
 ·rw [decide_eq_false h,if_neg Bool.false_ne_true,if_neg h]
def lo (x:Sp):Int×Int:=(x.f0.f0,x.f0.f1)
def hi (x:Sp):Int×Int:=(x.f1.f0,x.f1.f1)
def sp (p q:Int×Int):Sp:=⟨⟨p.1,p.2⟩,⟨q.1,q.2⟩⟩
theorem sp_lo_hi (x:Sp):sp (lo x) (hi x)=x:=rfl
def RX (x:Sp):Bool:=decide (RS (lo x) (hi x))
def OV (x y:Sp):Bool:=decide (RS (lo x) (hi x)∧RS (lo y) (hi y)∧cmp2 (maxC (lo x) (lo y)) (minC (hi x) (hi y)) < 0)
def TC (x y:Sp):Bool:=decide (RS (lo x) (hi x)∧RS (lo y) (hi y)∧(hi x=lo y∨hi y=lo x))
def HU (x y:Sp):Sp:=if RS (lo x) (hi x)∧RS (lo y) (hi y) then sp (minC (lo x) (lo y)) (maxC (hi x) (hi y)) else sp (0,0) (0,0)
def joinS (out:List Sp) (s:Sp):List Sp :=
 match out.getLast? with
 | some o=>if OV o s=true∨TC o s=true then out.dropLast ++ [HU o s] else out ++ [s]
 | none=>out ++ [s]
def stepS (out:List Sp) (s:Sp):List Sp:=if RX s=true then joinS out s else out
def leS (x y:Sp):Bool:=decide (¬ (cmp2 (canon y.f0.f0 y.f0.f1) (canon x.f0.f0 x.f0.f1) < 0∨(cmp2 (canon y.f0.f0 y.f0.f1) (canon x.f0.f0 x.f0.f1)=0∧cmp2 (canon y.f1.f0 y.f1.f1) (canon x.f1.f0 x.f1.f1) < 0)))
def insS (x:Sp):List Sp→List Sp
 | []=>[x]
 | y :: l=>if leS x y=true then x :: y :: l else y :: insS x l
def sortS (l:List Sp):List Sp:=l.foldr insS []
def listS (l:List Sp):List Sp:=(sortS (l.filter RX)).foldl joinS []
def span_List.f (k:Nat) (l0:List Sp):Option (List Sp):=if l0.length < 1000000 then some (listS l0) else none
theorem span_List.mono:∀ a0 k,LeO (span_List.f k a0) (span_List.f (k+1) a0):=fun _ _=>LeO.refl _
theorem lex_eq {p q:Int×Int}:cmp2 p q=0 ↔ p=q:=by
 rcases cmp2_cases p q with ⟨h,g⟩ | ⟨h,g⟩ | ⟨h,g⟩
 ·rw [h];exact ⟨fun e=>absurd e (by decide),fun e=>by subst e;omega⟩
 ·rw [h];exact ⟨fun e=>absurd e (by decide),fun e=>by subst e;omega⟩
 ·exact ⟨fun _=>g,fun _=>h⟩
theorem leS_iff (x y:Sp):leS x y=true ↔ ¬ (((canon y.f0.f0 y.f0.f1).1 < (canon x.f0.f0 x.f0.f1).1∨((canon y.f0.f0 y.f0.f1).1=(canon x.f0.f0 x.f0.f1).1∧(canon y.f0.f0 y.f0.f1).2 < (canon x.f0.f0 x.f0.f1).2)) ∨
  (((canon y.f0.f0 y.f0.f1).1=(canon x.f0.f0 x.f0.f1).1∧(canon y.f0.f0 y.f0.f1).2=(canon x.f0.f0 x.f0.f1).2)∧((canon y.f1.f0 y.f1.f1).1 < (canon x.f1.f0 x.f1.f1).1∨((canon y.f1.f0 y.f1.f1).1=(canon x.f1.f0 x.f1.f1).1∧(canon y.f1.f0 y.f1.f1).2 < (canon x.f1.f0 x.f1.f1).2)))):=by
 unfold leS
 rw [decide_eq_true_eq,lex_lt,lex_eq,lex_lt,Prod.ext_iff]
theorem leS_total (x y:Sp):leS x y=true∨leS y x=true:=by
 rw [leS_iff,leS_iff];omega
theorem leS_trans (x y z:Sp) (h:leS x y=true) (g:leS y z=true):leS x z=true:=by
 rw [leS_iff] at *;omega
theorem RX_iff {x:Sp}:RX x=true ↔ RS (lo x) (hi x):=by unfold RX;rw [decide_eq_true_eq]
theorem leS_anti (x y:Sp) (hx:RX x=true) (hy:RX y=true) (h:leS x y=true) (g:leS y x=true):x=y:=by
 rw [leS_iff] at *
 rw [RX_iff] at *
 have e1:=hx.1
 have e2:=hx.2.1
 have e3:=hy.1
 have e4:=hy.2.1
 obtain ⟨⟨a,b⟩,⟨c,d⟩⟩:=x
 obtain ⟨⟨a',b'⟩,⟨c',d'⟩⟩:=y
 simp only [lo,hi] at *
 rw [e1,e2,e3,e4] at *
 dsimp only at h g
 have k1:a=a':=by omega
 have k2:b=b':=by omega
 have k3:c=c':=by omega
 have k4:d=d':=by omega
 rw [k1,k2,k3,k4]
theorem insS_perm (x:Sp) (l:List Sp):(insS x l).Perm (x :: l):=by
  induction l with
  | nil=>exact List.Perm.refl _
  | cons y l ih =>
    unfold insS
    by_cases h:leS x y=true
    · rw [if_pos h]
    · rw [if_neg h];exact (List.Perm.cons y ih).trans (List.Perm.swap x y l)
theorem sortS_perm (l:List Sp):(sortS l).Perm l:=by
 induction l with
 | nil=>exact List.Perm.refl _
 | cons x l ih=>exact (insS_perm x _).trans (List.Perm.cons x ih)
theorem insS_sorted (x:Sp) (l:List Sp) (h:l.Pairwise (fun a b=>leS a b=true)):(insS x l).Pairwise (fun a b=>leS a b=true):=by
  induction l with
  | nil=>exact List.pairwise_singleton _ _
  | cons y l ih =>
    have h1:=(List.pairwise_cons.1 h).1
    have h2:=(List.pairwise_cons.1 h).2
    unfold insS
    by_cases hl:leS x y=true
    · rw [if_pos hl]
      refine List.pairwise_cons.2 ⟨fun b hb=>?_,h⟩
      rcases List.mem_cons.1 hb with rfl | hb
      · exact hl
      · exact leS_trans _ _ _ hl (h1 b hb)
    · rw [if_neg hl]
      refine List.pairwise_cons.2 ⟨fun b hb=>?_,ih h2⟩
      rcases List.mem_cons.1 ((insS_perm x l).mem_iff.1 hb) with rfl | hb
      · exact (leS_total y b).resolve_right hl
      · exact h1 b hb
theorem sortS_sorted (l:List Sp):(sortS l).Pairwise (fun a b=>leS a b=true):=by
 induction l with
 | nil=>exact List.Pairwise.nil
 | cons x l ih=>exact insS_sorted x _ ih
theorem listS_of (l d:List Sp) (hp:d.Perm l) (hs:d.Pairwise (fun a b=>leS a b=true)):d.foldl stepS []=listS l:=by
 have e:d.foldl stepS []=(d.filter RX).foldl joinS []:=by
  rw [List.foldl_filter]
  congr 1
 rw [e]
 unfold listS
 congr 1
 refine List.Perm.eq_of_pairwise (le:=fun a b=>leS a b=true) ?_ (hs.filter _) (sortS_sorted _) ((hp.filter RX).trans (sortS_perm _).symm)
 intro a b ha hb h1 h2
 have ra:=(List.mem_filter.1 ha).2
 have rb:=(List.mem_filter.1 ((sortS_perm _).mem_iff.1 hb)).2
 exact leS_anti a b ra rb h1 h2
end Go.Proofs.YtbcpnejdbookkaaGreat.Print
namespace Go.Proofs.YtbcpnejdbookkaaGreat.Print
open Go.RowKit Go.Proofs.YtbcpnejdbookkaaGreatW.PrintWords Go.Proofs.YtbcpnejdbookkaaGreatW.PrintLast Go.Proofs.YtbcpnejdbookkaaGreatW.PrintMore
attribute [local go_sem] max2_int min2_int max_two min_two max_three min_three max_four min_four
def span_List.l0:Nat→List (S35)→List (S35)→Int→Int→Option ((List (S35)))
 | 0,_,_,_,_=>none
 | k+1,x4,x16,x17,x18=>if x18 < x17 then (if 0≤x18 then (if x18 < (x16.length:Int) then ((span_Right.f k ((rd_T35 x16 x18).f0.f0) ((rd_T35 x16 x18).f0.f1) ((rd_T35 x16 x18).f1.f0) ((rd_T35 x16 x18).f1.f1)).bind fun t350=>(if t350=true then (if (wrap64 ((x4.length:Int) - 1)) ≥ 0 then (if 0≤(wrap64 ((x4.length:Int) - 1)) then (if (wrap64 ((x4.length:Int) - 1)) < (x4.length:Int) then ((span_Overlap.f k ((rd_T35 x4 (wrap64 ((x4.length:Int) - 1))).f0.f0) ((rd_T35 x4 (wrap64 ((x4.length:Int) - 1))).f0.f1) ((rd_T35 x4 (wrap64 ((x4.length:Int) - 1))).f1.f0) ((rd_T35 x4 (wrap64 ((x4.length:Int) - 1))).f1.f1) ((rd_T35 x16 x18).f0.f0) ((rd_T35 x16 x18).f0.f1) ((rd_T35 x16 x18).f1.f0) ((rd_T35 x16 x18).f1.f1)).bind fun t352=>(if t352=true then ((span_Hull.f k ((rd_T35 x4 (wrap64 ((x4.length:Int) - 1))).f0.f0) ((rd_T35 x4 (wrap64 ((x4.length:Int) - 1))).f0.f1) ((rd_T35 x4 (wrap64 ((x4.length:Int) - 1))).f1.f0) ((rd_T35 x4 (wrap64 ((x4.length:Int) - 1))).f1.f1) ((rd_T35 x16 x18).f0.f0) ((rd_T35 x16 x18).f0.f1) ((rd_T35 x16 x18).f1.f0) ((rd_T35 x16 x18).f1.f1)).bind fun bt354=>(span_List.l0 k (x4.set ((wrap64 ((x4.length:Int) - 1)):Int).toNat (⟨(⟨bt354.1,bt354.2.1⟩:S33),(⟨bt354.2.2.1,bt354.2.2.2⟩:S33)⟩:S35)) x16 x17 (wrap64 (x18+1)))) else ((span_Touch.f k ((rd_T35 x4 (wrap64 ((x4.length:Int) - 1))).f0.f0) ((rd_T35 x4 (wrap64 ((x4.length:Int) - 1))).f0.f1) ((rd_T35 x4 (wrap64 ((x4.length:Int) - 1))).f1.f0) ((rd_T35 x4 (wrap64 ((x4.length:Int) - 1))).f1.f1) ((rd_T35 x16 x18).f0.f0) ((rd_T35 x16 x18).f0.f1) ((rd_T35 x16 x18).f1.f0) ((rd_T35 x16 x18).f1.f1)).bind fun t360=>(if t360=true then ((span_Hull.f k ((rd_T35 x4 (wrap64 ((x4.length:Int) - 1))).f0.f0) ((rd_T35 x4 (wrap64 ((x4.length:Int) - 1))).f0.f1) ((rd_T35 x4 (wrap64 ((x4.length:Int) - 1))).f1.f0) ((rd_T35 x4 (wrap64 ((x4.length:Int) - 1))).f1.f1) ((rd_T35 x16 x18).f0.f0) ((rd_T35 x16 x18).f0.f1) ((rd_T35 x16 x18).f1.f0) ((rd_T35 x16 x18).f1.f1)).bind fun bt362=>(span_List.l0 k (x4.set ((wrap64 ((x4.length:Int) - 1)):Int).toNat (⟨(⟨bt362.1,bt362.2.1⟩:S33),(⟨bt362.2.2.1,bt362.2.2.2⟩:S33)⟩:S35)) x16 x17 (wrap64 (x18+1)))) else (if x4.length < 4398046511104 then (span_List.l0 k (x4 ++ [(⟨(⟨(rd_T35 x16 x18).f0.f0,(rd_T35 x16 x18).f0.f1⟩:S33),(⟨(rd_T35 x16 x18).f1.f0,(rd_T35 x16 x18).f1.f1⟩:S33)⟩:S35)]) x16 x17 (wrap64 (x18+1))) else (none)))))) else (none)) else (none)) else (if x4.length < 4398046511104 then (span_List.l0 k (x4 ++ [(⟨(⟨(rd_T35 x16 x18).f0.f0,(rd_T35 x16 x18).f0.f1⟩:S33),(⟨(rd_T35 x16 x18).f1.f0,(rd_T35 x16 x18).f1.f1⟩:S33)⟩:S35)]) x16 x17 (wrap64 (x18+1))) else (none))) else (span_List.l0 k x4 x16 x17 (wrap64 (x18+1))))) else (none)) else (none)) else (some x4)
def span_List.T11:Bool×List (List Nat×List Nat):=(true,[([],[]),([0],[0]),([1],[1]),([2],[2]),([2],[2]),([3,4,2],[2,3,4]),([5,2],[2,5]),([2],[2]),([6,7,2,2],[2,6,7]),([8,8,2],[2,8]),([9],[9]),([9],[9]),([10,11,9],[9,10,11]),([12,9],[9,12]),([9],[9]),([13,14,9,9],[9,13,14]),([9,15,2],[2,9,15]),([2,16],[2,16]),([17,15],[17])])
def span_List.B11:List Nat:=[0,1,3,7,7,31,63,7,255,511,1023,1023,4095,8191,1023,32767,65535,131071,262143]
theorem span_List.tab11:rtab .any (opsOf Tryz.f69 11)=span_List.T11:=by kernel_rfl
theorem span_List.bits11:waitsOk span_List.T11.2 span_List.B11=true:=by kernel_rfl
def span_List.T12:Bool×List (List Nat×List Nat):=(true,[([],[]),([],[]),([],[]),([],[]),([2,3],[2,3]),([4],[4]),([],[]),([5,6],[5,6]),([0,1,0,1,2,3,4,5,6,7],[0,1]),([8,7,7,0,1,2,3,4,5,6,7],[7,8])])
def span_List.B12:List Nat:=[0,0,0,0,12,28,0,124,255,511]
theorem span_List.tab12:rtab .any (opsOf Tryz.f69 12)=span_List.T12:=by kernel_rfl
theorem span_List.bits12:waitsOk span_List.T12.2 span_List.B12=true:=by kernel_rfl
theorem span_List.l0_eq (d:List S35) (hd:d.length≤1000000):∀ (n:Nat) (i:Nat) (x4:List S35) (k:Nat),i+n=d.length→x4.length≤i→n+12≤k→span_List.l0 k x4 d (d.length:Int) (i:Int)=some ((d.drop i).foldl stepS x4):=by
 intro n
 induction n with
 | zero =>
  intro i x4 k hin hx hk
  obtain ⟨k,rfl⟩:∃ m,k=m+1:=⟨k - 1,by omega⟩
  rw [span_List.l0,if_neg (by omega),List.drop_of_length_le (by omega)]
  rfl
 | succ n ih =>
  intro i x4 k hin hx hk
  obtain ⟨k,rfl⟩:∃ m,k=m+1:=⟨k - 1,by omega⟩
  have hlt:i < d.length:=by omega
  have hw:wrap64 ((i:Int)+1)=((i+1:Nat):Int):=by unfold wrap64;omega
  have hrd:rd_T35 d (i:Int)=d[i]:=by simp [rd_T35,List.getD,hlt]
  have hdrop:d.drop i=d[i] :: d.drop (i+1):=List.drop_eq_getElem_cons hlt
  rw [span_List.l0,if_pos (by omega),if_pos (by omega),if_pos (by omega),hrd,span_Right.eq _ _ _ _ k (by omega),Option.bind_some,hdrop,List.foldl_cons,hw]
  generalize d[i]=s
  have ih':∀ y:List S35,y.length≤i+1→span_List.l0 k y d (d.length:Int) ((i+1:Nat):Int)=some ((d.drop (i+1)).foldl stepS y):=fun y hy=>ih (i+1) y k (by omega) hy (by omega)
  have eR:decide (RS (s.f0.f0,s.f0.f1) (s.f1.f0,s.f1.f1))=RX s:=rfl
  rw [eR]
  by_cases hR:RX s=true
  ·rw [if_pos hR]
   have est:stepS x4 s=joinS x4 s:=by unfold stepS;rw [if_pos hR]
   rw [est]
   rcases List.eq_nil_or_concat x4 with rfl | ⟨ys,o,rfl⟩
   ·have hm:wrap64 ((([]:List S35).length:Int) - 1)=-1:=by unfold wrap64;simp
    rw [hm,if_neg (by decide),if_pos (by decide)]
    exact ih' [s] (by show 1≤i+1;omega)
   ·rw [List.concat_eq_append] at *
    have hlen:((ys ++ [o]).length:Int)=ys.length+1:=by simp
    have hys:ys.length+1≤i:=by simpa using hx
    have hm:wrap64 (((ys ++ [o]).length:Int) - 1)=(ys.length:Int):=by rw [hlen];unfold wrap64;omega
    have hrd2:rd_T35 (ys ++ [o]) (ys.length:Int)=o:=by simp [rd_T35,List.getD]
    have hset:∀ v:S35,(ys ++ [o]).set (ys.length:Int).toNat v=ys ++ [v]:=fun v=>by simp
    have hjoin:joinS (ys ++ [o]) s=if OV o s=true∨TC o s=true then ys ++ [HU o s] else ys ++ [o] ++ [s]:=by
     unfold joinS;rw [List.getLast?_concat];simp only [List.dropLast_concat]
    rw [hm,if_pos (by omega),if_pos (by omega),if_pos (by omega),hrd2,span_Overlap.eq _ _ _ _ _ _ _ _ k (by omega),Option.bind_some,hjoin]
    have eO:decide (RS (o.f0.f0,o.f0.f1) (o.f1.f0,o.f1.f1)∧RS (s.f0.f0,s.f0.f1) (s.f1.f0,s.f1.f1)∧cmp2 (maxC (o.f0.f0,o.f0.f1) (s.f0.f0,s.f0.f1)) (minC (o.f1.f0,o.f1.f1) (s.f1.f0,s.f1.f1)) < 0)=OV o s:=rfl
    have eT:decide (RS (o.f0.f0,o.f0.f1) (o.f1.f0,o.f1.f1)∧RS (s.f0.f0,s.f0.f1) (s.f1.f0,s.f1.f1)∧((o.f1.f0,o.f1.f1)=(s.f0.f0,s.f0.f1)∨(s.f1.f0,s.f1.f1)=(o.f0.f0,o.f0.f1)))=TC o s:=rfl
    have hH:∀ {β:Type} (g:Int×Int×Int×Int→Option β),(span_Hull.f k o.f0.f0 o.f0.f1 o.f1.f0 o.f1.f1 s.f0.f0 s.f0.f1 s.f1.f0 s.f1.f1).bind g=g ((HU o s).f0.f0,(HU o s).f0.f1,(HU o s).f1.f0,(HU o s).f1.f1):=by
     intro β g
     rw [span_Hull.eq _ _ _ _ _ _ _ _ k (by omega),Option.bind_some]
     congr 1
     by_cases hh:RS (o.f0.f0,o.f0.f1) (o.f1.f0,o.f1.f1)∧RS (s.f0.f0,s.f0.f1) (s.f1.f0,s.f1.f1)
     ·rw [if_pos hh]
      have e:HU o s=sp (minC (lo o) (lo s)) (maxC (hi o) (hi s)):=by unfold HU;exact if_pos hh
      rw [e];rfl
     ·rw [if_neg hh]
      have e:HU o s=sp (0,0) (0,0):=by unfold HU;exact if_neg hh
      rw [e];rfl
    rw [eO]
    by_cases hO:OV o s=true
    ·rw [if_pos hO,if_pos (Or.inl hO),hH]
     dsimp only
     rw [hset]
     exact ih' (ys ++ [HU o s]) (by rw [List.length_append];show ys.length+1≤_;omega)
    ·rw [if_neg hO,span_Touch.eq _ _ _ _ _ _ _ _ k (by omega),Option.bind_some,eT]
     by_cases hT:TC o s=true
     ·rw [if_pos hT,if_pos (Or.inr hT),hH]
      dsimp only
      rw [hset]
      exact ih' (ys ++ [HU o s]) (by rw [List.length_append];show ys.length+1≤_;omega)
     ·have hno:¬ (OV o s=true∨TC o s=true):=fun hh=>hh.elim hO hT
      have hl4:(ys ++ [o]).length < 4398046511104:=by rw [List.length_append];show ys.length+1 < _;omega
      rw [if_neg hT,if_neg hno,if_pos hl4]
      exact ih' (ys ++ [o] ++ [s]) (by rw [List.length_append,List.length_append];show ys.length+1+1≤_;omega)
  ·rw [if_neg hR]
   have est:stepS x4 s=x4:=by unfold stepS;rw [if_neg hR]
   rw [est]
   exact ih' _ (by omega)
theorem flat_length (l:List S35):(l.flatMap PrintG.enc35).length=l.length * 4:=by
 induction l with
 | nil=>rfl
 | cons x l ih=>rw [List.flatMap_cons,List.length_append,ih,List.length_cons];show 4+_=_;omega
theorem cells_of_C {w:World} {A:Option Addr} {l:List S35} (h:Kd.C k35 w A l.length l) (hp:0 < l.length):∃ ad,A=some ad∧∀ j v,(l.flatMap PrintG.enc35)[j]? = some v→w.cell? (ad.add j)=some v:=by
 obtain ⟨_,_,hc⟩:=h
 obtain ⟨ad,hA,hc⟩:=hc hp
 refine ⟨ad,hA,fun j v hv=>?_⟩
 have hj:j < l.length * 4:=by
  have:=(List.getElem?_eq_some_iff.1 hv).1
  rw [flat_length] at this
  omega
 rw [PrintG.flat_get l j hj] at hv
 have hj4:j / 4 < l.length:=by omega
 obtain ⟨c,hcl,hK,hcell⟩:=hc (j / 4) l[j / 4] (List.getElem?_eq_getElem hj4)
 have ec:=k35_open hK
 rw [getElem!_pos l.toArray (j / 4) (by simpa using hj4)] at hv
 have h4:j % 4 < (PrintG.enc35 l[j / 4]).length:=by show j % 4 < 4;omega
 have h5:(PrintG.enc35 l[j / 4])[j % 4]? = some v:=by
  rw [List.getElem?_eq_getElem h4,← hv]
  simp only [List.getElem_toArray]
  rw [getElem!_pos (PrintG.enc35 l[j / 4]) (j % 4) h4]
 have h6:=hcell (j % 4) v (by rw [ec];exact h5)
 have h7:j / 4 * k35.sz+j % 4=j:=by show j / 4 * 4+j % 4=j;omega
 rw [h7] at h6
 exact h6
theorem flat_one (l:List S35):∀ v∈l.flatMap PrintG.enc35,v.oneCell'=true:=by
 intro v hv
 obtain ⟨x,_,hx⟩:=List.mem_flatMap.1 hv
 simp [PrintG.enc35] at hx
 rcases hx with rfl | rfl | rfl | rfl <;> rfl
theorem copy_all (w:World) (ty:TypeId) (g:Nat) (A:Option Addr) (c:Nat) (l:List S35) (cur:Array Value) (hg:w.heap[g]? = some (.cells cur 35 (0,0))) (hcur:cur.size=l.length * 4) (hC:Kd.C k35 w A l.length l) :
 (Builtin.copy_ #[29,29] ty #[.slice (some ⟨g,0,none⟩) l.length l.length,.slice A l.length c]).run Tryz.prog w=.ok (goInt l.length) (w.setRow g (l.flatMap PrintG.enc35).toArray):=by
 have hs:(Tryz.prog.info? 35).map (·.size)=some 4:=by kernel_rfl
 by_cases hp:0 < l.length
 ·obtain ⟨ad,rfl,hsrc⟩:=cells_of_C hC hp
  have h:=run_copyK w 29 29 ty 35 4 g 0 l.length l.length ad l.length c cur 35 (l.flatMap PrintG.enc35) Tryz.underlying29 hs hg (by rw [flat_length,show Nat.min l.length l.length=l.length from Nat.min_self _]) hsrc (by rw [flat_length];omega) (flat_one l)
  rw [h,show Nat.min l.length l.length=l.length from Nat.min_self _,List.take_zero,List.nil_append,List.drop_of_length_le (by rw [flat_length,Array.length_toList,hcur];omega),List.append_nil]
 ·obtain rfl:l=[]:=List.eq_nil_of_length_eq_zero (by omega)
  have hc0:cur=#[]:=Array.eq_empty_of_size_eq_zero (by simpa using hcur)
  subst hc0
  have h1:w.setRow g #[]=w:=setRow_self w g #[] 35 (0,0) hg
  show _=Result.ok (goInt 0) (w.setRow g #[])
  cases A with
  | some ad =>
   have h:=run_copyK w 29 29 ty 35 4 g 0 0 0 ad 0 c #[] 35 [] Tryz.underlying29 hs hg (by rfl) (fun j v hv=>by cases hv) (by decide) (fun v hv=>by cases hv)
   exact h
  | none =>
   rw [h1]
   cases hq:Tryz.prog.info? 35 with
   | none=>rw [hq] at hs;cases hs
   | some i =>
    have hsz:i.size=4:=by rw [hq] at hs;exact Option.some.inj hs
    simp [Builtin.copy_,run_underlying Tryz.underlying29,Builtin.lenOf,Builtin.firstCells,sizeOf,typeInfo,hq,hsz,storeCells]
theorem span_List.calls (k:Nat) (Az:Option Addr) (cz:Nat) (lz:List (S35)) (r:List (S35)) (wz:World) (hr0:Kd.C k35 wz Az lz.length lz) (hc0:lz.length≤cz) (h:span_List.f k lz=some r) :
 Calls Tryz.prog 69 #[.slice Az lz.length cz] wz fun e w'=>∃ v0_:Value,e=.returned (v0_)∧Kd.R k35 35 w' wz.heap.size (fun _=>True) v0_ r∧Below wz.heap.size wz w':=by
 have hu35:=Tryz.underlying35
 unfold span_List.f at h
 by_cases hlen:lz.length < 1000000
 ·rw [if_pos hlen] at h
  have HR:=am (Option.some.inj h)
  clear h
  obtain ⟨i0,hi,hzz⟩:=Option.map_eq_some_iff.1 info35
  simp only [Prod.mk.injEq] at hzz
  obtain ⟨hz0,hz1,hz2⟩:=hzz
  have hmk0:=run_make (P:=Tryz.prog) wz 29 35 i0 _ Tryz.underlying29 hi hz0 .i64 .i64 (lz.length:Int) (lz.length:Int) (by omega) (by omega) (by rw [hz2];omega) (by omega)
  rw [hz1] at hmk0
  simp only [Int.toNat_natCast] at hmk0
  have hcsz:(madeCells (Value.agg #[(.int .i64 0),(.int .i64 0),(.int .i64 0),(.int .i64 0)]).cells (lz.length * 4)).size=lz.length * 4:=by rw [size_madeCells]
  generalize madeCells (Value.agg #[(.int .i64 0),(.int .i64 0),(.int .i64 0),(.int .i64 0)]).cells (lz.length * 4)=CU at hmk0 hcsz
  have hb1:=blk_new wz (Obj.cells CU 35)
  have hB1:=below_alloc (Below.refl wz.heap.size wz) (Obj.cells CU 35)
  have hcp:=copy_all (wz.alloc (Obj.cells CU 35)) 3 wz.heap.size Az cz lz CU hb1 hcsz (Kd.C_below hr0 hB1)
  have hB2:Below wz.heap.size wz ((wz.alloc (Obj.cells CU 35)).setRow wz.heap.size (lz.flatMap PrintG.enc35).toArray):=below_setRow hB1 (Nat.le_refl _) _
  have hb2:((wz.alloc (Obj.cells CU 35)).setRow wz.heap.size (lz.flatMap PrintG.enc35).toArray).heap[wz.heap.size]? = some (.cells (lz.flatMap PrintG.enc35).toArray 35 (0,0)):=by
   simp only [World.setRow,Array.getElem?_modify,if_pos]
   rw [hb1];rfl
  generalize (wz.alloc (Obj.cells CU 35)).setRow wz.heap.size (lz.flatMap PrintG.enc35).toArray=w2 at hcp hB2 hb2
  have hsort:=PrintG.sort35 lz wz.heap.size lz.length _ 35 w2 hb2 (by simp) (by omega)
  have hlz:lz.length=lz.length:=rfl
  obtain ⟨n,hn⟩:∃ n,lz.length=n:=⟨_,rfl⟩
  rw [hn] at hmk0 hcp hsort
  rw [show (Value.slice Az lz.length cz)=Value.slice Az n cz by rw [hn]]
  generalize wz.alloc (Obj.cells CU 35)=w1 at hmk0 hcp hb1 hB1;have MK:=am hmk0;have CP:=am hcp;have SO:=am hsort;have HN:=am hn;have HZ2:=am hB2;have HLEN:=am hlen;clear hmk0 hcp hsort hn hB2 hb2 hb1 hB1 hr0 hc0 hlen hi hz0 hz1 hz2 hcsz hlz;go_enter Tryz.func69,Tryz.ntmps69;have hmk:=MK.out
  go_upto_region 2 with fail
  clear hmk MK;have hcp:=CP.out
  go_upto_region 3 with fail
  clear hcp CP
  go_upto_region 4 with (go_at_call 100;(with_reducible refine SO.out.mono ?_);rintro e w ⟨rfl,l0,hp,hs,hC,hB⟩;have HP:=am hp;have HS:=am hs;have HC:=am hC;have HBz:=am hB;clear hp hs hC hB)
  have HN1:=HN.out
  have hl0:n=l0.length:=by rw [← HN1];exact HP.out.length_eq.symm
  clear HN1
  subst hl0
  have HN':=HN
  clear HN SO
  have hsorted:l0.Pairwise (fun a b=>leS a b=true):=HS.out.imp (fun {a b} hab=>by
   unfold leS
   rw [decide_eq_true_eq]
   intro hh
   have:Go.Proofs.ltOf PrintG.cf35 b a=true:=by
    unfold Go.Proofs.ltOf PrintG.cf35
    rw [decide_eq_true_eq]
    rcases hh with hh | ⟨h1,h2⟩
    ·rw [if_neg (by omega)];exact hh
    ·rw [if_pos h1];exact h2
   rw [this] at hab
   exact absurd hab (by decide))
  have hl0:l0.length≤1000000:=by have e:=HP.out.length_eq;have e2:=HLEN.out;omega
  have hfin:span_List.l0 (l0.length+12) [] l0 (l0.length:Int) 0=some r:=by
   have e:=span_List.l0_eq l0 hl0 l0.length 0 [] (l0.length+12) (by omega) (by simp) (Nat.le_refl _)
   rw [List.drop_zero,listS_of lz l0 HP.out hsorted,HR.out] at e
   exact e
  have HR0:=am HC.out
  have HC0:=am (Nat.le_refl l0.length)
  have HZ:=am (HZ2.out.trans HBz.out)
  have H':=am hfin
  clear hfin hl0 hsorted HC HP HS HZ2 HBz HN' HLEN HR
  have HB:=am (Below.refl w.heap.size w)
  generalize l0.length+12=k at H';generalize hA0:(some (⟨wz.heap.size,0,none⟩:Addr))=A0 at *;clear hA0;go_wp2
  go_loopg [4,18] k (fun kq v4 v18 w'=>∃ (x4_1:List (S35)) (x18_1:Int),v18=.int .i64 x18_1∧Aside0 (span_List.l0 kq x4_1 l0 (l0.length:Int) x18_1=some r)∧Aside0 (kq≤k)∧Aside0 (Kd.R k35 35 w' w.heap.size (fun _=>True) v4 x4_1)∧Aside0 (Below w.heap.size w w'))
  case atStart=>exact ⟨_,_,rs,H',⟨Nat.le_refl _⟩,kn,⟨bl HB⟩⟩
  case round =>
   clear H'
   obtain ⟨x4_1,x18_1,rfl,HA,HK1,HO_4,HB⟩:=hrel
   cases gk with
   | zero=>exact absurd HA.out (by simp [span_List.l0])
   | succ k1 =>
    have H:=HA.out;clear HA
    simp only [span_List.l0] at H
    revert H;refine itc (fun c2b0 H=>?_) fun c2b0 H=>?_
    ·revert H;refine its fun c3b0 H=>?_
     revert H;refine its fun c4b0 H=>?_
     revert H;refine bnd fun t350 A5 H=>?_
     cases t350;rotate_left
     ·replace H:=itt H;revert H;refine itc (fun (c7b0:decide (0≤(wrap64 ((x4_1.length:Int) - 1)))=true) H=>?_) fun (c7b0:decide (0≤(wrap64 ((x4_1.length:Int) - 1)))=false) H=>?_
      ·obtain ⟨ji8,hji8⟩:∃ j_:Int,(wrap64 ((x4_1.length:Int) - 1))=j_:=⟨_,rfl⟩
       (first | rw [hji8] at H | simp only [hji8] at H)
       (try rw [hji8] at c7b0)
       (try rw [hji8] at A5)
       have hji8w:(IntKind.i64.wrap ((x4_1.length:Int) - 1))=ji8:=(i64_w _).trans hji8
       revert H;refine its fun c9b0 H=>?_
       revert H;refine its fun c10b0 H=>?_
       revert H;refine bnd fun t352 A11 H=>?_
       cases t352;rotate_left
       ·replace H:=itt H;revert H;refine bnd4 fun t354 t355 t356 t357 A13 H=>?_;dsimp only at H
        generalize hy358:x4_1.set ((ji8):Int).toNat (⟨(⟨t354,t355⟩:S33),(⟨t356,t357⟩:S33)⟩:S35)=y358 at H;have Ny358:=am hy358.symm;clear hy358;have H':=am H;clear H
        obtain ⟨ad348,e348,hx348_0,hx348_1,hx348_2,hx348_3,p348,q348⟩:=ax35 HR0 HB x18_1
        cases e348
        try go_wp2_with (first | ((with_reducible refine gate_dst (N:=6) rfl ?_);refine bxf #[.int .i64 0,.int .i64 0,.int .i64 0,.int .i64 0] 35 HB fun gb349 w15 BK349 GW349 HB hg hb=>?_;replace HO_4:=am (Kd.R_below (Kd.R_elderB (kr HO_4) gb349 (Nat.le_of_eq hg.symm)) hb);have GE349:=GW349;clear hb hg;obtain ⟨_,_,_,_,_,_,_,_⟩:=s4 BK349;obtain ⟨Ao17,co17,rfl⟩:=Kd.R_slice HO_4.out) | ((with_reducible refine gate_callee (f:=88) rfl ?_);refine gob Tryz.func88 (span_Right.calls _ _ _ _ _ _ _ A5.out) fun w18 hb=>?_;replace HO_4:=am (Kd.R_below (by (with_reducible repeat (first | apply Kd.R_alloc | apply Kd.R_drewN | apply Kd.R_drew));exact (Kd.R_mono (Kd.R_far (p:=⟨gb349,3,none⟩) (Kd.R_far (p:=⟨gb349,2,none⟩) (Kd.R_far (p:=⟨gb349,1,none⟩) (Kd.R_far (p:=⟨gb349,0,none⟩) (Kd.R_mono HO_4.out (fun k_ hk=>(⟨hk,hk.2⟩:_∧k_≠gb349))) (fun _ hk=>hk.2) (.int .i64 ((rd_T35 l0 x18_1).f0.f0))) (fun _ hk=>hk.2) (.int .i64 ((rd_T35 l0 x18_1).f0.f1))) (fun _ hk=>hk.2) (.int .i64 ((rd_T35 l0 x18_1).f1.f0))) (fun _ hk=>hk.2) (.int .i64 ((rd_T35 l0 x18_1).f1.f1))) (fun _ h_=>h_.1))) hb);replace BK349:=am (blk_below (g:=gb349) (o:=.cells #[.int .i64 ((rd_T35 l0 x18_1).f0.f0),.int .i64 ((rd_T35 l0 x18_1).f0.f1),.int .i64 ((rd_T35 l0 x18_1).f1.f0),.int .i64 ((rd_T35 l0 x18_1).f1.f1)] 35 (0,0)) (bkp BK349) hb);replace HB:=bst HB hb;(try clear hb);(try clear hb2);(try clear hk);(try clear hi)))
        replace HO_4:=am (Kd.R_drew HO_4.out);replace BK349:=am (blk_drew BK349.out);replace HB:=am (below_drew1 HB.out)
        obtain ⟨ad351,e351,hx351_0,hx351_1,hx351_2,hx351_3,p351,q351⟩:=ay35 (Kd.R_reads' HO_4.out).2.2 (ji8)
        cases e351
        refine st F19 [] (g4 BK349 (g1 hx351_0 (g1 hx351_1 (g1 hx351_2 (h1 hx351_3))))) fun hHeld=>?_;refine with_tabW span_List.tab11 span_List.bits11 (fun HT_ HW_=>?_)
        generalize w18.drew=w19 at HO_4 BK349 HB hx351_0 hx351_1 hx351_2 hx351_3 hHeld ⊢;refine pw 0 34 HT_ ?_;refine pw 1 35 HT_ ?_;refine pw 2 36 HT_ ?_;refine pw 3 37 HT_ ?_;refine pw 4 38 HT_ ?_;refine pw 5 39 HT_ ?_;refine tw8 6 40 HT_ HW_ hHeld ?_;refine tw8 7 41 HT_ HW_ hHeld ?_
        refine on 8 HT_ fun K hK=>?_
        refine goes_ Tryz.func102 (by kernel_rfl) rfl #[.agg #[.int .i64 ((rd_T35 x4_1 (ji8)).f0.f0),.int .i64 ((rd_T35 x4_1 (ji8)).f0.f1),.int .i64 ((rd_T35 x4_1 (ji8)).f1.f0),.int .i64 ((rd_T35 x4_1 (ji8)).f1.f1)],.agg #[.int .i64 ((rd_T35 l0 x18_1).f0.f0),.int .i64 ((rd_T35 l0 x18_1).f0.f1),.int .i64 ((rd_T35 l0 x18_1).f1.f0),.int .i64 ((rd_T35 l0 x18_1).f1.f1)]] (by rfl) rfl rfl (by (try simp only [List.map_toArray,List.map_cons,List.map_nil]);first | done | (simp only [hji8];rfl) | rfl | (simp only [List.length_drop,List.length_take];rfl)) ?_
        with_reducible refine (span_Overlap.calls _ _ _ _ _ _ _ _ _ _ _ A11.out).mono ?_
        rintro e w20 ⟨rfl,hb⟩
        have HS4_:=(hb.cell (World.block_lt_of_cell? _ _ (hHeld.2.2.2.2.1))).trans (hHeld.2.2.2.2.1)
        have HS5_:=(hb.cell (World.block_lt_of_cell? _ _ (hHeld.2.2.2.2.2.1))).trans (hHeld.2.2.2.2.2.1)
        have HS6_:=(hb.cell (World.block_lt_of_cell? _ _ (hHeld.2.2.2.2.2.2.1))).trans (hHeld.2.2.2.2.2.2.1)
        have HS7_:=(hb.cell (World.block_lt_of_cell? _ _ (hHeld.2.2.2.2.2.2.2))).trans (hHeld.2.2.2.2.2.2.2)
        refine ⟨_,rfl,?_⟩;replace HO_4:=krb HO_4 hb;replace BK349:=bkb BK349 hb;replace HB:=bst HB hb
        (try clear hb)
        (try clear hb2)
        (try clear hk)
        (try clear hi)
        refine hK.out _ _ ⟨(blk_cell BK349.out 0).trans rfl,(blk_cell BK349.out 1).trans rfl,(blk_cell BK349.out 2).trans rfl,(blk_cell BK349.out 3).trans rfl,HS4_,HS5_,HS6_,HS7_⟩ (fun hHeld=>?_);clear hK K;refine nrp 42 ?_;refine pw 9 43 HT_ ?_;refine px 10 44 HT_ ?_;refine px 11 45 HT_ ?_;refine px 12 46 HT_ ?_;refine px 13 47 HT_ ?_;refine px 14 48 HT_ ?_;refine px 15 49 HT_ ?_;refine pw 16 50 HT_ ?_;refine pw 17 51 HT_ ?_;refine pw 18 33 HT_ ?_
        refine dt HT_ ?_
        try go_wp2
        replace HO_4:=am (Kd.R_drew HO_4.out);replace BK349:=am (blk_drew BK349.out);replace HB:=am (below_drew1 HB.out)
        obtain ⟨ad353,e353,hx353_0,hx353_1,hx353_2,hx353_3,p353,q353⟩:=ay35 (Kd.R_reads' HO_4.out).2.2 (ji8)
        obtain rfl:ad351=ad353:=(by injection e353)
        refine st F10 [9] (g4 BK349 (g1 hx353_0 (g1 hx353_1 (g1 hx353_2 (h1 hx353_3))))) fun hHeld=>?_;refine with_tabW span_List.tab12 span_List.bits12 (fun HT_ HW_=>?_)
        generalize w20.drew=w21 at HO_4 BK349 HB hx353_0 hx353_1 hx353_2 hx353_3 hHeld ⊢;refine pw 0 52 HT_ ?_;refine pw 1 53 HT_ ?_;refine pw 2 54 HT_ ?_;refine pw 3 55 HT_ ?_;refine pw 4 56 HT_ ?_;refine tw8 5 57 HT_ HW_ hHeld ?_;refine tw8 6 58 HT_ HW_ hHeld ?_
        refine on 7 HT_ fun K hK=>?_
        refine goes_ Tryz.func103 (by kernel_rfl) rfl #[.agg #[.int .i64 ((rd_T35 x4_1 (ji8)).f0.f0),.int .i64 ((rd_T35 x4_1 (ji8)).f0.f1),.int .i64 ((rd_T35 x4_1 (ji8)).f1.f0),.int .i64 ((rd_T35 x4_1 (ji8)).f1.f1)],.agg #[.int .i64 ((rd_T35 l0 x18_1).f0.f0),.int .i64 ((rd_T35 l0 x18_1).f0.f1),.int .i64 ((rd_T35 l0 x18_1).f1.f0),.int .i64 ((rd_T35 l0 x18_1).f1.f1)]] (by rfl) rfl rfl (by (try simp only [List.map_toArray,List.map_cons,List.map_nil]);first | done | (simp only [hji8];rfl) | rfl | (simp only [List.length_drop,List.length_take];rfl)) ?_
        with_reducible refine (span_Hull.calls _ _ _ _ _ _ _ _ _ _ _ _ _ _ A13.out).mono ?_
        rintro e w22 ⟨rfl,hb⟩
        have HS4_:=(hb.cell (World.block_lt_of_cell? _ _ (hHeld.2.2.2.2.1))).trans (hHeld.2.2.2.2.1)
        have HS5_:=(hb.cell (World.block_lt_of_cell? _ _ (hHeld.2.2.2.2.2.1))).trans (hHeld.2.2.2.2.2.1)
        have HS6_:=(hb.cell (World.block_lt_of_cell? _ _ (hHeld.2.2.2.2.2.2.1))).trans (hHeld.2.2.2.2.2.2.1)
        have HS7_:=(hb.cell (World.block_lt_of_cell? _ _ (hHeld.2.2.2.2.2.2.2))).trans (hHeld.2.2.2.2.2.2.2)
        refine ⟨_,rfl,?_⟩;replace HO_4:=krb HO_4 hb;replace BK349:=bkb BK349 hb;replace HB:=bst HB hb
        (try clear hb)
        (try clear hb2)
        (try clear hk)
        (try clear hi)
        have p14:0≤((ji8):Int):=pd;have q14:((ji8):Int) < ((x4_1.length:Int):Int):=pd
        obtain ⟨go14,co14,eo14,gb14,gl14,cl14,HG14⟩:=Kd.R_form HO_4.out (by omega)
        (first | cases eo14 | (injection eo14 with ea_ en_ ec_;(first | subst ea_ | (injection ea_ with ea_;subst ea_));subst ec_;clear en_))
        have GB14:=am gb14;have GG14:=am HG14;clear gb14 gl14 HG14
        (first | simp only [add_plain] at hx351_0 | skip)
        (first | simp only [add_plain] at hx351_1 | skip)
        (first | simp only [add_plain] at hx351_2 | skip)
        (first | simp only [add_plain] at hx351_3 | skip)
        (first | simp only [add_plain] at hx353_0 | skip)
        (first | simp only [add_plain] at hx353_1 | skip)
        (first | simp only [add_plain] at hx353_2 | skip)
        (first | simp only [add_plain] at hx353_3 | skip)
        obtain ⟨ce14,hcl14,hM14,hcc14,hfr14⟩:=Kd.R_elem HO_4.out z35 ((ji8):Int) p14 q14
        obtain rfl:=k35_openM hM14
        have hx14_0:World.cell? _ ⟨go14,((ji8):Int).toNat * 4,none⟩=some (.int .i64 ((rd_T35 x4_1 (ji8)).f0.f0)):=hcc14 0 _ rfl
        have hx14_1:World.cell? _ ⟨go14,((ji8):Int).toNat * 4+1,none⟩=some (.int .i64 ((rd_T35 x4_1 (ji8)).f0.f1)):=hcc14 1 _ rfl
        have hx14_2:World.cell? _ ⟨go14,((ji8):Int).toNat * 4+2,none⟩=some (.int .i64 ((rd_T35 x4_1 (ji8)).f1.f0)):=hcc14 2 _ rfl
        have hx14_3:World.cell? _ ⟨go14,((ji8):Int).toNat * 4+3,none⟩=some (.int .i64 ((rd_T35 x4_1 (ji8)).f1.f1)):=hcc14 3 _ rfl
        have hf14_0:World.frozen? _ ⟨go14,((ji8):Int).toNat * 4,none⟩=false:=hfr14 0
        have hf14_1:World.frozen? _ ⟨go14,((ji8):Int).toNat * 4+1,none⟩=false:=hfr14 1
        have hf14_2:World.frozen? _ ⟨go14,((ji8):Int).toNat * 4+2,none⟩=false:=hfr14 2
        have hf14_3:World.frozen? _ ⟨go14,((ji8):Int).toNat * 4+3,none⟩=false:=hfr14 3
        clear hcl14 hcc14 hfr14 hM14;replace p14:=eq_true p14;replace q14:=eq_true q14
        obtain ⟨ce23,hcl23,hM23,hcc23,hfr23⟩:=Kd.R_elem HO_4.out z35 ((ji8):Int) pd (by have h_:((ji8):Int) < ((x4_1.length:Int):Int):=pd;first | exact h_ | (have e_:=(Kd.R_reads' HO_4.out).1;omega) | simpa using h_)
        obtain rfl:=k35_openM hM23
        have HP23:=(Kd.R_seg HO_4.out ((ji8):Int) pd (by have h_:((ji8):Int) < ((x4_1.length:Int):Int):=pd;first | exact h_ | (have e_:=(Kd.R_reads' HO_4.out).1;omega) | simpa using h_) (seg:=[.int .i64 t354,.int .i64 t355,.int .i64 t356,.int .i64 t357]) (j:=0) hcl23 hcc23 (show 4≤4 from by decide) (x':=(⟨(⟨t354,t355⟩:S33),(⟨t356,t357⟩:S33)⟩:S35)) (k35_mkM _ _ _ (⟨(⟨t354,t355⟩:S33),(⟨t356,t357⟩:S33)⟩:S35) ) (fun _ hk=>hk)).1
        rw [← Ny358.out] at HP23
        have HQ23:=am HP23;clear hcl23 hcc23 hfr23 hM23 HP23;refine hK.out _ _ ⟨(blk_cell BK349.out 0).trans rfl,(blk_cell BK349.out 1).trans rfl,(blk_cell BK349.out 2).trans rfl,(blk_cell BK349.out 3).trans rfl,HS4_,HS5_,HS6_,HS7_⟩ (fun hHeld=>?_);clear hK K;refine nrp 59 ?_;refine pw 8 60 HT_ ?_
        refine la 9 HT_ fun K hK=>?_
        refine skip_ (w1:=?_) (by rfl) rfl ?_ ?_
        rotate_left
        ·go_simp
         rfl
        refine hK.out _ _ ?_;clear hK K
        refine dt HT_ ?_
        try go_wp2
        go_roundg k1
        case measure=>have:=HK1.out;omega
        case rel=>exact ⟨_,_,rs,H',kl HK1,⟨by (with_reducible repeat (first | apply Kd.R_alloc | apply Kd.R_drewN | apply Kd.R_drew));exact Kd.R_mono HQ23.out (fun _ hk=>trivial)⟩,⟨bl HB⟩⟩
       ·replace H:=itf H;revert H;refine bnd fun t360 A24 H=>?_
        cases t360;rotate_left
        ·replace H:=itt H;revert H;refine bnd4 fun t362 t363 t364 t365 A26 H=>?_;dsimp only at H
         generalize hy366:x4_1.set ((ji8):Int).toNat (⟨(⟨t362,t363⟩:S33),(⟨t364,t365⟩:S33)⟩:S35)=y366 at H;have Ny366:=am hy366.symm;clear hy366;have H':=am H;clear H
         obtain ⟨ad348,e348,hx348_0,hx348_1,hx348_2,hx348_3,p348,q348⟩:=ax35 HR0 HB x18_1
         cases e348
         try go_wp2_with (first | ((with_reducible refine gate_dst (N:=6) rfl ?_);refine bxf #[.int .i64 0,.int .i64 0,.int .i64 0,.int .i64 0] 35 HB fun gb349 w28 BK349 GW349 HB hg hb=>?_;replace HO_4:=am (Kd.R_below (Kd.R_elderB (kr HO_4) gb349 (Nat.le_of_eq hg.symm)) hb);have GE349:=GW349;clear hb hg;obtain ⟨_,_,_,_,_,_,_,_⟩:=s4 BK349;obtain ⟨Ao30,co30,rfl⟩:=Kd.R_slice HO_4.out) | ((with_reducible refine gate_callee (f:=88) rfl ?_);refine gob Tryz.func88 (span_Right.calls _ _ _ _ _ _ _ A5.out) fun w31 hb=>?_;replace HO_4:=am (Kd.R_below (by (with_reducible repeat (first | apply Kd.R_alloc | apply Kd.R_drewN | apply Kd.R_drew));exact (Kd.R_mono (Kd.R_far (p:=⟨gb349,3,none⟩) (Kd.R_far (p:=⟨gb349,2,none⟩) (Kd.R_far (p:=⟨gb349,1,none⟩) (Kd.R_far (p:=⟨gb349,0,none⟩) (Kd.R_mono HO_4.out (fun k_ hk=>(⟨hk,hk.2⟩:_∧k_≠gb349))) (fun _ hk=>hk.2) (.int .i64 ((rd_T35 l0 x18_1).f0.f0))) (fun _ hk=>hk.2) (.int .i64 ((rd_T35 l0 x18_1).f0.f1))) (fun _ hk=>hk.2) (.int .i64 ((rd_T35 l0 x18_1).f1.f0))) (fun _ hk=>hk.2) (.int .i64 ((rd_T35 l0 x18_1).f1.f1))) (fun _ h_=>h_.1))) hb);replace BK349:=am (blk_below (g:=gb349) (o:=.cells #[.int .i64 ((rd_T35 l0 x18_1).f0.f0),.int .i64 ((rd_T35 l0 x18_1).f0.f1),.int .i64 ((rd_T35 l0 x18_1).f1.f0),.int .i64 ((rd_T35 l0 x18_1).f1.f1)] 35 (0,0)) (bkp BK349) hb);replace HB:=bst HB hb;(try clear hb);(try clear hb2);(try clear hk);(try clear hi)))
         replace HO_4:=am (Kd.R_drew HO_4.out);replace BK349:=am (blk_drew BK349.out);replace HB:=am (below_drew1 HB.out)
         obtain ⟨ad351,e351,hx351_0,hx351_1,hx351_2,hx351_3,p351,q351⟩:=ay35 (Kd.R_reads' HO_4.out).2.2 (ji8)
         cases e351
         obtain ⟨ad359,e359,hx359_0,hx359_1,hx359_2,hx359_3,p359,q359⟩:=ay35 (Kd.R_reads' HO_4.out).2.2 (ji8)
         obtain rfl:ad351=ad359:=(by injection e359)
         refine st F19 [] (g4 BK349 (g1 hx351_0 (g1 hx351_1 (g1 hx351_2 (g1 hx351_3 (g1 hx359_0 (g1 hx359_1 (g1 hx359_2 (h1 hx359_3))))))))) fun hHeld=>?_;refine with_tabW span_List.tab11 span_List.bits11 (fun HT_ HW_=>?_)
         generalize w31.drew=w32 at HO_4 BK349 HB hx351_0 hx351_1 hx351_2 hx351_3 hx359_0 hx359_1 hx359_2 hx359_3 hHeld ⊢;refine pw 0 34 HT_ ?_;refine pw 1 35 HT_ ?_;refine pw 2 36 HT_ ?_;refine pw 3 37 HT_ ?_;refine pw 4 38 HT_ ?_;refine pw 5 39 HT_ ?_;refine tw12 6 40 HT_ HW_ hHeld ?_;refine tw12 7 41 HT_ HW_ hHeld ?_
         refine on 8 HT_ fun K hK=>?_
         refine goes_ Tryz.func102 (by kernel_rfl) rfl #[.agg #[.int .i64 ((rd_T35 x4_1 (ji8)).f0.f0),.int .i64 ((rd_T35 x4_1 (ji8)).f0.f1),.int .i64 ((rd_T35 x4_1 (ji8)).f1.f0),.int .i64 ((rd_T35 x4_1 (ji8)).f1.f1)],.agg #[.int .i64 ((rd_T35 l0 x18_1).f0.f0),.int .i64 ((rd_T35 l0 x18_1).f0.f1),.int .i64 ((rd_T35 l0 x18_1).f1.f0),.int .i64 ((rd_T35 l0 x18_1).f1.f1)]] (by rfl) rfl rfl (by (try simp only [List.map_toArray,List.map_cons,List.map_nil]);first | done | (simp only [hji8];rfl) | rfl | (simp only [List.length_drop,List.length_take];rfl)) ?_
         with_reducible refine (span_Overlap.calls _ _ _ _ _ _ _ _ _ _ _ A11.out).mono ?_
         rintro e w33 ⟨rfl,hb⟩
         have HS4_:=(hb.cell (World.block_lt_of_cell? _ _ (hHeld.2.2.2.2.1))).trans (hHeld.2.2.2.2.1)
         have HS5_:=(hb.cell (World.block_lt_of_cell? _ _ (hHeld.2.2.2.2.2.1))).trans (hHeld.2.2.2.2.2.1)
         have HS6_:=(hb.cell (World.block_lt_of_cell? _ _ (hHeld.2.2.2.2.2.2.1))).trans (hHeld.2.2.2.2.2.2.1)
         have HS7_:=(hb.cell (World.block_lt_of_cell? _ _ (hHeld.2.2.2.2.2.2.2.1))).trans (hHeld.2.2.2.2.2.2.2.1)
         have HS8_:=(hb.cell (World.block_lt_of_cell? _ _ (hHeld.2.2.2.2.2.2.2.2.1))).trans (hHeld.2.2.2.2.2.2.2.2.1)
         have HS9_:=(hb.cell (World.block_lt_of_cell? _ _ (hHeld.2.2.2.2.2.2.2.2.2.1))).trans (hHeld.2.2.2.2.2.2.2.2.2.1)
         have HS10_:=(hb.cell (World.block_lt_of_cell? _ _ (hHeld.2.2.2.2.2.2.2.2.2.2.1))).trans (hHeld.2.2.2.2.2.2.2.2.2.2.1)
         have HS11_:=(hb.cell (World.block_lt_of_cell? _ _ (hHeld.2.2.2.2.2.2.2.2.2.2.2))).trans (hHeld.2.2.2.2.2.2.2.2.2.2.2)
         refine ⟨_,rfl,?_⟩;replace HO_4:=krb HO_4 hb;replace BK349:=bkb BK349 hb;replace HB:=bst HB hb
         (try clear hb)
         (try clear hb2)
         (try clear hk)
         (try clear hi)
         refine hK.out _ _ ⟨(blk_cell BK349.out 0).trans rfl,(blk_cell BK349.out 1).trans rfl,(blk_cell BK349.out 2).trans rfl,(blk_cell BK349.out 3).trans rfl,HS4_,HS5_,HS6_,HS7_,HS8_,HS9_,HS10_,HS11_⟩ (fun hHeld=>?_);clear hK K;refine nrp 42 ?_;refine pw 9 43 HT_ ?_;refine pw 10 44 HT_ ?_;refine pw 11 45 HT_ ?_;refine pw 12 46 HT_ ?_;refine tw12 13 47 HT_ HW_ hHeld ?_;refine tw12 14 48 HT_ HW_ hHeld ?_
         refine on 15 HT_ fun K hK=>?_
         refine goes_ Tryz.func83 (by kernel_rfl) rfl #[.agg #[.int .i64 ((rd_T35 x4_1 (ji8)).f0.f0),.int .i64 ((rd_T35 x4_1 (ji8)).f0.f1),.int .i64 ((rd_T35 x4_1 (ji8)).f1.f0),.int .i64 ((rd_T35 x4_1 (ji8)).f1.f1)],.agg #[.int .i64 ((rd_T35 l0 x18_1).f0.f0),.int .i64 ((rd_T35 l0 x18_1).f0.f1),.int .i64 ((rd_T35 l0 x18_1).f1.f0),.int .i64 ((rd_T35 l0 x18_1).f1.f1)]] (by rfl) rfl rfl (by (try simp only [List.map_toArray,List.map_cons,List.map_nil]);first | done | (simp only [hji8];rfl) | rfl | (simp only [List.length_drop,List.length_take];rfl)) ?_
         with_reducible refine (span_Touch.calls _ _ _ _ _ _ _ _ _ _ _ A24.out).mono ?_
         rintro e w34 ⟨rfl,hb⟩
         have HS4_:=(hb.cell (World.block_lt_of_cell? _ _ (hHeld.2.2.2.2.1))).trans (hHeld.2.2.2.2.1)
         have HS5_:=(hb.cell (World.block_lt_of_cell? _ _ (hHeld.2.2.2.2.2.1))).trans (hHeld.2.2.2.2.2.1)
         have HS6_:=(hb.cell (World.block_lt_of_cell? _ _ (hHeld.2.2.2.2.2.2.1))).trans (hHeld.2.2.2.2.2.2.1)
         have HS7_:=(hb.cell (World.block_lt_of_cell? _ _ (hHeld.2.2.2.2.2.2.2.1))).trans (hHeld.2.2.2.2.2.2.2.1)
         have HS8_:=(hb.cell (World.block_lt_of_cell? _ _ (hHeld.2.2.2.2.2.2.2.2.1))).trans (hHeld.2.2.2.2.2.2.2.2.1)
         have HS9_:=(hb.cell (World.block_lt_of_cell? _ _ (hHeld.2.2.2.2.2.2.2.2.2.1))).trans (hHeld.2.2.2.2.2.2.2.2.2.1)
         have HS10_:=(hb.cell (World.block_lt_of_cell? _ _ (hHeld.2.2.2.2.2.2.2.2.2.2.1))).trans (hHeld.2.2.2.2.2.2.2.2.2.2.1)
         have HS11_:=(hb.cell (World.block_lt_of_cell? _ _ (hHeld.2.2.2.2.2.2.2.2.2.2.2))).trans (hHeld.2.2.2.2.2.2.2.2.2.2.2)
         refine ⟨_,rfl,?_⟩;replace HO_4:=krb HO_4 hb;replace BK349:=bkb BK349 hb;replace HB:=bst HB hb
         (try clear hb)
         (try clear hb2)
         (try clear hk)
         (try clear hi)
         refine hK.out _ _ ⟨(blk_cell BK349.out 0).trans rfl,(blk_cell BK349.out 1).trans rfl,(blk_cell BK349.out 2).trans rfl,(blk_cell BK349.out 3).trans rfl,HS4_,HS5_,HS6_,HS7_,HS8_,HS9_,HS10_,HS11_⟩ (fun hHeld=>?_);clear hK K;refine nrp 49 ?_;refine pw 16 50 HT_ ?_;refine pw 17 51 HT_ ?_;refine pw 18 33 HT_ ?_
         refine dt HT_ ?_
         try go_wp2
         replace HO_4:=am (Kd.R_drew HO_4.out);replace BK349:=am (blk_drew BK349.out);replace HB:=am (below_drew1 HB.out)
         obtain ⟨ad361,e361,hx361_0,hx361_1,hx361_2,hx361_3,p361,q361⟩:=ay35 (Kd.R_reads' HO_4.out).2.2 (ji8)
         obtain rfl:ad351=ad361:=(by injection e361)
         refine st F10 [9] (g4 BK349 (g1 hx361_0 (g1 hx361_1 (g1 hx361_2 (h1 hx361_3))))) fun hHeld=>?_;refine with_tabW span_List.tab12 span_List.bits12 (fun HT_ HW_=>?_)
         generalize w34.drew=w35 at HO_4 BK349 HB hx361_0 hx361_1 hx361_2 hx361_3 hHeld ⊢;refine pw 0 52 HT_ ?_;refine pw 1 53 HT_ ?_;refine pw 2 54 HT_ ?_;refine pw 3 55 HT_ ?_;refine pw 4 56 HT_ ?_;refine tw8 5 57 HT_ HW_ hHeld ?_;refine tw8 6 58 HT_ HW_ hHeld ?_
         refine on 7 HT_ fun K hK=>?_
         refine goes_ Tryz.func103 (by kernel_rfl) rfl #[.agg #[.int .i64 ((rd_T35 x4_1 (ji8)).f0.f0),.int .i64 ((rd_T35 x4_1 (ji8)).f0.f1),.int .i64 ((rd_T35 x4_1 (ji8)).f1.f0),.int .i64 ((rd_T35 x4_1 (ji8)).f1.f1)],.agg #[.int .i64 ((rd_T35 l0 x18_1).f0.f0),.int .i64 ((rd_T35 l0 x18_1).f0.f1),.int .i64 ((rd_T35 l0 x18_1).f1.f0),.int .i64 ((rd_T35 l0 x18_1).f1.f1)]] (by rfl) rfl rfl (by (try simp only [List.map_toArray,List.map_cons,List.map_nil]);first | done | (simp only [hji8];rfl) | rfl | (simp only [List.length_drop,List.length_take];rfl)) ?_
         with_reducible refine (span_Hull.calls _ _ _ _ _ _ _ _ _ _ _ _ _ _ A26.out).mono ?_
         rintro e w36 ⟨rfl,hb⟩
         have HS4_:=(hb.cell (World.block_lt_of_cell? _ _ (hHeld.2.2.2.2.1))).trans (hHeld.2.2.2.2.1)
         have HS5_:=(hb.cell (World.block_lt_of_cell? _ _ (hHeld.2.2.2.2.2.1))).trans (hHeld.2.2.2.2.2.1)
         have HS6_:=(hb.cell (World.block_lt_of_cell? _ _ (hHeld.2.2.2.2.2.2.1))).trans (hHeld.2.2.2.2.2.2.1)
         have HS7_:=(hb.cell (World.block_lt_of_cell? _ _ (hHeld.2.2.2.2.2.2.2))).trans (hHeld.2.2.2.2.2.2.2)
         refine ⟨_,rfl,?_⟩;replace HO_4:=krb HO_4 hb;replace BK349:=bkb BK349 hb;replace HB:=bst HB hb
         (try clear hb)
         (try clear hb2)
         (try clear hk)
         (try clear hi)
         have p27:0≤((ji8):Int):=pd;have q27:((ji8):Int) < ((x4_1.length:Int):Int):=pd
         obtain ⟨go27,co27,eo27,gb27,gl27,cl27,HG27⟩:=Kd.R_form HO_4.out (by omega)
         (first | cases eo27 | (injection eo27 with ea_ en_ ec_;(first | subst ea_ | (injection ea_ with ea_;subst ea_));subst ec_;clear en_))
         have GB27:=am gb27;have GG27:=am HG27;clear gb27 gl27 HG27
         (first | simp only [add_plain] at hx351_0 | skip)
         (first | simp only [add_plain] at hx351_1 | skip)
         (first | simp only [add_plain] at hx351_2 | skip)
         (first | simp only [add_plain] at hx351_3 | skip)
         (first | simp only [add_plain] at hx359_0 | skip)
         (first | simp only [add_plain] at hx359_1 | skip)
         (first | simp only [add_plain] at hx359_2 | skip)
         (first | simp only [add_plain] at hx359_3 | skip)
         (first | simp only [add_plain] at hx361_0 | skip)
         (first | simp only [add_plain] at hx361_1 | skip)
         (first | simp only [add_plain] at hx361_2 | skip)
         (first | simp only [add_plain] at hx361_3 | skip)
         obtain ⟨ce27,hcl27,hM27,hcc27,hfr27⟩:=Kd.R_elem HO_4.out z35 ((ji8):Int) p27 q27
         obtain rfl:=k35_openM hM27
         have hx27_0:World.cell? _ ⟨go27,((ji8):Int).toNat * 4,none⟩=some (.int .i64 ((rd_T35 x4_1 (ji8)).f0.f0)):=hcc27 0 _ rfl
         have hx27_1:World.cell? _ ⟨go27,((ji8):Int).toNat * 4+1,none⟩=some (.int .i64 ((rd_T35 x4_1 (ji8)).f0.f1)):=hcc27 1 _ rfl
         have hx27_2:World.cell? _ ⟨go27,((ji8):Int).toNat * 4+2,none⟩=some (.int .i64 ((rd_T35 x4_1 (ji8)).f1.f0)):=hcc27 2 _ rfl
         have hx27_3:World.cell? _ ⟨go27,((ji8):Int).toNat * 4+3,none⟩=some (.int .i64 ((rd_T35 x4_1 (ji8)).f1.f1)):=hcc27 3 _ rfl
         have hf27_0:World.frozen? _ ⟨go27,((ji8):Int).toNat * 4,none⟩=false:=hfr27 0
         have hf27_1:World.frozen? _ ⟨go27,((ji8):Int).toNat * 4+1,none⟩=false:=hfr27 1
         have hf27_2:World.frozen? _ ⟨go27,((ji8):Int).toNat * 4+2,none⟩=false:=hfr27 2
         have hf27_3:World.frozen? _ ⟨go27,((ji8):Int).toNat * 4+3,none⟩=false:=hfr27 3
         clear hcl27 hcc27 hfr27 hM27;replace p27:=eq_true p27;replace q27:=eq_true q27
         obtain ⟨ce37,hcl37,hM37,hcc37,hfr37⟩:=Kd.R_elem HO_4.out z35 ((ji8):Int) pd (by have h_:((ji8):Int) < ((x4_1.length:Int):Int):=pd;first | exact h_ | (have e_:=(Kd.R_reads' HO_4.out).1;omega) | simpa using h_)
         obtain rfl:=k35_openM hM37
         have HP37:=(Kd.R_seg HO_4.out ((ji8):Int) pd (by have h_:((ji8):Int) < ((x4_1.length:Int):Int):=pd;first | exact h_ | (have e_:=(Kd.R_reads' HO_4.out).1;omega) | simpa using h_) (seg:=[.int .i64 t362,.int .i64 t363,.int .i64 t364,.int .i64 t365]) (j:=0) hcl37 hcc37 (show 4≤4 from by decide) (x':=(⟨(⟨t362,t363⟩:S33),(⟨t364,t365⟩:S33)⟩:S35)) (k35_mkM _ _ _ (⟨(⟨t362,t363⟩:S33),(⟨t364,t365⟩:S33)⟩:S35) ) (fun _ hk=>hk)).1
         rw [← Ny366.out] at HP37
         have HQ37:=am HP37;clear hcl37 hcc37 hfr37 hM37 HP37;refine hK.out _ _ ⟨(blk_cell BK349.out 0).trans rfl,(blk_cell BK349.out 1).trans rfl,(blk_cell BK349.out 2).trans rfl,(blk_cell BK349.out 3).trans rfl,HS4_,HS5_,HS6_,HS7_⟩ (fun hHeld=>?_);clear hK K;refine nrp 59 ?_;refine pw 8 60 HT_ ?_
         refine la 9 HT_ fun K hK=>?_
         refine skip_ (w1:=?_) (by rfl) rfl ?_ ?_
         rotate_left
         ·go_simp
          rfl
         refine hK.out _ _ ?_;clear hK K
         refine dt HT_ ?_
         try go_wp2
         go_roundg k1
         case measure=>have:=HK1.out;omega
         case rel=>exact ⟨_,_,rs,H',kl HK1,⟨by (with_reducible repeat (first | apply Kd.R_alloc | apply Kd.R_drewN | apply Kd.R_drew));exact Kd.R_mono HQ37.out (fun _ hk=>trivial)⟩,⟨bl HB⟩⟩
        ·replace H:=itf H;revert H;refine itl fun LMc38 H=>?_
         generalize hy367:x4_1 ++ [(⟨(⟨(rd_T35 l0 x18_1).f0.f0,(rd_T35 l0 x18_1).f0.f1⟩:S33),(⟨(rd_T35 l0 x18_1).f1.f0,(rd_T35 l0 x18_1).f1.f1⟩:S33)⟩:S35)]=y367 at H;have Ny367:=am hy367.symm;clear hy367;have H':=am H;clear H
         obtain ⟨ad348,e348,hx348_0,hx348_1,hx348_2,hx348_3,p348,q348⟩:=ax35 HR0 HB x18_1
         cases e348
         try go_wp2_with (first | ((with_reducible refine gate_dst (N:=6) rfl ?_);refine bxf #[.int .i64 0,.int .i64 0,.int .i64 0,.int .i64 0] 35 HB fun gb349 w39 BK349 GW349 HB hg hb=>?_;replace HO_4:=am (Kd.R_below (Kd.R_elderB (kr HO_4) gb349 (Nat.le_of_eq hg.symm)) hb);have GE349:=GW349;clear hb hg;obtain ⟨_,_,_,_,_,_,_,_⟩:=s4 BK349;obtain ⟨Ao41,co41,rfl⟩:=Kd.R_slice HO_4.out) | ((with_reducible refine gate_callee (f:=88) rfl ?_);refine gob Tryz.func88 (span_Right.calls _ _ _ _ _ _ _ A5.out) fun w42 hb=>?_;replace HO_4:=am (Kd.R_below (by (with_reducible repeat (first | apply Kd.R_alloc | apply Kd.R_drewN | apply Kd.R_drew));exact (Kd.R_mono (Kd.R_far (p:=⟨gb349,3,none⟩) (Kd.R_far (p:=⟨gb349,2,none⟩) (Kd.R_far (p:=⟨gb349,1,none⟩) (Kd.R_far (p:=⟨gb349,0,none⟩) (Kd.R_mono HO_4.out (fun k_ hk=>(⟨hk,hk.2⟩:_∧k_≠gb349))) (fun _ hk=>hk.2) (.int .i64 ((rd_T35 l0 x18_1).f0.f0))) (fun _ hk=>hk.2) (.int .i64 ((rd_T35 l0 x18_1).f0.f1))) (fun _ hk=>hk.2) (.int .i64 ((rd_T35 l0 x18_1).f1.f0))) (fun _ hk=>hk.2) (.int .i64 ((rd_T35 l0 x18_1).f1.f1))) (fun _ h_=>h_.1))) hb);replace BK349:=am (blk_below (g:=gb349) (o:=.cells #[.int .i64 ((rd_T35 l0 x18_1).f0.f0),.int .i64 ((rd_T35 l0 x18_1).f0.f1),.int .i64 ((rd_T35 l0 x18_1).f1.f0),.int .i64 ((rd_T35 l0 x18_1).f1.f1)] 35 (0,0)) (bkp BK349) hb);replace HB:=bst HB hb;(try clear hb);(try clear hb2);(try clear hk);(try clear hi)))
         replace HO_4:=am (Kd.R_drew HO_4.out);replace BK349:=am (blk_drew BK349.out);replace HB:=am (below_drew1 HB.out)
         obtain ⟨ad351,e351,hx351_0,hx351_1,hx351_2,hx351_3,p351,q351⟩:=ay35 (Kd.R_reads' HO_4.out).2.2 (ji8)
         cases e351
         obtain ⟨ad359,e359,hx359_0,hx359_1,hx359_2,hx359_3,p359,q359⟩:=ay35 (Kd.R_reads' HO_4.out).2.2 (ji8)
         obtain rfl:ad351=ad359:=(by injection e359)
         refine st F19 [] (g4 BK349 (g1 hx351_0 (g1 hx351_1 (g1 hx351_2 (g1 hx351_3 (g1 hx359_0 (g1 hx359_1 (g1 hx359_2 (h1 hx359_3))))))))) fun hHeld=>?_;refine with_tabW span_List.tab11 span_List.bits11 (fun HT_ HW_=>?_)
         generalize w42.drew=w43 at HO_4 BK349 HB hx351_0 hx351_1 hx351_2 hx351_3 hx359_0 hx359_1 hx359_2 hx359_3 hHeld ⊢;refine pw 0 34 HT_ ?_;refine pw 1 35 HT_ ?_;refine pw 2 36 HT_ ?_;refine pw 3 37 HT_ ?_;refine pw 4 38 HT_ ?_;refine pw 5 39 HT_ ?_;refine tw12 6 40 HT_ HW_ hHeld ?_;refine tw12 7 41 HT_ HW_ hHeld ?_
         refine on 8 HT_ fun K hK=>?_
         refine goes_ Tryz.func102 (by kernel_rfl) rfl #[.agg #[.int .i64 ((rd_T35 x4_1 (ji8)).f0.f0),.int .i64 ((rd_T35 x4_1 (ji8)).f0.f1),.int .i64 ((rd_T35 x4_1 (ji8)).f1.f0),.int .i64 ((rd_T35 x4_1 (ji8)).f1.f1)],.agg #[.int .i64 ((rd_T35 l0 x18_1).f0.f0),.int .i64 ((rd_T35 l0 x18_1).f0.f1),.int .i64 ((rd_T35 l0 x18_1).f1.f0),.int .i64 ((rd_T35 l0 x18_1).f1.f1)]] (by rfl) rfl rfl (by (try simp only [List.map_toArray,List.map_cons,List.map_nil]);first | done | (simp only [hji8];rfl) | rfl | (simp only [List.length_drop,List.length_take];rfl)) ?_
         with_reducible refine (span_Overlap.calls _ _ _ _ _ _ _ _ _ _ _ A11.out).mono ?_
         rintro e w44 ⟨rfl,hb⟩
         have HS4_:=(hb.cell (World.block_lt_of_cell? _ _ (hHeld.2.2.2.2.1))).trans (hHeld.2.2.2.2.1)
         have HS5_:=(hb.cell (World.block_lt_of_cell? _ _ (hHeld.2.2.2.2.2.1))).trans (hHeld.2.2.2.2.2.1)
         have HS6_:=(hb.cell (World.block_lt_of_cell? _ _ (hHeld.2.2.2.2.2.2.1))).trans (hHeld.2.2.2.2.2.2.1)
         have HS7_:=(hb.cell (World.block_lt_of_cell? _ _ (hHeld.2.2.2.2.2.2.2.1))).trans (hHeld.2.2.2.2.2.2.2.1)
         have HS8_:=(hb.cell (World.block_lt_of_cell? _ _ (hHeld.2.2.2.2.2.2.2.2.1))).trans (hHeld.2.2.2.2.2.2.2.2.1)
         have HS9_:=(hb.cell (World.block_lt_of_cell? _ _ (hHeld.2.2.2.2.2.2.2.2.2.1))).trans (hHeld.2.2.2.2.2.2.2.2.2.1)
         have HS10_:=(hb.cell (World.block_lt_of_cell? _ _ (hHeld.2.2.2.2.2.2.2.2.2.2.1))).trans (hHeld.2.2.2.2.2.2.2.2.2.2.1)
         have HS11_:=(hb.cell (World.block_lt_of_cell? _ _ (hHeld.2.2.2.2.2.2.2.2.2.2.2))).trans (hHeld.2.2.2.2.2.2.2.2.2.2.2)
         refine ⟨_,rfl,?_⟩;replace HO_4:=krb HO_4 hb;replace BK349:=bkb BK349 hb;replace HB:=bst HB hb
         (try clear hb)
         (try clear hb2)
         (try clear hk)
         (try clear hi)
         refine hK.out _ _ ⟨(blk_cell BK349.out 0).trans rfl,(blk_cell BK349.out 1).trans rfl,(blk_cell BK349.out 2).trans rfl,(blk_cell BK349.out 3).trans rfl,HS4_,HS5_,HS6_,HS7_,HS8_,HS9_,HS10_,HS11_⟩ (fun hHeld=>?_);clear hK K;refine nrp 42 ?_;refine pw 9 43 HT_ ?_;refine pw 10 44 HT_ ?_;refine pw 11 45 HT_ ?_;refine pw 12 46 HT_ ?_;refine tw12 13 47 HT_ HW_ hHeld ?_;refine tw12 14 48 HT_ HW_ hHeld ?_
         refine on 15 HT_ fun K hK=>?_
         refine goes_ Tryz.func83 (by kernel_rfl) rfl #[.agg #[.int .i64 ((rd_T35 x4_1 (ji8)).f0.f0),.int .i64 ((rd_T35 x4_1 (ji8)).f0.f1),.int .i64 ((rd_T35 x4_1 (ji8)).f1.f0),.int .i64 ((rd_T35 x4_1 (ji8)).f1.f1)],.agg #[.int .i64 ((rd_T35 l0 x18_1).f0.f0),.int .i64 ((rd_T35 l0 x18_1).f0.f1),.int .i64 ((rd_T35 l0 x18_1).f1.f0),.int .i64 ((rd_T35 l0 x18_1).f1.f1)]] (by rfl) rfl rfl (by (try simp only [List.map_toArray,List.map_cons,List.map_nil]);first | done | (simp only [hji8];rfl) | rfl | (simp only [List.length_drop,List.length_take];rfl)) ?_
         with_reducible refine (span_Touch.calls _ _ _ _ _ _ _ _ _ _ _ A24.out).mono ?_
         rintro e w45 ⟨rfl,hb⟩
         have HS4_:=(hb.cell (World.block_lt_of_cell? _ _ (hHeld.2.2.2.2.1))).trans (hHeld.2.2.2.2.1)
         have HS5_:=(hb.cell (World.block_lt_of_cell? _ _ (hHeld.2.2.2.2.2.1))).trans (hHeld.2.2.2.2.2.1)
         have HS6_:=(hb.cell (World.block_lt_of_cell? _ _ (hHeld.2.2.2.2.2.2.1))).trans (hHeld.2.2.2.2.2.2.1)
         have HS7_:=(hb.cell (World.block_lt_of_cell? _ _ (hHeld.2.2.2.2.2.2.2.1))).trans (hHeld.2.2.2.2.2.2.2.1)
         have HS8_:=(hb.cell (World.block_lt_of_cell? _ _ (hHeld.2.2.2.2.2.2.2.2.1))).trans (hHeld.2.2.2.2.2.2.2.2.1)
         have HS9_:=(hb.cell (World.block_lt_of_cell? _ _ (hHeld.2.2.2.2.2.2.2.2.2.1))).trans (hHeld.2.2.2.2.2.2.2.2.2.1)
         have HS10_:=(hb.cell (World.block_lt_of_cell? _ _ (hHeld.2.2.2.2.2.2.2.2.2.2.1))).trans (hHeld.2.2.2.2.2.2.2.2.2.2.1)
         have HS11_:=(hb.cell (World.block_lt_of_cell? _ _ (hHeld.2.2.2.2.2.2.2.2.2.2.2))).trans (hHeld.2.2.2.2.2.2.2.2.2.2.2)
         refine ⟨_,rfl,?_⟩;replace HO_4:=krb HO_4 hb;replace BK349:=bkb BK349 hb;replace HB:=bst HB hb
         (try clear hb)
         (try clear hb2)
         (try clear hk)
         (try clear hi)
         refine hK.out _ _ ⟨(blk_cell BK349.out 0).trans rfl,(blk_cell BK349.out 1).trans rfl,(blk_cell BK349.out 2).trans rfl,(blk_cell BK349.out 3).trans rfl,HS4_,HS5_,HS6_,HS7_,HS8_,HS9_,HS10_,HS11_⟩ (fun hHeld=>?_);clear hK K;refine nrp 49 ?_;refine pw 16 50 HT_ ?_;refine pw 17 51 HT_ ?_;refine pw 18 33 HT_ ?_
         refine dt HT_ ?_
         obtain ⟨_,_,_,_,_,_,_,_⟩:=s4 BK349
         try go_wp2_with (first | ((with_reducible refine gate_builtin (b:=.append) (xs:=#[.tmp 25,.tmp 27]) rfl ?_);at_builtin;refine Kd.R_append k35 (w0:=w) w.heap.size rfl (.tmp 25) (.tmp 27) 29 35 (.agg #[(.int .i64 0),(.int .i64 0),(.int .i64 0),(.int .i64 0)]) 32 rfl Tryz.underlying29 info35 rfl (by decide) (by omega) (.slice (some ad351) x4_1.length co41) x4_1 (⟨(⟨(rd_T35 l0 x18_1).f0.f0,(rd_T35 l0 x18_1).f0.f1⟩:S33),(⟨(rd_T35 l0 x18_1).f1.f0,(rd_T35 l0 x18_1).f1.f1⟩:S33)⟩:S35) [.int .i64 ((rd_T35 l0 x18_1).f0.f0),.int .i64 ((rd_T35 l0 x18_1).f0.f1),.int .i64 ((rd_T35 l0 x18_1).f1.f0),.int .i64 ((rd_T35 l0 x18_1).f1.f1)] (fun k_=>k_≠gb349) (fun _=>False) rfl rfl ?aP (fun _ hk=>hk.elim) ?aF ?aO ?aB ?aS ?aL ?_;(case aP=>exact k35_mkM _ _ _ (⟨(⟨(rd_T35 l0 x18_1).f0.f0,(rd_T35 l0 x18_1).f0.f1⟩:S33),(⟨(rd_T35 l0 x18_1).f1.f0,(rd_T35 l0 x18_1).f1.f1⟩:S33)⟩:S35));(case aB=>exact (bl HB));(case aF=>exact (fun k_ hk=>Kd.freshB (bk BK349) k_ hk));(case aO=>exact (by (with_reducible repeat (first | apply Kd.R_alloc | apply Kd.R_drewN | apply Kd.R_drew));exact Kd.R_mono HO_4.out (fun _ hk=>hk.2)));(case aS=>exact (below_size (bl HB)));(case aL=>have:=LMc38.out;omega);intro v368 w47 ho hb hg hat;rw [← Ny367.out] at ho;replace BK349:=am (blk_grown (bk BK349) hg (Kd.R_away HO_4.out (fun _ hk=>hk.2)));replace HB:=am hb;have HO369:=am ho;clear HO_4;clear ho hb hg hat))
         go_roundg k1
         case measure=>have:=HK1.out;omega
         case rel=>exact ⟨_,_,rs,H',kl HK1,⟨by (with_reducible repeat (first | apply Kd.R_alloc | apply Kd.R_drewN | apply Kd.R_drew));exact Kd.R_mono HO369.out (fun _ hk=>trivial)⟩,⟨bl HB⟩⟩
      ·revert H;refine itl fun LMc48 H=>?_
       generalize hy370:x4_1 ++ [(⟨(⟨(rd_T35 l0 x18_1).f0.f0,(rd_T35 l0 x18_1).f0.f1⟩:S33),(⟨(rd_T35 l0 x18_1).f1.f0,(rd_T35 l0 x18_1).f1.f1⟩:S33)⟩:S35)]=y370 at H;have Ny370:=am hy370.symm;clear hy370;have H':=am H;clear H
       obtain ⟨ad348,e348,hx348_0,hx348_1,hx348_2,hx348_3,p348,q348⟩:=ax35 HR0 HB x18_1
       cases e348
       try go_wp2_with (first | ((with_reducible refine gate_dst (N:=6) rfl ?_);refine bxf #[.int .i64 0,.int .i64 0,.int .i64 0,.int .i64 0] 35 HB fun gb349 w49 BK349 GW349 HB hg hb=>?_;replace HO_4:=am (Kd.R_below (Kd.R_elderB (kr HO_4) gb349 (Nat.le_of_eq hg.symm)) hb);have GE349:=GW349;clear hb hg;obtain ⟨_,_,_,_,_,_,_,_⟩:=s4 BK349;obtain ⟨Ao51,co51,rfl⟩:=Kd.R_slice HO_4.out) | ((with_reducible refine gate_callee (f:=88) rfl ?_);refine gob Tryz.func88 (span_Right.calls _ _ _ _ _ _ _ A5.out) fun w52 hb=>?_;replace HO_4:=am (Kd.R_below (by (with_reducible repeat (first | apply Kd.R_alloc | apply Kd.R_drewN | apply Kd.R_drew));exact (Kd.R_mono (Kd.R_far (p:=⟨gb349,3,none⟩) (Kd.R_far (p:=⟨gb349,2,none⟩) (Kd.R_far (p:=⟨gb349,1,none⟩) (Kd.R_far (p:=⟨gb349,0,none⟩) (Kd.R_mono HO_4.out (fun k_ hk=>(⟨hk,hk.2⟩:_∧k_≠gb349))) (fun _ hk=>hk.2) (.int .i64 ((rd_T35 l0 x18_1).f0.f0))) (fun _ hk=>hk.2) (.int .i64 ((rd_T35 l0 x18_1).f0.f1))) (fun _ hk=>hk.2) (.int .i64 ((rd_T35 l0 x18_1).f1.f0))) (fun _ hk=>hk.2) (.int .i64 ((rd_T35 l0 x18_1).f1.f1))) (fun _ h_=>h_.1))) hb);replace BK349:=am (blk_below (g:=gb349) (o:=.cells #[.int .i64 ((rd_T35 l0 x18_1).f0.f0),.int .i64 ((rd_T35 l0 x18_1).f0.f1),.int .i64 ((rd_T35 l0 x18_1).f1.f0),.int .i64 ((rd_T35 l0 x18_1).f1.f1)] 35 (0,0)) (bkp BK349) hb);replace HB:=bst HB hb;(try clear hb);(try clear hb2);(try clear hk);(try clear hi)))
       replace HO_4:=am (Kd.R_drew HO_4.out);replace BK349:=am (blk_drew BK349.out);replace HB:=am (below_drew1 HB.out)
       refine st F19 [] h0 fun hHeld=>?_;refine with_tabW span_List.tab11 span_List.bits11 (fun HT_ HW_=>?_)
       generalize w52.drew=w53 at HO_4 BK349 HB hHeld ⊢;refine pw 0 34 HT_ ?_;refine pw 1 35 HT_ ?_;refine pw 2 36 HT_ ?_;refine px 3 37 HT_ ?_;refine px 4 38 HT_ ?_;refine px 5 39 HT_ ?_;refine px 6 40 HT_ ?_;refine px 7 41 HT_ ?_;refine px 8 42 HT_ ?_;refine px 9 43 HT_ ?_;refine px 10 44 HT_ ?_;refine px 11 45 HT_ ?_;refine px 12 46 HT_ ?_;refine px 13 47 HT_ ?_;refine px 14 48 HT_ ?_;refine px 15 49 HT_ ?_;refine px 16 50 HT_ ?_;refine pw 17 51 HT_ ?_;refine pw 18 33 HT_ ?_
       refine dt HT_ ?_
       obtain ⟨_,_,_,_,_,_,_,_⟩:=s4 BK349
       try go_wp2_with (first | ((with_reducible refine gate_builtin (b:=.append) (xs:=#[.tmp 25,.tmp 27]) rfl ?_);at_builtin;refine Kd.R_append k35 (w0:=w) w.heap.size rfl (.tmp 25) (.tmp 27) 29 35 (.agg #[(.int .i64 0),(.int .i64 0),(.int .i64 0),(.int .i64 0)]) 32 rfl Tryz.underlying29 info35 rfl (by decide) (by omega) (.slice Ao51 x4_1.length co51) x4_1 (⟨(⟨(rd_T35 l0 x18_1).f0.f0,(rd_T35 l0 x18_1).f0.f1⟩:S33),(⟨(rd_T35 l0 x18_1).f1.f0,(rd_T35 l0 x18_1).f1.f1⟩:S33)⟩:S35) [.int .i64 ((rd_T35 l0 x18_1).f0.f0),.int .i64 ((rd_T35 l0 x18_1).f0.f1),.int .i64 ((rd_T35 l0 x18_1).f1.f0),.int .i64 ((rd_T35 l0 x18_1).f1.f1)] (fun k_=>k_≠gb349) (fun _=>False) rfl rfl ?aP (fun _ hk=>hk.elim) ?aF ?aO ?aB ?aS ?aL ?_;(case aP=>exact k35_mkM _ _ _ (⟨(⟨(rd_T35 l0 x18_1).f0.f0,(rd_T35 l0 x18_1).f0.f1⟩:S33),(⟨(rd_T35 l0 x18_1).f1.f0,(rd_T35 l0 x18_1).f1.f1⟩:S33)⟩:S35));(case aB=>exact (bl HB));(case aF=>exact (fun k_ hk=>Kd.freshB (bk BK349) k_ hk));(case aO=>exact (by (with_reducible repeat (first | apply Kd.R_alloc | apply Kd.R_drewN | apply Kd.R_drew));exact Kd.R_mono HO_4.out (fun _ hk=>hk.2)));(case aS=>exact (below_size (bl HB)));(case aL=>have:=LMc48.out;omega);intro v371 w55 ho hb hg hat;rw [← Ny370.out] at ho;replace BK349:=am (blk_grown (bk BK349) hg (Kd.R_away HO_4.out (fun _ hk=>hk.2)));replace HB:=am hb;have HO372:=am ho;clear HO_4;clear ho hb hg hat))
       go_roundg k1
       case measure=>have:=HK1.out;omega
       case rel=>exact ⟨_,_,rs,H',kl HK1,⟨by (with_reducible repeat (first | apply Kd.R_alloc | apply Kd.R_drewN | apply Kd.R_drew));exact Kd.R_mono HO372.out (fun _ hk=>trivial)⟩,⟨bl HB⟩⟩
     ·replace H:=itf H;have H':=am H;clear H
      obtain ⟨ad348,e348,hx348_0,hx348_1,hx348_2,hx348_3,p348,q348⟩:=ax35 HR0 HB x18_1
      cases e348
      go_wp2_with (first | ((with_reducible refine gate_dst (N:=6) rfl ?_);refine bxf #[.int .i64 0,.int .i64 0,.int .i64 0,.int .i64 0] 35 HB fun gb349 w56 BK349 GW349 HB hg hb=>?_;replace HO_4:=am (Kd.R_below (Kd.R_elderB (kr HO_4) gb349 (Nat.le_of_eq hg.symm)) hb);have GE349:=GW349;clear hb hg;obtain ⟨_,_,_,_,_,_,_,_⟩:=s4 BK349;obtain ⟨Ao58,co58,rfl⟩:=Kd.R_slice HO_4.out) | ((with_reducible refine gate_callee (f:=88) rfl ?_);refine gob Tryz.func88 (span_Right.calls _ _ _ _ _ _ _ A5.out) fun w59 hb=>?_;replace HO_4:=am (Kd.R_below (by (with_reducible repeat (first | apply Kd.R_alloc | apply Kd.R_drewN | apply Kd.R_drew));exact (Kd.R_mono (Kd.R_far (p:=⟨gb349,3,none⟩) (Kd.R_far (p:=⟨gb349,2,none⟩) (Kd.R_far (p:=⟨gb349,1,none⟩) (Kd.R_far (p:=⟨gb349,0,none⟩) (Kd.R_mono HO_4.out (fun k_ hk=>(⟨hk,hk.2⟩:_∧k_≠gb349))) (fun _ hk=>hk.2) (.int .i64 ((rd_T35 l0 x18_1).f0.f0))) (fun _ hk=>hk.2) (.int .i64 ((rd_T35 l0 x18_1).f0.f1))) (fun _ hk=>hk.2) (.int .i64 ((rd_T35 l0 x18_1).f1.f0))) (fun _ hk=>hk.2) (.int .i64 ((rd_T35 l0 x18_1).f1.f1))) (fun _ h_=>h_.1))) hb);replace BK349:=am (blk_below (g:=gb349) (o:=.cells #[.int .i64 ((rd_T35 l0 x18_1).f0.f0),.int .i64 ((rd_T35 l0 x18_1).f0.f1),.int .i64 ((rd_T35 l0 x18_1).f1.f0),.int .i64 ((rd_T35 l0 x18_1).f1.f1)] 35 (0,0)) (bkp BK349) hb);replace HB:=bst HB hb;(try clear hb);(try clear hb2);(try clear hk);(try clear hi)))
      go_roundg k1
      case measure=>have:=HK1.out;omega
      case rel=>exact ⟨_,_,rs,H',kl HK1,⟨by (with_reducible repeat (first | apply Kd.R_alloc | apply Kd.R_drewN | apply Kd.R_drew));exact Kd.R_mono HO_4.out (fun _ hk=>trivial)⟩,⟨bl HB⟩⟩
    ·obtain rfl:=Option.some.inj H;go_wp2;go_ret
     have hR_:=Kd.R_lower HO_4.out HZ.out.size;have hB_:=HZ.out.trans (HB.out.mono HZ.out.size);exact ⟨_,by first | rfl | (simp [errW_none,errW_some] <;> rfl) | (simp [*,errW_none,errW_some] <;> rfl),by exact hR_,by exact hB_⟩
 ·rw [if_neg hlen] at h;exact absurd h (by simp)
end Go.Proofs.YtbcpnejdbookkaaGreat.Print
namespace Go.Proofs.YtbcpnejdbookkaaGreat.Print
open Go.RowKit Go.Proofs.YtbcpnejdbookkaaGreatW.PrintWords Go.Proofs.YtbcpnejdbookkaaGreatW.PrintLast Go.Proofs.YtbcpnejdbookkaaGreatW.PrintMore
attribute [local go_sem] max2_int min2_int max_two min_two max_three min_three max_four min_four   -- for this text's walks alone
attribute [local go_sem high] eqA33
def mapalg_Paint.l0:Nat→Int→List (S37)→List (S35)→Int→Int→Option ((List (S37)))
 | 0,_,_,_,_,_=>none
 | k+1,x1,x5,x9,x10,x11=>if x11 < x10 then (if 0≤x11 then (if x11 < (x9.length:Int) then (if x5.length < 3518437208883 then (mapalg_Paint.l0 k x1 (x5 ++ [(⟨(⟨(⟨(rd_T35 x9 x11).f0.f0,(rd_T35 x9 x11).f0.f1⟩:S33),(⟨(rd_T35 x9 x11).f1.f0,(rd_T35 x9 x11).f1.f1⟩:S33)⟩:S35),x1⟩:S37)]) x9 x10 (wrap64 (x11+1))) else (none)) else (none)) else (none)) else (some x5)
def mapalg_Paint.f (k:Nat) (l0:List (S35)) (a1:Int):Option ((List (S37))):=(span_List.f k l0).bind fun t255=>(mapalg_Paint.l0 k a1 ([]:List (S37)) t255 (t255.length:Int) 0)
theorem mapalg_Paint.mono_l:∀ k,(∀ y0 y1 y2 y3 y4,LeO (mapalg_Paint.l0 k y0 y1 y2 y3 y4) (mapalg_Paint.l0 (k+1) y0 y1 y2 y3 y4))
 | 0=>fun _ _ _ _ _ r h=>by simp [mapalg_Paint.l0] at h
 | k+1=>by
  have ih0:=mapalg_Paint.mono_l k
  ·intro y0 y1 y2 y3 y4
   unfold mapalg_Paint.l0
   repeat' with_reducible first | apply ih0 | apply span_List.mono | apply lr | apply ln | apply li | refine lb ?_ fun _=>?_
theorem mapalg_Paint.mono:∀ a0 a1 k,LeO (mapalg_Paint.f k a0 a1) (mapalg_Paint.f (k+1) a0 a1):=by
 intro a0 a1 k
 have ih0:=mapalg_Paint.mono_l k
 unfold mapalg_Paint.f
 repeat' with_reducible first | apply ih0 | apply span_List.mono | apply lr | apply ln | apply li | refine lb ?_ fun _=>?_
theorem mapalg_Paint.calls (k:Nat) (A0:Option Addr) (c0:Nat) (l0:List (S35)) (a1:Int) (r:List (S37)) (w:World) (hr0:Kd.C k35 w A0 l0.length l0) (hc0:l0.length≤c0) (h:mapalg_Paint.f k l0 a1=some r) :
 Calls Tryz.prog 30 #[.slice A0 l0.length c0,.int .i64 a1] w fun e w'=>∃ v0_:Value,e=.returned (v0_)∧Kd.R k37 37 w' w.heap.size (fun _=>True) v0_ r∧Below w.heap.size w w':=by
 have hu35:=Tryz.underlying35;have hu37:=Tryz.underlying37;have HR0:=am hr0;have HC0:=am hc0;clear hr0 hc0
 have HB:=am (Below.refl w.heap.size w)
 unfold mapalg_Paint.f at h;have H:=h;clear h;revert H;refine bnd fun t255 A3 H=>?_
 have H':=am H;clear H;go_enter Tryz.func30,Tryz.ntmps30
 go_wp2_with (first | ((with_reducible refine gate_callee (f:=69) rfl ?_);refine gol (some 9) Tryz.func69 #[.slice A0 l0.length c0] ?_;(with_reducible refine (span_List.calls _ _ _ _ _ _ ?side1 ?side2 A3.out).mono ?_);(case side1=>repeat (first | exact HR0.out | (with_reducible refine Kd.C_alloc ?_ _) | (with_reducible refine Kd.C_drewN ?_ _) | (with_reducible refine Kd.C_drew ?_)));(case side2=>exact HC0.out);rintro e w4 ⟨v256,rfl,ho0,hb⟩;refine ⟨_,rfl,?_⟩;have HO257:=kw ho0 HB;replace HB:=bst HB hb;clear hb ho0;obtain ⟨Ao5,co5,rfl⟩:=Kd.R_slice HO257.out))
 go_loopg [5,11] k (fun kq v5 v11 w'=>∃ (x5_1:List (S37)) (x11_1:Int),v11=.int .i64 x11_1∧Aside0 (mapalg_Paint.l0 kq a1 x5_1 t255 (t255.length:Int) x11_1=some r)∧Aside0 (kq≤k)∧Aside0 (Kd.R k37 37 w' w.heap.size (fun _=>True) v5 x5_1)∧Aside0 (Kd.R k35 35 w' w.heap.size (fun _=>True) (.slice Ao5 t255.length co5) t255)∧Aside0 (Below w.heap.size w w'))
 case atStart=>exact ⟨_,_,rs,H',⟨Nat.le_refl _⟩,kn,⟨kr HO257⟩,⟨bl HB⟩⟩
 case round =>
  clear H'
  try clear p2
  try clear c3
  obtain ⟨x5_1,x11_1,rfl,HA,HK1,HO_5,HO_9,HB⟩:=hrel
  cases gk with
  | zero=>exact absurd HA.out (by simp [mapalg_Paint.l0])
  | succ k1 =>
   have H:=HA.out;clear HA
   simp only [mapalg_Paint.l0] at H
   revert H;refine itc (fun c6b0 H=>?_) fun c6b0 H=>?_
   ·revert H;refine its fun c7b0 H=>?_
    revert H;refine its fun c8b0 H=>?_
    revert H;refine itl fun LMc9 H=>?_
    generalize hy260:x5_1 ++ [(⟨(⟨(⟨(rd_T35 t255 x11_1).f0.f0,(rd_T35 t255 x11_1).f0.f1⟩:S33),(⟨(rd_T35 t255 x11_1).f1.f0,(rd_T35 t255 x11_1).f1.f1⟩:S33)⟩:S35),a1⟩:S37)]=y260 at H;have Ny260:=am hy260.symm;clear hy260;have H':=am H;clear H
    obtain ⟨ad258,e258,hx258_0,hx258_1,hx258_2,hx258_3,p258,q258⟩:=ay35 (Kd.R_reads' HO_9.out).2.2 x11_1
    cases e258
    go_wp2_with (first | ((with_reducible refine gate_dst (N:=7) rfl ?_);refine bxf #[.int .i64 0,.int .i64 0,.int .i64 0,.int .i64 0] 35 HB fun gb259 w10 BK259 GW259 HB hg hb=>?_;replace HO_5:=krb HO_5 hb;replace HO_9:=am (Kd.R_below (Kd.R_elderB (kr HO_9) gb259 (Nat.le_of_eq hg.symm)) hb);clear hb hg;obtain ⟨_,_,_,_,_,_,_,_⟩:=s4 BK259) | ((with_reducible refine gate_builtin (b:=.append) (xs:=#[.tmp 15,.tmp 19]) rfl ?_);at_builtin;refine Kd.R_append k37 (w0:=w) w.heap.size rfl (.tmp 15) (.tmp 19) 22 37 (.agg #[(.int .i64 0),(.int .i64 0),(.int .i64 0),(.int .i64 0),(.int .i64 0)]) 40 rfl Tryz.underlying22 info37 rfl (by decide) (by omega) u5 x5_1 (⟨(⟨(⟨(rd_T35 t255 x11_1).f0.f0,(rd_T35 t255 x11_1).f0.f1⟩:S33),(⟨(rd_T35 t255 x11_1).f1.f0,(rd_T35 t255 x11_1).f1.f1⟩:S33)⟩:S35),a1⟩:S37) [.int .i64 ((rd_T35 t255 x11_1).f0.f0),.int .i64 ((rd_T35 t255 x11_1).f0.f1),.int .i64 ((rd_T35 t255 x11_1).f1.f0),.int .i64 ((rd_T35 t255 x11_1).f1.f1),.int .i64 a1] (fun _=>True) (fun _=>False) rfl (by first | (go_simp;done) | (go_simp;rfl)) ?aP (fun _ hk=>hk.elim) ?aF ?aO ?aB ?aS ?aL ?_;(case aP=>exact k37_mkM _ _ _ (⟨(⟨(⟨(rd_T35 t255 x11_1).f0.f0,(rd_T35 t255 x11_1).f0.f1⟩:S33),(⟨(rd_T35 t255 x11_1).f1.f0,(rd_T35 t255 x11_1).f1.f1⟩:S33)⟩:S35),a1⟩:S37));(case aB=>exact (bl HB));(case aF=>exact (fun _ _=>trivial));(case aO=>exact (by (with_reducible repeat (first | apply Kd.R_alloc | apply Kd.R_drewN | apply Kd.R_drew));exact Kd.R_mono (Kd.R_far (p:=⟨gb259,3,none⟩) (Kd.R_far (p:=⟨gb259,2,none⟩) (Kd.R_far (p:=⟨gb259,1,none⟩) (Kd.R_far (p:=⟨gb259,0,none⟩) (Kd.R_types HO_5.out BK259.out (by decide)) (fun _ hk=>hk.2) (.int .i64 ((rd_T35 t255 x11_1).f0.f0))) (fun _ hk=>hk.2) (.int .i64 ((rd_T35 t255 x11_1).f0.f1))) (fun _ hk=>hk.2) (.int .i64 ((rd_T35 t255 x11_1).f1.f0))) (fun _ hk=>hk.2) (.int .i64 ((rd_T35 t255 x11_1).f1.f1))) (fun _ hk=>trivial)));(case aS=>exact (below_size (bl HB)));(case aL=>have:=LMc9.out;omega);intro v261 w12 ho hb hg hat;rw [← Ny260.out] at ho;replace HO_9:=am (Kd.R_over' (by (with_reducible repeat (first | apply Kd.R_alloc | apply Kd.R_drewN | apply Kd.R_drew));exact (Kd.R_mono (Kd.R_far (p:=⟨gb259,3,none⟩) (Kd.R_far (p:=⟨gb259,2,none⟩) (Kd.R_far (p:=⟨gb259,1,none⟩) (Kd.R_far (p:=⟨gb259,0,none⟩) (Kd.R_mono HO_9.out (fun k_ hk=>(⟨hk,hk.2⟩:_∧k_≠gb259))) (fun _ hk=>hk.2) (.int .i64 ((rd_T35 t255 x11_1).f0.f0))) (fun _ hk=>hk.2) (.int .i64 ((rd_T35 t255 x11_1).f0.f1))) (fun _ hk=>hk.2) (.int .i64 ((rd_T35 t255 x11_1).f1.f0))) (fun _ hk=>hk.2) (.int .i64 ((rd_T35 t255 x11_1).f1.f1))) (fun _ h_=>h_.1))) (Kd.R_typed (by (with_reducible repeat (first | apply Kd.R_alloc | apply Kd.R_drewN | apply Kd.R_drew));exact (Kd.R_mono (Kd.R_far (p:=⟨gb259,3,none⟩) (Kd.R_far (p:=⟨gb259,2,none⟩) (Kd.R_far (p:=⟨gb259,1,none⟩) (Kd.R_far (p:=⟨gb259,0,none⟩) (Kd.R_types HO_5.out BK259.out (by decide)) (fun _ hk=>hk.2) (.int .i64 ((rd_T35 t255 x11_1).f0.f0))) (fun _ hk=>hk.2) (.int .i64 ((rd_T35 t255 x11_1).f0.f1))) (fun _ hk=>hk.2) (.int .i64 ((rd_T35 t255 x11_1).f1.f0))) (fun _ hk=>hk.2) (.int .i64 ((rd_T35 t255 x11_1).f1.f1))) (fun _ h_=>h_.1)))) (by decide) hg);replace BK259:=am (blk_grown (g:=gb259) (o:=.cells #[.int .i64 ((rd_T35 t255 x11_1).f0.f0),.int .i64 ((rd_T35 t255 x11_1).f0.f1),.int .i64 ((rd_T35 t255 x11_1).f1.f0),.int .i64 ((rd_T35 t255 x11_1).f1.f1)] 35 (0,0)) (bkp BK259) hg (Kd.R_ne HO_5.out BK259.out (by decide)));replace HB:=am hb;have HO262:=am ho;clear HO_5;clear ho hb hg hat))
    go_roundg k1
    case measure=>have:=HK1.out;omega
    case rel=>exact ⟨_,_,rs,H',kl HK1,⟨kr HO262⟩,⟨by (with_reducible repeat (first | apply Kd.R_alloc | apply Kd.R_drewN | apply Kd.R_drew));exact Kd.R_mono HO_9.out (fun _ hk=>trivial)⟩,⟨bl HB⟩⟩
   ·obtain rfl:=Option.some.inj H;go_wp2;go_ret;exact endK HO_5 HB
def cut_Next.f (k:Nat) (a0_0:Int) (a0_1:Int):Option (Int×Bool):=(cut_Canon.f k a0_0 a0_1).bind fun bt264=>((cut_Last.f).bind fun bt266=>(if (bt264.1 == bt266.1 && (bt264.2 == bt266.2))=true then (some (0,false)) else ((cut_First.f).bind fun bt268=>(if (bt264.1 == bt268.1 && (bt264.2 == bt268.2))=true then (some ((-9223372036854775808),true)) else (some (bt264.2,true))))))
theorem cut_Next.mono:∀ a0 a1 k,LeO (cut_Next.f k a0 a1) (cut_Next.f (k+1) a0 a1):=by
 intro a0 a1 k
 unfold cut_Next.f
 repeat' with_reducible first | apply cut_Canon.mono | apply lr | apply ln | apply li | refine lb ?_ fun _=>?_
theorem cut_Next.calls (k:Nat) (a0_0:Int) (a0_1:Int) (r1:Int) (r2:Bool) (w:World) (h:cut_Next.f k a0_0 a0_1=some (r1,r2)) :
 Calls Tryz.prog 119 #[.agg #[.int .i64 a0_0,.int .i64 a0_1]] w fun e w'=>e=.returned (.tuple #[.int .i64 r1,.bool r2])∧Below w.heap.size w w':=by
 have hu33:=Tryz.underlying33
 have HB:=am (Below.refl w.heap.size w)
 unfold cut_Next.f at h;have H:=h;clear h;revert H;refine bnd2 fun t264 t265 A2 H=>?_;dsimp only at H
 revert H;refine bnd2 fun t266 t267 A3 H=>?_;dsimp only at H
 by_cases c4:(t264 == t266 && (t265 == t267))=true
 ·rw [if_pos c4] at H
  have c4b0:(t264 == t266 && (t265 == t267))=true:=c4
  (try (have c4b1:decide (t264=t266 && (t265 == t267))=true:=by simpa using c4))
  (try (have c4b2:(t264 == t266 && (t265 == t267))=true:=by simpa using c4))
  clear c4
  simp only [Option.some.injEq,Prod.mk.injEq] at H
  obtain ⟨rfl,rfl⟩:=H
  go_enter Tryz.func119,Tryz.ntmps119
  go_wp2_with (first | ((with_reducible refine gate_dst (N:=1) rfl ?_);refine bxf #[.int .i64 a0_0,.int .i64 a0_1] 33 HB fun gb263 w5 BK263 GW263 HB hg hb=>?_;have GE263:=GW263;clear hb hg;obtain ⟨_,_,_,_⟩:=s2 BK263) | ((with_reducible refine gate_callee (f:=130) rfl ?_);refine gob Tryz.func130 (cut_Canon.calls _ _ _ _ _ _ A2.out) fun w7 hb=>?_;replace BK263:=bkb BK263 hb;replace HB:=bst HB hb;(try clear hb);(try clear hb2);(try clear hk);(try clear hi);obtain ⟨_,_,_,_⟩:=s2 BK263) | ((with_reducible refine gate_callee (f:=134) rfl ?_);refine gob Tryz.func134 (cut_Last.calls _ _ _ A3.out) fun w9 hb=>?_;replace BK263:=am (blk_below (g:=gb263) (o:=.cells #[.int .i64 t264,.int .i64 t265] 33 (0,0)) (bkp BK263) hb);replace HB:=bst HB hb;(try clear hb);(try clear hb2);(try clear hk);(try clear hi)))
  go_ret2
  exact endB HB
 ·rw [if_neg c4] at H
  have c4b0:(t264 == t266 && (t265 == t267))=false:=by simpa using c4
  (try (have c4b1:decide (t264=t266 && (t265 == t267))=false:=by simpa using c4))
  (try (have c4b2:(t264 == t266 && (t265 == t267))=false:=by simpa using c4))
  (try (have c4b3:¬ (t264=t266 && (t265 == t267)):=by simpa using c4))
  clear c4;revert H;refine bnd2 fun t268 t269 A10 H=>?_;dsimp only at H
  by_cases c11:(t264 == t268 && (t265 == t269))=true
  ·rw [if_pos c11] at H
   have c11b0:(t264 == t268 && (t265 == t269))=true:=c11
   (try (have c11b1:decide (t264=t268 && (t265 == t269))=true:=by simpa using c11))
   (try (have c11b2:(t264 == t268 && (t265 == t269))=true:=by simpa using c11))
   clear c11
   simp only [Option.some.injEq,Prod.mk.injEq] at H
   obtain ⟨rfl,rfl⟩:=H
   go_enter Tryz.func119,Tryz.ntmps119
   go_wp2_with (first | ((with_reducible refine gate_dst (N:=1) rfl ?_);refine bxf #[.int .i64 a0_0,.int .i64 a0_1] 33 HB fun gb263 w12 BK263 GW263 HB hg hb=>?_;have GE263:=GW263;clear hb hg;obtain ⟨_,_,_,_⟩:=s2 BK263) | ((with_reducible refine gate_callee (f:=130) rfl ?_);refine gob Tryz.func130 (cut_Canon.calls _ _ _ _ _ _ A2.out) fun w14 hb=>?_;replace BK263:=bkb BK263 hb;replace HB:=bst HB hb;(try clear hb);(try clear hb2);(try clear hk);(try clear hi);obtain ⟨_,_,_,_⟩:=s2 BK263) | ((with_reducible refine gate_callee (f:=134) rfl ?_);refine gob Tryz.func134 (cut_Last.calls _ _ _ A3.out) fun w16 hb=>?_;replace BK263:=am (blk_below (g:=gb263) (o:=.cells #[.int .i64 t264,.int .i64 t265] 33 (0,0)) (bkp BK263) hb);replace HB:=bst HB hb;(try clear hb);(try clear hb2);(try clear hk);(try clear hi)) | ((with_reducible refine gate_callee (f:=135) rfl ?_);refine gob Tryz.func135 (cut_First.calls _ _ _ A10.out) fun w17 hb=>?_;replace BK263:=bkb BK263 hb;replace HB:=bst HB hb;(try clear hb);(try clear hb2);(try clear hk);(try clear hi)))
   go_ret2
   exact endB HB
  ·rw [if_neg c11] at H
   have c11b0:(t264 == t268 && (t265 == t269))=false:=by simpa using c11
   (try (have c11b1:decide (t264=t268 && (t265 == t269))=false:=by simpa using c11))
   (try (have c11b2:(t264 == t268 && (t265 == t269))=false:=by simpa using c11))
   (try (have c11b3:¬ (t264=t268 && (t265 == t269)):=by simpa using c11))
   clear c11
   simp only [Option.some.injEq,Prod.mk.injEq] at H
   obtain ⟨rfl,rfl⟩:=H
   go_enter Tryz.func119,Tryz.ntmps119
   go_wp2_with (first | ((with_reducible refine gate_dst (N:=1) rfl ?_);refine bxf #[.int .i64 a0_0,.int .i64 a0_1] 33 HB fun gb263 w18 BK263 GW263 HB hg hb=>?_;have GE263:=GW263;clear hb hg;obtain ⟨_,_,_,_⟩:=s2 BK263) | ((with_reducible refine gate_callee (f:=130) rfl ?_);refine gob Tryz.func130 (cut_Canon.calls _ _ _ _ _ _ A2.out) fun w20 hb=>?_;replace BK263:=bkb BK263 hb;replace HB:=bst HB hb;(try clear hb);(try clear hb2);(try clear hk);(try clear hi);obtain ⟨_,_,_,_⟩:=s2 BK263) | ((with_reducible refine gate_callee (f:=134) rfl ?_);refine gob Tryz.func134 (cut_Last.calls _ _ _ A3.out) fun w22 hb=>?_;replace BK263:=am (blk_below (g:=gb263) (o:=.cells #[.int .i64 t264,.int .i64 t265] 33 (0,0)) (bkp BK263) hb);replace HB:=bst HB hb;(try clear hb);(try clear hb2);(try clear hk);(try clear hi)) | ((with_reducible refine gate_callee (f:=135) rfl ?_);refine gob Tryz.func135 (cut_First.calls _ _ _ A10.out) fun w23 hb=>?_;replace BK263:=bkb BK263 hb;replace HB:=bst HB hb;(try clear hb);(try clear hb2);(try clear hk);(try clear hi);obtain ⟨_,_,_,_⟩:=s2 BK263))
   go_ret2
   exact endB HB
def cut_Prev.f (k:Nat) (a0_0:Int) (a0_1:Int):Option (Int×Bool):=(cut_Canon.f k a0_0 a0_1).bind fun bt271=>((cut_First.f).bind fun bt273=>(if (bt271.1 == bt273.1 && (bt271.2 == bt273.2))=true then (some (0,false)) else ((cut_Last.f).bind fun bt275=>(if (bt271.1 == bt275.1 && (bt271.2 == bt275.2))=true then (some (9223372036854775807,true)) else (some (wrap64 (bt271.2 - 1),true))))))
theorem cut_Prev.mono:∀ a0 a1 k,LeO (cut_Prev.f k a0 a1) (cut_Prev.f (k+1) a0 a1):=by
 intro a0 a1 k
 unfold cut_Prev.f
 repeat' with_reducible first | apply cut_Canon.mono | apply lr | apply ln | apply li | refine lb ?_ fun _=>?_
theorem cut_Prev.calls (k:Nat) (a0_0:Int) (a0_1:Int) (r1:Int) (r2:Bool) (w:World) (h:cut_Prev.f k a0_0 a0_1=some (r1,r2)) :
 Calls Tryz.prog 120 #[.agg #[.int .i64 a0_0,.int .i64 a0_1]] w fun e w'=>e=.returned (.tuple #[.int .i64 r1,.bool r2])∧Below w.heap.size w w':=by
 have hu33:=Tryz.underlying33
 have HB:=am (Below.refl w.heap.size w)
 unfold cut_Prev.f at h;have H:=h;clear h;revert H;refine bnd2 fun t271 t272 A2 H=>?_;dsimp only at H
 revert H;refine bnd2 fun t273 t274 A3 H=>?_;dsimp only at H
 by_cases c4:(t271 == t273 && (t272 == t274))=true
 ·rw [if_pos c4] at H
  have c4b0:(t271 == t273 && (t272 == t274))=true:=c4
  (try (have c4b1:decide (t271=t273 && (t272 == t274))=true:=by simpa using c4))
  (try (have c4b2:(t271 == t273 && (t272 == t274))=true:=by simpa using c4))
  clear c4
  simp only [Option.some.injEq,Prod.mk.injEq] at H
  obtain ⟨rfl,rfl⟩:=H
  go_enter Tryz.func120,Tryz.ntmps120
  go_wp2_with (first | ((with_reducible refine gate_dst (N:=1) rfl ?_);refine bxf #[.int .i64 a0_0,.int .i64 a0_1] 33 HB fun gb270 w5 BK270 GW270 HB hg hb=>?_;have GE270:=GW270;clear hb hg;obtain ⟨_,_,_,_⟩:=s2 BK270) | ((with_reducible refine gate_callee (f:=130) rfl ?_);refine gob Tryz.func130 (cut_Canon.calls _ _ _ _ _ _ A2.out) fun w7 hb=>?_;replace BK270:=bkb BK270 hb;replace HB:=bst HB hb;(try clear hb);(try clear hb2);(try clear hk);(try clear hi);obtain ⟨_,_,_,_⟩:=s2 BK270) | ((with_reducible refine gate_callee (f:=135) rfl ?_);refine gob Tryz.func135 (cut_First.calls _ _ _ A3.out) fun w9 hb=>?_;replace BK270:=am (blk_below (g:=gb270) (o:=.cells #[.int .i64 t271,.int .i64 t272] 33 (0,0)) (bkp BK270) hb);replace HB:=bst HB hb;(try clear hb);(try clear hb2);(try clear hk);(try clear hi)))
  go_ret2
  exact endB HB
 ·rw [if_neg c4] at H
  have c4b0:(t271 == t273 && (t272 == t274))=false:=by simpa using c4
  (try (have c4b1:decide (t271=t273 && (t272 == t274))=false:=by simpa using c4))
  (try (have c4b2:(t271 == t273 && (t272 == t274))=false:=by simpa using c4))
  (try (have c4b3:¬ (t271=t273 && (t272 == t274)):=by simpa using c4))
  clear c4;revert H;refine bnd2 fun t275 t276 A10 H=>?_;dsimp only at H
  by_cases c11:(t271 == t275 && (t272 == t276))=true
  ·rw [if_pos c11] at H
   have c11b0:(t271 == t275 && (t272 == t276))=true:=c11
   (try (have c11b1:decide (t271=t275 && (t272 == t276))=true:=by simpa using c11))
   (try (have c11b2:(t271 == t275 && (t272 == t276))=true:=by simpa using c11))
   clear c11
   simp only [Option.some.injEq,Prod.mk.injEq] at H
   obtain ⟨rfl,rfl⟩:=H
   go_enter Tryz.func120,Tryz.ntmps120
   go_wp2_with (first | ((with_reducible refine gate_dst (N:=1) rfl ?_);refine bxf #[.int .i64 a0_0,.int .i64 a0_1] 33 HB fun gb270 w12 BK270 GW270 HB hg hb=>?_;have GE270:=GW270;clear hb hg;obtain ⟨_,_,_,_⟩:=s2 BK270) | ((with_reducible refine gate_callee (f:=130) rfl ?_);refine gob Tryz.func130 (cut_Canon.calls _ _ _ _ _ _ A2.out) fun w14 hb=>?_;replace BK270:=bkb BK270 hb;replace HB:=bst HB hb;(try clear hb);(try clear hb2);(try clear hk);(try clear hi);obtain ⟨_,_,_,_⟩:=s2 BK270) | ((with_reducible refine gate_callee (f:=135) rfl ?_);refine gob Tryz.func135 (cut_First.calls _ _ _ A3.out) fun w16 hb=>?_;replace BK270:=am (blk_below (g:=gb270) (o:=.cells #[.int .i64 t271,.int .i64 t272] 33 (0,0)) (bkp BK270) hb);replace HB:=bst HB hb;(try clear hb);(try clear hb2);(try clear hk);(try clear hi)) | ((with_reducible refine gate_callee (f:=134) rfl ?_);refine gob Tryz.func134 (cut_Last.calls _ _ _ A10.out) fun w17 hb=>?_;replace BK270:=bkb BK270 hb;replace HB:=bst HB hb;(try clear hb);(try clear hb2);(try clear hk);(try clear hi)))
   go_ret2
   exact endB HB
  ·rw [if_neg c11] at H
   have c11b0:(t271 == t275 && (t272 == t276))=false:=by simpa using c11
   (try (have c11b1:decide (t271=t275 && (t272 == t276))=false:=by simpa using c11))
   (try (have c11b2:(t271 == t275 && (t272 == t276))=false:=by simpa using c11))
   (try (have c11b3:¬ (t271=t275 && (t272 == t276)):=by simpa using c11))
   clear c11
   simp only [Option.some.injEq,Prod.mk.injEq] at H
   obtain ⟨rfl,rfl⟩:=H
   go_enter Tryz.func120,Tryz.ntmps120
   go_wp2_with (first | ((with_reducible refine gate_dst (N:=1) rfl ?_);refine bxf #[.int .i64 a0_0,.int .i64 a0_1] 33 HB fun gb270 w18 BK270 GW270 HB hg hb=>?_;have GE270:=GW270;clear hb hg;obtain ⟨_,_,_,_⟩:=s2 BK270) | ((with_reducible refine gate_callee (f:=130) rfl ?_);refine gob Tryz.func130 (cut_Canon.calls _ _ _ _ _ _ A2.out) fun w20 hb=>?_;replace BK270:=bkb BK270 hb;replace HB:=bst HB hb;(try clear hb);(try clear hb2);(try clear hk);(try clear hi);obtain ⟨_,_,_,_⟩:=s2 BK270) | ((with_reducible refine gate_callee (f:=135) rfl ?_);refine gob Tryz.func135 (cut_First.calls _ _ _ A3.out) fun w22 hb=>?_;replace BK270:=am (blk_below (g:=gb270) (o:=.cells #[.int .i64 t271,.int .i64 t272] 33 (0,0)) (bkp BK270) hb);replace HB:=bst HB hb;(try clear hb);(try clear hb2);(try clear hk);(try clear hi)) | ((with_reducible refine gate_callee (f:=134) rfl ?_);refine gob Tryz.func134 (cut_Last.calls _ _ _ A10.out) fun w23 hb=>?_;replace BK270:=bkb BK270 hb;replace HB:=bst HB hb;(try clear hb);(try clear hb2);(try clear hk);(try clear hi);obtain ⟨_,_,_,_⟩:=s2 BK270))
   go_ret2
   exact endB HB
def span_Ends.f (k:Nat) (a0_0:Int) (a0_1:Int) (a0_2:Int) (a0_3:Int):Option (Int×Int):=(span_Right.f k a0_0 a0_1 a0_2 a0_3).bind fun t278=>(if t278=true then ((cut_Next.f k a0_0 a0_1).bind fun bt279=>((cut_Prev.f k a0_2 a0_3).bind fun bt281=>(some (bt279.1,bt281.1)))) else (some (0,0)))
theorem span_Ends.mono:∀ a0 a1 a2 a3 k,LeO (span_Ends.f k a0 a1 a2 a3) (span_Ends.f (k+1) a0 a1 a2 a3):=by
 intro a0 a1 a2 a3 k
 unfold span_Ends.f
 repeat' with_reducible first | apply cut_Next.mono | apply cut_Prev.mono | apply span_Right.mono | apply lr | apply ln | apply li | refine lb ?_ fun _=>?_
theorem span_Ends.calls (k:Nat) (a0_0:Int) (a0_1:Int) (a0_2:Int) (a0_3:Int) (r1:Int) (r2:Int) (w:World) (h:span_Ends.f k a0_0 a0_1 a0_2 a0_3=some (r1,r2)) :
 Calls Tryz.prog 89 #[.agg #[.int .i64 a0_0,.int .i64 a0_1,.int .i64 a0_2,.int .i64 a0_3]] w fun e w'=>e=.returned (.tuple #[.int .i64 r1,.int .i64 r2])∧Below w.heap.size w w':=by
 have hu35:=Tryz.underlying35;have hu33:=Tryz.underlying33
 have HB:=am (Below.refl w.heap.size w)
 unfold span_Ends.f at h;have H:=h;clear h;revert H;refine bnd fun t278 A2 H=>?_
 cases t278;rotate_left
 ·replace H:=itt H;revert H;refine bnd2 fun t279 t280 A4 H=>?_;dsimp only at H
  revert H;refine bnd2 fun t281 t282 A5 H=>?_;dsimp only at H
  simp only [Option.some.injEq,Prod.mk.injEq] at H
  obtain ⟨rfl,rfl⟩:=H
  go_enter Tryz.func89,Tryz.ntmps89
  go_wp2_with (first | ((with_reducible refine gate_dst (N:=1) rfl ?_);refine bxf #[.int .i64 a0_0,.int .i64 a0_1,.int .i64 a0_2,.int .i64 a0_3] 35 HB fun gb277 w6 BK277 GW277 HB hg hb=>?_;have GE277:=GW277;clear hb hg;obtain ⟨_,_,_,_,_,_,_,_⟩:=s4 BK277) | ((with_reducible refine gate_callee (f:=88) rfl ?_);refine gob Tryz.func88 (span_Right.calls _ _ _ _ _ _ _ A2.out) fun w8 hb=>?_;replace BK277:=bkb BK277 hb;replace HB:=bst HB hb;(try clear hb);(try clear hb2);(try clear hk);(try clear hi);obtain ⟨_,_,_,_,_,_,_,_⟩:=s4 BK277) | ((with_reducible refine gate_callee (f:=119) rfl ?_);refine gob Tryz.func119 (cut_Next.calls _ _ _ _ _ _ A4.out) fun w10 hb=>?_;replace BK277:=bkb BK277 hb;replace HB:=bst HB hb;(try clear hb);(try clear hb2);(try clear hk);(try clear hi);obtain ⟨_,_,_,_,_,_,_,_⟩:=s4 BK277) | ((with_reducible refine gate_callee (f:=120) rfl ?_);refine gob Tryz.func120 (cut_Prev.calls _ _ _ _ _ _ A5.out) fun w12 hb=>?_;replace BK277:=bkb BK277 hb;replace HB:=bst HB hb;(try clear hb);(try clear hb2);(try clear hk);(try clear hi)))
  go_ret2
  exact endB HB
 ·replace H:=itf H
  simp only [Option.some.injEq,Prod.mk.injEq] at H
  obtain ⟨rfl,rfl⟩:=H
  go_enter Tryz.func89,Tryz.ntmps89
  go_wp2_with (first | ((with_reducible refine gate_dst (N:=1) rfl ?_);refine bxf #[.int .i64 a0_0,.int .i64 a0_1,.int .i64 a0_2,.int .i64 a0_3] 35 HB fun gb277 w13 BK277 GW277 HB hg hb=>?_;have GE277:=GW277;clear hb hg;obtain ⟨_,_,_,_,_,_,_,_⟩:=s4 BK277) | ((with_reducible refine gate_callee (f:=88) rfl ?_);refine gob Tryz.func88 (span_Right.calls _ _ _ _ _ _ _ A2.out) fun w15 hb=>?_;replace BK277:=bkb BK277 hb;replace HB:=bst HB hb;(try clear hb);(try clear hb2);(try clear hk);(try clear hi)))
  go_ret2
  exact endB HB
def span_Count.f (k:Nat) (a0_0:Int) (a0_1:Int) (a0_2:Int) (a0_3:Int):Option (Int×Bool):=(span_Right.f k a0_0 a0_1 a0_2 a0_3).bind fun t284=>(if t284=true then ((span_Ends.f k a0_0 a0_1 a0_2 a0_3).bind fun bt285=>(some (IntKind.u64.wrap ((IntKind.u64.wrap ((IntKind.u64.wrap (bt285.2)) - (IntKind.u64.wrap (bt285.1))))+1),decide ((IntKind.u64.wrap ((IntKind.u64.wrap ((IntKind.u64.wrap (bt285.2)) - (IntKind.u64.wrap (bt285.1))))+1)) > 0)))) else (some (0,false)))
theorem span_Count.mono:∀ a0 a1 a2 a3 k,LeO (span_Count.f k a0 a1 a2 a3) (span_Count.f (k+1) a0 a1 a2 a3):=by
 intro a0 a1 a2 a3 k
 unfold span_Count.f
 repeat' with_reducible first | apply span_Ends.mono | apply span_Right.mono | apply lr | apply ln | apply li | refine lb ?_ fun _=>?_
theorem span_Count.calls (k:Nat) (a0_0:Int) (a0_1:Int) (a0_2:Int) (a0_3:Int) (r1:Int) (r2:Bool) (w:World) (h:span_Count.f k a0_0 a0_1 a0_2 a0_3=some (r1,r2)) :
 Calls Tryz.prog 57 #[.agg #[.int .i64 a0_0,.int .i64 a0_1,.int .i64 a0_2,.int .i64 a0_3]] w fun e w'=>e=.returned (.tuple #[.int .u64 r1,.bool r2])∧Below w.heap.size w w':=by
 have hu35:=Tryz.underlying35
 have HB:=am (Below.refl w.heap.size w)
 unfold span_Count.f at h;have H:=h;clear h;revert H;refine bnd fun t284 A2 H=>?_
 cases t284;rotate_left
 ·replace H:=itt H;revert H;refine bnd2 fun t285 t286 A4 H=>?_;dsimp only at H
  simp only [Option.some.injEq,Prod.mk.injEq] at H
  obtain ⟨rfl,rfl⟩:=H
  go_enter Tryz.func57,Tryz.ntmps57
  go_wp2_with (first | ((with_reducible refine gate_dst (N:=1) rfl ?_);refine bxf #[.int .i64 a0_0,.int .i64 a0_1,.int .i64 a0_2,.int .i64 a0_3] 35 HB fun gb283 w5 BK283 GW283 HB hg hb=>?_;have GE283:=GW283;clear hb hg;obtain ⟨_,_,_,_,_,_,_,_⟩:=s4 BK283) | ((with_reducible refine gate_callee (f:=88) rfl ?_);refine gob Tryz.func88 (span_Right.calls _ _ _ _ _ _ _ A2.out) fun w7 hb=>?_;replace BK283:=bkb BK283 hb;replace HB:=bst HB hb;(try clear hb);(try clear hb2);(try clear hk);(try clear hi);obtain ⟨_,_,_,_,_,_,_,_⟩:=s4 BK283) | ((with_reducible refine gate_callee (f:=89) rfl ?_);refine gob Tryz.func89 (span_Ends.calls _ _ _ _ _ _ _ _ A4.out) fun w9 hb=>?_;replace BK283:=bkb BK283 hb;replace HB:=bst HB hb;(try clear hb);(try clear hb2);(try clear hk);(try clear hi)))
  go_ret2
  exact endB HB
 ·replace H:=itf H
  simp only [Option.some.injEq,Prod.mk.injEq] at H
  obtain ⟨rfl,rfl⟩:=H
  go_enter Tryz.func57,Tryz.ntmps57
  go_wp2_with (first | ((with_reducible refine gate_dst (N:=1) rfl ?_);refine bxf #[.int .i64 a0_0,.int .i64 a0_1,.int .i64 a0_2,.int .i64 a0_3] 35 HB fun gb283 w10 BK283 GW283 HB hg hb=>?_;have GE283:=GW283;clear hb hg;obtain ⟨_,_,_,_,_,_,_,_⟩:=s4 BK283) | ((with_reducible refine gate_callee (f:=88) rfl ?_);refine gob Tryz.func88 (span_Right.calls _ _ _ _ _ _ _ A2.out) fun w12 hb=>?_;replace BK283:=bkb BK283 hb;replace HB:=bst HB hb;(try clear hb);(try clear hb2);(try clear hk);(try clear hi)))
  go_ret2
  exact endB HB
end Go.Proofs.YtbcpnejdbookkaaGreat.Print
namespace Go.Proofs.YtbcpnejdbookkaaGreat.Print
open Go.RowKit Go.Proofs.YtbcpnejdbookkaaGreatW.PrintWords Go.Proofs.YtbcpnejdbookkaaGreatW.PrintLast Go.Proofs.YtbcpnejdbookkaaGreatW.PrintMore
attribute [local go_sem] max2_int min2_int max_two min_two max_three min_three max_four min_four   -- for this text's walks alone
def span_Sorted.l0:Nat→List (S35)→List (S35)→Int→Int→Option (Bool)
 | 0,_,_,_,_=>none
 | k+1,x0,x5,x6,x7=>if x7 < x6 then (if 0≤x7 then (if x7 < (x5.length:Int) then ((span_Right.f k ((rd_T35 x5 x7).f0.f0) ((rd_T35 x5 x7).f0.f1) ((rd_T35 x5 x7).f1.f0) ((rd_T35 x5 x7).f1.f1)).bind fun t136=>(if t136=true then (if x7 > 0 then (if 0≤(wrap64 (x7 - 1)) then (if (wrap64 (x7 - 1)) < (x0.length:Int) then ((cut_Compare.f k ((rd_T35 x0 (wrap64 (x7 - 1))).f1.f0) ((rd_T35 x0 (wrap64 (x7 - 1))).f1.f1) ((rd_T35 x5 x7).f0.f0) ((rd_T35 x5 x7).f0.f1)).bind fun t138=>(if t138 > 0 then (some false) else (span_Sorted.l0 k x0 x5 x6 (wrap64 (x7+1))))) else (none)) else (none)) else (span_Sorted.l0 k x0 x5 x6 (wrap64 (x7+1)))) else (some false))) else (none)) else (none)) else (some true)
def span_Sorted.f (k:Nat) (l0:List (S35)):Option (Bool):=span_Sorted.l0 k l0 l0 (l0.length:Int) 0
theorem span_Sorted.mono_l:∀ k,(∀ y0 y1 y2 y3,LeO (span_Sorted.l0 k y0 y1 y2 y3) (span_Sorted.l0 (k+1) y0 y1 y2 y3))
 | 0=>fun _ _ _ _ r h=>by simp [span_Sorted.l0] at h
 | k+1=>by
  have ih0:=span_Sorted.mono_l k
  ·intro y0 y1 y2 y3
   unfold span_Sorted.l0
   repeat' with_reducible first | apply ih0 | apply cut_Compare.mono | apply span_Right.mono | apply lr | apply ln | apply li | refine lb ?_ fun _=>?_
theorem span_Sorted.mono:∀ a0 k,LeO (span_Sorted.f k a0) (span_Sorted.f (k+1) a0):=by
 intro a0 k
 have ih0:=span_Sorted.mono_l k
 unfold span_Sorted.f
 repeat' with_reducible first | apply ih0 | apply cut_Compare.mono | apply span_Right.mono | apply lr | apply ln | apply li | refine lb ?_ fun _=>?_
def span_Sorted.T4:Bool×List (List Nat×List Nat):=(true,[([],[]),([0],[0]),([1],[1]),([2,1],[2]),([3],[3]),([4,3],[3,4]),([5,3,3],[3,5]),([6],[6]),([6],[6]),([8,6],[6,8]),([7,9,6],[6,7,9]),([10,6],[6,10]),([11,6],[6,11]),([6],[6]),([13,6],[6,13]),([12,14,6,6],[6,12,14]),([15,6],[6,15]),([6,16,3],[3,6,16]),([3,17],[3,17])])
def span_Sorted.B4:List Nat:=[0,1,3,7,15,31,63,127,127,383,1023,2047,4095,127,8319,32767,65535,131071,262143]
theorem span_Sorted.tab4:rtab .any (opsOf Tryz.f80 4)=span_Sorted.T4:=by kernel_rfl
theorem span_Sorted.bits4:waitsOk span_Sorted.T4.2 span_Sorted.B4=true:=by kernel_rfl
theorem span_Sorted.calls (k:Nat) (A0:Option Addr) (c0:Nat) (l0:List (S35)) (r:Bool) (w:World) (hr0:Kd.C k35 w A0 l0.length l0) (hc0:l0.length≤c0) (h:span_Sorted.f k l0=some r) :
 Calls Tryz.prog 80 #[.slice A0 l0.length c0] w fun e w'=>e=.returned (.bool r)∧Below w.heap.size w w':=by
 have hu35:=Tryz.underlying35;have hu33:=Tryz.underlying33;have HR0:=am hr0;have HC0:=am hc0;clear hr0 hc0
 have HB:=am (Below.refl w.heap.size w)
 have H:(span_Sorted.l0 k l0 l0 (l0.length:Int) 0)=some r:=h
 clear h;have H':=am H;clear H;go_enter Tryz.func80,Tryz.ntmps80;go_wp2
 go_loopg [7] k (fun kq v7 w'=>∃ (x7_1:Int),v7=.int .i64 x7_1∧Aside0 (span_Sorted.l0 kq l0 l0 (l0.length:Int) x7_1=some r)∧Aside0 (kq≤k)∧Aside0 (Below w.heap.size w w'))
 case atStart=>exact ⟨_,rs,H',⟨Nat.le_refl _⟩,⟨bl HB⟩⟩
 case round =>
  clear H'
  obtain ⟨x7_1,rfl,HA,HK1,HB⟩:=hrel
  cases gk with
  | zero=>exact absurd HA.out (by simp [span_Sorted.l0])
  | succ k1 =>
   have H:=HA.out;clear HA
   simp only [span_Sorted.l0] at H
   revert H;refine itc (fun c2b0 H=>?_) fun c2b0 H=>?_
   ·revert H;refine its fun c3b0 H=>?_
    revert H;refine its fun c4b0 H=>?_
    revert H;refine bnd fun t136 A5 H=>?_
    cases t136;rotate_left
    ·replace H:=itt H;revert H;refine itc (fun (c7b0:decide (0 < x7_1)=true) H=>?_) fun (c7b0:decide (0 < x7_1)=false) H=>?_
     ·obtain ⟨ji8,hji8⟩:∃ j_:Int,(wrap64 (x7_1 - 1))=j_:=⟨_,rfl⟩
      (first | rw [hji8] at H | simp only [hji8] at H)
      (try rw [hji8] at A5)
      have hji8w:(IntKind.i64.wrap (x7_1 - 1))=ji8:=(i64_w _).trans hji8
      revert H;refine its fun c9b0 H=>?_
      revert H;refine its fun c10b0 H=>?_
      revert H;refine bnd fun t138 A11 H=>?_
      revert H;refine itc (fun (c12b0:decide (0 < t138)=true) H=>?_) fun (c12b0:decide (0 < t138)=false) H=>?_
      ·obtain rfl:=Option.some.inj H
       obtain ⟨ad134,e134,hx134_0,hx134_1,hx134_2,hx134_3,p134,q134⟩:=ax35 HR0 HB x7_1
       cases e134
       try go_wp2_with (first | ((with_reducible refine gate_dst (N:=4) rfl ?_);refine bxf #[.int .i64 0,.int .i64 0,.int .i64 0,.int .i64 0] 35 HB fun gb135 w13 BK135 GW135 HB hg hb=>?_;have GE135:=GW135;clear hb hg;obtain ⟨_,_,_,_,_,_,_,_⟩:=s4 BK135))
       have n0_:Aside0 (((((w13.setCell ⟨gb135,0,none⟩ (.int .i64 ((rd_T35 l0 x7_1).f0.f0))).setCell ⟨gb135,1,none⟩ (.int .i64 ((rd_T35 l0 x7_1).f0.f1))).setCell ⟨gb135,2,none⟩ (.int .i64 ((rd_T35 l0 x7_1).f1.f0))).setCell ⟨gb135,3,none⟩ (.int .i64 ((rd_T35 l0 x7_1).f1.f1))).heap[gb135]? = some (.cells #[.int .i64 ((rd_T35 l0 x7_1).f0.f0),.int .i64 ((rd_T35 l0 x7_1).f0.f1),.int .i64 ((rd_T35 l0 x7_1).f1.f0),.int .i64 ((rd_T35 l0 x7_1).f1.f1)] 35 (0,0))):=⟨by (with_reducible repeat (first | refine blk_drewN ?_ _ | refine blk_drew ?_ | refine blk_alloc ?_ _));refine blk_put (cs:=#[.int .i64 ((rd_T35 l0 x7_1).f0.f0),.int .i64 ((rd_T35 l0 x7_1).f0.f1),.int .i64 ((rd_T35 l0 x7_1).f1.f0),.int .i64 0]) ?_ 3 _ rfl;(with_reducible repeat (first | refine blk_drewN ?_ _ | refine blk_drew ?_ | refine blk_alloc ?_ _));refine blk_put (cs:=#[.int .i64 ((rd_T35 l0 x7_1).f0.f0),.int .i64 ((rd_T35 l0 x7_1).f0.f1),.int .i64 0,.int .i64 0]) ?_ 2 _ rfl;(with_reducible repeat (first | refine blk_drewN ?_ _ | refine blk_drew ?_ | refine blk_alloc ?_ _));refine blk_put (cs:=#[.int .i64 ((rd_T35 l0 x7_1).f0.f0),.int .i64 0,.int .i64 0,.int .i64 0]) ?_ 1 _ rfl;(with_reducible repeat (first | refine blk_drewN ?_ _ | refine blk_drew ?_ | refine blk_alloc ?_ _));refine blk_put (cs:=#[.int .i64 0,.int .i64 0,.int .i64 0,.int .i64 0]) ?_ 0 _ rfl;(with_reducible repeat (first | refine blk_drewN ?_ _ | refine blk_drew ?_ | refine blk_alloc ?_ _));exact BK135.out⟩
       have n1_:Aside0 (Below w.heap.size w ((((w13.setCell ⟨gb135,0,none⟩ (.int .i64 ((rd_T35 l0 x7_1).f0.f0))).setCell ⟨gb135,1,none⟩ (.int .i64 ((rd_T35 l0 x7_1).f0.f1))).setCell ⟨gb135,2,none⟩ (.int .i64 ((rd_T35 l0 x7_1).f1.f0))).setCell ⟨gb135,3,none⟩ (.int .i64 ((rd_T35 l0 x7_1).f1.f1)))):=⟨bl HB⟩
       (try clear BK135)
       (try clear HB)
       generalize ((((w13.setCell ⟨gb135,0,none⟩ (.int .i64 ((rd_T35 l0 x7_1).f0.f0))).setCell ⟨gb135,1,none⟩ (.int .i64 ((rd_T35 l0 x7_1).f0.f1))).setCell ⟨gb135,2,none⟩ (.int .i64 ((rd_T35 l0 x7_1).f1.f0))).setCell ⟨gb135,3,none⟩ (.int .i64 ((rd_T35 l0 x7_1).f1.f1)))=w15 at n0_ n1_ ⊢
       have BK135:=n0_
       have HB:=n1_
       clear n0_ n1_;replace BK135:=am (blk_drew BK135.out);replace HB:=am (below_drew1 HB.out);have p137:0≤((ji8):Int):=pd;have q137:(ji8) < (l0.length:Int):=pd;obtain ⟨ad137,e137,hx137_0,hx137_1,hx137_2,hx137_3⟩:=at_T35 HR0.out (ji8) p137 q137
       have hw137_3:=hx137_3
       have hw137_2:=hx137_2
       have hw137_1:=hx137_1
       have hw137_0:=hx137_0
       obtain rfl:ad134=ad137:=(by injection e137)
       replace hx137_0:=cl HB hx137_0;replace hx137_1:=cl HB hx137_1;replace hx137_2:=cl HB hx137_2;replace hx137_3:=cl HB hx137_3;replace p137:=eq_true p137;replace q137:=eq_true q137
       refine st F19 [] (g4 BK135 (g1 (cl HB hw137_0) (g1 (cl HB hw137_1) (g1 (cl HB hw137_2) (h1 (cl HB hw137_3)))))) fun hHeld=>?_;refine with_tabW span_Sorted.tab4 span_Sorted.bits4 (fun HT_ HW_=>?_)
       generalize w15.drew=w16 at BK135 HB hx137_0 hx137_1 hx137_2 hx137_3 hHeld ⊢;refine tw8 0 12 HT_ HW_ hHeld ?_
       refine ca 1 HT_ Tryz.func88 (span_Right.calls _ _ _ _ _ _ _ A5.out) hHeld fun w17 hb hHeld=>?_
       replace BK135:=bkb BK135 hb;replace HB:=bst HB hb;clear hb;refine pw 2 14 HT_ ?_;refine pw 3 15 HT_ ?_;refine pw 4 16 HT_ ?_;refine pw 5 17 HT_ ?_;refine pw 6 18 HT_ ?_;refine pw 7 19 HT_ ?_;refine pw 8 20 HT_ ?_;refine pw 9 21 HT_ ?_;refine pw 10 22 HT_ ?_;refine pw 11 23 HT_ ?_;refine pw 13 25 HT_ ?_;refine tw8 12 24 HT_ HW_ hHeld ?_;refine tw8 14 26 HT_ HW_ hHeld ?_
       refine ca 15 HT_ Tryz.func109 (cut_Compare.calls _ _ _ _ _ _ _ A11.out) hHeld fun w18 hb hHeld=>?_
       replace BK135:=bkb BK135 hb;replace HB:=bst HB hb;clear hb;refine pw 16 28 HT_ ?_;refine pw 17 29 HT_ ?_;refine pw 18 30 HT_ ?_
       refine dt HT_ ?_
       try go_wp2
       go_ret
       exact ⟨by first | rfl | (simp [errW_none,errW_some] <;> rfl) | (simp only [← hji8];first | rfl | (simp [errW_none,errW_some] <;> rfl)) | (simp [*,errW_none,errW_some] <;> rfl),by repeat (first | (with_reducible first | exact HB.out | apply below_alloc | apply pw_below_drewN | apply below_drew1 | refine below_set ?_ GE135.out) | exact HB.out)⟩
      ·have H':=am H;clear H
       obtain ⟨ad134,e134,hx134_0,hx134_1,hx134_2,hx134_3,p134,q134⟩:=ax35 HR0 HB x7_1
       cases e134
       try go_wp2_with (first | ((with_reducible refine gate_dst (N:=4) rfl ?_);refine bxf #[.int .i64 0,.int .i64 0,.int .i64 0,.int .i64 0] 35 HB fun gb135 w19 BK135 GW135 HB hg hb=>?_;have GE135:=GW135;clear hb hg;obtain ⟨_,_,_,_,_,_,_,_⟩:=s4 BK135))
       have n0_:Aside0 (((((w19.setCell ⟨gb135,0,none⟩ (.int .i64 ((rd_T35 l0 x7_1).f0.f0))).setCell ⟨gb135,1,none⟩ (.int .i64 ((rd_T35 l0 x7_1).f0.f1))).setCell ⟨gb135,2,none⟩ (.int .i64 ((rd_T35 l0 x7_1).f1.f0))).setCell ⟨gb135,3,none⟩ (.int .i64 ((rd_T35 l0 x7_1).f1.f1))).heap[gb135]? = some (.cells #[.int .i64 ((rd_T35 l0 x7_1).f0.f0),.int .i64 ((rd_T35 l0 x7_1).f0.f1),.int .i64 ((rd_T35 l0 x7_1).f1.f0),.int .i64 ((rd_T35 l0 x7_1).f1.f1)] 35 (0,0))):=⟨by (with_reducible repeat (first | refine blk_drewN ?_ _ | refine blk_drew ?_ | refine blk_alloc ?_ _));refine blk_put (cs:=#[.int .i64 ((rd_T35 l0 x7_1).f0.f0),.int .i64 ((rd_T35 l0 x7_1).f0.f1),.int .i64 ((rd_T35 l0 x7_1).f1.f0),.int .i64 0]) ?_ 3 _ rfl;(with_reducible repeat (first | refine blk_drewN ?_ _ | refine blk_drew ?_ | refine blk_alloc ?_ _));refine blk_put (cs:=#[.int .i64 ((rd_T35 l0 x7_1).f0.f0),.int .i64 ((rd_T35 l0 x7_1).f0.f1),.int .i64 0,.int .i64 0]) ?_ 2 _ rfl;(with_reducible repeat (first | refine blk_drewN ?_ _ | refine blk_drew ?_ | refine blk_alloc ?_ _));refine blk_put (cs:=#[.int .i64 ((rd_T35 l0 x7_1).f0.f0),.int .i64 0,.int .i64 0,.int .i64 0]) ?_ 1 _ rfl;(with_reducible repeat (first | refine blk_drewN ?_ _ | refine blk_drew ?_ | refine blk_alloc ?_ _));refine blk_put (cs:=#[.int .i64 0,.int .i64 0,.int .i64 0,.int .i64 0]) ?_ 0 _ rfl;(with_reducible repeat (first | refine blk_drewN ?_ _ | refine blk_drew ?_ | refine blk_alloc ?_ _));exact BK135.out⟩
       have n1_:Aside0 (Below w.heap.size w ((((w19.setCell ⟨gb135,0,none⟩ (.int .i64 ((rd_T35 l0 x7_1).f0.f0))).setCell ⟨gb135,1,none⟩ (.int .i64 ((rd_T35 l0 x7_1).f0.f1))).setCell ⟨gb135,2,none⟩ (.int .i64 ((rd_T35 l0 x7_1).f1.f0))).setCell ⟨gb135,3,none⟩ (.int .i64 ((rd_T35 l0 x7_1).f1.f1)))):=⟨bl HB⟩
       (try clear BK135)
       (try clear HB)
       generalize ((((w19.setCell ⟨gb135,0,none⟩ (.int .i64 ((rd_T35 l0 x7_1).f0.f0))).setCell ⟨gb135,1,none⟩ (.int .i64 ((rd_T35 l0 x7_1).f0.f1))).setCell ⟨gb135,2,none⟩ (.int .i64 ((rd_T35 l0 x7_1).f1.f0))).setCell ⟨gb135,3,none⟩ (.int .i64 ((rd_T35 l0 x7_1).f1.f1)))=w21 at n0_ n1_ ⊢
       have BK135:=n0_
       have HB:=n1_
       clear n0_ n1_;replace BK135:=am (blk_drew BK135.out);replace HB:=am (below_drew1 HB.out);have p137:0≤((ji8):Int):=pd;have q137:(ji8) < (l0.length:Int):=pd;obtain ⟨ad137,e137,hx137_0,hx137_1,hx137_2,hx137_3⟩:=at_T35 HR0.out (ji8) p137 q137
       have hw137_3:=hx137_3
       have hw137_2:=hx137_2
       have hw137_1:=hx137_1
       have hw137_0:=hx137_0
       obtain rfl:ad134=ad137:=(by injection e137)
       replace hx137_0:=cl HB hx137_0;replace hx137_1:=cl HB hx137_1;replace hx137_2:=cl HB hx137_2;replace hx137_3:=cl HB hx137_3;replace p137:=eq_true p137;replace q137:=eq_true q137
       refine st F19 [] (g4 BK135 (g1 (cl HB hw137_0) (g1 (cl HB hw137_1) (g1 (cl HB hw137_2) (h1 (cl HB hw137_3)))))) fun hHeld=>?_;refine with_tabW span_Sorted.tab4 span_Sorted.bits4 (fun HT_ HW_=>?_)
       generalize w21.drew=w22 at BK135 HB hx137_0 hx137_1 hx137_2 hx137_3 hHeld ⊢;refine tw8 0 12 HT_ HW_ hHeld ?_
       refine ca 1 HT_ Tryz.func88 (span_Right.calls _ _ _ _ _ _ _ A5.out) hHeld fun w23 hb hHeld=>?_
       replace BK135:=bkb BK135 hb;replace HB:=bst HB hb;clear hb;refine pw 2 14 HT_ ?_;refine pw 3 15 HT_ ?_;refine pw 4 16 HT_ ?_;refine pw 5 17 HT_ ?_;refine pw 6 18 HT_ ?_;refine pw 7 19 HT_ ?_;refine pw 8 20 HT_ ?_;refine pw 9 21 HT_ ?_;refine pw 10 22 HT_ ?_;refine pw 11 23 HT_ ?_;refine pw 13 25 HT_ ?_;refine tw8 12 24 HT_ HW_ hHeld ?_;refine tw8 14 26 HT_ HW_ hHeld ?_
       refine ca 15 HT_ Tryz.func109 (cut_Compare.calls _ _ _ _ _ _ _ A11.out) hHeld fun w24 hb hHeld=>?_
       replace BK135:=bkb BK135 hb;replace HB:=bst HB hb;clear hb;refine pw 16 28 HT_ ?_;refine pw 17 29 HT_ ?_;refine pw 18 30 HT_ ?_
       refine dt HT_ ?_
       try go_wp2
       go_roundg k1
       case measure=>have:=HK1.out;omega
       case rel=>exact ⟨_,rs,H',kl HK1,⟨bl HB⟩⟩
     ·have H':=am H;clear H
      obtain ⟨ad134,e134,hx134_0,hx134_1,hx134_2,hx134_3,p134,q134⟩:=ax35 HR0 HB x7_1
      cases e134
      try go_wp2_with (first | ((with_reducible refine gate_dst (N:=4) rfl ?_);refine bxf #[.int .i64 0,.int .i64 0,.int .i64 0,.int .i64 0] 35 HB fun gb135 w25 BK135 GW135 HB hg hb=>?_;have GE135:=GW135;clear hb hg;obtain ⟨_,_,_,_,_,_,_,_⟩:=s4 BK135))
      have n0_:Aside0 (((((w25.setCell ⟨gb135,0,none⟩ (.int .i64 ((rd_T35 l0 x7_1).f0.f0))).setCell ⟨gb135,1,none⟩ (.int .i64 ((rd_T35 l0 x7_1).f0.f1))).setCell ⟨gb135,2,none⟩ (.int .i64 ((rd_T35 l0 x7_1).f1.f0))).setCell ⟨gb135,3,none⟩ (.int .i64 ((rd_T35 l0 x7_1).f1.f1))).heap[gb135]? = some (.cells #[.int .i64 ((rd_T35 l0 x7_1).f0.f0),.int .i64 ((rd_T35 l0 x7_1).f0.f1),.int .i64 ((rd_T35 l0 x7_1).f1.f0),.int .i64 ((rd_T35 l0 x7_1).f1.f1)] 35 (0,0))):=⟨by (with_reducible repeat (first | refine blk_drewN ?_ _ | refine blk_drew ?_ | refine blk_alloc ?_ _));refine blk_put (cs:=#[.int .i64 ((rd_T35 l0 x7_1).f0.f0),.int .i64 ((rd_T35 l0 x7_1).f0.f1),.int .i64 ((rd_T35 l0 x7_1).f1.f0),.int .i64 0]) ?_ 3 _ rfl;(with_reducible repeat (first | refine blk_drewN ?_ _ | refine blk_drew ?_ | refine blk_alloc ?_ _));refine blk_put (cs:=#[.int .i64 ((rd_T35 l0 x7_1).f0.f0),.int .i64 ((rd_T35 l0 x7_1).f0.f1),.int .i64 0,.int .i64 0]) ?_ 2 _ rfl;(with_reducible repeat (first | refine blk_drewN ?_ _ | refine blk_drew ?_ | refine blk_alloc ?_ _));refine blk_put (cs:=#[.int .i64 ((rd_T35 l0 x7_1).f0.f0),.int .i64 0,.int .i64 0,.int .i64 0]) ?_ 1 _ rfl;(with_reducible repeat (first | refine blk_drewN ?_ _ | refine blk_drew ?_ | refine blk_alloc ?_ _));refine blk_put (cs:=#[.int .i64 0,.int .i64 0,.int .i64 0,.int .i64 0]) ?_ 0 _ rfl;(with_reducible repeat (first | refine blk_drewN ?_ _ | refine blk_drew ?_ | refine blk_alloc ?_ _));exact BK135.out⟩
      have n1_:Aside0 (Below w.heap.size w ((((w25.setCell ⟨gb135,0,none⟩ (.int .i64 ((rd_T35 l0 x7_1).f0.f0))).setCell ⟨gb135,1,none⟩ (.int .i64 ((rd_T35 l0 x7_1).f0.f1))).setCell ⟨gb135,2,none⟩ (.int .i64 ((rd_T35 l0 x7_1).f1.f0))).setCell ⟨gb135,3,none⟩ (.int .i64 ((rd_T35 l0 x7_1).f1.f1)))):=⟨bl HB⟩
      (try clear BK135)
      (try clear HB)
      generalize ((((w25.setCell ⟨gb135,0,none⟩ (.int .i64 ((rd_T35 l0 x7_1).f0.f0))).setCell ⟨gb135,1,none⟩ (.int .i64 ((rd_T35 l0 x7_1).f0.f1))).setCell ⟨gb135,2,none⟩ (.int .i64 ((rd_T35 l0 x7_1).f1.f0))).setCell ⟨gb135,3,none⟩ (.int .i64 ((rd_T35 l0 x7_1).f1.f1)))=w27 at n0_ n1_ ⊢
      have BK135:=n0_
      have HB:=n1_
      clear n0_ n1_;replace BK135:=am (blk_drew BK135.out);replace HB:=am (below_drew1 HB.out)
      refine st F19 [] (h4 BK135) fun hHeld=>?_;refine with_tabW span_Sorted.tab4 span_Sorted.bits4 (fun HT_ HW_=>?_)
      generalize w27.drew=w28 at BK135 HB hHeld ⊢;refine tw4 0 12 HT_ HW_ hHeld ?_
      refine ca 1 HT_ Tryz.func88 (span_Right.calls _ _ _ _ _ _ _ A5.out) hHeld fun w29 hb hHeld=>?_
      replace BK135:=bkb BK135 hb;replace HB:=bst HB hb;clear hb;refine pw 2 14 HT_ ?_;refine pw 3 15 HT_ ?_;refine pw 4 16 HT_ ?_;refine pw 5 17 HT_ ?_;refine pw 6 18 HT_ ?_;refine px 7 19 HT_ ?_;refine px 8 20 HT_ ?_;refine px 9 21 HT_ ?_;refine px 10 22 HT_ ?_;refine px 11 23 HT_ ?_;refine px 12 24 HT_ ?_;refine px 13 25 HT_ ?_;refine px 14 26 HT_ ?_;refine px 15 27 HT_ ?_;refine px 16 28 HT_ ?_;refine pw 17 29 HT_ ?_;refine pw 18 30 HT_ ?_
      refine dt HT_ ?_
      try go_wp2
      go_roundg k1
      case measure=>have:=HK1.out;omega
      case rel=>exact ⟨_,rs,H',kl HK1,⟨bl HB⟩⟩
    ·replace H:=itf H;obtain rfl:=Option.some.inj H
     obtain ⟨ad134,e134,hx134_0,hx134_1,hx134_2,hx134_3,p134,q134⟩:=ax35 HR0 HB x7_1
     cases e134
     try go_wp2_with (first | ((with_reducible refine gate_dst (N:=4) rfl ?_);refine bxf #[.int .i64 0,.int .i64 0,.int .i64 0,.int .i64 0] 35 HB fun gb135 w30 BK135 GW135 HB hg hb=>?_;have GE135:=GW135;clear hb hg;obtain ⟨_,_,_,_,_,_,_,_⟩:=s4 BK135))
     have n0_:Aside0 (((((w30.setCell ⟨gb135,0,none⟩ (.int .i64 ((rd_T35 l0 x7_1).f0.f0))).setCell ⟨gb135,1,none⟩ (.int .i64 ((rd_T35 l0 x7_1).f0.f1))).setCell ⟨gb135,2,none⟩ (.int .i64 ((rd_T35 l0 x7_1).f1.f0))).setCell ⟨gb135,3,none⟩ (.int .i64 ((rd_T35 l0 x7_1).f1.f1))).heap[gb135]? = some (.cells #[.int .i64 ((rd_T35 l0 x7_1).f0.f0),.int .i64 ((rd_T35 l0 x7_1).f0.f1),.int .i64 ((rd_T35 l0 x7_1).f1.f0),.int .i64 ((rd_T35 l0 x7_1).f1.f1)] 35 (0,0))):=⟨by (with_reducible repeat (first | refine blk_drewN ?_ _ | refine blk_drew ?_ | refine blk_alloc ?_ _));refine blk_put (cs:=#[.int .i64 ((rd_T35 l0 x7_1).f0.f0),.int .i64 ((rd_T35 l0 x7_1).f0.f1),.int .i64 ((rd_T35 l0 x7_1).f1.f0),.int .i64 0]) ?_ 3 _ rfl;(with_reducible repeat (first | refine blk_drewN ?_ _ | refine blk_drew ?_ | refine blk_alloc ?_ _));refine blk_put (cs:=#[.int .i64 ((rd_T35 l0 x7_1).f0.f0),.int .i64 ((rd_T35 l0 x7_1).f0.f1),.int .i64 0,.int .i64 0]) ?_ 2 _ rfl;(with_reducible repeat (first | refine blk_drewN ?_ _ | refine blk_drew ?_ | refine blk_alloc ?_ _));refine blk_put (cs:=#[.int .i64 ((rd_T35 l0 x7_1).f0.f0),.int .i64 0,.int .i64 0,.int .i64 0]) ?_ 1 _ rfl;(with_reducible repeat (first | refine blk_drewN ?_ _ | refine blk_drew ?_ | refine blk_alloc ?_ _));refine blk_put (cs:=#[.int .i64 0,.int .i64 0,.int .i64 0,.int .i64 0]) ?_ 0 _ rfl;(with_reducible repeat (first | refine blk_drewN ?_ _ | refine blk_drew ?_ | refine blk_alloc ?_ _));exact BK135.out⟩
     have n1_:Aside0 (Below w.heap.size w ((((w30.setCell ⟨gb135,0,none⟩ (.int .i64 ((rd_T35 l0 x7_1).f0.f0))).setCell ⟨gb135,1,none⟩ (.int .i64 ((rd_T35 l0 x7_1).f0.f1))).setCell ⟨gb135,2,none⟩ (.int .i64 ((rd_T35 l0 x7_1).f1.f0))).setCell ⟨gb135,3,none⟩ (.int .i64 ((rd_T35 l0 x7_1).f1.f1)))):=⟨bl HB⟩
     (try clear BK135)
     (try clear HB)
     generalize ((((w30.setCell ⟨gb135,0,none⟩ (.int .i64 ((rd_T35 l0 x7_1).f0.f0))).setCell ⟨gb135,1,none⟩ (.int .i64 ((rd_T35 l0 x7_1).f0.f1))).setCell ⟨gb135,2,none⟩ (.int .i64 ((rd_T35 l0 x7_1).f1.f0))).setCell ⟨gb135,3,none⟩ (.int .i64 ((rd_T35 l0 x7_1).f1.f1)))=w32 at n0_ n1_ ⊢
     have BK135:=n0_
     have HB:=n1_
     clear n0_ n1_;replace BK135:=am (blk_drew BK135.out);replace HB:=am (below_drew1 HB.out)
     refine st F19 [] (h4 BK135) fun hHeld=>?_;refine with_tabW span_Sorted.tab4 span_Sorted.bits4 (fun HT_ HW_=>?_)
     generalize w32.drew=w33 at BK135 HB hHeld ⊢;refine tw4 0 12 HT_ HW_ hHeld ?_
     refine ca 1 HT_ Tryz.func88 (span_Right.calls _ _ _ _ _ _ _ A5.out) hHeld fun w34 hb hHeld=>?_
     replace BK135:=bkb BK135 hb;replace HB:=bst HB hb;clear hb;refine pw 2 14 HT_ ?_;refine pw 3 15 HT_ ?_;refine px 4 16 HT_ ?_;refine px 5 17 HT_ ?_;refine px 6 18 HT_ ?_;refine px 7 19 HT_ ?_;refine px 8 20 HT_ ?_;refine px 9 21 HT_ ?_;refine px 10 22 HT_ ?_;refine px 11 23 HT_ ?_;refine px 12 24 HT_ ?_;refine px 13 25 HT_ ?_;refine px 14 26 HT_ ?_;refine px 15 27 HT_ ?_;refine px 16 28 HT_ ?_;refine px 17 29 HT_ ?_;refine pw 18 30 HT_ ?_
     refine dt HT_ ?_
     try go_wp2
     go_ret;exact endB HB
   ·obtain rfl:=Option.some.inj H;go_wp2;go_ret;exact endB HB
end Go.Proofs.YtbcpnejdbookkaaGreat.Print
namespace Go.Proofs.YtbcpnejdbookkaaGreat.Print
open Go.RowKit Go.Proofs.YtbcpnejdbookkaaGreatW.PrintWords Go.Proofs.YtbcpnejdbookkaaGreatW.PrintLast Go.Proofs.YtbcpnejdbookkaaGreatW.PrintMore
attribute [local go_sem] max2_int min2_int max_two min_two max_three min_three max_four min_four
theorem keepT {W W':World} {g gs gr go m co:Nat} {s1 s2 s3 s4 s5 o1 o2 o3 o4 o5:Int} (h:Aside0 (W.cell? ⟨g,0,none⟩=some (Value.slice (some ⟨go,0,none⟩) (m+1) co)∧W.cell? ⟨gs,0,none⟩=some (.int .i64 s1)∧W.cell? ⟨gs,1,none⟩=some (.int .i64 s2)∧W.cell? ⟨gs,2,none⟩=some (.int .i64 s3)∧W.cell? ⟨gs,3,none⟩=some (.int .i64 s4)∧W.cell? ⟨gs,4,none⟩=some (.int .i64 s5)∧W.cell? ⟨gr,0,none⟩=some (.int .i64 0)∧W.cell? ⟨gr,1,none⟩=some (.bool false)∧W.cell? ⟨gr,2,none⟩=some (.int .i64 0)∧W.cell? ⟨go,m * 5,none⟩=some (.int .i64 o1)∧W.cell? ⟨go,m * 5+1,none⟩=some (.int .i64 o2)∧W.cell? ⟨go,m * 5+2,none⟩=some (.int .i64 o3)∧W.cell? ⟨go,m * 5+3,none⟩=some (.int .i64 o4)∧W.cell? ⟨go,m * 5+4,none⟩=some (.int .i64 o5))) (hb:Below W.heap.size W W'):(fun w'=>w'.cell? ⟨g,0,none⟩=some (Value.slice (some ⟨go,0,none⟩) (m+1) co)∧w'.cell? ⟨gs,0,none⟩=some (.int .i64 s1)∧w'.cell? ⟨gs,1,none⟩=some (.int .i64 s2)∧w'.cell? ⟨gs,2,none⟩=some (.int .i64 s3)∧w'.cell? ⟨gs,3,none⟩=some (.int .i64 s4)∧w'.cell? ⟨gs,4,none⟩=some (.int .i64 s5)∧w'.cell? ⟨gr,0,none⟩=some (.int .i64 0)∧w'.cell? ⟨gr,1,none⟩=some (.bool false)∧w'.cell? ⟨gr,2,none⟩=some (.int .i64 0)∧w'.cell? ⟨go,m * 5,none⟩=some (.int .i64 o1)∧w'.cell? ⟨go,m * 5+1,none⟩=some (.int .i64 o2)∧w'.cell? ⟨go,m * 5+2,none⟩=some (.int .i64 o3)∧w'.cell? ⟨go,m * 5+3,none⟩=some (.int .i64 o4)∧w'.cell? ⟨go,m * 5+4,none⟩=some (.int .i64 o5)) W':=by
 obtain ⟨h0,h1,h2,h3,h4,h5,h6,h7,h8,h9,h10,h11,h12,h13⟩:=h.out
 exact ⟨(hb.cell (World.block_lt_of_cell? W _ h0)).trans h0,(hb.cell (World.block_lt_of_cell? W _ h1)).trans h1,(hb.cell (World.block_lt_of_cell? W _ h2)).trans h2,(hb.cell (World.block_lt_of_cell? W _ h3)).trans h3,(hb.cell (World.block_lt_of_cell? W _ h4)).trans h4,(hb.cell (World.block_lt_of_cell? W _ h5)).trans h5,(hb.cell (World.block_lt_of_cell? W _ h6)).trans h6,(hb.cell (World.block_lt_of_cell? W _ h7)).trans h7,(hb.cell (World.block_lt_of_cell? W _ h8)).trans h8,(hb.cell (World.block_lt_of_cell? W _ h9)).trans h9,(hb.cell (World.block_lt_of_cell? W _ h10)).trans h10,(hb.cell (World.block_lt_of_cell? W _ h11)).trans h11,(hb.cell (World.block_lt_of_cell? W _ h12)).trans h12,(hb.cell (World.block_lt_of_cell? W _ h13)).trans h13⟩
theorem Tidy_add_nil (k:Nat) (s1 s2 s3 s4 s5:Int) (v:Value) (g gr base:Nat) (ok:Nat→Prop)  (w0 W:World) (HBw:Below base w0 W) (hbase:base≤W.heap.size)
 (hg:W.heap[g]? = some (.cells #[v] 22 (0,0))) (hgb:base≤g) (hgr:W.heap[gr]? = some (.cells #[.int .i64 0,.bool false,.int .i64 0] 77 (0,0))) (HO:Kd.R k37 37 W base ok v []) (hok:∀ q,ok q→q≠g) (hfr:∀ q,W.heap.size≤q→ok q) :
 Calls Tryz.prog 82 #[.agg #[.int .i64 s1,.int .i64 s2,.int .i64 s3,.int .i64 s4,.int .i64 s5],.pointer (some ⟨g,0,none⟩),.pointer (some ⟨gr,0,none⟩)] W fun e w'=>e=.returned (.tuple #[]) ∧
  ∃ v',w'.heap[g]? = some (.cells #[v'] 22 (0,0))∧Kd.R k37 37 w' base ok v' ([(⟨⟨⟨s1,s2⟩,⟨s3,s4⟩⟩,s5⟩:S37)])∧Below base w0 w'∧∀ (q:Nat) (o:Obj),W.heap[q]? = some o→q≠g→some q≠v.ownBlock→w'.heap[q]? = some o:=by
 obtain ⟨A0,c0,rfl⟩:=Kd.R_slice HO
 have hu37:=Tryz.underlying37;have hu35:=Tryz.underlying35;have hu33:=Tryz.underlying33;have hu77:=Tryz.underlying77;have BG:=am hg;have BR:=am hgr;have HO0:=am HO;have HB0:=am HBw;have HOK:=am hok;have HFR:=am hfr
 have HB:=am (Below.refl W.heap.size W)
 clear hg hgr HO HBw hok hfr;go_enter Tryz.func82,Tryz.ntmps82
 go_upto_region 1 with (first | ((with_reducible refine gate_dst (N:=3) rfl ?_);refine bxe (N:=3) (cs:=#[.int .i64 s1,.int .i64 s2,.int .i64 s3,.int .i64 s4,.int .i64 s5]) (t:=37) ?_;intro gs hgs w1 hbox hb;have BS:=am hbox;have HB1:=am hb;have BG1:=bkb BG hb;have BR1:=bkb BR hb;have NGS:g≠gs:=(by rw [hgs];exact Nat.ne_of_lt (blk_lt BG.out));have NRS:gr≠gs:=(by rw [hgs];exact Nat.ne_of_lt (blk_lt BR.out));clear hbox hb hgs))
 have cg:w1.cell? ⟨g,0,none⟩=some (Value.slice A0 0 c0):=(blk_cell BG1.out 0).trans rfl
 have fg:=blk_frozen BG1.out 0
 obtain ⟨cs0,cs1,cs2,cs3,cs4⟩:=e5 BS;obtain ⟨cr0,cr1,cr2⟩:=e3 BR1
 go_upto_region 2 with fail
 go_quiet (fail)
 go_upto_region 4 with fail
 have BG2:=am (blk_drewN BG1.out nq)
 have BR2:=am (blk_drewN BR1.out nq)
 have BS2:=am (blk_drewN BS.out nq)
 have HB2:=am (pw_below_drewN HB1.out nq)
 clear cg fg cs0 cs1 cs2 cs3 cs4 cr0 cr1 cr2 BG1 BR1 BS HB1;generalize w1.drewN nq=w2 at *
 have cg:w2.cell? ⟨g,0,none⟩=some (Value.slice A0 0 c0):=(blk_cell BG2.out 0).trans rfl
 have fg:=blk_frozen BG2.out 0
 obtain ⟨cs0,cs1,cs2,cs3,cs4⟩:=e5 BS2;obtain ⟨cr0,cr1,cr2⟩:=e3 BR2
 have HS5:=am (below_size HB2.out)
 have HO5:=am (Kd.R_below HO0.out HB2.out)
 have HB5:=am (HB0.out.trans (HB2.out.mono hbase))
 have hb5s:base≤w2.heap.size:=Nat.le_trans hbase HS5.out
 go_wp2_with (first | ((with_reducible refine gate_builtin (b:=.append) (xs:=#[.tmp 43,.tmp 45]) rfl ?_);(try (refine gate_guard (by rfl) ?_;dsimp only));at_builtin;(refine Kd.R_append k37 (w0:=w0) base rfl (.tmp 43) (.tmp 45) 22 37 (.agg #[(.int .i64 0),(.int .i64 0),(.int .i64 0),(.int .i64 0),(.int .i64 0)]) 40 rfl Tryz.underlying22 info37 rfl (by decide) (by omega) (Value.slice A0 0 c0) ([]) (⟨⟨⟨s1,s2⟩,⟨s3,s4⟩⟩,s5⟩:S37) [.int .i64 s1,.int .i64 s2,.int .i64 s3,.int .i64 s4,.int .i64 s5] ok (fun _=>False) rfl rfl ?aP (fun _ hk=>hk.elim) ?aF ?aO ?aB ?aS ?aL ?_;(case aP=>exact k37_mkM _ _ _ (⟨⟨⟨s1,s2⟩,⟨s3,s4⟩⟩,s5⟩:S37));(case aF=>exact (fun k_ hk=>HFR.out k_ (Nat.le_trans HS5.out hk)));(case aO=>exact HO5.out);(case aB=>exact HB5.out);(case aS=>exact hb5s);(case aL=>decide);intro v1 w6 ho hb hgr hat;obtain ⟨A6,c6,rfl⟩:=Kd.R_slice ho;have BG6:=am (blk_grown BG2.out hgr (Kd.R_away HO5.out HOK.out));have HO6:=am ho;have HB6:=am hb;have cg6:w6.cell? ⟨g,0,none⟩=some (Value.slice A0 0 c0):=(blk_cell BG6.out 0).trans rfl;have fg6:=blk_frozen BG6.out 0;have HG6:=am hgr;clear ho hb hgr hat)))
 go_end0
 exact ⟨rfl,_,blk_put BG6.out 0 _ rfl,by have hR:=Kd.R_far HO6.out (p:=⟨g,0,none⟩) HOK.out (Value.slice A6 ([] ++ [(⟨⟨⟨s1,s2⟩,⟨s3,s4⟩⟩,s5⟩:S37)]).length c6);simpa using hR,HB6.out.setCell hgb _,fun q o hq hne hov=>(Below.heap_setCell w6 ⟨g,0,none⟩ _ q hne).trans (blk_grown (blk_below hq HB2.out) HG6.out hov)⟩
theorem Tidy_add_other (k:Nat) (s1 s2 s3 s4 s5:Int) (xs:List S37) (v:Value) (g gr base:Nat) (ok:Nat→Prop) (m:Nat) (o1 o2 o3 o4 o5:Int) (hm:xs.length=m+1) (ho:xs.getD m z37=(⟨⟨⟨o1,o2⟩,⟨o3,o4⟩⟩,o5⟩:S37)) (h5:o5≠s5) (w0 W:World) (HBw:Below base w0 W) (hbase:base≤W.heap.size)
 (hg:W.heap[g]? = some (.cells #[v] 22 (0,0))) (hgb:base≤g) (hgr:W.heap[gr]? = some (.cells #[.int .i64 0,.bool false,.int .i64 0] 77 (0,0))) (HO:Kd.R k37 37 W base ok v xs) (hok:∀ q,ok q→q≠g) (hfr:∀ q,W.heap.size≤q→ok q) (hl:xs.length < 3518437208883) :
 Calls Tryz.prog 82 #[.agg #[.int .i64 s1,.int .i64 s2,.int .i64 s3,.int .i64 s4,.int .i64 s5],.pointer (some ⟨g,0,none⟩),.pointer (some ⟨gr,0,none⟩)] W fun e w'=>e=.returned (.tuple #[]) ∧
  ∃ v',w'.heap[g]? = some (.cells #[v'] 22 (0,0))∧Kd.R k37 37 w' base ok v' (xs ++ [(⟨⟨⟨s1,s2⟩,⟨s3,s4⟩⟩,s5⟩:S37)])∧Below base w0 w'∧∀ (q:Nat) (o:Obj),W.heap[q]? = some o→q≠g→some q≠v.ownBlock→w'.heap[q]? = some o:=by
 have hn37:(k37.sz)=5:=rfl
 obtain ⟨go,co,hv,hbg,hgl,cells,hgo⟩:=Kd.R_form HO (by omega)
 rw [hm] at hv
 subst hv
 obtain ⟨ce,hcl,hM,hcc,hfr2⟩:=Kd.R_elem HO z37 (m:Int) (by omega) (by omega)
 rw [Int.toNat_natCast] at hM hcc hfr2
 rw [ho] at hM
 obtain rfl:=k37_openM hM
 have NGO:g≠go:=by
  intro e
  have h1:=HO.1 go (by simp [Value.ownBlock])
  exact hok go h1 e.symm
 have NRO:gr≠go:=by
  rintro rfl
  rw [hgr] at hgo
  injection hgo with hgo
  injection hgo with _ hgo _
  exact absurd hgo (by decide)
 have co0:W.cell? ⟨go,m * 5,none⟩=some (.int .i64 o1):=hcc 0 _ rfl
 have co1:W.cell? ⟨go,m * 5+1,none⟩=some (.int .i64 o2):=hcc 1 _ rfl
 have co2:W.cell? ⟨go,m * 5+2,none⟩=some (.int .i64 o3):=hcc 2 _ rfl
 have co3:W.cell? ⟨go,m * 5+3,none⟩=some (.int .i64 o4):=hcc 3 _ rfl
 have co4:W.cell? ⟨go,m * 5+4,none⟩=some (.int .i64 o5):=hcc 4 _ rfl
 have CO0:=am co0;have CO1:=am co1;have CO2:=am co2;have CO3:=am co3;have CO4:=am co4;clear co0 co1 co2 co3 co4 hcc hM hcl hfr2;have HM:=am hm;have HBG:=am hbg;have HGO:=am hgl;have HL:=am hl
 have HMB:(m:Int)+1≤9223372036854775807:=by omega
 have i0:(0:Int)≤(m:Int):=by omega
 have i1:(m:Int) < (m:Int)+1:=by omega
 have i2:(m:Int) < ((m+1:Nat):Int):=by omega
 have HOE:=am ho;clear hm ho hbg hgl hgo hl
 have d5:(o5 == s5)=false:=beq_eq_false_iff_ne.2 h5
 clear h5;have hu37:=Tryz.underlying37;have hu35:=Tryz.underlying35;have hu33:=Tryz.underlying33;have hu77:=Tryz.underlying77;have BG:=am hg;have BR:=am hgr;have HO0:=am HO;have HB0:=am HBw;have HOK:=am hok;have HFR:=am hfr
 have HB:=am (Below.refl W.heap.size W)
 clear hg hgr HO HBw hok hfr;go_enter Tryz.func82,Tryz.ntmps82
 go_upto_region 1 with (first | ((with_reducible refine gate_dst (N:=3) rfl ?_);refine bxe (N:=3) (cs:=#[.int .i64 s1,.int .i64 s2,.int .i64 s3,.int .i64 s4,.int .i64 s5]) (t:=37) ?_;intro gs hgs w1 hbox hb;have BS:=am hbox;have HB1:=am hb;have BG1:=bkb BG hb;have BR1:=bkb BR hb;have NGS:g≠gs:=(by rw [hgs];exact Nat.ne_of_lt (blk_lt BG.out));have NRS:gr≠gs:=(by rw [hgs];exact Nat.ne_of_lt (blk_lt BR.out));clear hbox hb hgs))
 have cg:w1.cell? ⟨g,0,none⟩=some (Value.slice (some ⟨go,0,none⟩) (m+1) co):=(blk_cell BG1.out 0).trans rfl
 have fg:=blk_frozen BG1.out 0
 obtain ⟨cs0,cs1,cs2,cs3,cs4⟩:=e5 BS;obtain ⟨cr0,cr1,cr2⟩:=e3 BR1;have co0:=(HB1.out.cell (World.block_lt_of_cell? W _ CO0.out)).trans CO0.out;have co1:=(HB1.out.cell (World.block_lt_of_cell? W _ CO1.out)).trans CO1.out;have co2:=(HB1.out.cell (World.block_lt_of_cell? W _ CO2.out)).trans CO2.out;have co3:=(HB1.out.cell (World.block_lt_of_cell? W _ CO3.out)).trans CO3.out;have co4:=(HB1.out.cell (World.block_lt_of_cell? W _ CO4.out)).trans CO4.out
 go_upto_region 2 with fail
 go_quiet (fail)
 go_upto_region 4 with fail
 have BG2:=am (blk_drewN BG1.out nq)
 have BR2:=am (blk_drewN BR1.out nq)
 have BS2:=am (blk_drewN BS.out nq)
 have HB2:=am (pw_below_drewN HB1.out nq)
 clear cg fg cs0 cs1 cs2 cs3 cs4 cr0 cr1 cr2 co0 co1 co2 co3 co4 BG1 BR1 BS HB1;generalize w1.drewN nq=w2 at *
 have cg:w2.cell? ⟨g,0,none⟩=some (Value.slice (some ⟨go,0,none⟩) (m+1) co):=(blk_cell BG2.out 0).trans rfl
 have fg:=blk_frozen BG2.out 0
 obtain ⟨cs0,cs1,cs2,cs3,cs4⟩:=e5 BS2;obtain ⟨cr0,cr1,cr2⟩:=e3 BR2
 have HS5:=am (below_size HB2.out)
 have HO5:=am (Kd.R_below HO0.out HB2.out)
 have HB5:=am (HB0.out.trans (HB2.out.mono hbase))
 have hb5s:base≤w2.heap.size:=Nat.le_trans hbase HS5.out
 go_wp2_with (first | ((with_reducible refine gate_builtin (b:=.append) (xs:=#[.tmp 43,.tmp 45]) rfl ?_);(try (refine gate_guard (by rfl) ?_;dsimp only));at_builtin;(refine Kd.R_append k37 (w0:=w0) base rfl (.tmp 43) (.tmp 45) 22 37 (.agg #[(.int .i64 0),(.int .i64 0),(.int .i64 0),(.int .i64 0),(.int .i64 0)]) 40 rfl Tryz.underlying22 info37 rfl (by decide) (by omega) (Value.slice (some ⟨go,0,none⟩) (m+1) co) (xs) (⟨⟨⟨s1,s2⟩,⟨s3,s4⟩⟩,s5⟩:S37) [.int .i64 s1,.int .i64 s2,.int .i64 s3,.int .i64 s4,.int .i64 s5] ok (fun _=>False) rfl rfl ?aP (fun _ hk=>hk.elim) ?aF ?aO ?aB ?aS ?aL ?_;(case aP=>exact k37_mkM _ _ _ (⟨⟨⟨s1,s2⟩,⟨s3,s4⟩⟩,s5⟩:S37));(case aF=>exact (fun k_ hk=>HFR.out k_ (Nat.le_trans HS5.out hk)));(case aO=>exact HO5.out);(case aB=>exact HB5.out);(case aS=>exact hb5s);(case aL=>(have hl_:=HL.out;omega));intro v1 w6 ho hb hgr hat;obtain ⟨A6,c6,rfl⟩:=Kd.R_slice ho;have BG6:=am (blk_grown BG2.out hgr (Kd.R_away HO5.out HOK.out));have HO6:=am ho;have HB6:=am hb;have cg6:w6.cell? ⟨g,0,none⟩=some (Value.slice (some ⟨go,0,none⟩) (m+1) co):=(blk_cell BG6.out 0).trans rfl;have fg6:=blk_frozen BG6.out 0;have HG6:=am hgr;clear ho hb hgr hat)))
 go_end0
 exact ⟨rfl,_,blk_put BG6.out 0 _ rfl,by have hR:=Kd.R_far HO6.out (p:=⟨g,0,none⟩) HOK.out (Value.slice A6 (xs ++ [(⟨⟨⟨s1,s2⟩,⟨s3,s4⟩⟩,s5⟩:S37)]).length c6);simpa using hR,HB6.out.setCell hgb _,fun q o hq hne hov=>(Below.heap_setCell w6 ⟨g,0,none⟩ _ q hne).trans (blk_grown (blk_below hq HB2.out) HG6.out hov)⟩
theorem Tidy_add_apart (k:Nat) (s1 s2 s3 s4 s5:Int) (xs:List S37) (v:Value) (g gr base:Nat) (ok:Nat→Prop) (m:Nat) (o1 o2 o3 o4 o5:Int) (hm:xs.length=m+1) (ho:xs.getD m z37=(⟨⟨⟨o1,o2⟩,⟨o3,o4⟩⟩,o5⟩:S37)) (h5:o5=s5) (e1:span_Touch.f k o1 o2 o3 o4 s1 s2 s3 s4=some false) (w0 W:World) (HBw:Below base w0 W) (hbase:base≤W.heap.size)
 (hg:W.heap[g]? = some (.cells #[v] 22 (0,0))) (hgb:base≤g) (hgr:W.heap[gr]? = some (.cells #[.int .i64 0,.bool false,.int .i64 0] 77 (0,0))) (HO:Kd.R k37 37 W base ok v xs) (hok:∀ q,ok q→q≠g) (hfr:∀ q,W.heap.size≤q→ok q) (hl:xs.length < 3518437208883) :
 Calls Tryz.prog 82 #[.agg #[.int .i64 s1,.int .i64 s2,.int .i64 s3,.int .i64 s4,.int .i64 s5],.pointer (some ⟨g,0,none⟩),.pointer (some ⟨gr,0,none⟩)] W fun e w'=>e=.returned (.tuple #[]) ∧
  ∃ v',w'.heap[g]? = some (.cells #[v'] 22 (0,0))∧Kd.R k37 37 w' base ok v' (xs ++ [(⟨⟨⟨s1,s2⟩,⟨s3,s4⟩⟩,s5⟩:S37)])∧Below base w0 w'∧∀ (q:Nat) (o:Obj),W.heap[q]? = some o→q≠g→some q≠v.ownBlock→w'.heap[q]? = some o:=by
 have hn37:(k37.sz)=5:=rfl
 obtain ⟨go,co,hv,hbg,hgl,cells,hgo⟩:=Kd.R_form HO (by omega)
 rw [hm] at hv
 subst hv
 obtain ⟨ce,hcl,hM,hcc,hfr2⟩:=Kd.R_elem HO z37 (m:Int) (by omega) (by omega)
 rw [Int.toNat_natCast] at hM hcc hfr2
 rw [ho] at hM
 obtain rfl:=k37_openM hM
 have NGO:g≠go:=by
  intro e
  have h1:=HO.1 go (by simp [Value.ownBlock])
  exact hok go h1 e.symm
 have NRO:gr≠go:=by
  rintro rfl
  rw [hgr] at hgo
  injection hgo with hgo
  injection hgo with _ hgo _
  exact absurd hgo (by decide)
 have co0:W.cell? ⟨go,m * 5,none⟩=some (.int .i64 o1):=hcc 0 _ rfl
 have co1:W.cell? ⟨go,m * 5+1,none⟩=some (.int .i64 o2):=hcc 1 _ rfl
 have co2:W.cell? ⟨go,m * 5+2,none⟩=some (.int .i64 o3):=hcc 2 _ rfl
 have co3:W.cell? ⟨go,m * 5+3,none⟩=some (.int .i64 o4):=hcc 3 _ rfl
 have co4:W.cell? ⟨go,m * 5+4,none⟩=some (.int .i64 o5):=hcc 4 _ rfl
 have CO0:=am co0;have CO1:=am co1;have CO2:=am co2;have CO3:=am co3;have CO4:=am co4;clear co0 co1 co2 co3 co4 hcc hM hcl hfr2;have HM:=am hm;have HBG:=am hbg;have HGO:=am hgl;have HL:=am hl
 have HMB:(m:Int)+1≤9223372036854775807:=by omega
 have i0:(0:Int)≤(m:Int):=by omega
 have i1:(m:Int) < (m:Int)+1:=by omega
 have i2:(m:Int) < ((m+1:Nat):Int):=by omega
 have HOE:=am ho;clear hm ho hbg hgl hgo hl
 have d5:(o5 == s5)=true:=beq_iff_eq.2 h5
 have E1:=am e1;clear h5 e1;have hu37:=Tryz.underlying37;have hu35:=Tryz.underlying35;have hu33:=Tryz.underlying33;have hu77:=Tryz.underlying77;have BG:=am hg;have BR:=am hgr;have HO0:=am HO;have HB0:=am HBw;have HOK:=am hok;have HFR:=am hfr
 have HB:=am (Below.refl W.heap.size W)
 clear hg hgr HO HBw hok hfr;go_enter Tryz.func82,Tryz.ntmps82
 go_upto_region 1 with (first | ((with_reducible refine gate_dst (N:=3) rfl ?_);refine bxe (N:=3) (cs:=#[.int .i64 s1,.int .i64 s2,.int .i64 s3,.int .i64 s4,.int .i64 s5]) (t:=37) ?_;intro gs hgs w1 hbox hb;have BS:=am hbox;have HB1:=am hb;have BG1:=bkb BG hb;have BR1:=bkb BR hb;have NGS:g≠gs:=(by rw [hgs];exact Nat.ne_of_lt (blk_lt BG.out));have NRS:gr≠gs:=(by rw [hgs];exact Nat.ne_of_lt (blk_lt BR.out));clear hbox hb hgs))
 have cg:w1.cell? ⟨g,0,none⟩=some (Value.slice (some ⟨go,0,none⟩) (m+1) co):=(blk_cell BG1.out 0).trans rfl
 have fg:=blk_frozen BG1.out 0
 obtain ⟨cs0,cs1,cs2,cs3,cs4⟩:=e5 BS;obtain ⟨cr0,cr1,cr2⟩:=e3 BR1;have co0:=(HB1.out.cell (World.block_lt_of_cell? W _ CO0.out)).trans CO0.out;have co1:=(HB1.out.cell (World.block_lt_of_cell? W _ CO1.out)).trans CO1.out;have co2:=(HB1.out.cell (World.block_lt_of_cell? W _ CO2.out)).trans CO2.out;have co3:=(HB1.out.cell (World.block_lt_of_cell? W _ CO3.out)).trans CO3.out;have co4:=(HB1.out.cell (World.block_lt_of_cell? W _ CO4.out)).trans CO4.out
 go_upto_region 2 with fail
 have KT:=am (show w1.cell? ⟨g,0,none⟩=some (Value.slice (some ⟨go,0,none⟩) (m+1) co)∧w1.cell? ⟨gs,0,none⟩=some (.int .i64 s1)∧w1.cell? ⟨gs,1,none⟩=some (.int .i64 s2)∧w1.cell? ⟨gs,2,none⟩=some (.int .i64 s3)∧w1.cell? ⟨gs,3,none⟩=some (.int .i64 s4)∧w1.cell? ⟨gs,4,none⟩=some (.int .i64 s5)∧w1.cell? ⟨gr,0,none⟩=some (.int .i64 0)∧w1.cell? ⟨gr,1,none⟩=some (.bool false)∧w1.cell? ⟨gr,2,none⟩=some (.int .i64 0)∧w1.cell? ⟨go,m * 5,none⟩=some (.int .i64 o1)∧w1.cell? ⟨go,m * 5+1,none⟩=some (.int .i64 o2)∧w1.cell? ⟨go,m * 5+2,none⟩=some (.int .i64 o3)∧w1.cell? ⟨go,m * 5+3,none⟩=some (.int .i64 o4)∧w1.cell? ⟨go,m * 5+4,none⟩=some (.int .i64 o5) from ⟨cg,cs0,cs1,cs2,cs3,cs4,cr0,cr1,cr2,co0,co1,co2,co3,co4⟩)
 go_region_held3 (fun w'=>w'.cell? ⟨g,0,none⟩=some (Value.slice (some ⟨go,0,none⟩) (m+1) co)∧w'.cell? ⟨gs,0,none⟩=some (.int .i64 s1)∧w'.cell? ⟨gs,1,none⟩=some (.int .i64 s2)∧w'.cell? ⟨gs,2,none⟩=some (.int .i64 s3)∧w'.cell? ⟨gs,3,none⟩=some (.int .i64 s4)∧w'.cell? ⟨gs,4,none⟩=some (.int .i64 s5)∧w'.cell? ⟨gr,0,none⟩=some (.int .i64 0)∧w'.cell? ⟨gr,1,none⟩=some (.bool false)∧w'.cell? ⟨gr,2,none⟩=some (.int .i64 0)∧w'.cell? ⟨go,m * 5,none⟩=some (.int .i64 o1)∧w'.cell? ⟨go,m * 5+1,none⟩=some (.int .i64 o2)∧w'.cell? ⟨go,m * 5+2,none⟩=some (.int .i64 o3)∧w'.cell? ⟨go,m * 5+3,none⟩=some (.int .i64 o4)∧w'.cell? ⟨go,m * 5+4,none⟩=some (.int .i64 o5)) (first | exact keepT KT (by repeat (first | (with_reducible first | exact Below.refl _ _ | exact Y6.out | apply below_alloc | apply pw_below_drewN | apply below_drew1) | exact Below.refl _ _)))
  ((first | (go_at_call 83;(with_reducible refine (span_Touch.calls k o1 o2 o3 o4 s1 s2 s3 s4 false _ E1.out).mono ?_);rintro e w2 ⟨rfl,hb2⟩;have Y6:=am (below_step (w:=w1) (by repeat (first | (with_reducible first | exact Below.refl _ _ | apply below_alloc | apply pw_below_drewN | apply below_drew1) | exact Below.refl _ _)) hb2);clear hb2)))
 have BG2:=am (blk_below BG1.out Y6.out)
 have BR2:=am (blk_below BR1.out Y6.out)
 have BS2:=am (blk_below BS.out Y6.out)
 have HB2:=am (HB1.out.trans (Y6.out.mono (below_size HB1.out)))
 clear cg fg cs0 cs1 cs2 cs3 cs4 cr0 cr1 cr2 co0 co1 co2 co3 co4 BG1 BR1 BS HB1 KT
 have cg:w2.cell? ⟨g,0,none⟩=some (Value.slice (some ⟨go,0,none⟩) (m+1) co):=(blk_cell BG2.out 0).trans rfl
 have fg:=blk_frozen BG2.out 0
 obtain ⟨cs0,cs1,cs2,cs3,cs4⟩:=e5 BS2;obtain ⟨cr0,cr1,cr2⟩:=e3 BR2
 go_upto_region 4 with fail
 have HS5:=am (below_size HB2.out)
 have HO5:=am (Kd.R_below HO0.out HB2.out)
 have HB5:=am (HB0.out.trans (HB2.out.mono hbase))
 have hb5s:base≤w2.heap.size:=Nat.le_trans hbase HS5.out
 go_wp2_with (first | ((with_reducible refine gate_builtin (b:=.append) (xs:=#[.tmp 43,.tmp 45]) rfl ?_);(try (refine gate_guard (by rfl) ?_;dsimp only));at_builtin;(refine Kd.R_append k37 (w0:=w0) base rfl (.tmp 43) (.tmp 45) 22 37 (.agg #[(.int .i64 0),(.int .i64 0),(.int .i64 0),(.int .i64 0),(.int .i64 0)]) 40 rfl Tryz.underlying22 info37 rfl (by decide) (by omega) (Value.slice (some ⟨go,0,none⟩) (m+1) co) (xs) (⟨⟨⟨s1,s2⟩,⟨s3,s4⟩⟩,s5⟩:S37) [.int .i64 s1,.int .i64 s2,.int .i64 s3,.int .i64 s4,.int .i64 s5] ok (fun _=>False) rfl rfl ?aP (fun _ hk=>hk.elim) ?aF ?aO ?aB ?aS ?aL ?_;(case aP=>exact k37_mkM _ _ _ (⟨⟨⟨s1,s2⟩,⟨s3,s4⟩⟩,s5⟩:S37));(case aF=>exact (fun k_ hk=>HFR.out k_ (Nat.le_trans HS5.out hk)));(case aO=>exact HO5.out);(case aB=>exact HB5.out);(case aS=>exact hb5s);(case aL=>(have hl_:=HL.out;omega));intro v1 w6 ho hb hgr hat;obtain ⟨A6,c6,rfl⟩:=Kd.R_slice ho;have BG6:=am (blk_grown BG2.out hgr (Kd.R_away HO5.out HOK.out));have HO6:=am ho;have HB6:=am hb;have cg6:w6.cell? ⟨g,0,none⟩=some (Value.slice (some ⟨go,0,none⟩) (m+1) co):=(blk_cell BG6.out 0).trans rfl;have fg6:=blk_frozen BG6.out 0;have HG6:=am hgr;clear ho hb hgr hat)))
 go_end0
 exact ⟨rfl,_,blk_put BG6.out 0 _ rfl,by have hR:=Kd.R_far HO6.out (p:=⟨g,0,none⟩) HOK.out (Value.slice A6 (xs ++ [(⟨⟨⟨s1,s2⟩,⟨s3,s4⟩⟩,s5⟩:S37)]).length c6);simpa using hR,HB6.out.setCell hgb _,fun q o hq hne hov=>(Below.heap_setCell w6 ⟨g,0,none⟩ _ q hne).trans (blk_grown (blk_below hq HB2.out) HG6.out hov)⟩
theorem Tidy_add_join (k:Nat) (s1 s2 s3 s4 s5:Int) (xs:List S37) (v:Value) (g gr base:Nat) (ok:Nat→Prop) (m:Nat) (o1 o2 o3 o4 o5:Int) (hm:xs.length=m+1) (ho:xs.getD m z37=(⟨⟨⟨o1,o2⟩,⟨o3,o4⟩⟩,o5⟩:S37)) (h5:o5=s5) (e1:span_Touch.f k o1 o2 o3 o4 s1 s2 s3 s4=some true) (w0 W:World) (HBw:Below base w0 W) (hbase:base≤W.heap.size)
 (hg:W.heap[g]? = some (.cells #[v] 22 (0,0))) (hgb:base≤g) (hgr:W.heap[gr]? = some (.cells #[.int .i64 0,.bool false,.int .i64 0] 77 (0,0))) (HO:Kd.R k37 37 W base ok v xs) (hok:∀ q,ok q→q≠g) (hfr:∀ q,W.heap.size≤q→ok q) (hl:xs.length < 3518437208883) :
 Calls Tryz.prog 82 #[.agg #[.int .i64 s1,.int .i64 s2,.int .i64 s3,.int .i64 s4,.int .i64 s5],.pointer (some ⟨g,0,none⟩),.pointer (some ⟨gr,0,none⟩)] W fun e w'=>e=.returned (.tuple #[]) ∧
  ∃ v',w'.heap[g]? = some (.cells #[v'] 22 (0,0))∧Kd.R k37 37 w' base ok v' (xs.set m (⟨⟨⟨o1,o2⟩,⟨s3,s4⟩⟩,o5⟩:S37))∧Below base w0 w'∧∀ (q:Nat) (o:Obj),W.heap[q]? = some o→q≠g→some q≠v.ownBlock→w'.heap[q]? = some o:=by
 have hn37:(k37.sz)=5:=rfl
 obtain ⟨go,co,hv,hbg,hgl,cells,hgo⟩:=Kd.R_form HO (by omega)
 rw [hm] at hv
 subst hv
 obtain ⟨ce,hcl,hM,hcc,hfr2⟩:=Kd.R_elem HO z37 (m:Int) (by omega) (by omega)
 rw [Int.toNat_natCast] at hM hcc hfr2
 rw [ho] at hM
 obtain rfl:=k37_openM hM
 have NGO:g≠go:=by
  intro e
  have h1:=HO.1 go (by simp [Value.ownBlock])
  exact hok go h1 e.symm
 have NRO:gr≠go:=by
  rintro rfl
  rw [hgr] at hgo
  injection hgo with hgo
  injection hgo with _ hgo _
  exact absurd hgo (by decide)
 have co0:W.cell? ⟨go,m * 5,none⟩=some (.int .i64 o1):=hcc 0 _ rfl
 have co1:W.cell? ⟨go,m * 5+1,none⟩=some (.int .i64 o2):=hcc 1 _ rfl
 have co2:W.cell? ⟨go,m * 5+2,none⟩=some (.int .i64 o3):=hcc 2 _ rfl
 have co3:W.cell? ⟨go,m * 5+3,none⟩=some (.int .i64 o4):=hcc 3 _ rfl
 have co4:W.cell? ⟨go,m * 5+4,none⟩=some (.int .i64 o5):=hcc 4 _ rfl
 have CO0:=am co0;have CO1:=am co1;have CO2:=am co2;have CO3:=am co3;have CO4:=am co4;clear co0 co1 co2 co3 co4 hcc hM hcl hfr2;have HM:=am hm;have HBG:=am hbg;have HGO:=am hgl;have HL:=am hl
 have HMB:(m:Int)+1≤9223372036854775807:=by omega
 have i0:(0:Int)≤(m:Int):=by omega
 have i1:(m:Int) < (m:Int)+1:=by omega
 have i2:(m:Int) < ((m+1:Nat):Int):=by omega
 have HOE:=am ho;clear hm ho hbg hgl hgo hl
 have d5:(o5 == s5)=true:=beq_iff_eq.2 h5
 have E1:=am e1;clear h5 e1;have hu37:=Tryz.underlying37;have hu35:=Tryz.underlying35;have hu33:=Tryz.underlying33;have hu77:=Tryz.underlying77;have BG:=am hg;have BR:=am hgr;have HO0:=am HO;have HB0:=am HBw;have HOK:=am hok;have HFR:=am hfr
 have HB:=am (Below.refl W.heap.size W)
 clear hg hgr HO HBw hok hfr;go_enter Tryz.func82,Tryz.ntmps82
 go_upto_region 1 with (first | ((with_reducible refine gate_dst (N:=3) rfl ?_);refine bxe (N:=3) (cs:=#[.int .i64 s1,.int .i64 s2,.int .i64 s3,.int .i64 s4,.int .i64 s5]) (t:=37) ?_;intro gs hgs w1 hbox hb;have BS:=am hbox;have HB1:=am hb;have BG1:=bkb BG hb;have BR1:=bkb BR hb;have NGS:g≠gs:=(by rw [hgs];exact Nat.ne_of_lt (blk_lt BG.out));have NRS:gr≠gs:=(by rw [hgs];exact Nat.ne_of_lt (blk_lt BR.out));clear hbox hb hgs))
 have cg:w1.cell? ⟨g,0,none⟩=some (Value.slice (some ⟨go,0,none⟩) (m+1) co):=(blk_cell BG1.out 0).trans rfl
 have fg:=blk_frozen BG1.out 0
 obtain ⟨cs0,cs1,cs2,cs3,cs4⟩:=e5 BS;obtain ⟨cr0,cr1,cr2⟩:=e3 BR1;have co0:=(HB1.out.cell (World.block_lt_of_cell? W _ CO0.out)).trans CO0.out;have co1:=(HB1.out.cell (World.block_lt_of_cell? W _ CO1.out)).trans CO1.out;have co2:=(HB1.out.cell (World.block_lt_of_cell? W _ CO2.out)).trans CO2.out;have co3:=(HB1.out.cell (World.block_lt_of_cell? W _ CO3.out)).trans CO3.out;have co4:=(HB1.out.cell (World.block_lt_of_cell? W _ CO4.out)).trans CO4.out
 go_upto_region 2 with fail
 have KT:=am (show w1.cell? ⟨g,0,none⟩=some (Value.slice (some ⟨go,0,none⟩) (m+1) co)∧w1.cell? ⟨gs,0,none⟩=some (.int .i64 s1)∧w1.cell? ⟨gs,1,none⟩=some (.int .i64 s2)∧w1.cell? ⟨gs,2,none⟩=some (.int .i64 s3)∧w1.cell? ⟨gs,3,none⟩=some (.int .i64 s4)∧w1.cell? ⟨gs,4,none⟩=some (.int .i64 s5)∧w1.cell? ⟨gr,0,none⟩=some (.int .i64 0)∧w1.cell? ⟨gr,1,none⟩=some (.bool false)∧w1.cell? ⟨gr,2,none⟩=some (.int .i64 0)∧w1.cell? ⟨go,m * 5,none⟩=some (.int .i64 o1)∧w1.cell? ⟨go,m * 5+1,none⟩=some (.int .i64 o2)∧w1.cell? ⟨go,m * 5+2,none⟩=some (.int .i64 o3)∧w1.cell? ⟨go,m * 5+3,none⟩=some (.int .i64 o4)∧w1.cell? ⟨go,m * 5+4,none⟩=some (.int .i64 o5) from ⟨cg,cs0,cs1,cs2,cs3,cs4,cr0,cr1,cr2,co0,co1,co2,co3,co4⟩)
 go_region_held3 (fun w'=>w'.cell? ⟨g,0,none⟩=some (Value.slice (some ⟨go,0,none⟩) (m+1) co)∧w'.cell? ⟨gs,0,none⟩=some (.int .i64 s1)∧w'.cell? ⟨gs,1,none⟩=some (.int .i64 s2)∧w'.cell? ⟨gs,2,none⟩=some (.int .i64 s3)∧w'.cell? ⟨gs,3,none⟩=some (.int .i64 s4)∧w'.cell? ⟨gs,4,none⟩=some (.int .i64 s5)∧w'.cell? ⟨gr,0,none⟩=some (.int .i64 0)∧w'.cell? ⟨gr,1,none⟩=some (.bool false)∧w'.cell? ⟨gr,2,none⟩=some (.int .i64 0)∧w'.cell? ⟨go,m * 5,none⟩=some (.int .i64 o1)∧w'.cell? ⟨go,m * 5+1,none⟩=some (.int .i64 o2)∧w'.cell? ⟨go,m * 5+2,none⟩=some (.int .i64 o3)∧w'.cell? ⟨go,m * 5+3,none⟩=some (.int .i64 o4)∧w'.cell? ⟨go,m * 5+4,none⟩=some (.int .i64 o5)) (first | exact keepT KT (by repeat (first | (with_reducible first | exact Below.refl _ _ | exact Y6.out | apply below_alloc | apply pw_below_drewN | apply below_drew1) | exact Below.refl _ _)))
  ((first | (go_at_call 83;(with_reducible refine (span_Touch.calls k o1 o2 o3 o4 s1 s2 s3 s4 true _ E1.out).mono ?_);rintro e w2 ⟨rfl,hb2⟩;have Y6:=am (below_step (w:=w1) (by repeat (first | (with_reducible first | exact Below.refl _ _ | apply below_alloc | apply pw_below_drewN | apply below_drew1) | exact Below.refl _ _)) hb2);clear hb2)))
 have BG2:=am (blk_below BG1.out Y6.out)
 have BR2:=am (blk_below BR1.out Y6.out)
 have BS2:=am (blk_below BS.out Y6.out)
 have HB2:=am (HB1.out.trans (Y6.out.mono (below_size HB1.out)))
 clear cg fg cs0 cs1 cs2 cs3 cs4 cr0 cr1 cr2 co0 co1 co2 co3 co4 BG1 BR1 BS HB1 KT
 have cg:w2.cell? ⟨g,0,none⟩=some (Value.slice (some ⟨go,0,none⟩) (m+1) co):=(blk_cell BG2.out 0).trans rfl
 have fg:=blk_frozen BG2.out 0
 obtain ⟨cs0,cs1,cs2,cs3,cs4⟩:=e5 BS2;obtain ⟨cr0,cr1,cr2⟩:=e3 BR2;have co0:=(HB2.out.cell (World.block_lt_of_cell? W _ CO0.out)).trans CO0.out;have co1:=(HB2.out.cell (World.block_lt_of_cell? W _ CO1.out)).trans CO1.out;have co2:=(HB2.out.cell (World.block_lt_of_cell? W _ CO2.out)).trans CO2.out;have co3:=(HB2.out.cell (World.block_lt_of_cell? W _ CO3.out)).trans CO3.out;have co4:=(HB2.out.cell (World.block_lt_of_cell? W _ CO4.out)).trans CO4.out
 have HO2:=am (Kd.R_below HO0.out HB2.out)
 obtain ⟨ce,hcl,hM,hcc,hfr2⟩:=Kd.R_elem HO2.out z37 (m:Int) (by omega) (by omega)
 rw [Int.toNat_natCast] at hM hcc hfr2
 rw [HOE.out] at hM
 obtain rfl:=k37_openM hM;have HCL:=am hcl;have HCC:=am hcc
 have fo2:w2.frozen? ⟨go,m * 5+2,none⟩=false:=hfr2 2
 have fo3:w2.frozen? ⟨go,m * 5+3,none⟩=false:=hfr2 3
 clear hM hcc hfr2 hcl;go_wp2
 refine bodyPost_ret (results_none rfl _ _ _) rfl ?_
 have hP:=(Kd.R_seg HO2.out (m:Int) (by omega) (by omega) (seg:=[.int .i64 s3,.int .i64 s4]) (j:=2) HCL.out (by rw [Int.toNat_natCast];exact HCC.out) (show 4≤5 from by decide) (x':=(⟨⟨⟨o1,o2⟩,⟨s3,s4⟩⟩,o5⟩:S37)) (k37_mkM _ _ _ (⟨⟨⟨o1,o2⟩,⟨s3,s4⟩⟩,o5⟩:S37)) (fun _ hk=>hk)).1
 rw [Int.toNat_natCast] at hP
 exact ⟨rfl,Value.slice (some ⟨go,0,none⟩) (m+1) co,blk_far (p:=⟨go,m * 5+3,none⟩) (blk_far (p:=⟨go,m * 5+2,none⟩) BG2.out NGO _) NGO _,hP,((HB0.out.trans (HB2.out.mono hbase)).setCell (p:=⟨go,m * 5+2,none⟩) HBG.out _).setCell (p:=⟨go,m * 5+3,none⟩) HBG.out _,fun q o hq hne hov=>(Below.heap_setCell _ ⟨go,m * 5+3,none⟩ _ q (fun e=>hov (by rw [e];rfl))).trans ((Below.heap_setCell _ ⟨go,m * 5+2,none⟩ _ q (fun e=>hov (by rw [e];rfl))).trans (blk_below hq HB2.out))⟩
def imap_add.f (k:Nat) (xs:List S37) (s:S37):Option (List S37) :=
  if xs.length < 3518437208883 then
    (if xs.length=0 then some [s] else
     if (xs.getD (xs.length - 1) z37).f1=s.f1 then
       (span_Touch.f k (xs.getD (xs.length - 1) z37).f0.f0.f0 (xs.getD (xs.length - 1) z37).f0.f0.f1 (xs.getD (xs.length - 1) z37).f0.f1.f0 (xs.getD (xs.length - 1) z37).f0.f1.f1 s.f0.f0.f0 s.f0.f0.f1 s.f0.f1.f0 s.f0.f1.f1).bind fun t =>
         some (if t=true then xs.set (xs.length - 1) (⟨⟨(xs.getD (xs.length - 1) z37).f0.f0,s.f0.f1⟩,(xs.getD (xs.length - 1) z37).f1⟩:S37) else xs ++ [s])
     else some (xs ++ [s]))
  else none
def imap_Tidy.l0 (k:Nat) (xs:List S37):List S37→Option (List S37)
 | []=>some xs
 | s :: l=>(imap_add.f k xs s).bind fun ys=>imap_Tidy.l0 k ys l
def imap_Tidy.f (k:Nat) (a0:Int) (a1:Bool) (a2:Int) (l:List S37):Option (List S37) :=
 if a0=0 then (if a1=false then (if a2=0 then (if l.length < 1000000 then (imap_spans.f k l).bind fun sp=>(span_Sorted.f k sp).bind fun b=>if b=true then imap_Tidy.l0 k [] l else some [] else none) else none) else none) else none
theorem imap_add.calls (k:Nat) (s1 s2 s3 s4 s5:Int) (xs r:List S37) (v:Value) (g gr base:Nat) (ok:Nat→Prop) (w0 W:World) (HBw:Below base w0 W) (hbase:base≤W.heap.size)
 (hg:W.heap[g]? = some (.cells #[v] 22 (0,0))) (hgb:base≤g) (hgr:W.heap[gr]? = some (.cells #[.int .i64 0,.bool false,.int .i64 0] 77 (0,0))) (HO:Kd.R k37 37 W base ok v xs) (hok:∀ q,ok q→q≠g) (hfr:∀ q,W.heap.size≤q→ok q) (h:imap_add.f k xs (⟨⟨⟨s1,s2⟩,⟨s3,s4⟩⟩,s5⟩:S37)=some r) :
 Calls Tryz.prog 82 #[.agg #[.int .i64 s1,.int .i64 s2,.int .i64 s3,.int .i64 s4,.int .i64 s5],.pointer (some ⟨g,0,none⟩),.pointer (some ⟨gr,0,none⟩)] W fun e w'=>e=.returned (.tuple #[]) ∧
  ∃ v',w'.heap[g]? = some (.cells #[v'] 22 (0,0))∧Kd.R k37 37 w' base ok v' r∧Below base w0 w'∧∀ (q:Nat) (o:Obj),W.heap[q]? = some o→q≠g→some q≠v.ownBlock→w'.heap[q]? = some o:=by
 unfold imap_add.f at h
 by_cases hl:xs.length < 3518437208883
 ·rw [if_pos hl] at h
  by_cases h0:xs.length=0
  ·rw [if_pos h0] at h
   obtain rfl:=Option.some.inj h;obtain rfl:=List.eq_nil_of_length_eq_zero h0
   exact Tidy_add_nil k s1 s2 s3 s4 s5 v g gr base ok w0 W HBw hbase hg hgb hgr HO hok hfr
  ·rw [if_neg h0] at h
   obtain ⟨m,hm⟩:∃ m,xs.length=m+1:=⟨xs.length - 1,by omega⟩
   rw [hm,Nat.add_sub_cancel] at h
   obtain ⟨⟨⟨⟨o1,o2⟩,⟨o3,o4⟩⟩,o5⟩,ho⟩:∃ o:S37,xs.getD m z37=o:=⟨_,rfl⟩
   rw [ho] at h
   dsimp only at h
   by_cases h5:o5=s5
   ·rw [if_pos h5] at h
    obtain ⟨t,e1,h⟩:=Option.bind_eq_some_iff.1 h
    obtain rfl:=Option.some.inj h;cases t
    ·exact Tidy_add_apart k s1 s2 s3 s4 s5 xs v g gr base ok m o1 o2 o3 o4 o5 hm ho h5 e1 w0 W HBw hbase hg hgb hgr HO hok hfr hl
    ·exact Tidy_add_join k s1 s2 s3 s4 s5 xs v g gr base ok m o1 o2 o3 o4 o5 hm ho h5 e1 w0 W HBw hbase hg hgb hgr HO hok hfr hl
   ·rw [if_neg h5] at h
    obtain rfl:=Option.some.inj h
    exact Tidy_add_other k s1 s2 s3 s4 s5 xs v g gr base ok m o1 o2 o3 o4 o5 hm ho h5 w0 W HBw hbase hg hgb hgr HO hok hfr hl
 ·rw [if_neg hl] at h;cases h
theorem imap_add.mono (xs:List S37) (s:S37) (k:Nat):LeO (imap_add.f k xs s) (imap_add.f (k+1) xs s):=by
 unfold imap_add.f
 exact LeO.ite (LeO.ite (LeO.refl _) (LeO.ite (LeO.bind (span_Touch.mono _ _ _ _ _ _ _ _ _) (fun _=>LeO.refl _)) (LeO.refl _))) (LeO.refl _)
theorem imap_Tidy.l0_mono (k:Nat):∀ (l xs:List S37),LeO (imap_Tidy.l0 k xs l) (imap_Tidy.l0 (k+1) xs l)
 | [],_=>LeO.refl _
 | s :: l,xs=>by
  unfold imap_Tidy.l0
  exact LeO.bind (imap_add.mono _ _ _) (fun _=>imap_Tidy.l0_mono k l _)
theorem imap_Tidy.walk (k:Nat) (A1:Option Addr) (c1:Nat) (l r:List S37) (sp:List S35) (w:World) (hr1:Kd.C k37 w A1 l.length l) (hc1:l.length≤c1) (hlen:l.length < 1000000) (e1:imap_spans.f k l=some sp) (e2:span_Sorted.f k sp=some true) (e3:imap_Tidy.l0 k [] l=some r) :
 Calls Tryz.prog 52 #[.agg #[.int .i64 0,.bool false,.int .i64 0],.slice A1 l.length c1] w fun e w'=>∃ v0_:Value,e=.returned (v0_)∧Kd.R k37 37 w' w.heap.size (fun _=>True) v0_ r∧Below w.heap.size w w':=by
 have HR1:=am hr1;have HC1:=am hc1;have HLEN:=am hlen;have E1:=am e1;have E2:=am e2;have E3:=am e3
 have HB:=am (Below.refl w.heap.size w)
 have hu77:=Tryz.underlying77;have hu37:=Tryz.underlying37
 obtain ⟨n,hn⟩:∃ n,l.length=n:=⟨_,rfl⟩
 rw [hn]
 have HN:=am hn
 have nb:(n:Int)≤1000000:=by omega
 have SPC:∀ {W:World},Kd.C k37 W A1 l.length l→Calls Tryz.prog 81 #[.slice A1 n c1] W fun e w'=>∃ v0_:Value,e=.returned (v0_)∧Kd.R k35 35 w' W.heap.size (fun _=>True) v0_ sp∧Below W.heap.size W w':=by
  intro W hc
  have h:=imap_spans.calls k A1 c1 l sp W hc hc1 e1
  rw [hn] at h
  exact h
 clear hr1 hc1 hlen e1 e2 e3 hn;go_enter Tryz.func52,Tryz.ntmps52
 go_upto_region 3 with (first | ((with_reducible refine gate_dst (N:=2) rfl ?_);refine bxe (N:=2) (cs:=#[.int .i64 0,.bool false,.int .i64 0]) (t:=77) ?_;intro gr hgr w1 hbox hb;have BR:=am hbox;have HB1:=am hb;have GR:w.heap.size≤gr:=(by rw [hgr];exact Nat.le_refl _);clear hbox hb hgr HB) | (go_at_call 81;(with_reducible refine (SPC (Kd.C_below HR1.out HB1.out)).mono ?_);rintro e w2 ⟨v1,rfl,ho0,hb⟩;obtain ⟨A2,c2,rfl⟩:=Kd.R_slice ho0;have BR2:=bkb BR hb;have HO1:=am ho0;have HB2:=bst HB1 hb;clear ho0 hb HB1) | (go_at_call 80;(with_reducible refine (span_Sorted.calls k A2 c2 sp true _ (Kd.R_reads' HO1.out).2.2 (Kd.R_reads' HO1.out).2.1 E2.out).mono ?_);rintro e w3 ⟨rfl,hb⟩;have BR3:=bkb BR2 hb;have HB3:=bst HB2 hb;clear hb HB2 BR2 BR HO1))
 go_upto_region 7 with (first | ((with_reducible refine gate_dst (N:=5) rfl ?_);refine bxe (N:=5) (cs:=#[.slice none 0 0]) (t:=22) ?_;intro g hgg w4 hbox hb;have BG4:=am hbox;have BR4:=bkb BR3 hb;have HB4:=bst HB3 hb;have NGR:gr≠g:=(by rw [hgg];exact Nat.ne_of_lt (blk_lt BR3.out));have GG:w.heap.size≤g:=(by rw [hgg];exact below_size HB3.out);clear hbox hb hgg HB3 BR3))
 go_loopg [16] (n+1) (fun kq v16 w'=>∃ (j:Nat) (xs:List S37) (v:Value),v16=.int .i64 (j:Int)∧Aside0 (kq+j=n+1)∧Aside0 (j≤n)∧Aside0 (imap_Tidy.l0 k xs (l.drop j)=some r)∧Aside0 (w'.heap[g]? = some (.cells #[v] 22 (0,0)))∧Aside0 (w'.heap[gr]? = some (.cells #[.int .i64 0,.bool false,.int .i64 0] 77 (0,0)))∧Aside0 (Kd.R k37 37 w' w.heap.size (fun q=>q≠g∧q≠gr) v xs)∧Aside0 (Below w.heap.size w w'))
 case atStart=>exact ⟨0,[],.slice none 0 0,rfl,⟨rfl⟩,⟨Nat.zero_le _⟩,E3,BG4,BR4,⟨Kd.R_nil _ _ _ _ _⟩,HB4⟩
 case round =>
  clear BG4 BR4 HB4
  obtain ⟨j,xs,v,rfl,HK,HJ,HA,BG5,BR5,HO5,HB5⟩:=hrel
  by_cases hj:j < n
  ·have HJN:=am hj
   have bj:decide ((j:Int) < (n:Int))=true:=decide_eq_true (by omega)
   have p1:0≤(j:Int):=Int.natCast_nonneg j
   have q1:(j:Int) < (l.length:Int):=by rw [HN.out];omega
   have q2:(j:Int) < (n:Int):=by omega
   have HD:l.drop j=rd_T37 l (j:Int) :: l.drop (j+1):=by
    have hj2:j < l.length:=by rw [HN.out];exact hj
    rw [List.drop_eq_getElem_cons hj2]
    congr 1
    simp [rd_T37,hj2]
   obtain ⟨ad,ea,hx0,hx1,hx2,hx3,hx4⟩:=at_T37 HR1.out (j:Int) p1 q1;cases ea;have HA2:=HA.out
   rw [HD] at HA2
   obtain ⟨⟨⟨⟨s1,s2⟩,⟨s3,s4⟩⟩,s5⟩,hs⟩:∃ s:S37,rd_T37 l (j:Int)=s:=⟨_,rfl⟩
   rw [hs] at hx0 hx1 hx2 hx3 hx4 HA2
   simp only [Int.toNat_natCast] at hx0 hx1 hx2 hx3 hx4
   unfold imap_Tidy.l0 at HA2
   obtain ⟨ys,ea1,HA3⟩:=Option.bind_eq_some_iff.1 HA2
   have EA:=am ea1;have HA4:=am HA3;clear ea1 HA3 HA2 HA HD hs;replace hx0:=cl HB5 hx0;replace hx1:=cl HB5 hx1;replace hx2:=cl HB5 hx2;replace hx3:=cl HB5 hx3;replace hx4:=cl HB5 hx4;replace p1:=eq_true p1;replace q2:=eq_true q2
   go_upto_region 8 with (first | ((with_reducible refine gate_dst (N:=8) rfl ?_);refine bxe (N:=8) (cs:=#[.int .i64 0,.int .i64 0,.int .i64 0,.int .i64 0,.int .i64 0]) (t:=37) ?_;intro gs hgs w6 hbox hb;have BS6:=am hbox;have BG6:=bkb BG5 hb;have BR6:=bkb BR5 hb;have HO6:=am (Kd.R_mono (ok':=fun q=>(q≠g∧q≠gr)∧q≠gs) (Kd.R_below (Kd.R_bound HO5.out) hb) (fun q hq=>⟨hq.1,by rw [hgs];exact Nat.ne_of_lt hq.2.2.1⟩));have NGS:g≠gs:=(by rw [hgs];exact Nat.ne_of_lt (blk_lt BG5.out));have NRS:gr≠gs:=(by rw [hgs];exact Nat.ne_of_lt (blk_lt BR5.out));have GS:w.heap.size≤gs:=(by rw [hgs];exact below_size HB5.out);have HB6:=bst HB5 hb;replace hx0:=(hb.cell (World.block_lt_of_cell? _ _ hx0)).trans hx0;replace hx1:=(hb.cell (World.block_lt_of_cell? _ _ hx1)).trans hx1;replace hx2:=(hb.cell (World.block_lt_of_cell? _ _ hx2)).trans hx2;replace hx3:=(hb.cell (World.block_lt_of_cell? _ _ hx3)).trans hx3;replace hx4:=(hb.cell (World.block_lt_of_cell? _ _ hx4)).trans hx4;have hcz0:w6.cell? ⟨gs,0,none⟩=some (.int .i64 0):=(blk_cell BS6.out 0).trans rfl;have fz0:=blk_frozen BS6.out 0;have hcz1:w6.cell? ⟨gs,1,none⟩=some (.int .i64 0):=(blk_cell BS6.out 1).trans rfl;have fz1:=blk_frozen BS6.out 1;have hcz2:w6.cell? ⟨gs,2,none⟩=some (.int .i64 0):=(blk_cell BS6.out 2).trans rfl;have fz2:=blk_frozen BS6.out 2;have hcz3:w6.cell? ⟨gs,3,none⟩=some (.int .i64 0):=(blk_cell BS6.out 3).trans rfl;have fz3:=blk_frozen BS6.out 3;have hcz4:w6.cell? ⟨gs,4,none⟩=some (.int .i64 0):=(blk_cell BS6.out 4).trans rfl;have fz4:=blk_frozen BS6.out 4;obtain ⟨cr0,cr1,cr2⟩:=e3 BR6;clear hbox hb hgs))
   have BS7:Aside0 ((((((w6.setCell ⟨gs,0,none⟩ (.int .i64 s1)).setCell ⟨gs,1,none⟩ (.int .i64 s2)).setCell ⟨gs,2,none⟩ (.int .i64 s3)).setCell ⟨gs,3,none⟩ (.int .i64 s4)).setCell ⟨gs,4,none⟩ (.int .i64 s5)).heap[gs]? = some (.cells #[.int .i64 s1,.int .i64 s2,.int .i64 s3,.int .i64 s4,.int .i64 s5] 37 (0,0))):=⟨(blk_put (blk_put (blk_put (blk_put (blk_put BS6.out 0 (.int .i64 s1) rfl) 1 (.int .i64 s2) rfl) 2 (.int .i64 s3) rfl) 3 (.int .i64 s4) rfl) 4 (.int .i64 s5) rfl)⟩
   have HO7:Aside0 (Kd.R k37 37 (((((w6.setCell ⟨gs,0,none⟩ (.int .i64 s1)).setCell ⟨gs,1,none⟩ (.int .i64 s2)).setCell ⟨gs,2,none⟩ (.int .i64 s3)).setCell ⟨gs,3,none⟩ (.int .i64 s4)).setCell ⟨gs,4,none⟩ (.int .i64 s5)) w.heap.size (fun q=>(q≠g∧q≠gr)∧q≠gs) v xs):=⟨(Kd.R_far (Kd.R_far (Kd.R_far (Kd.R_far (Kd.R_far HO6.out (p:=⟨gs,0,none⟩) (fun q hq=>hq.2) (.int .i64 s1)) (p:=⟨gs,1,none⟩) (fun q hq=>hq.2) (.int .i64 s2)) (p:=⟨gs,2,none⟩) (fun q hq=>hq.2) (.int .i64 s3)) (p:=⟨gs,3,none⟩) (fun q hq=>hq.2) (.int .i64 s4)) (p:=⟨gs,4,none⟩) (fun q hq=>hq.2) (.int .i64 s5))⟩
   have BG7:Aside0 ((((((w6.setCell ⟨gs,0,none⟩ (.int .i64 s1)).setCell ⟨gs,1,none⟩ (.int .i64 s2)).setCell ⟨gs,2,none⟩ (.int .i64 s3)).setCell ⟨gs,3,none⟩ (.int .i64 s4)).setCell ⟨gs,4,none⟩ (.int .i64 s5)).heap[g]? = some (.cells #[v] 22 (0,0))):=⟨by repeat (first | (rw [Below.heap_setCell _ _ _ g NGS]) | exact BG6.out)⟩
   have BR7:Aside0 ((((((w6.setCell ⟨gs,0,none⟩ (.int .i64 s1)).setCell ⟨gs,1,none⟩ (.int .i64 s2)).setCell ⟨gs,2,none⟩ (.int .i64 s3)).setCell ⟨gs,3,none⟩ (.int .i64 s4)).setCell ⟨gs,4,none⟩ (.int .i64 s5)).heap[gr]? = some (.cells #[.int .i64 0,.bool false,.int .i64 0] 77 (0,0))):=⟨by repeat (first | (rw [Below.heap_setCell _ _ _ gr NRS]) | exact BR6.out)⟩
   have HB7:Aside0 (Below w.heap.size w (((((w6.setCell ⟨gs,0,none⟩ (.int .i64 s1)).setCell ⟨gs,1,none⟩ (.int .i64 s2)).setCell ⟨gs,2,none⟩ (.int .i64 s3)).setCell ⟨gs,3,none⟩ (.int .i64 s4)).setCell ⟨gs,4,none⟩ (.int .i64 s5))):=⟨by repeat (first | refine below_set ?_ GS | exact HB6.out)⟩
   clear BS6 HO6 BG6 BR6 HB6 hcz0 hcz1 hcz2 hcz3 hcz4 fz0 fz1 fz2 fz3 fz4 cr0 cr1 cr2 hx0 hx1 hx2 hx3 hx4;generalize hw7:(((((w6.setCell ⟨gs,0,none⟩ (.int .i64 s1)).setCell ⟨gs,1,none⟩ (.int .i64 s2)).setCell ⟨gs,2,none⟩ (.int .i64 s3)).setCell ⟨gs,3,none⟩ (.int .i64 s4)).setCell ⟨gs,4,none⟩ (.int .i64 s5))=w7 at BS7 HO7 BG7 BR7 HB7 ⊢;clear hw7;obtain ⟨_,_,_,_,_⟩:=e5 BS7;obtain ⟨cr0,cr1,cr2⟩:=e3 BR7
   go_wp2_with (go_at_call 82;(with_reducible refine (imap_add.calls k s1 s2 s3 s4 s5 xs ys v g gr w.heap.size (fun q=>(q≠g∧q≠gr)∧q≠gs) w w7 HB7.out (below_size HB7.out) BG7.out GG BR7.out HO7.out (fun q hq=>hq.1.1) (fun q hq=>⟨⟨fun h=>absurd (blk_lt BG7.out) (by omega),fun h=>absurd (blk_lt BR7.out) (by omega)⟩,fun h=>absurd (blk_lt BS7.out) (by omega)⟩) EA.out).mono ?_);rintro e w8 ⟨rfl,v8,hg8,ho8,hb8,hk8⟩)
   have HR8:Aside0 (w8.heap[gr]? = some (.cells #[.int .i64 0,.bool false,.int .i64 0] 77 (0,0))):=⟨hk8 gr _ BR7.out NGR (fun h=>(HO7.out.1 gr h.symm).1.2 rfl)⟩
   have HG8:=am hg8
   have HO8:=am (Kd.R_mono (ok':=fun q=>q≠g∧q≠gr) ho8 (fun q hq=>hq.1))
   have HB8:=am hb8
   have hw:wrap64 ((j:Int)+1)=((j+1:Nat):Int):=by
    have:=HN.out;have:=HLEN.out
    unfold wrap64;push_cast;omega
   clear hg8 ho8 hb8 hk8
   obtain ⟨k1,rfl⟩:∃ k1,gk=k1+1:=⟨gk - 1,by have:=HK.out;omega⟩
   go_roundg k1
   case measure=>omega
   case rel=>exact ⟨j+1,ys,v8,by first | rfl | (rw [← hw];rfl) | simp [hw],⟨by have:=HK.out;omega⟩,⟨by omega⟩,HA4,HG8,HR8,HO8,HB8⟩
  ·have bj:decide ((j:Int) < (n:Int))=false:=decide_eq_false (by omega)
   have hjn:j=n:=by have:=HJ.out;omega
   have HA2:=HA.out
   rw [List.drop_eq_nil_of_le (by rw [HN.out];omega)] at HA2
   obtain rfl:=Option.some.inj HA2
   have cg:wr.cell? ⟨g,0,none⟩=some v:=(blk_cell BG5.out 0).trans rfl
   go_wp2;go_ret
   exact ⟨_,rfl,Kd.R_mono HO5.out (fun _ _=>trivial),HB5.out⟩
theorem imap_Tidy.bad (k:Nat) (A1:Option Addr) (c1:Nat) (l:List S37) (sp:List S35) (w:World) (hr1:Kd.C k37 w A1 l.length l) (hc1:l.length≤c1) (e1:imap_spans.f k l=some sp) (e2:span_Sorted.f k sp=some false) :
 Calls Tryz.prog 52 #[.agg #[.int .i64 0,.bool false,.int .i64 0],.slice A1 l.length c1] w fun e w'=>∃ v0_:Value,e=.returned (v0_)∧Kd.R k37 37 w' w.heap.size (fun _=>True) v0_ []∧Below w.heap.size w w':=by
 have HR1:=am hr1;have HC1:=am hc1;have E1:=am e1;have E2:=am e2
 have HB:=am (Below.refl w.heap.size w)
 have hu77:=Tryz.underlying77;have hu37:=Tryz.underlying37
 obtain ⟨n,hn⟩:∃ n,l.length=n:=⟨_,rfl⟩
 rw [hn]
 have HN:=am hn
 have SPC:∀ {W:World},Kd.C k37 W A1 l.length l→Calls Tryz.prog 81 #[.slice A1 n c1] W fun e w'=>∃ v0_:Value,e=.returned (v0_)∧Kd.R k35 35 w' W.heap.size (fun _=>True) v0_ sp∧Below W.heap.size W w':=by
  intro W hc
  have h:=imap_spans.calls k A1 c1 l sp W hc hc1 e1
  rw [hn] at h
  exact h
 clear hr1 hc1 e1 e2 hn;go_enter Tryz.func52,Tryz.ntmps52
 go_wp2_with (first | ((with_reducible refine gate_dst (N:=2) rfl ?_);refine bxe (N:=2) (cs:=#[.int .i64 0,.bool false,.int .i64 0]) (t:=77) ?_;intro gr hgr w1 hbox hb;have BR:=am hbox;have HB1:=am hb;have GR:w.heap.size≤gr:=(by rw [hgr];exact Nat.le_refl _);clear hbox hb hgr HB) | (go_at_call 81;(with_reducible refine (SPC (Kd.C_below HR1.out HB1.out)).mono ?_);rintro e w2 ⟨v1,rfl,ho0,hb⟩;obtain ⟨A2,c2,rfl⟩:=Kd.R_slice ho0;have BR2:=bkb BR hb;have HO1:=am ho0;have HB2:=bst HB1 hb;clear ho0 hb HB1) | (go_at_call 80;(with_reducible refine (span_Sorted.calls k A2 c2 sp false _ (Kd.R_reads' HO1.out).2.2 (Kd.R_reads' HO1.out).2.1 E2.out).mono ?_);rintro e w3 ⟨rfl,hb⟩;have BR3:=bkb BR2 hb;have HB3:=bst HB2 hb;clear hb HB2 BR2 BR HO1))
 go_ret
 exact ⟨_,rfl,Kd.R_nil _ _ _ _ _,HB3.out⟩
theorem imap_Tidy.mono:∀ a0 a1 a2 a3 k,LeO (imap_Tidy.f k a0 a1 a2 a3) (imap_Tidy.f (k+1) a0 a1 a2 a3):=by
 intro a0 a1 a2 a3 k
 unfold imap_Tidy.f
 exact LeO.ite (LeO.ite (LeO.ite (LeO.ite (LeO.bind (imap_spans.mono _ _) (fun _=>LeO.bind (span_Sorted.mono _ _) (fun _=>LeO.ite (imap_Tidy.l0_mono _ _ _) (LeO.refl _)))) (LeO.refl _)) (LeO.refl _)) (LeO.refl _)) (LeO.refl _)
theorem imap_Tidy.calls (k:Nat) (a0_0:Int) (a0_1:Bool) (a0_2:Int) (A1:Option Addr) (c1:Nat) (l1:List (S37)) (r:List (S37)) (w:World) (hr1:Kd.C k37 w A1 l1.length l1) (hc1:l1.length≤c1) (h:imap_Tidy.f k a0_0 a0_1 a0_2 l1=some r) :
 Calls Tryz.prog 52 #[.agg #[.int .i64 a0_0,.bool a0_1,.int .i64 a0_2],.slice A1 l1.length c1] w fun e w'=>∃ v0_:Value,e=.returned (v0_)∧Kd.R k37 37 w' w.heap.size (fun _=>True) v0_ r∧Below w.heap.size w w':=by
 unfold imap_Tidy.f at h
 by_cases h0:a0_0=0
 ·rw [if_pos h0] at h
  by_cases h1:a0_1=false
  ·rw [if_pos h1] at h
   by_cases h2:a0_2=0
   ·rw [if_pos h2] at h
    by_cases h3:l1.length < 1000000
    ·rw [if_pos h3] at h
     obtain ⟨sp,e1,h⟩:=Option.bind_eq_some_iff.1 h
     obtain ⟨b,e2,h⟩:=Option.bind_eq_some_iff.1 h
     subst h0 h1 h2
     cases b
     ·obtain rfl:=Option.some.inj h
      exact imap_Tidy.bad k A1 c1 l1 sp w hr1 hc1 e1 e2
     ·exact imap_Tidy.walk k A1 c1 l1 r sp w hr1 hc1 h3 e1 e2 h
    ·rw [if_neg h3] at h;cases h
   ·rw [if_neg h2] at h;cases h
  ·rw [if_neg h1] at h;cases h
 ·rw [if_neg h0] at h;cases h
end Go.Proofs.YtbcpnejdbookkaaGreat.Print
namespace Go.Proofs.YtbcpnejdbookkaaGreat.Print
open Go.RowKit Go.Proofs.YtbcpnejdbookkaaGreatW.PrintWords Go.Proofs.YtbcpnejdbookkaaGreatW.PrintLast Go.Proofs.YtbcpnejdbookkaaGreatW.PrintMore
attribute [local go_sem] max2_int min2_int max_two min_two max_three min_three max_four min_four   -- for this text's walks alone
def mapalg_Merge.f (k:Nat) (l0:List (S37)):Option ((List (S37))):=(imap_Tidy.f k 0 false 0 l0).bind fun t151=>(some t151)
theorem mapalg_Merge.mono:∀ a0 k,LeO (mapalg_Merge.f k a0) (mapalg_Merge.f (k+1) a0):=by
 intro a0 k
 unfold mapalg_Merge.f
 repeat' with_reducible first | apply imap_Tidy.mono | apply lr | apply ln | apply li | refine lb ?_ fun _=>?_
theorem mapalg_Merge.calls (k:Nat) (A0:Option Addr) (c0:Nat) (l0:List (S37)) (r:List (S37)) (w:World) (hr0:Kd.C k37 w A0 l0.length l0) (hc0:l0.length≤c0) (h:mapalg_Merge.f k l0=some r) :
 Calls Tryz.prog 16 #[.slice A0 l0.length c0] w fun e w'=>∃ v0_:Value,e=.returned (v0_)∧Kd.R k37 37 w' w.heap.size (fun _=>True) v0_ r∧Below w.heap.size w w':=by
 have hu77:=Tryz.underlying77;have HR0:=am hr0;have HC0:=am hc0;clear hr0 hc0
 have HB:=am (Below.refl w.heap.size w)
 unfold mapalg_Merge.f at h;have H:=h;clear h;revert H;refine bnd fun t151 A2 H=>?_
 obtain rfl:=Option.some.inj H;go_enter Tryz.func16,Tryz.ntmps16
 go_wp2_with (first | ((with_reducible refine gate_callee (f:=52) rfl ?_);refine gol (some 5) Tryz.func52 #[.agg #[.int .i64 0,.bool false,.int .i64 0],.slice A0 l0.length c0] ?_;(with_reducible refine (imap_Tidy.calls _ _ _ _ _ _ _ _ _ ?side1 ?side2 A2.out).mono ?_);(case side1=>repeat (first | exact HR0.out | (with_reducible refine Kd.C_alloc ?_ _) | (with_reducible refine Kd.C_drewN ?_ _) | (with_reducible refine Kd.C_drew ?_)));(case side2=>exact HC0.out);rintro e w3 ⟨v152,rfl,ho0,hb⟩;refine ⟨_,rfl,?_⟩;have HO153:=kw ho0 HB;replace HB:=bst HB hb;clear hb ho0))
 go_ret;exact endK HO153 HB
def mapalg_spans.l0:Nat→List (S35)→List (S37)→Int→Int→Option ((List (S35)))
 | 0,_,_,_,_=>none
 | k+1,x3,x7,x8,x9=>if x9 < x8 then (if 0≤x9 then (if x9 < (x7.length:Int) then (if x3.length < 4398046511104 then (mapalg_spans.l0 k (x3 ++ [(⟨(⟨(rd_T37 x7 x9).f0.f0.f0,(rd_T37 x7 x9).f0.f0.f1⟩:S33),(⟨(rd_T37 x7 x9).f0.f1.f0,(rd_T37 x7 x9).f0.f1.f1⟩:S33)⟩:S35)]) x7 x8 (wrap64 (x9+1))) else (none)) else (none)) else (none)) else (some x3)
def mapalg_spans.f (k:Nat) (l0:List (S37)):Option ((List (S35))):=(mapalg_Merge.f k l0).bind fun t154=>(mapalg_spans.l0 k ([]:List (S35)) t154 (t154.length:Int) 0)
theorem mapalg_spans.mono_l:∀ k,(∀ y0 y1 y2 y3,LeO (mapalg_spans.l0 k y0 y1 y2 y3) (mapalg_spans.l0 (k+1) y0 y1 y2 y3))
 | 0=>fun _ _ _ _ r h=>by simp [mapalg_spans.l0] at h
 | k+1=>by
  have ih0:=mapalg_spans.mono_l k
  ·intro y0 y1 y2 y3
   unfold mapalg_spans.l0
   repeat' with_reducible first | apply ih0 | apply mapalg_Merge.mono | apply lr | apply ln | apply li | refine lb ?_ fun _=>?_
theorem mapalg_spans.mono:∀ a0 k,LeO (mapalg_spans.f k a0) (mapalg_spans.f (k+1) a0):=by
 intro a0 k
 have ih0:=mapalg_spans.mono_l k
 unfold mapalg_spans.f
 repeat' with_reducible first | apply ih0 | apply mapalg_Merge.mono | apply lr | apply ln | apply li | refine lb ?_ fun _=>?_
theorem mapalg_spans.calls (k:Nat) (A0:Option Addr) (c0:Nat) (l0:List (S37)) (r:List (S35)) (w:World) (hr0:Kd.C k37 w A0 l0.length l0) (hc0:l0.length≤c0) (h:mapalg_spans.f k l0=some r) :
 Calls Tryz.prog 70 #[.slice A0 l0.length c0] w fun e w'=>∃ v0_:Value,e=.returned (v0_)∧Kd.R k35 35 w' w.heap.size (fun _=>True) v0_ r∧Below w.heap.size w w':=by
 have hu37:=Tryz.underlying37;have hu35:=Tryz.underlying35;have HR0:=am hr0;have HC0:=am hc0;clear hr0 hc0
 have HB:=am (Below.refl w.heap.size w)
 unfold mapalg_spans.f at h;have H:=h;clear h;revert H;refine bnd fun t154 A2 H=>?_
 have H':=am H;clear H;go_enter Tryz.func70,Tryz.ntmps70
 go_wp2_with (first | ((with_reducible refine gate_callee (f:=16) rfl ?_);refine gol (some 7) Tryz.func16 #[.slice A0 l0.length c0] ?_;(with_reducible refine (mapalg_Merge.calls _ _ _ _ _ _ ?side1 ?side2 A2.out).mono ?_);(case side1=>repeat (first | exact HR0.out | (with_reducible refine Kd.C_alloc ?_ _) | (with_reducible refine Kd.C_drewN ?_ _) | (with_reducible refine Kd.C_drew ?_)));(case side2=>exact HC0.out);rintro e w3 ⟨v155,rfl,ho0,hb⟩;refine ⟨_,rfl,?_⟩;have HO156:=kw ho0 HB;replace HB:=bst HB hb;clear hb ho0;obtain ⟨Ao4,co4,rfl⟩:=Kd.R_slice HO156.out))
 go_loopg [3,9] k (fun kq v3 v9 w'=>∃ (x3_1:List (S35)) (x9_1:Int),v9=.int .i64 x9_1∧Aside0 (mapalg_spans.l0 kq x3_1 t154 (t154.length:Int) x9_1=some r)∧Aside0 (kq≤k)∧Aside0 (Kd.R k35 35 w' w.heap.size (fun _=>True) v3 x3_1)∧Aside0 (Kd.R k37 37 w' w.heap.size (fun _=>True) (.slice Ao4 t154.length co4) t154)∧Aside0 (Below w.heap.size w w'))
 case atStart=>exact ⟨_,_,rs,H',⟨Nat.le_refl _⟩,kn,⟨kr HO156⟩,⟨bl HB⟩⟩
 case round =>
  clear H'
  try clear c1
  try clear p2
  obtain ⟨x3_1,x9_1,rfl,HA,HK1,HO_3,HO_7,HB⟩:=hrel
  cases gk with
  | zero=>exact absurd HA.out (by simp [mapalg_spans.l0])
  | succ k1 =>
   have H:=HA.out;clear HA
   simp only [mapalg_spans.l0] at H
   revert H;refine itc (fun c5b0 H=>?_) fun c5b0 H=>?_
   ·revert H;refine its fun c6b0 H=>?_
    revert H;refine its fun c7b0 H=>?_
    revert H;refine itl fun LMc8 H=>?_
    generalize hy159:x3_1 ++ [(⟨(⟨(rd_T37 t154 x9_1).f0.f0.f0,(rd_T37 t154 x9_1).f0.f0.f1⟩:S33),(⟨(rd_T37 t154 x9_1).f0.f1.f0,(rd_T37 t154 x9_1).f0.f1.f1⟩:S33)⟩:S35)]=y159 at H;have Ny159:=am hy159.symm;clear hy159;have H':=am H;clear H
    obtain ⟨ad157,e157,hx157_0,hx157_1,hx157_2,hx157_3,hx157_4,p157,q157⟩:=ay37 (Kd.R_reads' HO_7.out).2.2 x9_1
    cases e157
    go_wp2_with (first | ((with_reducible refine gate_dst (N:=5) rfl ?_);refine bxf #[.int .i64 0,.int .i64 0,.int .i64 0,.int .i64 0,.int .i64 0] 37 HB fun gb158 w9 BK158 GW158 HB hg hb=>?_;replace HO_3:=krb HO_3 hb;replace HO_7:=am (Kd.R_below (Kd.R_elderB (kr HO_7) gb158 (Nat.le_of_eq hg.symm)) hb);clear hb hg;obtain ⟨_,_,_,_,_,_,_,_,_,_⟩:=s5 BK158) | ((with_reducible refine gate_builtin (b:=.append) (xs:=#[.tmp 13,.tmp 16]) rfl ?_);at_builtin;refine Kd.R_append k35 (w0:=w) w.heap.size rfl (.tmp 13) (.tmp 16) 29 35 (.agg #[(.int .i64 0),(.int .i64 0),(.int .i64 0),(.int .i64 0)]) 32 rfl Tryz.underlying29 info35 rfl (by decide) (by omega) u3 x3_1 (⟨(⟨(rd_T37 t154 x9_1).f0.f0.f0,(rd_T37 t154 x9_1).f0.f0.f1⟩:S33),(⟨(rd_T37 t154 x9_1).f0.f1.f0,(rd_T37 t154 x9_1).f0.f1.f1⟩:S33)⟩:S35) [.int .i64 ((rd_T37 t154 x9_1).f0.f0.f0),.int .i64 ((rd_T37 t154 x9_1).f0.f0.f1),.int .i64 ((rd_T37 t154 x9_1).f0.f1.f0),.int .i64 ((rd_T37 t154 x9_1).f0.f1.f1)] (fun _=>True) (fun _=>False) rfl (by first | (go_simp;done) | (go_simp;rfl)) ?aP (fun _ hk=>hk.elim) ?aF ?aO ?aB ?aS ?aL ?_;(case aP=>exact k35_mkM _ _ _ (⟨(⟨(rd_T37 t154 x9_1).f0.f0.f0,(rd_T37 t154 x9_1).f0.f0.f1⟩:S33),(⟨(rd_T37 t154 x9_1).f0.f1.f0,(rd_T37 t154 x9_1).f0.f1.f1⟩:S33)⟩:S35));(case aB=>exact (bl HB));(case aF=>exact (fun _ _=>trivial));(case aO=>exact (by (with_reducible repeat (first | apply Kd.R_alloc | apply Kd.R_drewN | apply Kd.R_drew));exact Kd.R_mono (Kd.R_far (p:=⟨gb158,4,none⟩) (Kd.R_far (p:=⟨gb158,3,none⟩) (Kd.R_far (p:=⟨gb158,2,none⟩) (Kd.R_far (p:=⟨gb158,1,none⟩) (Kd.R_far (p:=⟨gb158,0,none⟩) (Kd.R_types HO_3.out BK158.out (by decide)) (fun _ hk=>hk.2) (.int .i64 ((rd_T37 t154 x9_1).f0.f0.f0))) (fun _ hk=>hk.2) (.int .i64 ((rd_T37 t154 x9_1).f0.f0.f1))) (fun _ hk=>hk.2) (.int .i64 ((rd_T37 t154 x9_1).f0.f1.f0))) (fun _ hk=>hk.2) (.int .i64 ((rd_T37 t154 x9_1).f0.f1.f1))) (fun _ hk=>hk.2) (.int .i64 ((rd_T37 t154 x9_1).f1))) (fun _ hk=>trivial)));(case aS=>exact (below_size (bl HB)));(case aL=>have:=LMc8.out;omega);intro v160 w11 ho hb hg hat;rw [← Ny159.out] at ho;replace HO_7:=am (Kd.R_over' (by (with_reducible repeat (first | apply Kd.R_alloc | apply Kd.R_drewN | apply Kd.R_drew));exact (Kd.R_mono (Kd.R_far (p:=⟨gb158,4,none⟩) (Kd.R_far (p:=⟨gb158,3,none⟩) (Kd.R_far (p:=⟨gb158,2,none⟩) (Kd.R_far (p:=⟨gb158,1,none⟩) (Kd.R_far (p:=⟨gb158,0,none⟩) (Kd.R_mono HO_7.out (fun k_ hk=>(⟨hk,hk.2⟩:_∧k_≠gb158))) (fun _ hk=>hk.2) (.int .i64 ((rd_T37 t154 x9_1).f0.f0.f0))) (fun _ hk=>hk.2) (.int .i64 ((rd_T37 t154 x9_1).f0.f0.f1))) (fun _ hk=>hk.2) (.int .i64 ((rd_T37 t154 x9_1).f0.f1.f0))) (fun _ hk=>hk.2) (.int .i64 ((rd_T37 t154 x9_1).f0.f1.f1))) (fun _ hk=>hk.2) (.int .i64 ((rd_T37 t154 x9_1).f1))) (fun _ h_=>h_.1))) (Kd.R_typed (by (with_reducible repeat (first | apply Kd.R_alloc | apply Kd.R_drewN | apply Kd.R_drew));exact (Kd.R_mono (Kd.R_far (p:=⟨gb158,4,none⟩) (Kd.R_far (p:=⟨gb158,3,none⟩) (Kd.R_far (p:=⟨gb158,2,none⟩) (Kd.R_far (p:=⟨gb158,1,none⟩) (Kd.R_far (p:=⟨gb158,0,none⟩) (Kd.R_types HO_3.out BK158.out (by decide)) (fun _ hk=>hk.2) (.int .i64 ((rd_T37 t154 x9_1).f0.f0.f0))) (fun _ hk=>hk.2) (.int .i64 ((rd_T37 t154 x9_1).f0.f0.f1))) (fun _ hk=>hk.2) (.int .i64 ((rd_T37 t154 x9_1).f0.f1.f0))) (fun _ hk=>hk.2) (.int .i64 ((rd_T37 t154 x9_1).f0.f1.f1))) (fun _ hk=>hk.2) (.int .i64 ((rd_T37 t154 x9_1).f1))) (fun _ h_=>h_.1)))) (by decide) hg);replace BK158:=am (blk_grown (g:=gb158) (o:=.cells #[.int .i64 ((rd_T37 t154 x9_1).f0.f0.f0),.int .i64 ((rd_T37 t154 x9_1).f0.f0.f1),.int .i64 ((rd_T37 t154 x9_1).f0.f1.f0),.int .i64 ((rd_T37 t154 x9_1).f0.f1.f1),.int .i64 ((rd_T37 t154 x9_1).f1)] 37 (0,0)) (bkp BK158) hg (Kd.R_ne HO_3.out BK158.out (by decide)));replace HB:=am hb;have HO161:=am ho;clear HO_3;clear ho hb hg hat))
    go_roundg k1
    case measure=>have:=HK1.out;omega
    case rel=>exact ⟨_,_,rs,H',kl HK1,⟨kr HO161⟩,⟨by (with_reducible repeat (first | apply Kd.R_alloc | apply Kd.R_drewN | apply Kd.R_drew));exact Kd.R_mono HO_7.out (fun _ hk=>trivial)⟩,⟨bl HB⟩⟩
   ·obtain rfl:=Option.some.inj H;go_wp2;go_ret;exact endK HO_3 HB
theorem eqA35 (d:Nat) (w:World) (x0 y0:Int) (x1 y1:Int) (x2 y2:Int) (x3 y3:Int) :
 (Op.equalIn (d+3) 35 (.agg #[.int .i64 x0,.int .i64 x1,.int .i64 x2,.int .i64 x3]) (.agg #[.int .i64 y0,.int .i64 y1,.int .i64 y2,.int .i64 y3])).run Tryz.prog w=.ok ((x0 == y0 && (x1 == y1)) && ((x2 == y2 && (x3 == y3)))) w:=by
 refine eqA_of Tryz.underlying35 (by kernel_rfl) ?_
 refine eqf_cons (by rfl) (by go_simp) (by go_simp) (eqA33 (d+0) w _ _ _ _) ?_
 exact eqf_last (by rfl) (by go_simp) (by go_simp) (eqA33 (d+0) w _ _ _ _)
end Go.Proofs.YtbcpnejdbookkaaGreat.Print
namespace Go.Proofs.YtbcpnejdbookkaaGreat.Print
open Go.RowKit Go.Proofs.YtbcpnejdbookkaaGreatW.PrintWords Go.Proofs.YtbcpnejdbookkaaGreatW.PrintLast Go.Proofs.YtbcpnejdbookkaaGreatW.PrintMore
attribute [local go_sem] max2_int min2_int max_two min_two max_three min_three max_four min_four   -- for this text's walks alone
attribute [local go_sem high] eqA35
def mapalg_Domain.f (k:Nat) (l0:List (S37)):Option ((List (S35))):=(mapalg_spans.f k l0).bind fun t247=>((span_List.f k t247).bind fun t250=>(some t250))
theorem mapalg_Domain.mono:∀ a0 k,LeO (mapalg_Domain.f k a0) (mapalg_Domain.f (k+1) a0):=by
 intro a0 k
 unfold mapalg_Domain.f
 repeat' with_reducible first | apply mapalg_spans.mono | apply span_List.mono | apply lr | apply ln | apply li | refine lb ?_ fun _=>?_
theorem mapalg_Domain.calls (k:Nat) (A0:Option Addr) (c0:Nat) (l0:List (S37)) (r:List (S35)) (w:World) (hr0:Kd.C k37 w A0 l0.length l0) (hc0:l0.length≤c0) (h:mapalg_Domain.f k l0=some r) :
 Calls Tryz.prog 31 #[.slice A0 l0.length c0] w fun e w'=>∃ v0_:Value,e=.returned (v0_)∧Kd.R k35 35 w' w.heap.size (fun _=>True) v0_ r∧Below w.heap.size w w':=by
 have HR0:=am hr0;have HC0:=am hc0;clear hr0 hc0
 have HB:=am (Below.refl w.heap.size w)
 unfold mapalg_Domain.f at h;have H:=h;clear h;revert H;refine bnd fun t247 A2 H=>?_
 revert H;refine bnd fun t250 A3 H=>?_
 obtain rfl:=Option.some.inj H;go_enter Tryz.func31,Tryz.ntmps31
 go_wp2_with (first | ((with_reducible refine gate_callee (f:=70) rfl ?_);refine gol (some 4) Tryz.func70 #[.slice A0 l0.length c0] ?_;(with_reducible refine (mapalg_spans.calls _ _ _ _ _ _ ?side1 ?side2 A2.out).mono ?_);(case side1=>repeat (first | exact HR0.out | (with_reducible refine Kd.C_alloc ?_ _) | (with_reducible refine Kd.C_drewN ?_ _) | (with_reducible refine Kd.C_drew ?_)));(case side2=>exact HC0.out);rintro e w4 ⟨v248,rfl,ho0,hb⟩;refine ⟨_,rfl,?_⟩;have HO249:=kw ho0 HB;replace HB:=bst HB hb;clear hb ho0;obtain ⟨Ao5,co5,rfl⟩:=Kd.R_slice HO249.out) | ((with_reducible refine gate_callee (f:=69) rfl ?_);refine gol (some 5) Tryz.func69 #[.slice Ao5 t247.length co5] ?_;(with_reducible refine (span_List.calls _ _ _ _ _ _ (cr HO249) (cv HO249) A3.out).mono ?_);rintro e w6 ⟨v251,rfl,ho0,hb⟩;refine ⟨_,rfl,?_⟩;have HO252:=kw (kz ho0 HO249) HB;replace HO249:=ke HO249 ho0 hb;replace HB:=bst HB hb;clear hb ho0))
 go_ret
 exact ⟨_,by first | rfl | (simp [errW_none,errW_some] <;> rfl) | (simp [*,errW_none,errW_some] <;> rfl),by (with_reducible repeat (first | apply Kd.R_alloc | apply Kd.R_drewN | apply Kd.R_drew));exact Kd.R_mono HO252.out (fun _ hk=>trivial),by repeat (first | (with_reducible first | exact HB.out | apply below_alloc | apply pw_below_drewN | apply below_drew1) | exact HB.out)⟩
def bocageref03_Same.l0:Nat→List (S35)→List (S35)→Int→Option (Bool)
 | 0,_,_,_=>none
 | k+1,x0,x1,x5=>if x5 < (x0.length:Int) then (if 0≤x5 then (if x5 < (x1.length:Int) then (if ((!(((rd_T35 x0 x5).f0.f0) == ((rd_T35 x1 x5).f0.f0)) || (!(((rd_T35 x0 x5).f0.f1) == ((rd_T35 x1 x5).f0.f1)))) || ((!(((rd_T35 x0 x5).f1.f0) == ((rd_T35 x1 x5).f1.f0)) || (!(((rd_T35 x0 x5).f1.f1) == ((rd_T35 x1 x5).f1.f1))))))=true then (some false) else (bocageref03_Same.l0 k x0 x1 (wrap64 (x5+1)))) else (none)) else (none)) else (some true)
def bocageref03_Same.f (k:Nat) (l0:List (S35)) (l1:List (S35)):Option (Bool):=if (l0.length:Int)=(l1.length:Int) then (bocageref03_Same.l0 k l0 l1 0) else (some false)
theorem bocageref03_Same.mono_l:∀ k,(∀ y0 y1 y2,LeO (bocageref03_Same.l0 k y0 y1 y2) (bocageref03_Same.l0 (k+1) y0 y1 y2))
 | 0=>fun _ _ _ r h=>by simp [bocageref03_Same.l0] at h
 | k+1=>by
  have ih0:=bocageref03_Same.mono_l k
  ·intro y0 y1 y2
   unfold bocageref03_Same.l0
   repeat' with_reducible first | apply ih0 | apply lr | apply ln | apply li | refine lb ?_ fun _=>?_
theorem bocageref03_Same.mono:∀ a0 a1 k,LeO (bocageref03_Same.f k a0 a1) (bocageref03_Same.f (k+1) a0 a1):=by
 intro a0 a1 k
 have ih0:=bocageref03_Same.mono_l k
 unfold bocageref03_Same.f
 repeat' with_reducible first | apply ih0 | apply lr | apply ln | apply li | refine lb ?_ fun _=>?_
theorem bocageref03_Same.calls (k:Nat) (A0:Option Addr) (c0:Nat) (l0:List (S35)) (A1:Option Addr) (c1:Nat) (l1:List (S35)) (r:Bool) (w:World) (hr0:Kd.C k35 w A0 l0.length l0) (hc0:l0.length≤c0) (hr1:Kd.C k35 w A1 l1.length l1) (hc1:l1.length≤c1) (h:bocageref03_Same.f k l0 l1=some r) :
 Calls Tryz.prog 21 #[.slice A0 l0.length c0,.slice A1 l1.length c1] w fun e w'=>e=.returned (.bool r)∧Drawn0 w w':=by
 have hu35:=Tryz.underlying35;have HR0:=am hr0;have HC0:=am hc0;clear hr0 hc0;have HR1:=am hr1;have HC1:=am hc1;clear hr1 hc1
 unfold bocageref03_Same.f at h;have H:=h;clear h
 by_cases c3:(l0.length:Int)=(l1.length:Int)
 ·rw [if_pos c3] at H
  have c3b0:((l0.length:Int) == (l1.length:Int))=true:=beq_iff_eq.mpr c3
  have c3b1:((l0.length:Int) != (l1.length:Int))=false:=bne_eq_false_iff_eq.mpr c3
  have c3b2:(l0.length == l1.length)=true:=by first | simpa using c3 | (simp at c3 ⊢;omega)
  clear c3;have H':=am H;clear H;go_enter Tryz.func21,Tryz.ntmps21;go_wp2
  repeat (go_quiet (fail);try go_wp2)
  go_loopg [5] k (fun kq v5 w'=>∃ (x5_1:Int),v5=.int .i64 x5_1∧Aside0 (bocageref03_Same.l0 kq l0 l1 x5_1=some r)∧Aside0 (kq≤k)∧Drawn0 w w')
  case atStart=>exact ⟨_,rs,H',⟨Nat.le_refl _⟩,dn⟩
  case round =>
   clear H'
   try clear c1
   try clear c2
   try clear p2
   try clear c3
   try clear c3b0
   try clear c3b1
   try clear c3b2
   obtain ⟨x5_1,rfl,HA,HK1,⟨m1,rfl⟩⟩:=hrel
   cases gk with
   | zero=>exact absurd HA.out (by simp [bocageref03_Same.l0])
   | succ k1 =>
    have H:=HA.out;clear HA
    simp only [bocageref03_Same.l0] at H
    revert H;refine itc (fun c4b0 H=>?_) fun c4b0 H=>?_
    ·revert H;refine its fun c5b0 H=>?_
     revert H;refine its fun c6b0 H=>?_
     by_cases c7:((!(((rd_T35 l0 x5_1).f0.f0) == ((rd_T35 l1 x5_1).f0.f0)) || (!(((rd_T35 l0 x5_1).f0.f1) == ((rd_T35 l1 x5_1).f0.f1)))) || ((!(((rd_T35 l0 x5_1).f1.f0) == ((rd_T35 l1 x5_1).f1.f0)) || (!(((rd_T35 l0 x5_1).f1.f1) == ((rd_T35 l1 x5_1).f1.f1))))))=true
     ·rw [if_pos c7] at H
      have c7b0:((!(((rd_T35 l0 x5_1).f0.f0) == ((rd_T35 l1 x5_1).f0.f0)) || (!(((rd_T35 l0 x5_1).f0.f1) == ((rd_T35 l1 x5_1).f0.f1)))) || ((!(((rd_T35 l0 x5_1).f1.f0) == ((rd_T35 l1 x5_1).f1.f0)) || (!(((rd_T35 l0 x5_1).f1.f1) == ((rd_T35 l1 x5_1).f1.f1))))))=true:=c7
      clear c7;obtain rfl:=Option.some.inj H
      obtain ⟨ad253,e253,hx253_0,hx253_1,hx253_2,hx253_3,p253,q253⟩:=ay35 HR0.out x5_1
      cases e253
      obtain ⟨ad254,e254,hx254_0,hx254_1,hx254_2,hx254_3,p254,q254⟩:=ay35 HR1.out x5_1
      cases e254;go_wp2
      repeat (go_quiet (fail);try go_wp2)
      go_ret
      exact ⟨rs,dn⟩
     ·rw [if_neg c7] at H
      have c7b0:((!(((rd_T35 l0 x5_1).f0.f0) == ((rd_T35 l1 x5_1).f0.f0)) || (!(((rd_T35 l0 x5_1).f0.f1) == ((rd_T35 l1 x5_1).f0.f1)))) || ((!(((rd_T35 l0 x5_1).f1.f0) == ((rd_T35 l1 x5_1).f1.f0)) || (!(((rd_T35 l0 x5_1).f1.f1) == ((rd_T35 l1 x5_1).f1.f1))))))=false:=by simpa using c7
      clear c7;have H':=am H;clear H
      obtain ⟨ad253,e253,hx253_0,hx253_1,hx253_2,hx253_3,p253,q253⟩:=ay35 HR0.out x5_1
      cases e253
      obtain ⟨ad254,e254,hx254_0,hx254_1,hx254_2,hx254_3,p254,q254⟩:=ay35 HR1.out x5_1
      cases e254;go_wp2
      repeat (go_quiet (fail);try go_wp2)
      go_roundg k1
      case measure=>have:=HK1.out;omega
      case rel=>exact ⟨_,rs,H',kl HK1,dn⟩
    ·obtain rfl:=Option.some.inj H;go_wp2
     repeat (go_quiet (fail);try go_wp2)
     go_ret
     exact ⟨rs,dn⟩
 ·rw [if_neg c3] at H
  have c3b0:((l0.length:Int) == (l1.length:Int))=false:=beq_eq_false_iff_ne.mpr c3
  have c3b1:((l0.length:Int) != (l1.length:Int))=true:=bne_iff_ne.mpr c3
  have c3b2:(l0.length == l1.length)=false:=by first | simpa using c3 | (simp at c3 ⊢;omega)
  obtain rfl:=Option.some.inj H;go_enter Tryz.func21,Tryz.ntmps21;go_wp2
  repeat (go_quiet (fail);try go_wp2)
  go_ret
  exact ⟨rs,dn⟩
end Go.Proofs.YtbcpnejdbookkaaGreat.Print
namespace Go.Proofs.YtbcpnejdbookkaaGreat.Print
open Go.RowKit Go.Proofs.YtbcpnejdbookkaaGreatW.PrintWords Go.Proofs.YtbcpnejdbookkaaGreatW.PrintLast Go.Proofs.YtbcpnejdbookkaaGreatW.PrintMore
attribute [local go_sem] max2_int min2_int max_two min_two max_three min_three max_four min_four
def cmpC (a b:Int×Int):Int:=cmp2 (canon a.1 a.2) (canon b.1 b.2)
def advF {α:Type} (f:α→Int×Int) (c:Int×Int) (l:List α) (i:Nat):Nat:=i+((l.drop i).takeWhile (fun s=>decide (cmpC (f s) c≤0))).length
theorem advF_step {α:Type} (f:α→Int×Int) (c:Int×Int) (l:List α) (i:Nat) (h:i < l.length) (hc:cmpC (f l[i]) c≤0):advF f c l i=advF f c l (i+1):=by
 unfold advF
 rw [List.drop_eq_getElem_cons h,List.takeWhile_cons,if_pos (decide_eq_true hc),List.length_cons]
 omega
theorem advF_stop {α:Type} (f:α→Int×Int) (c:Int×Int) (l:List α) (i:Nat) (h:i < l.length) (hc:¬ cmpC (f l[i]) c≤0):advF f c l i=i:=by
 unfold advF
 rw [List.drop_eq_getElem_cons h,List.takeWhile_cons,if_neg (by simpa using hc)]
 rfl
theorem advF_end {α:Type} (f:α→Int×Int) (c:Int×Int) (l:List α) (i:Nat) (h:l.length≤i):advF f c l i=i:=by
 unfold advF
 rw [List.drop_eq_nil_of_le h]
 rfl
theorem advF_le {α:Type} (f:α→Int×Int) (c:Int×Int) (l:List α) (i:Nat) (h:i≤l.length):advF f c l i≤l.length:=by
 unfold advF
 have:=(List.takeWhile_prefix (fun s=>decide (cmpC (f s) c≤0)) (l:=l.drop i)).length_le
 rw [List.length_drop] at this
 omega
def loS (s:S35):Int×Int:=(s.f0.f0,s.f0.f1)
def hiS (s:S35):Int×Int:=(s.f1.f0,s.f1.f1)
def hasV (c:Int×Int) (l:List S35) (i:Nat):Bool:=match l[i]? with | some s=>decide (cmpC (loS s) c≤0) | none=>false
theorem algebra_has.calls (l:List S35) (A:Option Addr) (cc i fr:Nat) (c1 c2:Int) (w0 w:World) (HBw:Below w0.heap.size w0 w) (hfr:w0.heap.size≤fr) (hb:w.heap[fr]? = some (.cells #[.slice A l.length cc,.int .i64 (i:Int)] 175 (0,0))) (hr:∀ W',KeepBut w W' fr none→Kd.C k35 W' A l.length l) (hl:l.length < 1000000) (hi:i≤l.length) :
 Calls Tryz.prog 159 #[.pointer (some ⟨fr,0,none⟩),.agg #[.int .i64 c1,.int .i64 c2]] w fun e w' =>
  e=.returned (.bool (hasV (c1,c2) l (advF hiS (c1,c2) l i))) ∧
  w'.heap[fr]? = some (.cells #[.slice A l.length cc,.int .i64 ((advF hiS (c1,c2) l i:Nat):Int)] 175 (0,0))∧KeepBut w w' fr none∧Below w0.heap.size w0 w':=by
 have hu175:=Tryz.underlying175;have hu35:=Tryz.underlying35;have hu33:=Tryz.underlying33;have HR:=am hr;have HL:=am hl;have HI:=am hi;have BF:=am hb;have HB:=am HBw;have GE:=am hfr
 have HK:=am (KeepBut.refl w fr none)
 obtain ⟨n,hn⟩:∃ n,l.length=n:=⟨_,rfl⟩
 have HN:=am hn
 rw [hn] at BF
 clear hr hl hi hb HBw hfr
 rw [hn]
 clear hn;go_enter Tryz.func159,Tryz.ntmps159
 go_upto_region 1 with (first | ((with_reducible refine gate_dst (N:=3) rfl ?_);refine bxe (N:=3) (cs:=#[.int .i64 c1,.int .i64 c2]) (t:=33) ?_;intro gb hgb w1 hbox hb;have BB:=am hbox;have BF1:=bkb BF hb;have HK1:=am (KeepBut.trans HK.out (KeepBut.of_below hb fr none) (.inl rfl));have HB1:=bst HB hb;have NFB:fr≠gb:=(by rw [hgb];exact Nat.ne_of_lt (blk_lt BF.out));clear hbox hb hgb HK BF HB))
 go_loopg [] (n+1) (fun kq w'=>∃ (j:Nat),Aside0 (advF hiS (c1,c2) l j=advF hiS (c1,c2) l i)∧Aside0 (j≤n)∧Aside0 (n+1≤kq+j)∧Aside0 (w'.heap[fr]? = some (.cells #[.slice A n cc,.int .i64 (j:Int)] 175 (0,0)))∧Aside0 (w'.heap[gb]? = some (.cells #[.int .i64 c1,.int .i64 c2] 33 (0,0)))∧Aside0 (KeepBut w w' fr none)∧Aside0 (Below w0.heap.size w0 w'))
 case atStart=>exact ⟨i,⟨rfl⟩,⟨by have:=HI.out;have:=HN.out;omega⟩,⟨by omega⟩,BF1,BB,HK1,HB1⟩
 case round =>
  clear BF1 BB HK1 HB1
  obtain ⟨j,HE,HJ,HQ,BF,BB,HK,HB⟩:=hrel
  by_cases hj:j < n
  ·have p1:0≤(j:Int):=Int.natCast_nonneg j
   have q1:(j:Int) < (l.length:Int):=by rw [HN.out];omega
   have q2:(j:Int) < (n:Int):=by omega
   have hjl:j < l.length:=by rw [HN.out];exact hj
   obtain ⟨ad,ea,hx0,hx1,hx2,hx3⟩:=at_T35 (HR.out wr HK.out) (j:Int) p1 q1;cases ea
   obtain ⟨⟨⟨x1,x2⟩,⟨x3,x4⟩⟩,hs⟩:∃ s:S35,rd_T35 l (j:Int)=s:=⟨_,rfl⟩
   have hlj:l[j]=(⟨⟨x1,x2⟩,⟨x3,x4⟩⟩:S35):=by rw [← hs];simp [rd_T35,hjl]
   rw [hs] at hx0 hx1 hx2 hx3
   simp only [Int.toNat_natCast] at hx0 hx1 hx2 hx3
   clear hs
   have S0:wr.cell? ⟨fr,0,none⟩=some (.slice (some ad) n cc)∧wr.cell? ⟨fr,1,none⟩=some (.int .i64 (j:Int))∧wr.cell? (ad.add (j * 4))=some (.int .i64 x1)∧wr.cell? ⟨(ad.add (j * 4)).block,(ad.add (j * 4)).off+1,none⟩=some (.int .i64 x2)∧wr.cell? ⟨(ad.add (j * 4)).block,(ad.add (j * 4)).off+2,none⟩=some (.int .i64 x3)∧wr.cell? ⟨(ad.add (j * 4)).block,(ad.add (j * 4)).off+3,none⟩=some (.int .i64 x4)∧wr.cell? ⟨gb,0,none⟩=some (.int .i64 c1)∧wr.cell? ⟨gb,1,none⟩=some (.int .i64 c2):=⟨(blk_cell BF.out 0).trans rfl,(blk_cell BF.out 1).trans rfl,hx0,hx1,hx2,hx3,(blk_cell BB.out 0).trans rfl,(blk_cell BB.out 1).trans rfl⟩
   have KS:∀ W,Below wr.heap.size wr W→W.cell? ⟨fr,0,none⟩=some (.slice (some ad) n cc)∧W.cell? ⟨fr,1,none⟩=some (.int .i64 (j:Int))∧W.cell? (ad.add (j * 4))=some (.int .i64 x1)∧W.cell? ⟨(ad.add (j * 4)).block,(ad.add (j * 4)).off+1,none⟩=some (.int .i64 x2)∧W.cell? ⟨(ad.add (j * 4)).block,(ad.add (j * 4)).off+2,none⟩=some (.int .i64 x3)∧W.cell? ⟨(ad.add (j * 4)).block,(ad.add (j * 4)).off+3,none⟩=some (.int .i64 x4)∧W.cell? ⟨gb,0,none⟩=some (.int .i64 c1)∧W.cell? ⟨gb,1,none⟩=some (.int .i64 c2):=fun W hW=>⟨(hW.cell (World.block_lt_of_cell? wr _ S0.1)).trans S0.1,(hW.cell (World.block_lt_of_cell? wr _ S0.2.1)).trans S0.2.1,(hW.cell (World.block_lt_of_cell? wr _ S0.2.2.1)).trans S0.2.2.1,(hW.cell (World.block_lt_of_cell? wr _ S0.2.2.2.1)).trans S0.2.2.2.1,(hW.cell (World.block_lt_of_cell? wr _ S0.2.2.2.2.1)).trans S0.2.2.2.2.1,(hW.cell (World.block_lt_of_cell? wr _ S0.2.2.2.2.2.1)).trans S0.2.2.2.2.2.1,(hW.cell (World.block_lt_of_cell? wr _ S0.2.2.2.2.2.2.1)).trans S0.2.2.2.2.2.2.1,(hW.cell (World.block_lt_of_cell? wr _ S0.2.2.2.2.2.2.2)).trans S0.2.2.2.2.2.2.2⟩
   have KS':=am KS
   obtain ⟨hx0,hx1,hx2,hx3,hx4,hx5,hx6,hx7⟩:=S0
   have EC:=am (cut_Compare.eq x3 x4 c1 c2 10 (by omega))
   obtain ⟨r,hr⟩:∃ r,cmpC (x3,x4) (c1,c2)=r:=⟨_,rfl⟩
   have hr':cmp2 (canon x3 x4) (canon c1 c2)=r:=hr
   rw [hr'] at EC
   have HR2:=am hr;have HLJ:=am hlj
   clear hr hr' KS hlj
   go_wp2_with fail
   go_region_held3 (fun w'=>w'.cell? ⟨fr,0,none⟩=some (.slice (some ad) n cc)∧w'.cell? ⟨fr,1,none⟩=some (.int .i64 (j:Int))∧w'.cell? (ad.add (j * 4))=some (.int .i64 x1)∧w'.cell? ⟨(ad.add (j * 4)).block,(ad.add (j * 4)).off+1,none⟩=some (.int .i64 x2)∧w'.cell? ⟨(ad.add (j * 4)).block,(ad.add (j * 4)).off+2,none⟩=some (.int .i64 x3)∧w'.cell? ⟨(ad.add (j * 4)).block,(ad.add (j * 4)).off+3,none⟩=some (.int .i64 x4)∧w'.cell? ⟨gb,0,none⟩=some (.int .i64 c1)∧w'.cell? ⟨gb,1,none⟩=some (.int .i64 c2)) (first | exact KS'.out _ (by repeat (first | assumption | (with_reducible first | exact Below.refl _ _ | apply below_alloc | apply pw_below_drewN | apply below_drew1) | exact Below.refl _ _)))
    ((first | (go_at_call 109;(with_reducible refine (cut_Compare.calls 10 x3 x4 c1 c2 r _ EC.out).mono ?_);rintro e w6 ⟨rfl,hb6⟩;have Y6:=below_step (w:=wr) (by repeat (first | assumption | (with_reducible first | exact Below.refl _ _ | apply below_alloc | apply pw_below_drewN | apply below_drew1) | exact Below.refl _ _)) hb6)))
   have S0:=KS'.out _ Y6
   have KS6:∀ W,Below w6.heap.size w6 W→W.cell? ⟨fr,0,none⟩=some (.slice (some ad) n cc)∧W.cell? ⟨fr,1,none⟩=some (.int .i64 (j:Int))∧W.cell? (ad.add (j * 4))=some (.int .i64 x1)∧W.cell? ⟨(ad.add (j * 4)).block,(ad.add (j * 4)).off+1,none⟩=some (.int .i64 x2)∧W.cell? ⟨(ad.add (j * 4)).block,(ad.add (j * 4)).off+2,none⟩=some (.int .i64 x3)∧W.cell? ⟨(ad.add (j * 4)).block,(ad.add (j * 4)).off+3,none⟩=some (.int .i64 x4)∧W.cell? ⟨gb,0,none⟩=some (.int .i64 c1)∧W.cell? ⟨gb,1,none⟩=some (.int .i64 c2):=fun W hW=>⟨(hW.cell (World.block_lt_of_cell? w6 _ S0.1)).trans S0.1,(hW.cell (World.block_lt_of_cell? w6 _ S0.2.1)).trans S0.2.1,(hW.cell (World.block_lt_of_cell? w6 _ S0.2.2.1)).trans S0.2.2.1,(hW.cell (World.block_lt_of_cell? w6 _ S0.2.2.2.1)).trans S0.2.2.2.1,(hW.cell (World.block_lt_of_cell? w6 _ S0.2.2.2.2.1)).trans S0.2.2.2.2.1,(hW.cell (World.block_lt_of_cell? w6 _ S0.2.2.2.2.2.1)).trans S0.2.2.2.2.2.1,(hW.cell (World.block_lt_of_cell? w6 _ S0.2.2.2.2.2.2.1)).trans S0.2.2.2.2.2.2.1,(hW.cell (World.block_lt_of_cell? w6 _ S0.2.2.2.2.2.2.2)).trans S0.2.2.2.2.2.2.2⟩
   have KS':=am KS6
   clear KS6
   have BF6:=am (blk_below BF.out Y6)
   have BB6:=am (blk_below BB.out Y6)
   have HK6:=am (KeepBut.trans HK.out (KeepBut.of_below Y6 fr none) (.inl rfl))
   have HB6:=am (below_step HB.out Y6)
   have f0:=blk_frozen BF6.out 1
   clear BF BB HK HB hx0 hx1 hx2 hx3 hx4 hx5 hx6 hx7 hb6 Y6
   obtain ⟨hx0,hx1,hx2,hx3,hx4,hx5,hx6,hx7⟩:=S0
   by_cases hc:r≤0
   ·have cb:decide (r≤0)=true:=decide_eq_true hc
    obtain ⟨k1,rfl⟩:∃ k1,gk=k1+1:=⟨gk - 1,by have:=HQ.out;omega⟩
    have hw:wrap64 ((j:Int)+1)=((j+1:Nat):Int):=by
     have:=HN.out;have:=HL.out
     unfold wrap64;push_cast;omega
    (try simp only [Exit.then])
    go_wp2
    go_roundg k1
    case measure=>omega
    case rel=>exact ⟨j+1,⟨(advF_step hiS (c1,c2) l j hjl (by rw [HLJ.out];exact HR2.out.symm ▸ hc)).symm.trans HE.out⟩,⟨by omega⟩,⟨by have:=HQ.out;omega⟩,⟨blk_put BF6.out 1 _ (by first | rfl | (rw [← hw];rfl) | (simp [hw];done))⟩,⟨blk_far BB6.out (Ne.symm NFB) _⟩,⟨KeepBut.set_ HK6.out _ _⟩,⟨below_set HB6.out GE.out⟩⟩
   ·have cb:decide (r≤0)=false:=decide_eq_false hc
    have EC:=am (cut_Compare.eq x1 x2 c1 c2 10 (by omega))
    obtain ⟨r2,hr⟩:∃ r2,cmpC (x1,x2) (c1,c2)=r2:=⟨_,rfl⟩
    have hr':cmp2 (canon x1 x2) (canon c1 c2)=r2:=hr
    rw [hr'] at EC
    have HR3:=am hr
    clear hr hr'
    (try simp only [Exit.then])
    go_wp2
    go_region_held3 (fun w'=>w'.cell? ⟨fr,0,none⟩=some (.slice (some ad) n cc)∧w'.cell? ⟨fr,1,none⟩=some (.int .i64 (j:Int))∧w'.cell? (ad.add (j * 4))=some (.int .i64 x1)∧w'.cell? ⟨(ad.add (j * 4)).block,(ad.add (j * 4)).off+1,none⟩=some (.int .i64 x2)∧w'.cell? ⟨(ad.add (j * 4)).block,(ad.add (j * 4)).off+2,none⟩=some (.int .i64 x3)∧w'.cell? ⟨(ad.add (j * 4)).block,(ad.add (j * 4)).off+3,none⟩=some (.int .i64 x4)∧w'.cell? ⟨gb,0,none⟩=some (.int .i64 c1)∧w'.cell? ⟨gb,1,none⟩=some (.int .i64 c2)) (first | exact KS'.out _ (by repeat (first | assumption | (with_reducible first | exact Below.refl _ _ | apply below_alloc | apply pw_below_drewN | apply below_drew1) | exact Below.refl _ _)))
     ((first | (go_at_call 109;(with_reducible refine (cut_Compare.calls 10 x1 x2 c1 c2 r2 _ EC.out).mono ?_);rintro e w7 ⟨rfl,hb6⟩;have Y7:=below_step (w:=w6) (by repeat (first | assumption | (with_reducible first | exact Below.refl _ _ | apply below_alloc | apply pw_below_drewN | apply below_drew1) | exact Below.refl _ _)) hb6)))
    (try simp only [Exit.then])
    go_wp2;go_ret
    have ea:advF hiS (c1,c2) l i=j:=HE.out.symm.trans (advF_stop hiS (c1,c2) l j hjl (by rw [HLJ.out];have h3:cmpC (x3,x4) (c1,c2)=r:=HR2.out;show ¬ cmpC (x3,x4) (c1,c2)≤0;omega))
    refine ⟨?_,?_,KeepBut.trans HK6.out (KeepBut.of_below Y7 fr none) (.inl rfl),below_step HB6.out Y7⟩
    ·rw [ea]
     have e2:hasV (c1,c2) l j=decide (r2≤0):=by
      unfold hasV
      rw [List.getElem?_eq_getElem hjl,HLJ.out]
      show decide (cmpC (x1,x2) (c1,c2)≤0)=_
      rw [HR3.out]
     rw [e2]
     rfl
    ·rw [ea]
     exact blk_below BF6.out Y7
  ·have q2:¬ (j:Int) < (n:Int):=by omega
   have q3:decide ((j:Int) < (n:Int))=false:=decide_eq_false q2
   obtain ⟨hx0,hx1⟩:=e2 BF;go_wp2
   go_quiet (fail)
   have BFq:Aside0 ((wr.drewN nq).heap[fr]? = some (.cells #[.slice A n cc,.int .i64 (j:Int)] 175 (0,0))):=⟨BF.out⟩
   have HKq:=am (KeepBut.trans HK.out (KeepBut.of_below (pw_below_drewN (Below.refl _ wr) nq) fr none) (.inl rfl))
   have HBq:=am (pw_below_drewN HB.out nq)
   clear BF HK HB hx0 hx1;generalize wr.drewN nq=w5 at *;obtain ⟨hx0,hx1⟩:=e2 BFq;go_wp2
   go_quiet (fail)
   (try simp only [Exit.then])
   go_wp2;go_ret
   have hnl:l.length≤j:=by rw [HN.out];omega
   have ea:advF hiS (c1,c2) l i=j:=HE.out.symm.trans (advF_end hiS (c1,c2) l j hnl)
   refine ⟨?_,?_,KeepBut.trans HKq.out (KeepBut.of_below (pw_below_drewN (Below.refl _ w5) _) fr none) (.inl rfl),pw_below_drewN HBq.out _⟩
   ·rw [ea]
    unfold hasV
    rw [List.getElem?_eq_none hnl]
    rfl
   ·rw [ea]
    exact BFq.out
def loP (s:S37):Int×Int:=(s.f0.f0.f0,s.f0.f0.f1)
def hiP (s:S37):Int×Int:=(s.f0.f1.f0,s.f0.f1.f1)
def valV (c:Int×Int) (l:List S37) (i:Nat):Int×Bool:=match l[i]? with | some s=>if 0 < cmpC (loP s) c then (0,false) else (s.f1,true) | none=>(0,false)
end Go.Proofs.YtbcpnejdbookkaaGreat.Print
